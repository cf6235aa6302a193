/-
  Proved: renumbering states, and a state more that nothing reaches, change neither the accepted set nor the number of kinds: the law TopNerode returns true. Conditions: none.
-/
import Derived.Test.YtkegjgodjigjfaaNer7
import Derived.Sort.Walk0
import Derived.Lib.FrozenHead2
import Derived.Lib.OthersKept
import Derived.Shelf.Strings.BuilderK
import Derived.Test.YtkegjgodjigjfaaRows
import Derived.ProofKit
import Derived.OpenShut
import Derived.JoinedCond
import Derived.Deep.Slices
namespace Go.Proofs.Ytkegjgodjigjfaa
open Go Go.RowKit
set_option linter.unusedVariables false
set_option linter.unusedSimpArgs false
set_option maxHeartbeats 2000000
def auZ : Au := ⟨0, [], []⟩
theorem PT : auZ.Good := ⟨Int.le_refl _, by simp [auZ], by simp [auZ], by simp [auZ]⟩
def Gg : Nat → List J → List (KV × AV)
 | _, [] => []
 | k, j :: l => (.i (bN j.1 : Int), AP k) :: Gg (k + 1) l
abbrev JA (l : List J) : AG := .map (some (.int .u64)) (Gg 0 l)
theorem ID : ∀ (l : List J) (k : Nat) (j : J), Gg k (l ++ [j]) = Gg k l ++ [(.i (bN j.1 : Int), AP ((k + l.length : Nat) : Int))]
 | [], k, j => by simp [Gg]
 | x :: l, k, j => by
  rw [List.cons_append, Gg, ID l (k + 1) j, Gg, List.cons_append, List.length_cons, show k + 1 + l.length = k + (l.length + 1) by omega]
theorem GL {c : Nat} : ∀ (l : List J) (k : Nat) (x : List Bool), (∀ j ∈ l, j.1.length = c) → x.length = c → B0 (Gg k l) (.i (bN x : Int)) = if x ∈ l.map Prod.fst then some (AP ((k + (l.map Prod.fst).idxOf x : Nat) : Int)) else none
 | [], k, x, _, _ => by simp [Gg, B0]
 | j :: l, k, x, hl, hx => by
  have hj := hl j (by simp)
  rw [Gg, B0]
  by_cases e : j.1 = x
  ·rw [if_pos (by rw [e]), if_pos (by simp [e])]
   simp [e]
  ·have e2 : ¬ KV.i (bN j.1 : Int) = KV.i (bN x : Int) := fun h => e (G2 (by omega) (by have := KV.i.inj h; omega))
   have e3 : ¬ x = j.1 := fun h => e h.symm
   rw [if_neg e2, GL l (k + 1) x (fun j hj => hl j (by simp [hj])) hx]
   simp only [List.map_cons, List.mem_cons, e3, false_or]
   split
   ·have h4 : (j.1 :: l.map Prod.fst).idxOf x = (l.map Prod.fst).idxOf x + 1 := by
     rw [List.idxOf_cons, show (j.1 == x) = false from beq_eq_false_iff_ne.2 e]
     rfl
    rw [h4, show k + 1 + (l.map Prod.fst).idxOf x = k + ((l.map Prod.fst).idxOf x + 1) by omega]
   ·rfl
def prog (l : List Nat) (n k : Nat) : List Nat := l.take k ++ List.replicate (n - k) 0
theorem Iv (l : List Nat) (n : Nat) : prog l n 0 = List.replicate n 0 := by simp [prog]
theorem Jj {l : List Nat} {n : Nat} (h : l.length = n) : prog l n n = l := by simp [prog, ← h]
theorem Fe {l : List Nat} {n k : Nat} (h : l.length = n) (hk : k ≤ n) : (prog l n k).length = n := by
 simp only [prog, List.length_append, List.length_take, List.length_replicate]; omega
theorem GA {l : List Nat} {n k v : Nat} (h : l.length = n) (hk : l[k]? = some v) : (prog l n k).set k v = prog l n (k + 1) := by
 have hlt := Ej hk
 unfold prog
 rw [show n - k = (n - (k + 1)) + 1 by omega, List.replicate_succ, List.set_append_right _ _ (by simp; omega), Ay hk]
 simp [Nat.min_eq_left (Nat.le_of_lt hlt)]
theorem NO {l : List Nat} {n k : Nat} (h : l.length = n) (hk : l[k]? = some 0) : prog l n (k + 1) = prog l n k := by
 rw [← GA h hk]
 have hlt := Ej hk
 unfold prog
 rw [show n - k = (n - (k + 1)) + 1 by omega, List.replicate_succ, List.set_append_right _ _ (by simp; omega)]
 simp [Nat.min_eq_left (Nat.le_of_lt hlt)]
theorem HB (n : Nat) : AU (List.replicate n 0) = List.replicate n [.int .i64 0] := by simp [AU]
def FN : Nat → List ByteArray → List (KV × AV)
 | _, [] => []
 | k, n :: l => (.s n, AP k) :: FN (k + 1) l
abbrev Pb (l : List ByteArray) : AG := .map none (FN 0 l)
theorem Hi : ∀ (l : List ByteArray) (k : Nat), (FN k l).length = l.length
 | [], _ => rfl
 | n :: l, k => by rw [FN, List.length_cons, List.length_cons, Hi l]
theorem ES : ∀ (l : List ByteArray) (k : Nat) (n : ByteArray), B0 (FN k l) (.s n) = if CG l n < l.length then some (AP ((k + CG l n : Nat) : Int)) else none
 | [], k, n => by simp [FN, B0, CG]
 | x :: l, k, n => by
  rw [FN, B0, CG]
  by_cases e : x = n
  ·rw [if_pos (congrArg KV.s e), if_pos e]
   simp
  ·rw [if_neg (fun h => e (KV.s.inj h)), if_neg e, ES l (k + 1) n, List.length_cons]
   by_cases h : CG l n < l.length
   ·rw [if_pos h, if_pos (by omega), show k + 1 + CG l n = k + (CG l n + 1) by omega]
   ·rw [if_neg h, if_neg (by omega)]
theorem Ik : ∀ (l : List ByteArray) (k : Nat) (n : ByteArray), FN k (l ++ [n]) = FN k l ++ [(.s n, AP ((k + l.length : Nat) : Int))]
 | [], k, n => by simp [FN]
 | x :: l, k, n => by
  rw [List.cons_append, FN, Ik l (k + 1) n, FN, List.cons_append, List.length_cons, show k + 1 + l.length = k + (l.length + 1) by omega]
theorem NG {l : List ByteArray} {n : ByteArray} (h : ¬ CG l n < l.length) : FM (FN 0 l) (.s n) (AP l.length) = FN 0 (FB l n) := by
 rw [EW (by rw [ES, if_neg h]), show FB l n = l ++ [n] from if_neg h, Ik, Nat.zero_add]
theorem Jd (l m : List Nat) : BJ l ++ BJ m = BJ (l ++ m) := by
 apply ByteArray.ext
 simp [BJ]
theorem Iu (l : List Nat) : (BJ l).size = l.length := by
 show (l.map _).toArray.size = _
 simp
theorem G9 {p : Nat} (h : p < 100) : Utf8.encode ((p : Int) + 1) = BJ [p] := by
 have hc : (if Utf8.valid ((p : Int) + 1) = true then ((p : Int) + 1).toNat else Utf8.runeError) = p + 1 := by
  rw [if_pos (by unfold Utf8.valid; simp; omega)]
  omega
 unfold Utf8.encode
 simp only [hc]
 rw [if_pos (by omega)]
 rfl
theorem Ib {α : Type} {f : List Nat → α → List Nat} {c : Nat} (hf : ∀ key x, (f key x).length ≤ key.length + c) : ∀ (l : List α) (key : List Nat), (l.foldl f key).length ≤ key.length + l.length * c
 | [], key => by simp
 | x :: l, key => by
  have h1 := Ib hf l (f key x)
  have h2 := hf key x
  simp only [List.foldl_cons, List.length_cons, Nat.add_mul, Nat.one_mul]
  omega
theorem E8 {α : Type} {f : List Nat → α → List Nat} {c : Nat} : ∀ (l : List α) (key : List Nat), (∀ key, ∀ x ∈ l, (f key x).length ≤ key.length + c) → (l.foldl f key).length ≤ key.length + l.length * c
 | [], key, _ => by simp
 | x :: l, key, hf => by
  have h1 := E8 l (f key x) fun key y hy => hf key y (by simp [hy])
  have h2 := hf key x (by simp)
  simp only [List.foldl_cons, List.length_cons, Nat.add_mul, Nat.one_mul]
  omega
theorem Hb {n m : Nat} {l : List Nat} (h : l ∈ C5 n m) : l.length ≤ 2 := by
 unfold C5 at h
 obtain ⟨k, _, rfl⟩ := List.mem_map.1 h
 unfold A9
 split <;> simp
theorem Kk {a : Au} {R : List J} {part : List Nat} {n : ByteArray} {i : Nat} (key l : List Nat) : (DL a R part n i key l).length = key.length + l.length := by simp [DL]
theorem Kz {n m : Nat} (hn : n ≤ 64) : (C5 n m).length ≤ 4096 := by
 rw [C5, List.length_map, List.length_range]
 unfold Cc
 split
 ·omega
 ·omega
 ·have := Nat.mul_le_mul hn hn
  omega
theorem Lu {s : AS} {ds : List Nat} (hds : ∀ d ∈ ds, d < 1000) {T : AA} (hT : Aa T) (h : ∀ i, 1000 ≤ i → s.S i = T i) : ∀ i, 1000 ≤ i → (s.drop ds).S i = T i := fun i hi => by
 show Ag ds s.S i = T i
 unfold Ag
 rw [CL hds hi, h i hi]
 cases hb : T i with
 | none => rfl
 | some b => simp [AG.purge_high hds (hT i b hb).2]
theorem Ps {l : List Nat} {c x : Nat} (h : l[c]? = some x) : l.set c x = l := by
 refine List.ext_getElem? fun j => ?_
 by_cases e : c = j
 ·subst e
  rw [List.getElem?_set_self (Ej h), h]
 ·rw [List.getElem?_set_ne e]
def Dx (S : AA) (key : List Nat) : AA := AF (upS S) 1017 (some (.box 9 [.st (.str (BJ key))]))
theorem Cu {S : AA} {key : List Nat} {i : Nat} (h : i ≠ 1017) : Dx S key i = upS S i := AD _ h _
theorem Fk {S : AA} {key : List Nat} : Aa (Dx S key) := Ak (Db S) (by decide) rfl
theorem LZ {S : AA} {key : List Nat} : dnS (Dx S key) = AF S 17 (some (.box 9 [.st (.str (BJ key))])) := by
 unfold Dx
 rw [show (1017 : Nat) = up1 17 from rfl, El, HL]
 rfl
theorem JZ (a : Au) (ha : a.may 8 40 = 0) (hsm : Am a = true) (hl : a.last.length ≤ 100000) (T : Nat) (hT : nK a (Ad [a]) (Aw a auZ (Ad [a])) T = B5 a (Ad [a]) (Aw a auZ (Ad [a])) T) (hmin : ∀ t, t < T → ¬ nK a (Ad [a]) (Aw a auZ (Ad [a])) t = B5 a (Ad [a]) (Aw a auZ (Ad [a])) t) :
  A0 Try.prog 13 [aAu a] (.tup [AP (nK a (Ad [a]) (Aw a auZ (Ad [a])) T : Nat), AP 0]) := by
 have ga := Au.may_good ha
 obtain ⟨a1, a2⟩ := Ee ha
 have h3 := Ao hsm
 have cC := EZ a
 rw [ha] at cC
 have cS := MD [a] (by simp) (fun c hc => by rw [List.mem_singleton.1 hc]; omega) (fun c hc m hm => by rw [List.mem_singleton.1 hc] at hm; have := a2 m hm; omega)
 rw [show DF [a] = 0 from if_pos (by simp [hsm])] at cS
 have cY := IT [a] (by simp) (fun c hc => by rw [List.mem_singleton.1 hc]; omega) (fun c hc m hm => by rw [List.mem_singleton.1 hc] at hm; have := a2 m hm; omega)
 have hs2 : ∀ s ∈ Ad [a], s.2 ≤ 2 := fun s hs => by
  obtain ⟨c, hc, m, hm, rfl⟩ := CM.1 hs
  rw [List.mem_singleton.1 hc] at hm
  unfold Am at hsm
  simp only [Bool.and_eq_true, List.all_eq_true, decide_eq_true_eq] at hsm
  exact hsm.2 m hm
 have hsl : (Ad [a]).length ≤ 40 := by
  have := Dr (I1 (GD ([a].flatMap fun a => a.moves.map Mv.sym))) (m := [a].flatMap fun a => a.moves.map Mv.sym) (fun x hx => DR.1 hx)
  have e : ([a].flatMap fun a => a.moves.map Mv.sym).length = a.moves.length := by simp
  rw [e] at this
  exact Nat.le_trans this a1
 have cR := MA a auZ ga PT h3 (by decide) (by omega) (by decide) (Ad [a]) hs2 (by omega)
 have hok := DU (a := a) (b := auZ) hs2
 have hlen := hok.len h3 (by decide)
 have hclosed := fun {s} => Es (a := a) (b := auZ) hs2 h3 (by decide) (s := s)
 have cL := HY a ga (by omega) hl
 have hfin := fun x => Gz ga x
 generalize Ad [a] = syms at *
 generalize Aw a auZ syms = R at *
 have hx := fun j (hj : j ∈ R) => (hok.gen j hj).len
 have hfst : (R.map Prod.fst).Nodup := by
  have := hok.nod
  rw [List.nodup_iff_pairwise_ne] at this ⊢
  rw [List.pairwise_map]
  rw [List.pairwise_iff_getElem] at this ⊢
  intro i j hi hj hij e
  refine this i j hi hj hij (Prod.ext e ?_)
  have p := (hx _ (List.getElem_mem hi)).2
  have q := (hx _ (List.getElem_mem hj)).2
  have p0 : R[i].2 = [] := List.eq_nil_of_length_eq_zero p
  have q0 : R[j].2 = [] := List.eq_nil_of_length_eq_zero q
  rw [p0, q0]
 have hRl : (R.map Cw).length = R.length := by simp
 refine Hp.acT fun C hC htop => ?_
 unfold Eo
 repeat' (first | (with_reducible first | refine W ?_ | refine Z0 ?_ | ((first | refine Wo fun K hK => ?_ | refine Wp ?_ | refine Wq ?_ | refine Wr ?_); (try simp only [go_sem, fN, seval, eT, iR, dT, dF, nL]); (repeat refine Ai ?_); (try (refine hK _ ?_; clear hK K)); try refine iC ?_)) | refine Cg _ (cC) ?_ | refine Cg _ (cS) ?_ | refine Cg _ (cY) ?_ | refine Cg _ (cR) ?_)
 refine IWP.loopD [9] (fun q s => ∃ k, k ≤ R.length ∧ q = R.length - k ∧ s.env 1 = .one (.ptr 1 1 0 0) ∧ s.env 5 = CZ syms ∧ s.env 6 = .one (.ptr 6 1 0 0) ∧ s.env 7 = .one (.ptr 7 1 0 0) ∧ s.env 46 = aJs R ∧ s.env 47 = AP R.length ∧ s.env 48 = AP k ∧ s.S 1 = some (AT a) ∧ s.S 6 = some (.box 61 [.st (.list (R.map Cw))]) ∧ s.S 7 = some (.box 70 [.mptr 45]) ∧ s.S 45 = some (JA (R.take k)) ∧
  ∀ i ∈ [9, 10, 12, 14, 15, 16, 17, 19, 60, 78, 81, 501, 502], s.S i = none) R.length ⟨0, Nat.zero_le _, rfl, rfl, rfl, rfl, rfl, by simp only [go_sem, fN, seval, eT, iR], by simp only [go_sem, fN, seval, eT, iR, hRl], rfl, by simp only [go_sem, fN, seval, eT, iR]; rfl, by simp only [go_sem, fN, seval, eT, iR], by simp only [go_sem, fN, seval, eT, iR], by simp only [go_sem, fN, seval, eT, iR]; rfl, by simp only [go_sem, fN, seval, eT, iR]⟩ ?_
 rintro q ⟨env, S⟩ ⟨k, hk, rfl, e1, e5, e6, e7, e46, e47, e48, s1, s6, s7, s45, sn⟩
 simp only [List.forall_mem_cons, List.not_mem_nil, false_implies, implies_true, and_true] at sn
 obtain ⟨s9, s10, s12, s14, s15, s16, s17, s19, s60, s78, s81, s501, s502⟩ := sn
 simp only at e1 e5 e6 e7 e46 e47 e48 s1 s6 s7 s45 s9 s10 s12 s14 s15 s16 s17 s19 s60 s78 s81 s501 s502
 by_cases hlt : (k : Int) < R.length
 ·obtain ⟨j, hj⟩ := Aq (show k < R.length by omega)
  have hjm := AY hj
  have hnew : ¬ j.1 ∈ (R.take k).map Prod.fst := fun h => by
   obtain ⟨i, hi⟩ := List.getElem?_of_mem h
   have hik : i < k := by have := (List.getElem?_eq_some_iff.1 hi).1; simp at this; omega
   have e1 : (R.map Prod.fst)[i]? = some j.1 := by
    rw [List.map_take, List.getElem?_take_of_lt hik] at hi
    exact hi
   have e2 : (R.map Prod.fst)[k]? = some j.1 := by rw [List.getElem?_map, hj]; rfl
   rw [List.nodup_iff_pairwise_ne, List.pairwise_iff_getElem] at hfst
   have p1 := (List.getElem?_eq_some_iff.1 e1)
   have p2 := (List.getElem?_eq_some_iff.1 e2)
   exact hfst i k p1.1 p2.1 hik (by rw [p1.2, p2.2])
  have hput : FM (Gg 0 (R.take k)) (.i (bN j.1 : Int)) (AP k) = Gg 0 (R.take (k + 1)) := by
   rw [EW (by rw [GL (c := a.states.toNat) _ _ _ (fun i hi => (hx i (List.mem_of_mem_take hi)).1) (hx j hjm).1, if_neg hnew]), Ay hj, ID]
   simp [Nat.min_eq_left hk]
  repeat' with_reducible first | refine W ?_ | refine Z0 ?_ | ((first | refine Wo fun K hK => ?_ | refine Wp ?_ | refine Wq ?_ | refine Wr ?_); (try simp only [go_sem, fN, seval, eT, iR, e1, e5, e6, e7, e46, e47, e48, s1, s6, s7, s45, s9, s10, s12, s14, s15, s16, s17, s19, s60, s78, s81, s501, s502, hlt, hj, Cw, BU, D5, KV.of, hput, dT, dF, nL]); (repeat refine Ai ?_); (try (refine hK _ ?_; clear hK K)); try refine iC ?_)
  refine AI ⟨R.length - (k + 1), by omega, k + 1, by omega, rfl, ?_⟩
  simp only [go_sem, fN, seval, AS.drop, Ag, AC.clears, AC.clear, AC.highs, AC.high, Bool.not_false, Bool.true_and, Bool.and_self, AV.purge, AV.purges, AC.purge, AG.purge, List.contains_cons, List.contains_nil, Nat.reduceBEq, Bool.or_self, Bool.or_false, Bool.false_or, Bool.or_true, eT, iR, e1, e5, e6, e7, e46, e47, e48, s1, s6, s7, s45, s9, s10, s12, s14, s15, s16, s17, s19, s60, s78, s81, s501, s502, AT]
  rfl
 have hke : k = R.length := by omega
 rw [hke, List.take_length] at s45
 repeat' with_reducible first | refine W ?_ | refine Z0 ?_ | ((first | refine Wo fun K hK => ?_ | refine Wp ?_ | refine Wq ?_ | refine Wr ?_); (try simp only [go_sem, fN, seval, eT, iR, e1, e5, e6, e7, e46, e47, e48, s6, hlt, hRl, s60, s10, dT, dF, nL]); (repeat refine Ai ?_); (try (refine hK _ ?_; clear hK K)); try refine iC ?_)
 have hp0 := H9 (a := a) (R := R)
 refine IWP.loopD [12] (fun q s => ∃ k, k ≤ R.length ∧ q = R.length - k ∧ s.env 1 = .one (.ptr 1 1 0 0) ∧ s.env 5 = CZ syms ∧ s.env 6 = .one (.ptr 6 1 0 0) ∧ s.env 7 = .one (.ptr 7 1 0 0) ∧ s.env 10 = .one (.ptr 10 1 0 0) ∧ s.env 61 = aJs R ∧ s.env 62 = AP R.length ∧ s.env 63 = AP k ∧ s.S 1 = some (AT a) ∧ s.S 6 = some (.box 61 [.st (.list (R.map Cw))]) ∧ s.S 7 = some (.box 70 [.mptr 45]) ∧ s.S 45 = some (JA R) ∧ s.S 10 = some (.box 23 [.row 60 R.length]) ∧ s.S 60 = some (.mrow 3 1 (AU (prog (DQ a R) R.length k))) ∧
  ∀ i ∈ [12, 14, 15, 16, 17, 19, 78, 81, 501, 502], s.S i = none) R.length ⟨0, Nat.zero_le _, rfl, e1, e5, e6, e7, rfl, by simp only [go_sem, fN, seval, eT, iR], by simp only [go_sem, fN, seval, eT, iR, hRl], rfl, by simp only [go_sem, fN, seval, eT, iR, s1], by simp only [go_sem, fN, seval, eT, iR, s6], by simp only [go_sem, fN, seval, eT, iR, s7], by simp only [go_sem, fN, seval, eT, iR, s45], by simp only [go_sem, fN, seval, eT, iR, hRl], by simp only [go_sem, fN, seval, eT, iR, hRl]; rw [Iv, HB], by simp only [go_sem, fN, seval, eT, iR, s12, s14, s15, s16, s17, s19, s78, s81, s501, s502]⟩ ?_
 clear e1 e5 e6 e7 e46 e47 e48 s1 s6 s7 s45 s9 s10 s12 s14 s15 s16 s17 s19 s60 s78 s81 s501 s502 hlt
 rintro q ⟨env, S⟩ ⟨k, hk, rfl, e1, e5, e6, e7, e10, e61, e62, e63, s1, s6, s7, s45, s10, s60, sn⟩
 simp only [List.forall_mem_cons, List.not_mem_nil, false_implies, implies_true, and_true] at sn
 obtain ⟨s12, s14, s15, s16, s17, s19, s78, s81, s501, s502⟩ := sn
 simp only at e1 e5 e6 e7 e10 e61 e62 e63 s1 s6 s7 s45 s10 s60 s12 s14 s15 s16 s17 s19 s78 s81 s501 s502
 have hpl : (AU (prog (DQ a R) R.length k)).length = R.length := by rw [BF, Fe hp0 hk]
 by_cases hlt : (k : Int) < R.length
 ·obtain ⟨j, hj⟩ := Aq (show k < R.length by omega)
  have hpk : (DQ a R)[k]? = some (if a.fin j.1 = true then 1 else 0) := by rw [DQ, List.getElem?_map, hj]; rfl
  have hkl : k < (AU (prog (DQ a R) R.length k)).length := by omega
  have hkR : k < R.length := by omega
  have fj := hfin j.1
  by_cases hA : ((bN j.1 &&& bN a.lastB : Nat) : Int) = 0
  ·have hA' : ¬ a.fin j.1 = true := fun hx => by have := fj.2 hx; omega
   rw [if_neg hA'] at hpk
   repeat' (first | (with_reducible first | refine W ?_ | refine Z0 ?_ | ((first | refine Wo fun K hK => ?_ | refine Wp ?_ | refine Wq ?_ | refine Wr ?_); (try simp only [go_sem, fN, seval, eT, iR, e1, e5, e6, e7, e10, e61, e62, e63, s1, s6, s7, s45, s10, s60, s12, s14, s15, s16, s17, s19, s78, s81, s501, s502, AT, hlt, hj, Cw, F5, IntKind.bits, hA, Int.toNat_natCast, dT, dF, nL]); (repeat refine Ai ?_); (try (refine hK _ ?_; clear hK K)); try refine iC ?_)) | refine Cg _ (cL) ?_)
   refine AI ⟨R.length - (k + 1), by omega, k + 1, by omega, rfl, ?_⟩
   rw [NO hp0 hpk]
   simp only [go_sem, fN, seval, AS.drop, Ag, AC.clears, AC.clear, AC.highs, AC.high, Bool.not_false, Bool.true_and, Bool.and_self, AV.purge, AV.purges, AC.purge, AG.purge, List.contains_cons, List.contains_nil, Nat.reduceBEq, Bool.or_self, Bool.or_false, Bool.false_or, Bool.or_true, eT, iR, e1, e5, e6, e7, e10, e61, e62, e63, s1, s6, s7, s45, s10, s60, s12, s14, s15, s16, s17, s19, s78, s81, s501, s502, AT]
   rfl
  ·have hA' : a.fin j.1 = true := fj.1 (by omega)
   rw [if_pos hA'] at hpk
   have hset : (AU (prog (DQ a R) R.length k)).set k [.int .i64 1] = AU (prog (DQ a R) R.length (k + 1)) := by
    rw [← GA hp0 hpk]
    exact Cs _ k 1
   obtain ⟨z, hz⟩ := Aq (show k < (prog (DQ a R) R.length k).length by rw [Fe hp0 hk]; omega)
   have hz' := BY hz
   repeat' (first | (with_reducible first | refine W ?_ | refine Z0 ?_ | ((first | refine Wo fun K hK => ?_ | refine Wp ?_ | refine Wq ?_ | refine Wr ?_); (try simp only [go_sem, fN, seval, eT, iR, e1, e5, e6, e7, e10, e61, e62, e63, s1, s6, s7, s45, s10, s60, s12, s14, s15, s16, s17, s19, s78, s81, s501, s502, AT, hlt, hj, Cw, F5, IntKind.bits, hA, Int.toNat_natCast, hpl, hkl, hkR, hz', hset, dT, dF, nL]); (repeat refine Ai ?_); (try (refine hK _ ?_; clear hK K)); try refine iC ?_)) | refine Cg _ (cL) ?_)
   refine AI ⟨R.length - (k + 1), by omega, k + 1, by omega, rfl, ?_⟩
   simp only [go_sem, fN, seval, AS.drop, Ag, AC.clears, AC.clear, AC.highs, AC.high, Bool.not_false, Bool.true_and, Bool.and_self, AV.purge, AV.purges, AC.purge, AG.purge, List.contains_cons, List.contains_nil, Nat.reduceBEq, Bool.or_self, Bool.or_false, Bool.false_or, Bool.or_true, eT, iR, e1, e5, e6, e7, e10, e61, e62, e63, s1, s6, s7, s45, s10, s60, s12, s14, s15, s16, s17, s19, s78, s81, s501, s502, AT]
   rfl
 have hke : k = R.length := by omega
 rw [hke, Jj hp0] at s60
 repeat' with_reducible first | refine W ?_ | refine Z0 ?_ | ((first | refine Wo fun K hK => ?_ | refine Wp ?_ | refine Wq ?_ | refine Wr ?_); (try simp only [go_sem, fN, seval, eT, iR, e1, e5, e6, e7, e10, e61, e62, e63, hlt, dT, dF, nL]); (repeat refine Ai ?_); (try (refine hK _ ?_; clear hK K)); try refine iC ?_)
 refine IWP.loopD [78, 81] (fun q s => ∃ t, t ≤ T ∧ q = T + 1 - t ∧ s.env 1 = .one (.ptr 1 1 0 0) ∧ s.env 5 = CZ syms ∧ s.env 6 = .one (.ptr 6 1 0 0) ∧ s.env 7 = .one (.ptr 7 1 0 0) ∧ s.env 10 = .one (.ptr 10 1 0 0) ∧ s.env 13 = AP (B5 a syms R t : Nat) ∧ s.S 1 = some (AT a) ∧ s.S 6 = some (.box 61 [.st (.list (R.map Cw))]) ∧ s.S 7 = some (.box 70 [.mptr 45]) ∧ s.S 45 = some (JA R) ∧ s.S 10 = some (.box 23 [.row 60 R.length]) ∧ s.S 60 = some (.mrow 3 1 (AU (BQ a syms R t))) ∧
  ∀ i ∈ [16, 17, 19, 78, 81, 501, 502], s.S i = none) (T + 1) ⟨0, Nat.zero_le _, rfl, e1, e5, e6, e7, e10, rfl, s1, s6, s7, s45, s10, s60, by simp only [go_sem, fN, seval, eT, iR, s16, s17, s19, s78, s81, s501, s502]⟩ ?_
 clear e1 e5 e6 e7 e10 e61 e62 e63 s1 s6 s7 s45 s10 s12 s14 s15 s16 s17 s19 s60 s78 s81 s501 s502 hlt hke
 rintro q ⟨env, S⟩ ⟨t, ht, rfl, e1, e5, e6, e7, e10, e13, s1, s6, s7, s45, s10, s60, sn⟩
 simp only [List.forall_mem_cons, List.not_mem_nil, false_implies, implies_true, and_true] at sn
 obtain ⟨s16, s17, s19, s78, s81, s501, s502⟩ := sn
 simp only at e1 e5 e6 e7 e10 e13 s1 s6 s7 s45 s10 s60 s16 s17 s19 s78 s81 s501 s502
 have hnK : nK a syms R t = (A4 a syms R (BQ a syms R t) R.length).length := rfl
 have hnl : nK a syms R t ≤ R.length := DT
 have hpe : ∀ i, (BQ a syms R t).getD i 0 ≤ R.length := fun i => KJ i t
 have hplen : (BQ a syms R t).length = R.length := NT t
 have hnext : BQ a syms R (t + 1) = fresh a syms R (BQ a syms R t) := rfl
 have hprev : B5 a syms R (t + 1) = nK a syms R t := rfl
 obtain ⟨part, hpart⟩ : ∃ part, BQ a syms R t = part := ⟨_, rfl⟩
 rw [hpart] at s60 hnK hpe hplen hnext
 have hfl := F2 (a := a) (syms := syms) (R := R) (part := part)
 have hpel : (AU part).length = R.length := by rw [BF, hplen]
 repeat' with_reducible first | refine W ?_ | refine Z0 ?_ | ((first | refine Wo fun K hK => ?_ | refine Wp ?_ | refine Wq ?_ | refine Wr ?_); (try simp only [go_sem, fN, seval, eT, iR, e1, e5, e6, e7, e10, e13, s1, s6, s7, s45, s10, s60, s16, s17, s19, s78, s81, s501, s502, hRl, dT, dF, nL]); (repeat refine Ai ?_); (try (refine hK _ ?_; clear hK K)); try refine iC ?_)
 refine IWP.loopD [16, 17] (fun q s => ∃ i, i ≤ R.length ∧ q = R.length - i ∧ s.env 1 = .one (.ptr 1 1 0 0) ∧ s.env 5 = CZ syms ∧ s.env 6 = .one (.ptr 6 1 0 0) ∧ s.env 7 = .one (.ptr 7 1 0 0) ∧ s.env 10 = .one (.ptr 10 1 0 0) ∧ s.env 13 = AP (B5 a syms R t : Nat) ∧ s.env 14 = .one (.mptr 78) ∧ s.env 15 = .one (.row 81 R.length) ∧ s.env 83 = AP R.length ∧ s.env 84 = AP i ∧ s.S 1 = some (AT a) ∧ s.S 6 = some (.box 61 [.st (.list (R.map Cw))]) ∧ s.S 7 = some (.box 70 [.mptr 45]) ∧ s.S 45 = some (JA R) ∧ s.S 10 = some (.box 23 [.row 60 R.length]) ∧ s.S 60 = some (.mrow 3 1 (AU part)) ∧
  s.S 78 = some (Pb (A4 a syms R part i)) ∧ s.S 81 = some (.mrow 3 1 (AU (prog (fresh a syms R part) R.length i))) ∧ ∀ i ∈ [16, 17, 19, 501, 502], s.S i = none) R.length
  ⟨0, Nat.zero_le _, rfl, e1, e5, e6, e7, e10, e13, rfl, rfl, by simp only [go_sem, fN, seval, eT, iR, hRl], rfl, by simp only [go_sem, fN, seval, eT, iR, s1], by simp only [go_sem, fN, seval, eT, iR, s6], by simp only [go_sem, fN, seval, eT, iR, s7], by simp only [go_sem, fN, seval, eT, iR, s45], by simp only [go_sem, fN, seval, eT, iR, s10], by simp only [go_sem, fN, seval, eT, iR, s60], by simp only [go_sem, fN, seval, eT, iR]; rfl, by simp only [go_sem, fN, seval, eT, iR, hRl]; rw [Iv, HB], by simp only [go_sem, fN, seval, eT, iR, s16, s17, s19, s501, s502]⟩ ?_
 ·clear e1 e5 e6 e7 e10 e13 s1 s6 s7 s45 s10 s16 s17 s19 s60 s78 s81 s501 s502
  rintro q ⟨env, S⟩ ⟨i, hi, rfl, e1, e5, e6, e7, e10, e13, e14, e15, e83, e84, s1, s6, s7, s45, s10, s60, s78, s81, sn⟩
  simp only [List.forall_mem_cons, List.not_mem_nil, false_implies, implies_true, and_true] at sn
  obtain ⟨s16, s17, s19, s501, s502⟩ := sn
  simp only at e1 e5 e6 e7 e10 e13 e14 e15 e83 e84 s1 s6 s7 s45 s10 s60 s78 s81 s16 s17 s19 s501 s502
  have hprl : (AU (prog (fresh a syms R part) R.length i)).length = R.length := by rw [BF, Fe hfl hi]
  by_cases hlt : (i : Int) < R.length
  ·have hiR : i < R.length := by omega
   obtain ⟨p, hp⟩ := Aq (show i < part.length by omega)
   have hp' := BY hp
   have hpd : part.getD i 0 = p := by rw [List.getD_eq_getElem?_getD, hp]; rfl
   have hple : p ≤ 64 := by have := hpe i; omega
   have henc := G9 (p := p) (by omega)
   have hi32 : inR .i32 ((p : Int) + 1) := ⟨by show (-2147483648 : Int) ≤ _; omega, by show _ ≤ (2147483647 : Int); omega⟩
   repeat' with_reducible first | refine W ?_ | refine Z0 ?_ | ((first | refine Wo fun K hK => ?_ | refine Wp ?_ | refine Wq ?_ | refine Wr ?_); (try simp only [go_sem, fN, seval, eT, iR, e1, e5, e6, e7, e10, e13, e14, e15, e83, e84, s1, s6, s7, s45, s10, s60, s78, s81, s16, s17, s19, s501, s502, hlt, hiR, hp', hpel, hi32, henc, dT, dF, nL]); (repeat refine Ai ?_); (try (refine hK _ ?_; clear hK K)); try refine iC ?_)
   have hsig0 : [p] = [part.getD i 0] := by rw [hpd]
   have hbound : ∀ (key : List Nat) (sy : Sym), (FP a R part i key sy).length ≤ key.length + 8192 := fun key sy => by
    have h1 := E8 (f := DL a R part sy.1 i) (c := 2) (C5 R.length sy.2) key fun key l hl => by
     rw [Kk]
     have := Hb hl
     omega
    have h2 := Kz (n := R.length) (m := sy.2) hlen
    have h3 : (C5 R.length sy.2).length * 2 ≤ 4096 * 2 := Nat.mul_le_mul_right _ h2
    exact Nat.le_trans h1 (by omega)
   refine IWP.loopD [19, 501, 502] (fun q s => ∃ k, k ≤ syms.length ∧ q = syms.length - k ∧ s.env 1 = .one (.ptr 1 1 0 0) ∧ s.env 5 = CZ syms ∧ s.env 6 = .one (.ptr 6 1 0 0) ∧ s.env 7 = .one (.ptr 7 1 0 0) ∧ s.env 10 = .one (.ptr 10 1 0 0) ∧ s.env 13 = AP (B5 a syms R t : Nat) ∧ s.env 14 = .one (.mptr 78) ∧ s.env 15 = .one (.row 81 R.length) ∧ s.env 16 = .one (.ptr 16 1 0 0) ∧ s.env 17 = .one (.ptr 17 1 0 0) ∧ s.env 83 = AP R.length ∧ s.env 84 = AP i ∧ s.env 94 = CZ syms ∧ s.env 95 = AP syms.length ∧ s.env 96 = AP k ∧
    s.S 1 = some (AT a) ∧ s.S 6 = some (.box 61 [.st (.list (R.map Cw))]) ∧ s.S 7 = some (.box 70 [.mptr 45]) ∧ s.S 45 = some (JA R) ∧ s.S 10 = some (.box 23 [.row 60 R.length]) ∧ s.S 60 = some (.mrow 3 1 (AU part)) ∧ s.S 78 = some (Pb (A4 a syms R part i)) ∧ s.S 81 = some (.mrow 3 1 (AU (prog (fresh a syms R part) R.length i))) ∧ s.S 16 = some (.box 3 [.st (.int .i64 i)]) ∧ s.S 17 = some (.box 9 [.st (.str (BJ ((syms.take k).foldl (FP a R part i) [p])))]) ∧ ∀ i ∈ [19, 501, 502], s.S i = none) syms.length
    ⟨0, Nat.zero_le _, rfl, e1, e5, e6, e7, e10, e13, e14, e15, rfl, rfl, e83, e84, by simp only [go_sem, fN, seval, eT, iR, e5], by simp only [go_sem, fN, seval, eT, iR], rfl, by simp only [go_sem, fN, seval, eT, iR, s1], by simp only [go_sem, fN, seval, eT, iR, s6], by simp only [go_sem, fN, seval, eT, iR, s7], by simp only [go_sem, fN, seval, eT, iR, s45], by simp only [go_sem, fN, seval, eT, iR, s10], by simp only [go_sem, fN, seval, eT, iR, s60], by simp only [go_sem, fN, seval, eT, iR, s78], by simp only [go_sem, fN, seval, eT, iR, s81], by simp only [go_sem, fN, seval, eT, iR], by (simp only [go_sem, fN, seval, eT, iR]; rfl), by simp only [go_sem, fN, seval, eT, iR, s19, s501, s502]⟩ ?_
   clear e1 e5 e6 e7 e10 e13 e14 e15 e83 e84 s1 s6 s7 s45 s10 s60 s78 s81 s16 s17 s19 s501 s502
   rintro q ⟨env, S⟩ ⟨k, hk, rfl, e1, e5, e6, e7, e10, e13, e14, e15, e16, e17, e83, e84, e94, e95, e96, s1, s6, s7, s45, s10, s60, s78, s81, s16, s17, sn⟩
   simp only [List.forall_mem_cons, List.not_mem_nil, false_implies, implies_true, and_true] at sn
   obtain ⟨s19, s501, s502⟩ := sn
   simp only at e1 e5 e6 e7 e10 e13 e14 e15 e16 e17 e83 e84 e94 e95 e96 s1 s6 s7 s45 s10 s60 s78 s81 s16 s17 s19 s501 s502
   by_cases hks : (k : Int) < syms.length
   ·obtain ⟨sy, hsk⟩ := Aq (show k < syms.length by omega)
    have hsm := AY hsk
    have hs2' := hs2 sy hsm
    have hfold : (syms.take (k + 1)).foldl (FP a R part i) [p] = FP a R part i ((syms.take k).foldl (FP a R part i) [p]) sy := by
     rw [Ay hsk, List.foldl_append]
     rfl
    have hkey0 := Ib hbound (syms.take k) [p]
    rw [List.length_take, Nat.min_eq_left hk] at hkey0
    obtain ⟨key, hkey⟩ : ∃ key, (syms.take k).foldl (FP a R part i) [p] = key := ⟨_, rfl⟩
    rw [hkey] at s17 hfold hkey0
    have hkey1 : key.length ≤ 400000 := by
     have : k * 8192 ≤ 40 * 8192 := Nat.mul_le_mul_right _ (by omega)
     simp only [List.length_singleton] at hkey0
     omega
    repeat' (first | (with_reducible first | refine W ?_ | refine Z0 ?_ | ((first | refine Wo fun K hK => ?_ | refine Wp ?_ | refine Wq ?_ | refine Wr ?_); (try simp only [go_sem, fN, seval, eT, iR, e1, e5, e6, e7, e10, e13, e14, e15, e16, e17, e83, e84, e94, e95, e96, s1, s6, s7, s45, s10, s60, s78, s81, s16, s17, s19, s501, s502, hks, hsk, GH, hRl, dT, dF, nL]); (repeat refine Ai ?_); (try (refine hK _ ?_; clear hK K)); try refine iC ?_)) | refine Cg _ (Jy R.length sy.2) ?_)
    refine IWP.at_ (fun env S => env 1 = .one (.ptr 1 1 0 0) ∧ env 5 = CZ syms ∧ env 6 = .one (.ptr 6 1 0 0) ∧ env 7 = .one (.ptr 7 1 0 0) ∧ env 10 = .one (.ptr 10 1 0 0) ∧ env 13 = AP (B5 a syms R t : Nat) ∧ env 14 = .one (.mptr 78) ∧ env 15 = .one (.row 81 R.length) ∧ env 16 = .one (.ptr 16 1 0 0) ∧ env 17 = .one (.ptr 17 1 0 0) ∧ env 19 = .one (.ptr 19 1 0 0) ∧ env 83 = AP R.length ∧ env 84 = AP i ∧ env 94 = CZ syms ∧ env 95 = AP syms.length ∧ env 96 = AP k ∧ env 104 = .one (.fn 57 [.eptr [.int .i64 sy.2], .eptr [.int .i64 R.length]]) ∧
     S 1 = some (AT a) ∧ S 6 = some (.box 61 [.st (.list (R.map Cw))]) ∧ S 7 = some (.box 70 [.mptr 45]) ∧ S 45 = some (JA R) ∧ S 10 = some (.box 23 [.row 60 R.length]) ∧ S 60 = some (.mrow 3 1 (AU part)) ∧ S 78 = some (Pb (A4 a syms R part i)) ∧ S 81 = some (.mrow 3 1 (AU (prog (fresh a syms R part) R.length i))) ∧ S 16 = some (.box 3 [.st (.int .i64 i)]) ∧ S 17 = some (.box 9 [.st (.str (BJ key))]) ∧ S 19 = some (.box 72 [.st (.str sy.1), .st (.int .i64 (sy.2 : Int))]) ∧ S 501 = none ∧ S 502 = none)
     ⟨e1, e5, e6, e7, e10, e13, e14, e15, e16, e17, rfl, e83, e84, e94, e95, e96, rfl, by simp only [go_sem, fN, seval, eT, iR, s1], by simp only [go_sem, fN, seval, eT, iR, s6], by simp only [go_sem, fN, seval, eT, iR, s7], by simp only [go_sem, fN, seval, eT, iR, s45], by simp only [go_sem, fN, seval, eT, iR, s10], by simp only [go_sem, fN, seval, eT, iR, s60], by simp only [go_sem, fN, seval, eT, iR, s78], by simp only [go_sem, fN, seval, eT, iR, s81], by simp only [go_sem, fN, seval, eT, iR, s16], by simp only [go_sem, fN, seval, eT, iR, s17], by simp only [go_sem, fN, seval, eT, iR], by simp only [go_sem, fN, seval, eT, iR, s501], by simp only [go_sem, fN, seval, eT, iR, s502]⟩ ?_
    clear e1 e5 e6 e7 e10 e13 e14 e15 e16 e17 e83 e84 e94 e95 e96 s1 s6 s7 s45 s10 s60 s78 s81 s16 s17 s19 s501 s502
    rintro env S ⟨e1, e5, e6, e7, e10, e13, e14, e15, e16, e17, e19, e83, e84, e94, e95, e96, e104, s1, s6, s7, s45, s10, s60, s78, s81, s16, s17, s19, s501, s502⟩
    refine IWP.rangeW htop 501 (by decide) s501 (show AS.ev _ (.t 104) = _ from e104) (by kernel_rfl) 502 (by decide) (FY R.length sy.2 hs2' (by omega)) rfl (fun pre U => U = Dx S (pre.foldl (DL a R part sy.1 i) key)) (fun _ _ => False) ?_ ?_ (fun _ _ _ _ _ => trivial) ?_ ?_ (fun _ _ _ h => h.elim)
    ·have k17 : upS S 1017 = some (.box 9 [.st (.str (BJ key))]) := BV s17
     exact (DI k17).symm
    ·rintro pre U rfl
     rw [Cu (by decide), B8, s502]
     rfl
    ·rintro C' b0 b1 pre v U hC' hpre rfl hU hcl hb1
     obtain ⟨tl, htl⟩ := hpre
     have hvm : v ∈ C5 R.length sy.2 := by rw [← htl]; simp
     obtain ⟨hvl, hvi⟩ := (Cy hs2').1 hvm
     have hv2 := Hb hvm
     have hpl : pre.length ≤ 4096 := by
      have := Kz (n := R.length) (m := sy.2) hlen
      rw [← htl, List.length_append, List.length_append] at this
      omega
     have hkl2 := E8 (f := DL a R part sy.1 i) (c := 2) pre key fun key l hl => by
      rw [Kk]
      have := Hb (n := R.length) (m := sy.2) (l := l) (by rw [← htl]; simp [hl])
      omega
     have hsnoc : (pre ++ [v]).foldl (DL a R part sy.1 i) key = DL a R part sy.1 i (pre.foldl (DL a R part sy.1 i) key) v := by rw [List.foldl_append]; rfl
     obtain ⟨ky, hky⟩ : ∃ ky, pre.foldl (DL a R part sy.1 i) key = ky := ⟨_, rfl⟩
     rw [hky] at hcl hU hkl2 hsnoc ⊢
     have hkyl : ky.length ≤ 500000 := by omega
     have low : ∀ {i : Nat}, i < 1000 → Dx S ky i = none := fun hi => C2 hcl hi
     have n132 := low (i := 132) (by decide)
     have u : ∀ {t : Nat} {id : Nat}, t < 182 → env t = .one (.ptr id 1 0 0) → BX C.n env t = .one (.ptr (up1 id) 1 0 0) := fun ht he => by rw [BX, if_pos (by rw [hC]; exact ht), he]; rfl
     have w1 : BX C.n env 1 = .one (.ptr 1001 1 0 0) := u (by decide) e1
     have w6 : BX C.n env 6 = .one (.ptr 1006 1 0 0) := u (by decide) e6
     have w7 : BX C.n env 7 = .one (.ptr 1007 1 0 0) := u (by decide) e7
     have w10 : BX C.n env 10 = .one (.ptr 1010 1 0 0) := u (by decide) e10
     have w16 : BX C.n env 16 = .one (.ptr 1016 1 0 0) := u (by decide) e16
     have w17 : BX C.n env 17 = .one (.ptr 1017 1 0 0) := u (by decide) e17
     have w19 : BX C.n env 19 = .one (.ptr 1019 1 0 0) := u (by decide) e19
     have u501 : up1 501 = 1501 := rfl
     have u502 : up1 502 = 1502 := rfl
     have hel := BF v
     obtain ⟨W, hW⟩ : ∃ W, AF (AF (Dx S ky) 1502 (some (.mrow 3 1 (AU v)))) 1501 (some b1) = W := ⟨_, rfl⟩
     rw [u501, u502, hel, hvl]
     repeat' with_reducible first | refine W ?_ | refine Z0 ?_ | ((first | refine Wo fun K hK => ?_ | refine Wp ?_ | refine Wq ?_ | refine Wr ?_); (try simp only [go_sem, fN, seval, eT, iR, Gc, u501, u502, dT, dF, nL]); (repeat refine Ai ?_); (try (refine hK _ ?_; clear hK K)); try refine iC ?_)
     refine AI ⟨by simp only [go_sem, fN, seval, eT, iR, u501, u502], ?_⟩
     refine IWP.at_ (fun env1 S1 => env1 1 = .one (.ptr 1001 1 0 0) ∧ env1 6 = .one (.ptr 1006 1 0 0) ∧ env1 7 = .one (.ptr 1007 1 0 0) ∧ env1 10 = .one (.ptr 1010 1 0 0) ∧ env1 16 = .one (.ptr 1016 1 0 0) ∧ env1 17 = .one (.ptr 1017 1 0 0) ∧ env1 19 = .one (.ptr 1019 1 0 0) ∧ env1 20 = .one (.row 1502 sy.2) ∧ S1 = W) ⟨w1, w6, w7, w10, w16, w17, w19, rfl, by rw [← hW]; exact F6⟩ ?_
     rintro env1 S1 ⟨x1, x6, x7, x10, x16, x17, x19, x20, rfl⟩
     have hWat : ∀ i, i ≠ 1501 → i ≠ 1502 → S1 i = Dx S ky i := fun i p q => by rw [← hW, AD _ p, AD _ q]
     have hWu : ∀ {i : Nat} {b : AG}, up1 i ≠ 1501 → up1 i ≠ 1502 → up1 i ≠ 1017 → S i = some b → S1 (up1 i) = some (b.ren up1) := fun p q r h => by rw [hWat _ p q, Cu r]; exact BV h
     have q1 : S1 1001 = some (AT a) := hWu (i := 1) (by decide) (by decide) (by decide) s1
     have q6 : S1 1006 = some (.box 61 [.st (.list (R.map Cw))]) := hWu (i := 6) (by decide) (by decide) (by decide) s6
     have q7 : S1 1007 = some (.box 70 [.mptr 1045]) := hWu (i := 7) (by decide) (by decide) (by decide) s7
     have q45 : S1 1045 = some (JA R) := hWu (i := 45) (by decide) (by decide) (by decide) s45
     have q10 : S1 1010 = some (.box 23 [.row 1060 R.length]) := hWu (i := 10) (by decide) (by decide) (by decide) s10
     have q60 : S1 1060 = some (.mrow 3 1 (AU part)) := hWu (i := 60) (by decide) (by decide) (by decide) s60
     have q16 : S1 1016 = some (.box 3 [.st (.int .i64 i)]) := hWu (i := 16) (by decide) (by decide) (by decide) s16
     have q19 : S1 1019 = some (.box 72 [.st (.str sy.1), .st (.int .i64 (sy.2 : Int))]) := hWu (i := 19) (by decide) (by decide) (by decide) s19
     have q17 : S1 1017 = some (.box 9 [.st (.str (BJ ky))]) := by rw [hWat 1017 (by decide) (by decide)]; exact AB _ _ _
     have q502 : S1 1502 = some (.mrow 3 1 (AU v)) := by rw [← hW, AD _ (by decide), AB]
     have q132 : S1 132 = none := by rw [hWat 132 (by decide) (by decide)]; exact n132
     have hWc : Aa S1 := by rw [← hW]; exact Ak (Ak Fk (by decide) rfl) (by decide) hb1
     repeat' with_reducible first | refine W ?_ | refine Z0 ?_ | ((first | refine Wo fun K hK => ?_ | refine Wp ?_ | refine Wq ?_ | refine Wr ?_); (try simp only [go_sem, fN, seval, eT, iR, x20, q502, hel, hvl, dT, dF, nL]); (repeat refine Ai ?_); (try (refine hK _ ?_; clear hK K)); try refine iC ?_)
     refine IWP.loopD [132] (fun q s => ∃ k, k ≤ sy.2 ∧ q = sy.2 - k ∧ s.env 1 = .one (.ptr 1001 1 0 0) ∧ s.env 6 = .one (.ptr 1006 1 0 0) ∧ s.env 7 = .one (.ptr 1007 1 0 0) ∧ s.env 10 = .one (.ptr 1010 1 0 0) ∧ s.env 16 = .one (.ptr 1016 1 0 0) ∧ s.env 17 = .one (.ptr 1017 1 0 0) ∧ s.env 19 = .one (.ptr 1019 1 0 0) ∧ s.env 20 = .one (.row 1502 sy.2) ∧ s.env 107 = AP sy.2 ∧ s.env 108 = AP k ∧
      s.S 132 = none ∧ ∀ z, 1000 ≤ z → s.S z = AF S1 1017 (some (.box 9 [.st (.str (BJ (ky ++ (List.range k).map fun k => part.getD (stp a R sy.1 (v.set k i)) 0)))])) z) sy.2
      ⟨0, Nat.zero_le _, rfl, x1, x6, x7, x10, x16, x17, x19, by simp only [go_sem, fN, seval, eT, iR, x20], by simp only [go_sem, fN, seval, eT, iR], rfl, by simp only [go_sem, fN, seval, eT, iR, q132], fun i hi => ?_⟩ ?_
     ·show S1 i = _
      rw [List.range_zero, List.map_nil, List.append_nil, DI q17]
     clear x1 x6 x7 x10 x16 x17 x19 x20
     rintro q2 ⟨env2, S2⟩ ⟨c, hc, rfl, y1, y6, y7, y10, y16, y17, y19, y20, y107, y108, z132, hS2⟩
     simp only at y1 y6 y7 y10 y16 y17 y19 y20 y107 y108 z132 hS2
     have r1 : S2 1001 = some (AT a) := by rw [hS2 1001 (by decide), AD _ (by decide)]; exact q1
     have r6 : S2 1006 = some (.box 61 [.st (.list (R.map Cw))]) := by rw [hS2 1006 (by decide), AD _ (by decide)]; exact q6
     have r7 : S2 1007 = some (.box 70 [.mptr 1045]) := by rw [hS2 1007 (by decide), AD _ (by decide)]; exact q7
     have r45 : S2 1045 = some (JA R) := by rw [hS2 1045 (by decide), AD _ (by decide)]; exact q45
     have r10 : S2 1010 = some (.box 23 [.row 1060 R.length]) := by rw [hS2 1010 (by decide), AD _ (by decide)]; exact q10
     have r60 : S2 1060 = some (.mrow 3 1 (AU part)) := by rw [hS2 1060 (by decide), AD _ (by decide)]; exact q60
     have r16 : S2 1016 = some (.box 3 [.st (.int .i64 i)]) := by rw [hS2 1016 (by decide), AD _ (by decide)]; exact q16
     have r19 : S2 1019 = some (.box 72 [.st (.str sy.1), .st (.int .i64 (sy.2 : Int))]) := by rw [hS2 1019 (by decide), AD _ (by decide)]; exact q19
     have r502 : S2 1502 = some (.mrow 3 1 (AU v)) := by rw [hS2 1502 (by decide), AD _ (by decide)]; exact q502
     have r17 := hS2 1017 (by decide)
     rw [AB] at r17
     obtain ⟨kk, hkk⟩ : ∃ kk, (ky ++ (List.range c).map fun k => part.getD (stp a R sy.1 (v.set k i)) 0) = kk := ⟨_, rfl⟩
     have hkk1 : ky ++ ((List.range (c + 1)).map fun k => part.getD (stp a R sy.1 (v.set k i)) 0) = kk ++ [part.getD (stp a R sy.1 (v.set c i)) 0] := by rw [← hkk, List.range_succ, List.map_append, List.append_assoc]; rfl
     have hkkl : kk.length ≤ 500002 := by rw [← hkk, List.length_append, List.length_map, List.length_range]; omega
     rw [hkk] at r17 hS2
     by_cases hcl2 : c < sy.2
     ·obtain ⟨vc, hvc⟩ := Aq (show c < v.length by omega)
      have hvc' := BY hvc
      have hcl3 : c < (AU v).length := by omega
      have hvsl : (v.set c i).length = sy.2 := by rw [List.length_set, hvl]
      have hvsi : ∀ x ∈ v.set c i, x < R.length := fun x hx => by
       rcases List.mem_or_eq_of_mem_set hx with h | h
       ·exact hvi x h
       ·omega
      have hset1 : (AU v).set c [.int .i64 (i : Int)] = AU (v.set c i) := Cs v c i
      have hset2 : (AU (v.set c i)).set c [.int .i64 (vc : Int)] = AU v := by
       rw [Cs, List.set_set, Ps hvc]
      obtain ⟨vs, hvs⟩ : ∃ vs, v.set c i = vs := ⟨_, rfl⟩
      rw [hvs] at hset1 hset2 hvsl hvsi hkk1
      have hel3 : (AU vs).length = sy.2 := by rw [BF, hvsl]
      repeat' with_reducible first | refine W ?_ | refine Z0 ?_ | ((first | refine Wo fun K hK => ?_ | refine Wp ?_ | refine Wq ?_ | refine Wr ?_); (try simp only [go_sem, fN, seval, eT, iR, y1, y6, y7, y10, y16, y17, y19, y20, y107, y108, z132, r502, r16, hcl2, hel, hvl, hvc', hcl3, hset1, hel3, dT, dF, nL]); (repeat refine Ai ?_); (try (refine hK _ ?_; clear hK K)); try refine iC ?_)
      refine IWP.ghost (AZ.own 23 132 65 1 rfl (by simp only [go_sem, fN, seval, eT, iR, z132]) (by simp) (by rw [hC', hC]; decide)) ?_
      refine IWP.loop (fun q s => ∃ m, m ≤ sy.2 ∧ q = sy.2 - m ∧ s.env 1 = .one (.ptr 1001 1 0 0) ∧ s.env 6 = .one (.ptr 1006 1 0 0) ∧ s.env 7 = .one (.ptr 1007 1 0 0) ∧ s.env 10 = .one (.ptr 1010 1 0 0) ∧ s.env 16 = .one (.ptr 1016 1 0 0) ∧ s.env 17 = .one (.ptr 1017 1 0 0) ∧ s.env 19 = .one (.ptr 1019 1 0 0) ∧ s.env 20 = .one (.row 1502 sy.2) ∧ s.env 21 = AP c ∧ s.env 22 = AP vc ∧ s.env 23 = .one (.row 132 m) ∧ s.env 107 = AP sy.2 ∧ s.env 108 = AP c ∧ s.env 119 = .one (.row 1502 sy.2) ∧ s.env 120 = AP sy.2 ∧ s.env 121 = AP m ∧
       s.S 132 = some (.arow 65 1 (((Ae R (vs.take m)).map Prod.fst).map Hk)) ∧ ∀ z, 1000 ≤ z → s.S z = AF S2 1502 (some (.mrow 3 1 (AU vs))) z) sy.2
       ⟨0, Nat.zero_le _, rfl, y1, y6, y7, y10, y16, y17, y19, y20, by simp only [go_sem, fN, seval, eT, iR, y108], by simp only [go_sem, fN, seval, eT, iR], rfl, by simp only [go_sem, fN, seval, eT, iR, y107], by simp only [go_sem, fN, seval, eT, iR, y108], by simp only [go_sem, fN, seval, eT, iR, y20], by simp only [go_sem, fN, seval, eT, iR], rfl, by (simp only [go_sem, fN, seval, eT, iR]; rfl), fun z hz => ?_⟩ ?_
      ·show AF (AF S2 1502 _) 132 _ z = _
       rw [AD _ (by omega)]
      clear y1 y6 y7 y10 y16 y17 y19 y20 y107 y108
      rintro q3 ⟨env3, S3⟩ ⟨m, hm, rfl, y1, y6, y7, y10, y16, y17, y19, y20, y21, y22, y23, y107, y108, y119, y120, y121, z132, hS3⟩
      simp only at y1 y6 y7 y10 y16 y17 y19 y20 y21 y22 y23 y107 y108 y119 y120 y121 z132 hS3
      have t1 := (hS3 1001 (by decide)).trans ((AD _ (by decide) _).trans r1)
      have t6 := (hS3 1006 (by decide)).trans ((AD _ (by decide) _).trans r6)
      have t7 := (hS3 1007 (by decide)).trans ((AD _ (by decide) _).trans r7)
      have t45 := (hS3 1045 (by decide)).trans ((AD _ (by decide) _).trans r45)
      have t10 := (hS3 1010 (by decide)).trans ((AD _ (by decide) _).trans r10)
      have t60 := (hS3 1060 (by decide)).trans ((AD _ (by decide) _).trans r60)
      have t17 := (hS3 1017 (by decide)).trans ((AD _ (by decide) _).trans r17)
      have t19 := (hS3 1019 (by decide)).trans ((AD _ (by decide) _).trans r19)
      have t502 := (hS3 1502 (by decide)).trans (AB _ _ _)
      have hl132 : (((Ae R (vs.take m)).map Prod.fst).map Hk).length = m := by rw [List.length_map, List.length_map, B4, List.length_take]; omega
      by_cases hms : m < sy.2
      ·obtain ⟨x, hxm⟩ := Aq (show m < vs.length by omega)
       have hxo := hvsi x (AY hxm)
       have hxm' := BY hxm
       obtain ⟨jx, hjx⟩ := Aq hxo
       have hpt : Ae R (vs.take (m + 1)) = Ae R (vs.take m) ++ [jx] := by
        rw [Ay hxm]
        unfold Ae
        rw [List.map_append, List.map_cons, List.map_nil, List.getD_eq_getElem?_getD, hjx]
        rfl
       repeat' with_reducible first | refine W ?_ | refine Z0 ?_ | ((first | refine Wo fun K hK => ?_ | refine Wp ?_ | refine Wq ?_ | refine Wr ?_); (try simp only [go_sem, fN, seval, eT, iR, y1, y6, y7, y10, y16, y17, y19, y20, y21, y22, y23, y107, y108, y119, y120, y121, z132, t6, t502, hms, hxm', hjx, hl132, hel3, hvsl, Cw, D6, dT, dF, nL]); (repeat refine Ai ?_); (try (refine hK _ ?_; clear hK K)); try refine iC ?_)
       refine AI ⟨sy.2 - (m + 1), by omega, m + 1, by omega, rfl, y1, y6, y7, y10, y16, y17, y19, y20, y21, y22, by simp only [go_sem, fN, seval, eT, iR], y107, y108, y119, y120, rfl, ?_, fun z hz => ?_⟩
       ·rw [hpt]
        simp only [go_sem, fN, seval, eT, iR]
        simp [Hk]
       ·show AF S3 132 _ z = _
        rw [AD _ (by omega)]
        exact hS3 z hz
      ·have hme : m = sy.2 := by omega
       have hmt : vs.take m = vs := by rw [hme, ← hvsl]; exact List.take_length
       rw [hmt] at z132 hl132
       have hbelow : ∀ x ∈ Ae R vs, x.1.length = a.states.toNat := fun x hx' => (hx x (Cr hvsi x hx')).1
       have hfa := JN a ga (by omega) (by omega) sy.1 ((Ae R vs).map Prod.fst) (fun l hl => by
        obtain ⟨x, hx', rfl⟩ := List.mem_map.1 hl
        exact hbelow x hx') (by rw [List.length_map, B4]; omega)
       have hmem := hclosed hsm (l := Ae R vs) (by rw [B4, hvsl]) (Cr hvsi)
       have hxR : a.ending sy.1 ((Ae R vs).map Prod.fst) ∈ R.map Prod.fst := List.mem_map.2 ⟨_, hmem, rfl⟩
       have hg := GL (c := a.states.toNat) R 0 (a.ending sy.1 ((Ae R vs).map Prod.fst)) (fun j hj => (hx j hj).1) (Au.ending_length _ _ _)
       rw [if_pos hxR, Nat.zero_add] at hg
       have hst : stp a R sy.1 vs = (R.map Prod.fst).idxOf (a.ending sy.1 ((Ae R vs).map Prod.fst)) := rfl
       have hstl : stp a R sy.1 vs < R.length := by
        rw [hst]
        have := List.idxOf_lt_length_of_mem hxR
        rwa [List.length_map] at this
       rw [← hst] at hg
       obtain ⟨ps, hps⟩ := Aq (show stp a R sy.1 vs < part.length by omega)
       have hps' := BY hps
       have hpsd : part.getD (stp a R sy.1 vs) 0 = ps := by rw [List.getD_eq_getElem?_getD, hps]; rfl
       have hpsl : ps ≤ 64 := by have := hpe (stp a R sy.1 vs); omega
       have henc2 := G9 (p := ps) (by omega)
       have hi322 : inR .i32 ((ps : Int) + 1) := ⟨by show (-2147483648 : Int) ≤ _; omega, by show _ ≤ (2147483647 : Int); omega⟩
       have hcat := Jd kk [ps]
       have hsz : (BJ kk).size + (BJ [ps]).size ≤ maxLen := by rw [Iu, Iu, DM, List.length_singleton]; omega
       rw [hpsd] at hkk1
       have hcl4 : c < (AU vs).length := by omega
       obtain ⟨vz, hvz⟩ := Aq (show c < vs.length by omega)
       have hvz' := BY hvz
       generalize stp a R sy.1 vs = st at *
       repeat' (first | (with_reducible first | refine W ?_ | refine Z0 ?_ | ((first | refine Wo fun K hK => ?_ | refine Wp ?_ | refine Wq ?_ | refine Wr ?_); (try simp only [go_sem, fN, seval, eT, iR, y1, y6, y7, y10, y16, y17, y19, y20, y21, y22, y23, y107, y108, y119, y120, y121, z132, t1, t6, t7, t10, t17, t19, t45, t60, t502, AT, hms, hl132, hel3, hvsl, BU, D5, KV.of, hg, Ga, hps', hpel, hstl, hi322, henc2, hcat, hsz, hcl2, hcl3, hcl4, hvz', hset2, dT, dF, nL]); (repeat refine Ai ?_); (try (refine hK _ ?_; clear hK K)); try refine iC ?_)) | refine Cg _ (hfa) ?_)
       refine AI ⟨sy.2 - (c + 1), by omega, c + 1, by omega, rfl, by simp only [go_sem, fN, seval, AS.drop, Ag, AC.clears, AC.clear, AC.highs, AC.high, Bool.not_false, Bool.true_and, Bool.and_self, AV.purge, AV.purges, AC.purge, AG.purge, List.contains_cons, List.contains_nil, Nat.reduceBEq, Bool.or_self, Bool.or_false, Bool.false_or, Bool.or_true, eT, iR, y1], by simp only [go_sem, fN, seval, AS.drop, Ag, AC.clears, AC.clear, AC.highs, AC.high, Bool.not_false, Bool.true_and, Bool.and_self, AV.purge, AV.purges, AC.purge, AG.purge, List.contains_cons, List.contains_nil, Nat.reduceBEq, Bool.or_self, Bool.or_false, Bool.false_or, Bool.or_true, eT, iR, y6], by simp only [go_sem, fN, seval, AS.drop, Ag, AC.clears, AC.clear, AC.highs, AC.high, Bool.not_false, Bool.true_and, Bool.and_self, AV.purge, AV.purges, AC.purge, AG.purge, List.contains_cons, List.contains_nil, Nat.reduceBEq, Bool.or_self, Bool.or_false, Bool.false_or, Bool.or_true, eT, iR, y7], by simp only [go_sem, fN, seval, AS.drop, Ag, AC.clears, AC.clear, AC.highs, AC.high, Bool.not_false, Bool.true_and, Bool.and_self, AV.purge, AV.purges, AC.purge, AG.purge, List.contains_cons, List.contains_nil, Nat.reduceBEq, Bool.or_self, Bool.or_false, Bool.false_or, Bool.or_true, eT, iR, y10], by simp only [go_sem, fN, seval, AS.drop, Ag, AC.clears, AC.clear, AC.highs, AC.high, Bool.not_false, Bool.true_and, Bool.and_self, AV.purge, AV.purges, AC.purge, AG.purge, List.contains_cons, List.contains_nil, Nat.reduceBEq, Bool.or_self, Bool.or_false, Bool.false_or, Bool.or_true, eT, iR, y16], by simp only [go_sem, fN, seval, AS.drop, Ag, AC.clears, AC.clear, AC.highs, AC.high, Bool.not_false, Bool.true_and, Bool.and_self, AV.purge, AV.purges, AC.purge, AG.purge, List.contains_cons, List.contains_nil, Nat.reduceBEq, Bool.or_self, Bool.or_false, Bool.false_or, Bool.or_true, eT, iR, y17], by simp only [go_sem, fN, seval, AS.drop, Ag, AC.clears, AC.clear, AC.highs, AC.high, Bool.not_false, Bool.true_and, Bool.and_self, AV.purge, AV.purges, AC.purge, AG.purge, List.contains_cons, List.contains_nil, Nat.reduceBEq, Bool.or_self, Bool.or_false, Bool.false_or, Bool.or_true, eT, iR, y19], by simp only [go_sem, fN, seval, AS.drop, Ag, AC.clears, AC.clear, AC.highs, AC.high, Bool.not_false, Bool.true_and, Bool.and_self, AV.purge, AV.purges, AC.purge, AG.purge, List.contains_cons, List.contains_nil, Nat.reduceBEq, Bool.or_self, Bool.or_false, Bool.false_or, Bool.or_true, eT, iR, y20], by simp only [go_sem, fN, seval, AS.drop, Ag, AC.clears, AC.clear, AC.highs, AC.high, Bool.not_false, Bool.true_and, Bool.and_self, AV.purge, AV.purges, AC.purge, AG.purge, List.contains_cons, List.contains_nil, Nat.reduceBEq, Bool.or_self, Bool.or_false, Bool.false_or, Bool.or_true, eT, iR, y107], by (simp only [go_sem, fN, seval, AS.drop, Ag, AC.clears, AC.clear, AC.highs, AC.high, Bool.not_false, Bool.true_and, Bool.and_self, AV.purge, AV.purges, AC.purge, AG.purge, List.contains_cons, List.contains_nil, Nat.reduceBEq, Bool.or_self, Bool.or_false, Bool.false_or, Bool.or_true, eT, iR, y108]; rfl), by simp only [go_sem, fN, seval, AS.drop, Ag, AC.clears, AC.clear, AC.highs, AC.high, Bool.not_false, Bool.true_and, Bool.and_self, AV.purge, AV.purges, AC.purge, AG.purge, List.contains_cons, List.contains_nil, Nat.reduceBEq, Bool.or_self, Bool.or_false, Bool.false_or, Bool.or_true, eT, iR], Lu (T := AF S1 1017 (some (.box 9 [.st (.str (BJ (ky ++ (List.range (c + 1)).map fun k => part.getD (stp a R sy.1 (v.set k i)) 0)))]))) (by decide) (Ak hWc (by decide) rfl) fun z hz => ?_⟩
       show AF (AF S3 1017 _) 1502 _ z = _
       rw [hkk1]
       by_cases c1 : z = 1502
       ·subst c1
        rw [AB, AD _ (by decide)]
        exact q502.symm
       by_cases c2 : z = 1017
       ·subst c2
        rw [AD _ c1, AB, AB]
       rw [AD _ c1, AD _ c2, hS3 z hz, AD _ c1, hS2 z hz, AD _ c2, AD _ c2]
     ·have hce : c = sy.2 := by omega
      have hkkf : kk = (pre ++ [v]).foldl (DL a R part sy.1 i) key := by
       rw [hsnoc, ← hkk, hce]
       unfold DL
       rw [hvl]
      repeat' with_reducible first | refine W ?_ | refine Z0 ?_ | ((first | refine Wo fun K hK => ?_ | refine Wp ?_ | refine Wq ?_ | refine Wr ?_); (try simp only [go_sem, fN, seval, eT, iR, y107, y108, hcl2, dT, dF, nL]); (repeat refine Ai ?_); (try (refine hK _ ?_; clear hK K)); try refine iC ?_)
      refine GJ (AF (Dx S kk) 1502 (some (.mrow 3 1 (AU v)))) (Ak (Ak Fk (by decide) rfl) (by decide) hb1) (by rw [AD _ (by decide), Cu (by decide)]; show upS S (up1 501) = none; rw [B8, s501]; rfl) (fun z hz => ?_) ⟨_, rfl, ?_, by rw [hkkf]⟩
      ·show S2 z = _
       rw [hS2 z hz, ← hW]
       by_cases c1 : z = 1501
       ·subst c1
        rw [AD _ (by decide), AB, AB]
       by_cases c2 : z = 1502
       ·subst c2
        rw [AD _ (by decide), AD _ c1, AB, AD _ c1, AB]
       by_cases c3 : z = 1017
       ·subst c3
        rw [AB, AD _ c1, AD _ c2]
        exact (AB _ _ _).symm
       rw [AD _ c3, AD _ c1, AD _ c2, AD _ c1, AD _ c2, Cu c3, Cu c3]
      ·rw [Cu (by decide)]
       show upS S (up1 502) = none
       rw [B8, s502]
       rfl
    ·rintro U bb rfl
     rw [LZ]
     have hsy : (C5 R.length sy.2).foldl (DL a R part sy.1 i) key = FP a R part i key sy := rfl
     rw [hsy, ← hfold]
     repeat' with_reducible first | refine W ?_ | refine Z0 ?_ | ((first | refine Wo fun K hK => ?_ | refine Wp ?_ | refine Wq ?_ | refine Wr ?_); (try simp only [go_sem, fN, seval, eT, iR, e96, dT, dF, nL]); (repeat refine Ai ?_); (try (refine hK _ ?_; clear hK K)); try refine iC ?_)
     refine AI ⟨syms.length - (k + 1), by omega, k + 1, by omega, rfl, ?_⟩
     simp only [go_sem, fN, seval, AS.drop, Ag, AC.clears, AC.clear, AC.highs, AC.high, Bool.not_false, Bool.true_and, Bool.and_self, AV.purge, AV.purges, AC.purge, AG.purge, List.contains_cons, List.contains_nil, Nat.reduceBEq, Bool.or_self, Bool.or_false, Bool.false_or, Bool.or_true, eT, iR, e1, e5, e6, e7, e10, e13, e14, e15, e16, e17, e83, e84, e94, e95, e96, s1, s6, s7, s45, s10, s60, s78, s81, s16, AT]
     rfl
   ·have hke : k = syms.length := by omega
    have hsg : syms.foldl (FP a R part i) [p] = sig a syms R part i := by unfold sig; rw [hpd]
    rw [hke, List.take_length, hsg] at s17
    have hks1 := CN (a := a) (syms := syms) (R := R) (part := part) i
    have hfr := OR (a := a) (syms := syms) (R := R) (part := part) (Nat.lt_succ_self i) hiR
    have hmg := ES (A4 a syms R part i) 0 (BJ (sig a syms R part i))
    have hmp := NG (l := A4 a syms R part i) (n := BJ (sig a syms R part i))
    have hkl : (A4 a syms R part i).length ≤ i := DT
    have hen := Hi (A4 a syms R part i) 0
    have hfk : (fresh a syms R part)[i]? = some (CG (A4 a syms R part (i + 1)) (BJ (sig a syms R part i))) := by
     unfold fresh
     rw [List.getElem?_map, List.getElem?_range hiR, ← hfr]
     rfl
    have hst := GA hfl hfk
    have hset : (AU (prog (fresh a syms R part) R.length i)).set i [.int .i64 (CG (A4 a syms R part (i + 1)) (BJ (sig a syms R part i)) : Int)] = AU (prog (fresh a syms R part) R.length (i + 1)) := by
     rw [← hst]
     exact Cs _ i _
    obtain ⟨z, hz⟩ := Aq (show i < (prog (fresh a syms R part) R.length i).length by rw [Fe hfl hi]; omega)
    have hz' := BY hz
    have hil : i < (AU (prog (fresh a syms R part) R.length i)).length := by omega
    rw [hks1] at hset
    by_cases hin : CG (A4 a syms R part i) (BJ (sig a syms R part i)) < (A4 a syms R part i).length
    ·rw [if_pos hin, Nat.zero_add] at hmg
     have hadd : FB (A4 a syms R part i) (BJ (sig a syms R part i)) = A4 a syms R part i := if_pos hin
     rw [hadd] at hset hks1
     repeat' with_reducible first | refine W ?_ | refine Z0 ?_ | ((first | refine Wo fun K hK => ?_ | refine Wp ?_ | refine Wq ?_ | refine Wr ?_); (try simp only [go_sem, fN, seval, eT, iR, e1, e5, e6, e7, e10, e13, e14, e15, e16, e17, e83, e84, e94, e95, e96, s1, s6, s7, s45, s10, s60, s78, s81, s16, s17, s19, s501, s502, hks, BU, D5, KV.of, hmg, Ga, hprl, hil, hz', hset, hiR, dT, dF, nL]); (repeat refine Ai ?_); (try (refine hK _ ?_; clear hK K)); try refine iC ?_)
     refine AI ⟨R.length - (i + 1), by omega, i + 1, by omega, rfl, ?_⟩
     rw [hks1]
     simp only [go_sem, fN, seval, AS.drop, Ag, AC.clears, AC.clear, AC.highs, AC.high, Bool.not_false, Bool.true_and, Bool.and_self, AV.purge, AV.purges, AC.purge, AG.purge, List.contains_cons, List.contains_nil, Nat.reduceBEq, Bool.or_self, Bool.or_false, Bool.false_or, Bool.or_true, eT, iR, e1, e5, e6, e7, e10, e13, e14, e15, e16, e17, e83, e84, e94, e95, e96, s1, s6, s7, s45, s10, s60, s78, s81, s16, s17, s19, s501, s502, AT]
     rfl
    ·rw [if_neg hin] at hmg
     have hmp' := hmp hin
     have hnew := ES (FB (A4 a syms R part i) (BJ (sig a syms R part i))) 0 (BJ (sig a syms R part i))
     rw [if_pos (Du.2 (Ki.2 (.inr rfl))), Nat.zero_add] at hnew
     repeat' with_reducible first | refine W ?_ | refine Z0 ?_ | ((first | refine Wo fun K hK => ?_ | refine Wp ?_ | refine Wq ?_ | refine Wr ?_); (try simp only [go_sem, fN, seval, eT, iR, e1, e5, e6, e7, e10, e13, e14, e15, e16, e17, e83, e84, e94, e95, e96, s1, s6, s7, s45, s10, s60, s78, s81, s16, s17, s19, s501, s502, hks, BU, D5, KV.of, hmg, hen, hmp', hnew, Ga, hprl, hil, hz', hset, hiR, dT, dF, nL]); (repeat refine Ai ?_); (try (refine hK _ ?_; clear hK K)); try refine iC ?_)
     refine AI ⟨R.length - (i + 1), by omega, i + 1, by omega, rfl, ?_⟩
     rw [hks1]
     simp only [go_sem, fN, seval, AS.drop, Ag, AC.clears, AC.clear, AC.highs, AC.high, Bool.not_false, Bool.true_and, Bool.and_self, AV.purge, AV.purges, AC.purge, AG.purge, List.contains_cons, List.contains_nil, Nat.reduceBEq, Bool.or_self, Bool.or_false, Bool.false_or, Bool.or_true, eT, iR, e1, e5, e6, e7, e10, e13, e14, e15, e16, e17, e83, e84, e94, e95, e96, s1, s6, s7, s45, s10, s60, s78, s81, s16, s17, s19, s501, s502, AT]
     rfl
  ·have hie : i = R.length := by omega
   rw [hie] at s78 s81
   rw [Jj hfl] at s81
   have hen := Hi (A4 a syms R part R.length) 0
   rw [← hnK] at hen
   by_cases hstop : nK a syms R t = B5 a syms R t
   ·have htT : t = T := by
     rcases Nat.lt_or_ge t T with h | h
     ·exact absurd hstop (hmin t h)
     ·omega
    rw [htT] at hstop e13 hen hnl
    rw [← hstop] at e13
    repeat' with_reducible first | refine W ?_ | refine Z0 ?_ | ((first | refine Wo fun K hK => ?_ | refine Wp ?_ | refine Wq ?_ | refine Wr ?_); (try simp only [go_sem, fN, seval, eT, iR, e1, e5, e6, e7, e10, e13, e14, e15, e83, e84, s78, hlt, BU, hen, dT, dF, nL]); (repeat refine Ai ?_); (try (refine hK _ ?_; clear hK K)); try refine iC ?_)
    simp only [go_sem, fN, seval, A6, AS.result, AO, AR, Av, e13]
   ·have htT : t < T := by
     rcases Nat.lt_or_ge t T with h | h
     ·exact h
     ·exact absurd (by rw [show t = T by omega]; exact hT) hstop
    have hstop' : ¬ ((nK a syms R t : Nat) : Int) = (B5 a syms R t : Nat) := by omega
    iterate 17 with_reducible first | refine W ?_ | refine Z0 ?_ | ((first | refine Wo fun K hK => ?_ | refine Wp ?_ | refine Wq ?_ | refine Wr ?_); (try simp only [go_sem, fN, seval, eT, iR, e1, e5, e6, e7, e10, e13, e14, e15, e83, e84, s78, hlt, BU, hen, hstop, hstop', dT, dF, nL]); (repeat refine Ai ?_); (try (refine hK _ ?_; clear hK K)); try refine iC ?_)
    refine IWP.ghost (AZ.drop [60] _ (by decide)) ?_
    refine IWP.at_ (fun env1 S1 => env1 1 = .one (.ptr 1 1 0 0) ∧ env1 5 = CZ syms ∧ env1 6 = .one (.ptr 6 1 0 0) ∧ env1 7 = .one (.ptr 7 1 0 0) ∧ env1 10 = .one (.ptr 10 1 0 0) ∧ env1 14 = .one (.mptr 78) ∧ env1 15 = .one (.row 81 R.length) ∧ S1 1 = some (AT a) ∧ S1 6 = some (.box 61 [.st (.list (R.map Cw))]) ∧ S1 7 = some (.box 70 [.mptr 45]) ∧ S1 45 = some (JA R) ∧ S1 10 = some (.box 23 [.any]) ∧ S1 60 = none ∧ S1 78 = some (Pb (A4 a syms R part R.length)) ∧ S1 81 = some (.mrow 3 1 (AU (fresh a syms R part))) ∧ S1 16 = none ∧ S1 17 = none ∧ S1 19 = none ∧ S1 501 = none ∧ S1 502 = none)
     (by simp only [go_sem, fN, seval, AS.drop, Ag, AC.clears, AC.clear, AC.highs, AC.high, Bool.not_false, Bool.true_and, Bool.and_self, AV.purge, AV.purges, AC.purge, AG.purge, List.contains_cons, List.contains_nil, Nat.reduceBEq, Bool.or_self, Bool.or_false, Bool.false_or, Bool.or_true, eT, iR, e1, e5, e6, e7, e10, e14, e15, s1, s6, s7, s45, s10, s78, s81, s16, s17, s19, s501, s502, AT]) ?_
    clear e1 e5 e6 e7 e10 e13 e14 e15 e83 e84 s1 s6 s7 s45 s10 s60 s78 s81 s16 s17 s19 s501 s502
    rintro env1 S1 ⟨e1, e5, e6, e7, e10, e14, e15, s1, s6, s7, s45, s10, s60, s78, s81, s16, s17, s19, s501, s502⟩
    refine IWP.ghost (AZ.renameM 15 81 60 1000 (e := 3) (wd := 1) (xs := AU (fresh a syms R part)) s81 (by rw [BF, hfl]; exact e15) s60 (by rw [BF, hfl]; omega) (by rw [hC]; decide)) ?_
    rw [BF, hfl]
    repeat' with_reducible first | refine W ?_ | refine Z0 ?_ | ((first | refine Wo fun K hK => ?_ | refine Wp ?_ | refine Wq ?_ | refine Wr ?_); (try simp only [go_sem, fN, seval, eT, iR, e1, e5, e6, e7, e10, e14, s10, s78, BU, hen, dT, dF, nL]); (repeat refine Ai ?_); (try (refine hK _ ?_; clear hK K)); try refine iC ?_)
    refine AI ⟨T + 1 - (t + 1), by omega, t + 1, by omega, rfl, ?_⟩
    rw [hnext, hprev]
    simp only [go_sem, fN, seval, AS.drop, Ag, AC.clears, AC.clear, AC.highs, AC.high, Bool.not_false, Bool.true_and, Bool.and_self, AV.purge, AV.purges, AC.purge, AG.purge, List.contains_cons, List.contains_nil, Nat.reduceBEq, Bool.or_self, Bool.or_false, Bool.false_or, Bool.or_true, eT, iR, e1, e5, e6, e7, e10, e14, s1, s6, s7, s45, s10, s78, s16, s17, s19, s501, s502, AT]

def Ci (n : Int) (m : Mv) : Mv := ⟨m.name, m.frm.map (n - ·), n - m.to_⟩
def A2 (n : Int) (a : Au) : Au := ⟨n + 1, a.moves.map (Ci n), a.last.map (n - ·)⟩
def phi (x : List Bool) : List Bool := false :: x.reverse
def Bh (j : J) : J := (phi j.1, j.2)
theorem L7 {x y : List Bool} (h : phi x = phi y) : x = y := by
 have := (List.cons.inj h).2
 simpa using this
theorem OA {i j : J} (h : Bh i = Bh j) : i = j := by
 unfold Bh at h
 simp only [Prod.mk.injEq] at h
 exact Prod.ext (L7 h.1) h.2
theorem Iz {x : List Bool} {n s : Int} (hn : x.length = n.toNat) (h0 : 0 ≤ s) (h1 : s < n) : (phi x).getD (n - s).toNat false = x.getD s.toNat false := by
 obtain ⟨k, hk⟩ : ∃ k : Nat, (n - s).toNat = k + 1 := ⟨(n - s).toNat - 1, by omega⟩
 unfold phi
 rw [hk, List.getD_cons_succ, List.getD_eq_getElem?_getD, List.getElem?_reverse (by omega), List.getD_eq_getElem?_getD]
 congr 2
 omega
theorem Pr {x : List Bool} {n s : Int} (hn : x.length = n.toNat) (h0 : 0 ≤ s) (h1 : s < n) : (phi x).set (n - s).toNat true = phi (x.set s.toNat true) := by
 obtain ⟨k, hk⟩ : ∃ k : Nat, (n - s).toNat = k + 1 := ⟨(n - s).toNat - 1, by omega⟩
 unfold phi
 rw [hk, List.set_cons_succ]
 refine congrArg (false :: ·) (List.ext_getElem? fun i => ?_)
 rcases Nat.lt_or_ge i x.length with hi | hi
 ·rw [List.getElem?_reverse (by simpa using hi), List.length_set]
  by_cases e : i = k
  ·subst e
   rw [List.getElem?_set_self (by simpa using hi), show x.length - 1 - i = s.toNat by omega, List.getElem?_set_self (by omega)]
  ·rw [List.getElem?_set_ne (by omega), List.getElem?_reverse hi, List.getElem?_set_ne (by omega)]
 ·rw [List.getElem?_eq_none (by simpa using hi), List.getElem?_eq_none (by simpa using hi)]
section
variable {a : Au} (ga : a.Good)
include ga
omit ga in
theorem Ip : ∀ {bs : List (List Bool)} {ss : List Int}, (∀ x ∈ bs, x.length = a.states.toNat) → (∀ s ∈ ss, 0 ≤ s ∧ s < a.states) → Be (bs.map phi) (ss.map (a.states - ·)) = Be bs ss
 | [], [], _, _ => rfl
 | [], s :: ss, _, _ => rfl
 | x :: bs, [], _, _ => rfl
 | x :: bs, s :: ss, hb, hs => by
  obtain ⟨h0, h1⟩ := hs s (by simp)
  have ih := Ip (bs := bs) (ss := ss) (fun y hy => hb y (by simp [hy])) fun t ht => hs t (by simp [ht])
  simp only [List.map_cons, Be]
  rw [ih, Iz (hb x (by simp)) h0 h1]
theorem KG {nm : ByteArray} {below : List (List Bool)} (hb : ∀ x ∈ below, x.length = a.states.toNat) : ∀ {ms : List Mv} {out : List Bool}, (∀ m ∈ ms, m ∈ a.moves) → out.length = a.states.toNat → (ms.map (Ci a.states)).foldl (Bw nm (below.map phi)) (phi out) = phi (ms.foldl (Bw nm below) out)
 | [], out, _, _ => rfl
 | m :: ms, out, hm, ho => by
  have hmm := hm m (by simp)
  obtain ⟨t0, t1⟩ := ga.to_ m hmm
  have hf : (Ci a.states m).fits nm (below.map phi) = m.fits nm below := by
   unfold Mv.fits Ci
   simp only
   rw [Ip hb (ga.frm m hmm)]
  have h1 : Bw nm (below.map phi) (phi out) (Ci a.states m) = phi (Bw nm below out m) := by
   unfold Bw
   rw [hf]
   split
   ·exact Pr ho t0 t1
   ·rfl
  simp only [List.map_cons, List.foldl_cons]
  rw [h1]
  exact KG hb (fun m' h' => hm m' (by simp [h'])) (by rw [Dn]; exact ho)
theorem E5 {nm : ByteArray} {below : List (List Bool)} (hb : ∀ x ∈ below, x.length = a.states.toNat) : (A2 a.states a).ending nm (below.map phi) = phi (a.ending nm below) := by
 have h := KG ga (nm := nm) hb (ms := a.moves) (out := List.replicate a.states.toNat false) (fun m h => h) (by simp)
 have e : phi (List.replicate a.states.toNat false) = List.replicate (A2 a.states a).states.toNat false := by
  unfold phi A2
  have := ga.states
  rw [List.reverse_replicate, show (a.states + 1).toNat = a.states.toNat + 1 by omega, List.replicate_succ]
 rw [e] at h
 exact h
theorem Kv : ∀ (N : Nat) (t : Tm), SizeOf.sizeOf t < N → (A2 a.states a).ends t = phi (a.ends t)
 | 0, _, h => by omega
 | N + 1, .mk n ts, hN => by
  rw [Au.ends_eq, Au.ends_eq, Au.endsL_eq, Au.endsL_eq, ← E5 ga (fun x hx => by
   obtain ⟨t, _, rfl⟩ := List.mem_map.1 hx
   exact Au.ends_length a t)]
  congr 1
  rw [List.map_map]
  exact List.map_congr_left fun t ht => Kv N t (by have := Tm.lt_of_mem (n := n) (show t ∈ ts from ht); omega)
theorem MZ {x : List Bool} (hx : x.length = a.states.toNat) : (A2 a.states a).fin (phi x) = a.fin x := by
 unfold Au.fin A2
 simp only [List.any_map]
 rw [Bool.eq_iff_iff, List.any_eq_true, List.any_eq_true]
 constructor
 ·rintro ⟨s, hs, h⟩
  obtain ⟨h0, h1⟩ := ga.last s hs
  exact ⟨s, hs, by rw [← Iz hx h0 h1]; exact h⟩
 ·rintro ⟨s, hs, h⟩
  obtain ⟨h0, h1⟩ := ga.last s hs
  exact ⟨s, hs, by show (phi x).getD (a.states - s).toNat false = true; rw [Iz hx h0 h1]; exact h⟩
theorem MC (t : Tm) : (A2 a.states a).acc t = a.acc t := by
 rw [Fa, Fa, Kv ga _ t (Nat.lt_succ_self _), MZ ga (Au.ends_length a t)]
omit ga in
theorem Gs : Ad [A2 a.states a] = Ad [a] := by
 unfold Ad
 refine FI fun x => ?_
 simp only [List.flatMap_cons, List.flatMap_nil, List.append_nil, A2, List.map_map]
 have : (Mv.sym ∘ Ci a.states) = Mv.sym := by
  funext m
  simp [Mv.sym, Ci]
 rw [this]
theorem Pn {nm : ByteArray} {l : List J} (hl : ∀ x ∈ l, x.1.length = a.states.toNat) : nxt (A2 a.states a) auZ nm (l.map Bh) = Bh (nxt a auZ nm l) := by
 unfold nxt Bh
 simp only [Prod.mk.injEq]
 refine ⟨?_, ?_⟩
 ·rw [← E5 ga (fun x hx => by
   obtain ⟨j, hj, rfl⟩ := List.mem_map.1 hx
   exact hl j hj), List.map_map, List.map_map]
  rfl
 ·rw [List.map_map]
  rfl
omit ga in
theorem Ir {out : List J} {l : List Nat} (hl : ∀ i ∈ l, i < out.length) : Ae (out.map Bh) l = (Ae out l).map Bh := by
 unfold Ae
 rw [List.map_map]
 refine List.map_congr_left fun i hi => ?_
 have := hl i hi
 simp [List.getD_eq_getElem?_getD, this]
omit ga in
theorem Od {out : List J} {j : J} : FU (out.map Bh) (Bh j) = (FU out j).map Bh := by
 unfold FU
 by_cases h : j ∈ out
 ·rw [if_pos h, if_pos (List.mem_map.2 ⟨j, h, rfl⟩)]
 ·rw [if_neg h, if_neg (fun h' => by
   obtain ⟨i, hi, e⟩ := List.mem_map.1 h'
   exact h (by rw [← OA e]; exact hi)), List.map_append]
  rfl
variable {syms : List Sym}
theorem Mq {out : List J} (hok : OkJ a auZ syms out) {nm : ByteArray} {l : List Nat} (hl : ∀ i ∈ l, i < out.length) : Br (A2 a.states a) auZ nm (out.map Bh) l = (Br a auZ nm out l).map Bh := by
 unfold Br
 rw [Ir hl, Pn ga (fun x hx => (hok.gen x (Cr hl x hx)).len.1), Od]
theorem Ix {s : Sym} (hs : s ∈ syms) {n : Nat} : ∀ {ls : List (List Nat)} {out : List J}, OkJ a auZ syms out → n ≤ out.length → (∀ l ∈ ls, l.length = s.2 ∧ ∀ i ∈ l, i < n) → ls.foldl (Br (A2 a.states a) auZ s.1) (out.map Bh) = (ls.foldl (Br a auZ s.1) out).map Bh
 | [], out, h, hn, hl => rfl
 | l :: ls, out, h, hn, hl => by
  obtain ⟨h1, h2⟩ := hl l (by simp)
  have hi : ∀ i ∈ l, i < out.length := fun i hi => Nat.lt_of_lt_of_le (h2 i hi) hn
  simp only [List.foldl_cons]
  rw [Mq ga h hi]
  exact Ix hs (h.step hs h1 hi) (Nat.le_trans hn (DY out l).length_le) fun l' hl' => hl l' (by simp [hl'])
theorem O3 {s : Sym} (hs : s ∈ syms) (h2 : s.2 ≤ 2) {out : List J} (h : OkJ a auZ syms out) : Cm (A2 a.states a) auZ (out.map Bh) s = (Cm a auZ out s).map Bh := by
 unfold Cm
 rw [List.length_map]
 exact Ix ga hs h (Nat.le_refl _) fun l hl => (Cy h2).1 hl
theorem IP (h2 : ∀ s ∈ syms, s.2 ≤ 2) : ∀ {ss : List Sym} {out : List J}, (∀ s ∈ ss, s ∈ syms) → OkJ a auZ syms out → ss.foldl (Cm (A2 a.states a) auZ) (out.map Bh) = (ss.foldl (Cm a auZ) out).map Bh
 | [], out, hs, h => rfl
 | s :: ss, out, hs, h => by
  simp only [List.foldl_cons]
  rw [O3 ga (hs s (by simp)) (h2 s (hs s (by simp))) h]
  exact IP h2 (fun x hx => hs x (by simp [hx])) (h.sym (hs s (by simp)) (h2 s (hs s (by simp))))
theorem MW (h2 : ∀ s ∈ syms, s.2 ≤ 2) : ∀ k, itJ (A2 a.states a) auZ syms k = (itJ a auZ syms k).map Bh
 | 0 => rfl
 | k + 1 => by
  show Er _ _ _ _ = (Er _ _ _ _).map Bh
  rw [MW h2 k]
  exact IP ga h2 (fun s hs => hs) (Gp h2 k)
theorem FH (h2 : ∀ s ∈ syms, s.2 ≤ 2) : Aw (A2 a.states a) auZ syms = (Aw a auZ syms).map Bh := MW ga h2 64
omit ga in
theorem H8 (x : List Bool) : ∀ L : List (List Bool), (L.map phi).idxOf (phi x) = L.idxOf x
 | [] => rfl
 | y :: L => by
  rw [List.map_cons, List.idxOf_cons, List.idxOf_cons, H8 x L]
  have : (phi y == phi x) = (y == x) := by
   rw [Bool.eq_iff_iff, beq_iff_eq, beq_iff_eq]
   exact ⟨L7, fun h => by rw [h]⟩
  rw [this]
variable {R : List J}
theorem Pj (hR : ∀ j ∈ R, j.1.length = a.states.toNat) {nm : ByteArray} {l : List Nat} (hl : ∀ i ∈ l, i < R.length) : stp (A2 a.states a) (R.map Bh) nm l = stp a R nm l := by
 unfold stp
 rw [Ir hl]
 have e1 : ((Ae R l).map Bh).map Prod.fst = ((Ae R l).map Prod.fst).map phi := by rw [List.map_map, List.map_map]; rfl
 have e2 : (R.map Bh).map Prod.fst = (R.map Prod.fst).map phi := by rw [List.map_map, List.map_map]; rfl
 rw [e1, e2, E5 ga (fun x hx => by
  obtain ⟨j, hj, rfl⟩ := List.mem_map.1 hx
  exact hR j (Cr hl j hj)), H8]
theorem L2 (hR : ∀ j ∈ R, j.1.length = a.states.toNat) (h2 : ∀ s ∈ syms, s.2 ≤ 2) (part : List Nat) {i : Nat} (hi : i < R.length) : sig (A2 a.states a) syms (R.map Bh) part i = sig a syms R part i := by
 have key : ∀ {ss : List Sym} {key : List Nat}, (∀ s ∈ ss, s ∈ syms) → ss.foldl (FP (A2 a.states a) (R.map Bh) part i) key = ss.foldl (FP a R part i) key := fun {ss} => by
  induction ss with
  | nil => intro key _; rfl
  | cons s ss ih =>
   intro key hs
   simp only [List.foldl_cons]
   have h1 : FP (A2 a.states a) (R.map Bh) part i key s = FP a R part i key s := by
    unfold FP
    rw [List.length_map]
    have hk : ∀ {ls : List (List Nat)} {key : List Nat}, (∀ l ∈ ls, ∀ x ∈ l, x < R.length) → ls.foldl (DL (A2 a.states a) (R.map Bh) part s.1 i) key = ls.foldl (DL a R part s.1 i) key := fun {ls} => by
     induction ls with
     | nil => intro key _; rfl
     | cons l ls ih2 =>
      intro key hl
      simp only [List.foldl_cons]
      have h3 : DL (A2 a.states a) (R.map Bh) part s.1 i key l = DL a R part s.1 i key l := by
       unfold DL
       congr 1
       refine List.map_congr_left fun k _ => ?_
       rw [Pj ga hR fun x hx => ?_]
       rcases List.mem_or_eq_of_mem_set hx with h | h
       ·exact hl l (by simp) x h
       ·omega
      rw [h3]
      exact ih2 fun l' hl' => hl l' (by simp [hl'])
    exact hk fun l hl => ((Cy (h2 s (hs s (by simp)))).1 hl).2
   rw [h1]
   exact ih fun x hx => hs x (by simp [hx])
 exact key fun s hs => hs
omit ga in
theorem Gw {α β : Type} {f g : β → α → β} : ∀ {l : List α} {L : β}, (∀ x ∈ l, ∀ L, f L x = g L x) → l.foldl f L = l.foldl g L
 | [], L, _ => rfl
 | x :: l, L, h => by
  rw [List.foldl_cons, List.foldl_cons, h x (by simp) L]
  exact Gw fun y hy => h y (by simp [hy])
theorem PP (hR : ∀ j ∈ R, j.1.length = a.states.toNat) (h2 : ∀ s ∈ syms, s.2 ≤ 2) (part : List Nat) {i : Nat} (hi : i < R.length) : BJ (sig (A2 a.states a) syms (R.map Bh) part i) = BJ (sig a syms R part i) := congrArg BJ (L2 ga hR h2 part hi)
theorem It (hR : ∀ j ∈ R, j.1.length = a.states.toNat) (h2 : ∀ s ∈ syms, s.2 ≤ 2) (part : List Nat) {k : Nat} (hk : k ≤ R.length) : A4 (A2 a.states a) syms (R.map Bh) part k = A4 a syms R part k :=
 Gw fun i hi L => congrArg (FB L) (PP ga hR h2 part (Nat.lt_of_lt_of_le (List.mem_range.1 hi) hk))
theorem Ic (hR : ∀ j ∈ R, j.1.length = a.states.toNat) (h2 : ∀ s ∈ syms, s.2 ≤ 2) : ∀ t, BQ (A2 a.states a) syms (R.map Bh) t = BQ a syms R t
 | 0 => by
  unfold BQ DQ
  rw [List.map_map]
  refine List.map_congr_left fun j hj => ?_
  show (if (A2 a.states a).fin (phi j.1) = true then 1 else 0) = _
  rw [MZ ga (hR j hj)]
 | t + 1 => by
  show fresh _ _ _ _ = fresh _ _ _ _
  rw [Ic hR h2 t]
  unfold fresh
  rw [List.length_map]
  refine List.map_congr_left fun i hi => ?_
  rw [It ga hR h2 _ (Nat.le_refl _), L2 ga hR h2 _ (List.mem_range.1 hi)]
theorem O6 (hR : ∀ j ∈ R, j.1.length = a.states.toNat) (h2 : ∀ s ∈ syms, s.2 ≤ 2) (t : Nat) : nK (A2 a.states a) syms (R.map Bh) t = nK a syms R t := by
 unfold nK
 rw [Ic ga hR h2, List.length_map, It ga hR h2 _ (Nat.le_refl _)]
theorem NH (hR : ∀ j ∈ R, j.1.length = a.states.toNat) (h2 : ∀ s ∈ syms, s.2 ≤ 2) : ∀ t, B5 (A2 a.states a) syms (R.map Bh) t = B5 a syms R t
 | 0 => rfl
 | t + 1 => O6 ga hR h2 t
end

set_option maxRecDepth 100000


def sep (k : Nat) : ByteArray := if k = 0 then ⟨#[40]⟩ else ⟨#[44]⟩
mutual
def Tm.text : Tm → ByteArray
 | .mk n xs => n ++ Tm.textsFrom 0 xs ++ (if xs.length = 0 then ⟨#[]⟩ else ⟨#[41]⟩)
def Tm.textsFrom : Nat → List Tm → ByteArray
 | _, [] => ⟨#[]⟩
 | k, t :: ts => sep k ++ t.text ++ Tm.textsFrom (k+1) ts
end
def Tm.ahead (t : Tm) (k : Nat) : ByteArray := t.name ++ Tm.textsFrom 0 (t.args.take k)

def Qb (a b : Tm) : Bool := if a.size = b.size then sLt a.text b.text else decide (a.size < b.size)
abbrev Fb := List (Option Tm)
def P7 (best : Fb) : List Int → Option (List Tm)
 | [] => some []
 | s :: ss => match best.getD s.toNat none with
  | none => none
  | some t => (P7 best ss).map (t :: ·)
def Mv.cand (best : Fb) (m : Mv) : Option Tm := match P7 best m.frm with
 | none => none
 | some ts => if (Tm.mk m.name ts).size ≤ 2000 then some (.mk m.name ts) else none
def Mv.gain (best : Fb) (m : Mv) : Option Tm := match m.cand best with
 | none => none
 | some t => match best.getD m.to_.toNat none with
  | none => some t
  | some b => if Qb t b = true then some t else none
def QY (best : Fb) (m : Mv) : Fb := match m.gain best with
 | none => best
 | some t => best.set m.to_.toNat (some t)
def QW (p : Fb × Bool) (m : Mv) : Fb × Bool := (QY p.1 m, p.2 || (m.gain p.1).isSome)
def pass (ms : List Mv) (best : Fb) : Fb × Bool := ms.foldl QW (best, false)
@[irreducible] def Qg : Nat := 20000






abbrev bT : TypeId := 130
abbrev u8T : TypeId := 5
structure Bld (S : AA) (a0 r : Nat) (bs : ByteArray) : Prop where
 ha : 1000 ≤ a0
 hr : 1000 ≤ r
 ne : a0 ≠ r
 box : ∃ p, (p = .st (.lit (.pointer none)) ∨ p = .ptr a0 1 0 0) ∧ S a0 = some (.box bT [p, .row r bs.size])
 row : S r = some (.mrow u8T 1 (Al bs))
def QC (S : AA) (a0 r : Nat) (bs : ByteArray) : AA := AF (AF S a0 (some (.box bT [.ptr a0 1 0 0, .row r bs.size]))) r (some (.mrow u8T 1 (Al bs)))
theorem Bld.next {S : AA} {a0 r : Nat} {bs cs : ByteArray} (h : Bld S a0 r bs) : Bld (QC S a0 r cs) a0 r cs :=
 ⟨h.ha, h.hr, h.ne, ⟨_, .inr rfl, by unfold QC; rw [AD _ h.ne, AB]⟩, by unfold QC; rw [AB]⟩






section
variable {C : Ctx} {s : AS}
end


set_option maxHeartbeats 4000000


def Ey : IR :=
 (.seq (.ops [.i 8 (.alloc 25 [.st (.int .i64 0), .full [], .full []])]) (.seq (.ops [.m 16 2, .i 17 (.build [.st (.int .i64 0), .full [], .full []] [(0, 1, .t 16)]), .i 9 (.alloc 25 [.st (.int .i64 0), .full [], .full []]), .s 3 9 17]) (.seq (.seq (.ops [.i 10 (.mov (.n 0))]) (.block 0 (.loop (.seq (.seq (.ops [.m 18 10, .m 19 3, .i 20 (.bin .lss (.t 18) (.t 19))]) (.cond (.t 20) .skip (.exit 0))) (.seq (.block 1 (.seq (.ops [.m 23 0, .m 24 1, .m 25 10, .i 26 (.bin .mul (.n 4) (.t 25)), .i 27 (.bin .add (.t 24) (.t 26)), .i 28 (.call 37 [.t 23, .t 27]), .m 11 28]) (.seq (.ops [.i 29 (.buildFlat [.n 0, .n 0, .n 1, .n 2]), .m 30 11, .i 31 (.call 15 [.t 30, .n 4]), .i 32 (.indexAddr 1 (.t 29) (.t 31)), .l 33 32, .m 12 33]) (.seq (.ops [.i 34 (.buildFlat [.c (.one (.st (.str (ByteArray.mk (#[97]))))), .c (.one (.st (.str (ByteArray.mk (#[98]))))), .c (.one (.st (.str (ByteArray.mk (#[104]))))), .c (.one (.st (.str (ByteArray.mk (#[102])))))]), .m 35 11, .i 36 (.call 15 [.t 35, .n 4]), .i 37 (.indexAddr 1 (.t 34) (.t 36)), .l 38 37, .m 39 0, .m 40 1, .m 41 10, .i 42 (.bin .mul (.n 4) (.t 41)), .i 43 (.bin .add (.t 40) (.t 42)), .i 44 (.bin .add (.t 43) (.n 1)), .i 45 (.call 37 [.t 39, .t 44]), .m 46 2, .i 47 (.call 15 [.t 45, .t 46]), .i 48 (.build [.st (.str (ByteArray.mk (#[]))), .full [], .st (.int .i64 0)] [(0, 1, .t 38), (2, 1, .t 47)]), .i 13 (.alloc 46 [.st (.str (ByteArray.mk (#[]))), .full [], .st (.int .i64 0)]), .s 3 13 48]) (.seq (.seq (.ops [.i 14 (.mov (.n 0))]) (.block 2 (.loop (.seq (.seq (.ops [.m 49 14, .m 50 12, .i 51 (.bin .lss (.t 49) (.t 50))]) (.cond (.t 51) .skip (.exit 2))) (.seq (.block 3 (.ops [.f 54 1 13, .l 55 54, .m 56 0, .m 57 1, .m 58 10, .i 59 (.bin .mul (.n 4) (.t 58)), .i 60 (.bin .add (.t 57) (.t 59)), .i 61 (.bin .add (.t 60) (.n 2)), .m 62 14, .i 63 (.bin .add (.t 61) (.t 62)), .i 64 (.call 37 [.t 56, .t 63]), .m 65 2, .i 66 (.call 15 [.t 64, .t 65]), .i 67 (.buildFlat [.t 66]), .i 68 (.append false 3 1 8 (.t 55) (.t 67)), .f 69 1 13, .s 1 69 68])) (.ops [.m 52 14, .i 53 (.bin .add (.t 52) (.n 1)), .m 14 53])))))) (.ops [.f 70 1 9, .l 71 70, .L 72 3 13, .i 73 (.buildSlice false 46 3 [.t 72]), .i 74 (.append false 46 3 48 (.t 71) (.t 73)), .f 75 1 9, .s 1 75 74])))))) (.ops [.m 21 10, .i 22 (.bin .add (.t 21) (.n 1)), .m 10 22])))))) (.seq (.seq (.ops [.i 15 (.mov (.n 0))]) (.block 4 (.loop (.seq (.seq (.ops [.m 76 15, .m 77 2, .i 78 (.bin .lss (.t 76) (.t 77))]) (.cond (.t 78) .skip (.exit 4))) (.seq (.block 5 (.seq (.ops [.m 81 0, .m 82 1, .m 83 15, .i 84 (.bin .add (.t 82) (.t 83)), .i 85 (.bin .add (.t 84) (.n 3)), .i 86 (.call 37 [.t 81, .t 85]), .i 87 (.call 15 [.t 86, .n 3]), .i 88 (.bin .eql (.t 87) (.n 0))]) (.cond (.t 88) (.ops [.f 89 2 9, .l 90 89, .m 91 15, .i 92 (.buildFlat [.t 91]), .i 93 (.append false 3 1 8 (.t 90) (.t 92)), .f 94 2 9, .s 1 94 93]) .skip))) (.ops [.m 79 15, .i 80 (.bin .add (.t 79) (.n 1)), .m 15 80])))))) (.seq (.ops [.L 95 3 9, .s 3 8 95]) .ret)))))
theorem H0 : OkF Try.prog 14 96 [] Ey [.cell 8 true 3] := .of Try.func14 rfl rfl (by kernel_rfl) rfl

def Iw : IR :=
 (.seq (.ops [.i 4 (.mov (.n 0))]) (.seq (.seq (.ops [.m 5 0, .i 6 (.bin .lss (.t 5) (.n 0))]) (.cond (.t 6) (.ops [.m 7 0, .i 8 (.bin .add (.t 7) (.n 1)), .i 9 (.un .neg (.t 8)), .m 0 9]) .skip)) (.seq (.ops [.m 10 0, .m 11 1, .i 12 (.bin .rem (.t 10) (.t 11)), .m 4 12]) .ret)))
theorem NR : OkF Try.prog 15 13 [] Iw [.t 4] := .of Try.func15 rfl rfl (by kernel_rfl) rfl
def Kc : IR :=
 (.seq (.ops [.i 4 (.mov (.n 0))]) (.seq (.seq (.ops [.m 5 0, .i 6 (.len false (.t 5)), .i 7 (.bin .eql (.t 6) (.n 0))]) (.cond (.t 7) (.seq (.ops [.m 8 1, .i 9 (.bin .mul (.t 8) (.n 31)), .m 4 9]) .ret) .skip)) (.seq (.ops [.m 10 0, .m 11 1, .m 12 0, .i 13 (.len false (.t 12)), .i 14 (.bin .rem (.t 11) (.t 13)), .i 15 (.indexAddr 1 (.t 10) (.t 14)), .l 16 15, .i 17 (.call 15 [.t 16, .n 1000003]), .m 18 1, .m 19 0, .i 20 (.len false (.t 19)), .i 21 (.bin .quo (.t 18) (.t 20)), .i 22 (.bin .mul (.t 21) (.n 7919)), .i 23 (.bin .add (.t 17) (.t 22)), .m 4 23]) .ret)))
theorem OD : OkF Try.prog 37 24 [] Kc [.t 4] := .of Try.func37 rfl rfl (by kernel_rfl) rfl

def BC (c n : Int) : Int := (if c < 0 then -(c + 1) else c) % n
theorem BI (c n : Int) (hn : 1 ≤ n) : 0 ≤ BC c n ∧ BC c n < n := ⟨Int.emod_nonneg _ (by omega), Int.emod_lt_of_pos _ (by omega)⟩
theorem E7 {x n : Int} (hx : 0 ≤ x) (hn : 1 ≤ n) : x.tmod n = x % n ∧ 0 ≤ x % n ∧ x % n < n ∧ x % n ≤ x := by
 rw [Int.tmod_eq_emod_of_nonneg hx]
 refine ⟨rfl, Int.emod_nonneg _ (by omega), Int.emod_lt_of_pos _ (by omega), ?_⟩
 by_cases h : x < n
 ·rw [Int.emod_eq_of_lt hx h]; exact Int.le_refl _
 ·have := Int.emod_lt_of_pos x (show 0 < n by omega); omega
theorem LV {x n : Int} (hx : 0 ≤ x) (hn : 1 ≤ n) : x.tdiv n = x / n ∧ 0 ≤ x / n ∧ x / n ≤ x := by
 rw [Int.tdiv_eq_ediv_of_nonneg hx]
 exact ⟨rfl, Int.ediv_nonneg hx (by omega), Int.ediv_le_self _ hx⟩
theorem FG (c n : Int) (hc : inR .i64 c) (hn : 1 ≤ n) : A0 Try.prog 15 [AP c, AP n] (AP (BC c n)) := by
 rw [DA] at hc
 refine NR.ac fun C hC => ?_
 unfold Iw
 repeat' with_reducible first | refine W ?_ | refine Z0 ?_ | ((first | refine Wo fun K hK => ?_ | refine Wq ?_ | refine Wr ?_); (try simp only [go_sem, fN, seval, eT, iR]); (repeat refine Ai ?_); (try (refine hK _ ?_; clear hK K)))
 with_reducible refine Wp ?_
 simp only [go_sem, fN, seval, true_implies, false_implies, implies_true, dT, dF, nL]
 (try with_reducible refine iC ?_)
 refine ⟨fun h0 => ?_, fun h0 => ?_⟩
 ·have h1 := E7 (x := 0 - (c + 1)) (n := n) (by omega) hn
  repeat' with_reducible first | refine W ?_ | refine Z0 ?_ | ((first | refine Wo fun K hK => ?_ | refine Wq ?_ | refine Wr ?_); (try simp only [go_sem, fN, seval, eT, iR, h1.1]); (repeat refine Ai ?_); (try (refine hK _ ?_; clear hK K)))
  simp only [go_sem, fN, seval, A6, AS.result, AO, AR, Av]
  unfold BC
  rw [if_pos h0]
  congr 5
  omega
 ·have h1 := E7 (x := c) (n := n) (by omega) hn
  repeat' with_reducible first | refine W ?_ | refine Z0 ?_ | ((first | refine Wo fun K hK => ?_ | refine Wq ?_ | refine Wr ?_); (try simp only [go_sem, fN, seval, eT, iR, h1.1]); (repeat refine Ai ?_); (try (refine hK _ ?_; clear hK K)))
  simp only [go_sem, fN, seval, A6, AS.result, AO, AR, Av]
  unfold BC
  rw [if_neg h0]
def Bg (l : List Int) (i : Nat) : Int := if l.length = 0 then i * 31 else BC (l.getD (i % l.length) 0) 1000003 + ((i / l.length : Nat) : Int) * 7919
theorem Dj (l : List Int) (i : Nat) : 0 ≤ Bg l i ∧ Bg l i ≤ 1000003 + i * 7919 := by
 unfold Bg
 split
 ·omega
 ·have := BI (l.getD (i % l.length) 0) 1000003 (by omega)
  have h2 : i / l.length ≤ i := Nat.div_le_self _ _
  generalize i / l.length = q at *
  omega
theorem L_ (l : List Int) (i : Nat) (hi : i ≤ 1000000) (hl : ∀ n ∈ l, inR .i64 n) (hm : l.length ≤ maxLen) : A0 Try.prog 37 [EM l, AP i] (AP (Bg l i)) := by
 rw [DM] at hm
 refine OD.ac fun C hC => ?_
 unfold Kc
 repeat' with_reducible first | refine W ?_ | refine Z0 ?_ | ((first | refine Wo fun K hK => ?_ | refine Wq ?_ | refine Wr ?_); (try simp only [go_sem, fN, seval, eT, iR]); (repeat refine Ai ?_); (try (refine hK _ ?_; clear hK K)))
 with_reducible refine Wp ?_
 simp only [go_sem, fN, seval, true_implies, false_implies, implies_true, dT, dF, nL]
 (try with_reducible refine iC ?_)
 refine ⟨fun h0 => ?_, fun h0 => ?_⟩
 ·repeat' with_reducible first | refine W ?_ | refine Z0 ?_ | ((first | refine Wo fun K hK => ?_ | refine Wq ?_ | refine Wr ?_); (try simp only [go_sem, fN, seval, eT, iR]); (repeat refine Ai ?_); (try (refine hK _ ?_; clear hK K)))
  simp only [go_sem, fN, seval, A6, AS.result, AO, AR, Av]
  unfold Bg
  rw [if_pos (by omega)]
 ·have h1 := E7 (x := (i : Int)) (n := (l.length : Int)) (by omega) (by omega)
  have h2 := LV (x := (i : Int)) (n := (l.length : Int)) (by omega) (by omega)
  have hlt : i % l.length < l.length := Nat.mod_lt _ (by omega)
  obtain ⟨a, ha⟩ := Aq hlt
  have e1 : ((i : Int) % (l.length : Int)) = ((i % l.length : Nat) : Int) := by omega
  have e2 : ((i : Int) / (l.length : Int)) = ((i / l.length : Nat) : Int) := by omega
  have h3 : i / l.length ≤ i := Nat.div_le_self _ _
  repeat' with_reducible first | refine W ?_ | refine Z0 ?_ | ((first | refine Wo fun K hK => ?_ | refine Wq ?_ | refine Wr ?_); (try simp only [go_sem, fN, seval, eT, iR, h1.1, h2.1, e1, e2, ha]); (repeat refine Ai ?_); (try (refine hK _ ?_; clear hK K)))
  refine ⟨_, FG a 1000003 (hl a (AY ha)) (by omega), ?_⟩
  have hp := BI a 1000003 (by omega)
  repeat' with_reducible first | refine W ?_ | refine Z0 ?_ | ((first | refine Wo fun K hK => ?_ | refine Wq ?_ | refine Wr ?_); (try simp only [go_sem, fN, seval, eT, iR, h1.1, h2.1, e1, e2]); (repeat refine Ai ?_); (try (refine hK _ ?_; clear hK K)))
  simp only [go_sem, fN, seval, A6, AS.result, AO, AR, Av]
  unfold Bg
  rw [if_neg (by omega), List.getD_eq_getElem?_getD, ha]
  rfl

def D4 (c : Int) : Nat := [0, 0, 1, 2].getD (BC c 4).toNat 0
def GU (c : Int) : ByteArray := [⟨#[97]⟩, ⟨#[98]⟩, ⟨#[104]⟩, ⟨#[102]⟩].getD (BC c 4).toNat ⟨#[97]⟩
def I_ (l : List Int) (b : Nat) (n : Int) (k : Nat) : List Int := (List.range k).map fun j => BC (Bg l (b + 2 + j)) n
def mvF (l : List Int) (at_ : Nat) (n : Int) (i : Nat) : Mv := ⟨GU (Bg l (at_ + 4 * i)), I_ l (at_ + 4 * i) n (D4 (Bg l (at_ + 4 * i))), BC (Bg l (at_ + 4 * i + 1)) n⟩
def Gu (l : List Int) (at_ : Nat) (n : Int) (k : Nat) : List Mv := (List.range k).map (mvF l at_ n)
def CK (l : List Int) (at_ : Nat) : Nat → List Int
 | 0 => []
 | s + 1 => if BC (Bg l (at_ + s + 3)) 3 = 0 then CK l at_ s ++ [(s : Int)] else CK l at_ s
def auF (l : List Int) (at_ n mv : Nat) : Au := ⟨n, Gu l at_ n mv, CK l at_ n⟩
theorem Jp (c : Int) : D4 c ≤ 2 := by
 have := BI c 4 (by omega)
 unfold D4
 have h : (BC c 4).toNat = 0 ∨ (BC c 4).toNat = 1 ∨ (BC c 4).toNat = 2 ∨ (BC c 4).toNat = 3 := by omega
 rcases h with h | h | h | h <;> rw [h] <;> decide
theorem OQ (c : Int) : BD (GU c) = true ∧ Ch (GU c) = false := by
 have := BI c 4 (by omega)
 unfold GU
 have h : (BC c 4).toNat = 0 ∨ (BC c 4).toNat = 1 ∨ (BC c 4).toNat = 2 ∨ (BC c 4).toNat = 3 := by omega
 rcases h with h | h | h | h <;> rw [h] <;> decide
theorem Kh (l : List Int) (b : Nat) (n : Int) (k : Nat) : (I_ l b n k).length = k := by simp [I_]
theorem NP (l : List Int) (b : Nat) (n : Int) (k : Nat) : I_ l b n (k + 1) = I_ l b n k ++ [BC (Bg l (b + 2 + k)) n] := by simp [I_, List.range_succ]
theorem HE (l : List Int) (at_ : Nat) (n : Int) (k : Nat) : (Gu l at_ n k).length = k := by simp [Gu]
theorem NY (l : List Int) (at_ : Nat) (n : Int) (k : Nat) : Gu l at_ n (k + 1) = Gu l at_ n k ++ [mvF l at_ n k] := by simp [Gu, List.range_succ]
theorem GN (l : List Int) (at_ : Nat) : ∀ s, (CK l at_ s).length ≤ s
 | 0 => Nat.le_refl _
 | s + 1 => by
  have := GN l at_ s
  rw [CK]
  split
  ·rw [List.length_append]
   simp
   omega
  ·omega
theorem GE (l : List Int) (at_ : Nat) : ∀ s, ∀ x ∈ CK l at_ s, 0 ≤ x ∧ x < (s : Int)
 | 0 => by simp [CK]
 | s + 1 => by
  intro x hx
  rw [CK] at hx
  split at hx
  ·rcases List.mem_append.1 hx with hx | hx
   ·have := GE l at_ s x hx
    omega
   ·simp at hx
    omega
  ·have := GE l at_ s x hx
   omega
theorem Me (l : List Int) (at_ n : Nat) (h : 1 ≤ n) (i : Nat) : (mvF l at_ n i).err n = 0 ∧ (mvF l at_ n i).frm.length ≤ 2 := by
 have hk := Jp (Bg l (at_ + 4 * i))
 have hl : (mvF l at_ n i).frm.length ≤ 2 := by
  show (I_ _ _ _ _).length ≤ 2
  rw [Kh]
  exact hk
 refine ⟨Mv.err_ok.2 ⟨OQ _, by omega, List.all_eq_true.2 fun x hx => ?_, ?_⟩, hl⟩
 ·simp only [mvF, I_, List.mem_map] at hx
  obtain ⟨j, _, rfl⟩ := hx
  exact BK.2 (BI _ _ (by omega))
 ·exact BK.2 (BI _ _ (by omega))
theorem Pd (l : List Int) (at_ n mv : Nat) (h : 1 ≤ n) (h8 : n ≤ 8) (h40 : mv ≤ 40) : (auF l at_ n mv).may 8 40 = 0 := by
 refine Au.may_ok.2 ⟨⟨by simp [auF], by simp [auF]; omega, by simp [auF, HE]; omega⟩, fun m hm => ?_, ?_⟩
 ·simp only [auF, Gu, List.mem_map] at hm
  obtain ⟨i, _, rfl⟩ := hm
  exact (Me l at_ n h i).1
 ·exact List.all_eq_true.2 fun x hx => BK.2 (GE l at_ n x hx)
theorem P0 (l : List Int) (at_ n mv : Nat) (h : 1 ≤ n) : ∀ m ∈ (auF l at_ n mv).moves, m.frm.length ≤ 2 := fun m hm => by
 simp only [auF, Gu, List.mem_map] at hm
 obtain ⟨i, _, rfl⟩ := hm
 exact (Me l at_ n h i).2
theorem Li (l : List Int) (hl : ∀ n ∈ l, inR .i64 n) (hm : l.length ≤ maxLen) (at_ n mv : Nat) (ha : at_ ≤ 1000) (hn : 1 ≤ n) (hn8 : n ≤ 8) (hmv : mv ≤ 40) :
  A0 Try.prog 14 [EM l, AP at_, AP n, AP mv] (aAu (auF l at_ n mv)) := by
 have e300 : ([] : List Mv).length = 0 := rfl
 refine H0.ac fun C hC => ?_
 unfold Ey
 repeat' with_reducible first | refine W ?_ | refine Z0 ?_ | ((first | refine Wo fun K hK => ?_ | refine Wp ?_ | refine Wq ?_ | refine Wr ?_); (try simp only [go_sem, fN, seval, eT, iR, dT, dF, nL]); (repeat refine Ai ?_); (try (refine hK _ ?_; clear hK K)); try refine iC ?_)
 refine IWP.ghost (AZ.ownC (C := C) 9 1 300 46 3 (xs := ([] : List Mv).map Ax) (ty := 25) (cs := [.st (.int .i64 n), .full [], .full []]) (by simp only [go_sem, fN, seval, eT, iR]) rfl (by simp only [go_sem, fN, seval, eT, iR]) Lf) ?_
 refine IWP.ghost (AZ.ownC (C := C) 9 2 301 3 1 (xs := ([] : List Int).map Bo) (ty := 25) (cs := [.st (.int .i64 n), .row 300 0, .full []]) (by simp only [go_sem, fN, seval, eT, iR]; rfl) rfl (by simp only [go_sem, fN, seval, eT, iR]) IJ) ?_
 refine IWP.loopD [13, 959] (fun q s => ∃ i, i ≤ mv ∧ q = mv - i ∧ s.env 0 = EM l ∧ s.env 1 = AP at_ ∧ s.env 2 = AP n ∧ s.env 3 = AP mv ∧ s.env 8 = .one (.ptr 8 1 0 0) ∧ s.S 8 = some (.box 25 [.st (.int .i64 0), .full [], .full []]) ∧ s.env 9 = .one (.ptr 9 1 0 0) ∧ s.S 9 = some (.box 25 [.st (.int .i64 n), .row 300 i, .row 301 0]) ∧ s.S 300 = some (.arow 46 3 ((Gu l at_ n i).map Ax)) ∧ s.S 301 = some (.arow 3 1 []) ∧ s.env 10 = AP i ∧ s.S 13 = none ∧ s.S 959 = none) mv
  ⟨0, Nat.zero_le _, rfl, by simp only [go_sem, fN, seval, eT, iR], by simp only [go_sem, fN, seval, eT, iR], by simp only [go_sem, fN, seval, eT, iR], by simp only [go_sem, fN, seval, eT, iR], by simp only [go_sem, fN, seval, eT, iR], by simp only [go_sem, fN, seval, eT, iR], by simp only [go_sem, fN, seval, eT, iR], by simp only [go_sem, fN, seval, eT, iR]; rfl, by simp only [go_sem, fN, seval, eT, iR]; rfl, by simp only [go_sem, fN, seval, eT, iR], by simp only [go_sem, fN, seval, eT, iR], by simp only [go_sem, fN, seval, eT, iR], by simp only [go_sem, fN, seval, eT, iR]⟩ ?_
 rintro q ⟨env, St⟩ ⟨i, hi, rfl, e0, e1, e2, e3, e8, s8, e9, s9, s300, s301, e10, s13, s959⟩
 simp only at e0 e1 e2 e3 e8 s8 e9 s9 s300 s301 e10 s13 s959
 by_cases hlt : (i : Int) < mv
 ·have w0 := L_ l (at_ + 4 * i) (by omega) hl hm
  have w1 := L_ l (at_ + 4 * i + 1) (by omega) hl hm
  rw [show (((at_ + 4 * i : Nat) : Int)) = (at_ : Int) + 4 * (i : Int) by omega] at w0
  rw [show (((at_ + 4 * i + 1 : Nat) : Int)) = (at_ : Int) + 4 * (i : Int) + 1 by omega] at w1
  have r0 := Dj l (at_ + 4 * i)
  have r1 := Dj l (at_ + 4 * i + 1)
  have p0 := FG (Bg l (at_ + 4 * i)) 4 (by rw [DA]; omega) (by omega)
  have p1 := FG (Bg l (at_ + 4 * i + 1)) n (by rw [DA]; omega) (by omega)
  have hk2 := Jp (Bg l (at_ + 4 * i))
  have hpk := BI (Bg l (at_ + 4 * i)) 4 (by omega)
  have hkn : [([.int .i64 0] : List SV), [.int .i64 0], [.int .i64 1], [.int .i64 2]][(BC (Bg l (at_ + 4 * i)) 4).toNat]? = some [.int .i64 (D4 (Bg l (at_ + 4 * i)) : Int)] ∧ [([.str ⟨#[97]⟩] : List SV), [.str ⟨#[98]⟩], [.str ⟨#[104]⟩], [.str ⟨#[102]⟩]][(BC (Bg l (at_ + 4 * i)) 4).toNat]? = some [.str (GU (Bg l (at_ + 4 * i)))] := by
   unfold D4 GU
   generalize BC (Bg l (at_ + 4 * i)) 4 = y at hpk
   have h : y.toNat = 0 ∨ y.toNat = 1 ∨ y.toNat = 2 ∨ y.toNat = 3 := by omega
   rcases h with h | h | h | h <;> rw [h] <;> exact ⟨rfl, rfl⟩
  obtain ⟨hkn, hkb⟩ := hkn
  repeat' (first | (with_reducible first | refine W ?_ | refine Z0 ?_ | ((first | refine Wo fun K hK => ?_ | refine Wp ?_ | refine Wq ?_ | refine Wr ?_); (try simp only [go_sem, fN, seval, eT, iR, e0, e1, e2, e3, e8, s8, e9, s9, s300, s301, e10, s13, s959, hlt, hkn, hkb, dT, dF, nL]); (repeat refine Ai ?_); (try (refine hK _ ?_; clear hK K)); try refine iC ?_)) | refine Cg _ (w0) ?_ | refine Cg _ (p0) ?_ | refine Cg _ (w1) ?_ | refine Cg _ (p1) ?_)
  refine IWP.ghost (AZ.ownC (C := C) 13 1 959 3 1 (xs := ([] : List Int).map Bo) (ty := 46) (cs := [.st (.str (GU (Bg l (at_ + 4 * i)))), .full [], .st (.int .i64 (BC (Bg l (at_ + 4 * i + 1)) n))]) (by simp only [go_sem, fN, seval, eT, iR]) rfl (by simp only [go_sem, fN, seval, eT, iR, s959]) IJ) ?_
  refine IWP.loop (fun q s => ∃ j, j ≤ D4 (Bg l (at_ + 4 * i)) ∧ q = D4 (Bg l (at_ + 4 * i)) - j ∧ s.env 0 = EM l ∧ s.env 1 = AP at_ ∧ s.env 2 = AP n ∧ s.env 3 = AP mv ∧ s.env 8 = .one (.ptr 8 1 0 0) ∧ s.S 8 = some (.box 25 [.st (.int .i64 0), .full [], .full []]) ∧ s.env 9 = .one (.ptr 9 1 0 0) ∧ s.S 9 = some (.box 25 [.st (.int .i64 n), .row 300 i, .row 301 0]) ∧ s.S 300 = some (.arow 46 3 ((Gu l at_ n i).map Ax)) ∧ s.S 301 = some (.arow 3 1 []) ∧ s.env 10 = AP i ∧ s.env 12 = AP (D4 (Bg l (at_ + 4 * i))) ∧ s.env 13 = .one (.ptr 13 1 0 0) ∧ s.S 13 = some (.box 46 [.st (.str (GU (Bg l (at_ + 4 * i)))), .row 959 j, .st (.int .i64 (BC (Bg l (at_ + 4 * i + 1)) n))]) ∧ s.S 959 = some (.arow 3 1 ((I_ l (at_ + 4 * i) n j).map Bo)) ∧ s.env 14 = AP j) (D4 (Bg l (at_ + 4 * i)))
   ⟨0, Nat.zero_le _, rfl, by simp only [go_sem, fN, seval, eT, iR, e0], by simp only [go_sem, fN, seval, eT, iR, e1], by simp only [go_sem, fN, seval, eT, iR, e2], by simp only [go_sem, fN, seval, eT, iR, e3], by simp only [go_sem, fN, seval, eT, iR, e8], by simp only [go_sem, fN, seval, eT, iR, s8], by simp only [go_sem, fN, seval, eT, iR, e9], by simp only [go_sem, fN, seval, eT, iR, s9], by simp only [go_sem, fN, seval, eT, iR, s300], by simp only [go_sem, fN, seval, eT, iR, s301], by simp only [go_sem, fN, seval, eT, iR, e10], by simp only [go_sem, fN, seval, eT, iR], by simp only [go_sem, fN, seval, eT, iR], by simp only [go_sem, fN, seval, eT, iR]; rfl, by simp only [go_sem, fN, seval, eT, iR]; rfl, by simp only [go_sem, fN, seval, eT, iR]⟩ ?_
  rintro q ⟨env2, S2⟩ ⟨j, hj, rfl, f0, f1, f2, f3, f8, t8, f9, t9, t300, t301, f10, f12, f13, t13, t959, f14⟩
  simp only at f0 f1 f2 f3 f8 t8 f9 t9 t300 t301 f10 f12 f13 t13 t959 f14
  have hfl := Kh l (at_ + 4 * i) n j
  have hml := HE l at_ n i
  by_cases hjl : (j : Int) < D4 (Bg l (at_ + 4 * i))
  ·have w2 := L_ l (at_ + 4 * i + 2 + j) (by omega) hl hm
   rw [show (((at_ + 4 * i + 2 + j : Nat) : Int)) = (at_ : Int) + 4 * (i : Int) + 2 + j by omega] at w2
   have r2 := Dj l (at_ + 4 * i + 2 + j)
   have p2 := FG (Bg l (at_ + 4 * i + 2 + j)) n (by rw [DA]; omega) (by omega)
   repeat' (first | (with_reducible first | refine W ?_ | refine Z0 ?_ | ((first | refine Wo fun K hK => ?_ | refine Wp ?_ | refine Wq ?_ | refine Wr ?_); (try simp only [go_sem, fN, seval, eT, iR, f0, f1, f2, f3, f8, t8, f9, t9, t300, t301, f10, f12, f13, t13, t959, f14, hjl, hfl, hml, dT, dF, nL]); (repeat refine Ai ?_); (try (refine hK _ ?_; clear hK K)); try refine iC ?_)) | refine Cg _ (w2) ?_ | refine Cg _ (p2) ?_)
   refine AI ⟨D4 (Bg l (at_ + 4 * i)) - (j + 1), by omega, j + 1, by omega, rfl, ?_⟩
   simp only [go_sem, fN, seval, eT, iR, f0, f1, f2, f3, f8, t8, f9, t9, t300, t301, f10, f12, f13, t13, t959, f14, hfl]
   rw [NP]
   simp
  ·have hjk : j = D4 (Bg l (at_ + 4 * i)) := by omega
   subst hjk
   repeat' with_reducible first | refine W ?_ | refine Z0 ?_ | ((first | refine Wo fun K hK => ?_ | refine Wp ?_ | refine Wq ?_ | refine Wr ?_); (try simp only [go_sem, fN, seval, eT, iR, f0, f1, f2, f3, f8, t8, f9, t9, t300, t301, f10, f12, f13, t13, t959, f14, hjl, hfl, hml, Nat.lt_irrefl, dT, dF, nL]); (repeat refine Ai ?_); (try (refine hK _ ?_; clear hK K)); try refine iC ?_)
   refine AI ⟨mv - (i + 1), by omega, i + 1, by omega, rfl, ?_⟩
   simp only [go_sem, fN, seval, AS.drop, Ag, AC.clears, AC.clear, AC.highs, AC.high, Bool.not_false, Bool.true_and, Bool.and_self, AV.purge, AV.purges, AC.purge, AG.purge, List.contains_cons, List.contains_nil, Nat.reduceBEq, Bool.or_self, Bool.or_false, Bool.false_or, Bool.or_true, eT, iR, f0, f1, f2, f3, f8, t8, f9, t9, t300, t301, f10, f12, f13, t13, t959, f14, hml]
   rw [NY]
   simp [Ax, mvF]
 ·have him : i = mv := by omega
  subst him
  have hml := HE l at_ n i
  repeat' with_reducible first | refine W ?_ | refine Z0 ?_ | ((first | refine Wo fun K hK => ?_ | refine Wp ?_ | refine Wq ?_ | refine Wr ?_); (try simp only [go_sem, fN, seval, eT, iR, e0, e1, e2, e3, e8, s8, e9, s9, s300, s301, e10, s13, s959, hlt, dT, dF, nL]); (repeat refine Ai ?_); (try (refine hK _ ?_; clear hK K)); try refine iC ?_)
  refine IWP.loop (fun q s => ∃ k, k ≤ n ∧ q = n - k ∧ s.env 0 = EM l ∧ s.env 1 = AP at_ ∧ s.env 2 = AP n ∧ s.env 8 = .one (.ptr 8 1 0 0) ∧ s.S 8 = some (.box 25 [.st (.int .i64 0), .full [], .full []]) ∧ s.env 9 = .one (.ptr 9 1 0 0) ∧ s.S 9 = some (.box 25 [.st (.int .i64 n), .row 300 i, .row 301 (CK l at_ k).length]) ∧ s.S 300 = some (.arow 46 3 ((Gu l at_ n i).map Ax)) ∧ s.S 301 = some (.arow 3 1 ((CK l at_ k).map Bo)) ∧ s.env 15 = AP k) n
   ⟨0, Nat.zero_le _, rfl, by simp only [go_sem, fN, seval, eT, iR, e0], by simp only [go_sem, fN, seval, eT, iR, e1], by simp only [go_sem, fN, seval, eT, iR, e2], by simp only [go_sem, fN, seval, eT, iR, e8], by simp only [go_sem, fN, seval, eT, iR, s8], by simp only [go_sem, fN, seval, eT, iR, e9], by simp only [go_sem, fN, seval, eT, iR, s9]; rfl, by simp only [go_sem, fN, seval, eT, iR, s300], by simp only [go_sem, fN, seval, eT, iR, s301]; rfl, by simp only [go_sem, fN, seval, eT, iR]⟩ ?_
  rintro q ⟨env2, S2⟩ ⟨k, hk, rfl, f0, f1, f2, f8, t8, f9, t9, t300, t301, f15⟩
  simp only at f0 f1 f2 f8 t8 f9 t9 t300 t301 f15
  have hll := GN l at_ k
  have hlm : ((CK l at_ k).map Bo).length = (CK l at_ k).length := List.length_map _
  by_cases hkl : (k : Int) < n
  ·have w3 := L_ l (at_ + k + 3) (by omega) hl hm
   rw [show (((at_ + k + 3 : Nat) : Int)) = (at_ : Int) + k + 3 by omega] at w3
   have r3 := Dj l (at_ + k + 3)
   have p3 := FG (Bg l (at_ + k + 3)) 3 (by rw [DA]; omega) (by omega)
   by_cases h0 : BC (Bg l (at_ + k + 3)) 3 = 0
   ·have hs : CK l at_ (k + 1) = CK l at_ k ++ [(k : Int)] := by rw [CK, if_pos h0]
    repeat' (first | (with_reducible first | refine W ?_ | refine Z0 ?_ | ((first | refine Wo fun K hK => ?_ | refine Wp ?_ | refine Wq ?_ | refine Wr ?_); (try simp only [go_sem, fN, seval, eT, iR, f0, f1, f2, f8, t8, f9, t9, t300, t301, f15, hkl, hlm, h0, dT, dF, nL]); (repeat refine Ai ?_); (try (refine hK _ ?_; clear hK K)); try refine iC ?_)) | refine Cg _ (w3) ?_ | refine Cg _ (p3) ?_)
    refine AI ⟨n - (k + 1), by omega, k + 1, by omega, rfl, ?_⟩
    simp only [go_sem, fN, seval, eT, iR, f0, f1, f2, f8, t8, f9, t9, t300, t301, f15, hlm]
    rw [hs]
    simp
   ·have hs : CK l at_ (k + 1) = CK l at_ k := by rw [CK, if_neg h0]
    repeat' (first | (with_reducible first | refine W ?_ | refine Z0 ?_ | ((first | refine Wo fun K hK => ?_ | refine Wp ?_ | refine Wq ?_ | refine Wr ?_); (try simp only [go_sem, fN, seval, eT, iR, f0, f1, f2, f8, t8, f9, t9, t300, t301, f15, hkl, hlm, h0, dT, dF, nL]); (repeat refine Ai ?_); (try (refine hK _ ?_; clear hK K)); try refine iC ?_)) | refine Cg _ (w3) ?_ | refine Cg _ (p3) ?_)
    refine AI ⟨n - (k + 1), by omega, k + 1, by omega, rfl, ?_⟩
    simp only [go_sem, fN, seval, eT, iR, f0, f1, f2, f8, t8, f9, t9, t300, t301, f15, hlm]
    rw [hs]
    simp
  ·have hkn : k = n := by omega
   subst hkn
   repeat' with_reducible first | refine W ?_ | refine Z0 ?_ | ((first | refine Wo fun K hK => ?_ | refine Wp ?_ | refine Wq ?_ | refine Wr ?_); (try simp only [go_sem, fN, seval, eT, iR, f0, f1, f2, f8, t8, f9, t9, t300, t301, f15, hkl, hlm, hml, Nat.lt_irrefl, dT, dF, nL]); (repeat refine Ai ?_); (try (refine hK _ ?_; clear hK K)); try refine iC ?_)
   simp only [go_sem, fN, seval, A6, AS.result, AO, AR, Av, f8, t8, t300, t301, hlm, hml]
   rfl



mutual
def Tm.occN (v : ByteArray) : Tm → Nat
 | .mk n xs => (if n = v then 1 else 0) + Tm.occNs v xs
def Tm.occNs (v : ByteArray) : List Tm → Nat
 | [] => 0
 | t :: ts => t.occN v + Tm.occNs v ts
end
def okV (a b : Tm) : Prop := ∀ v, Ch v = true → b.occN v ≤ a.occN v
theorem okV.trans {a b c : Tm} (h : okV a b) (k : okV b c) : okV a c := fun v hv => Nat.le_trans (k v hv) (h v hv)
inductive Lex (R : Tm → Tm → Prop) : List Tm → List Tm → Prop
 | here {x y xs ys} : x ≠ y → R x y → xs.length = ys.length → Lex R (x :: xs) (y :: ys)
 | on {x xs ys} : Lex R xs ys → Lex R (x :: xs) (x :: ys)
theorem Lex.len {R : Tm → Tm → Prop} {xs ys : List Tm} (h : Lex R xs ys) : xs.length = ys.length := by
 induction h with
 | here _ _ h => simp [h]
 | on _ ih => simp [ih]
theorem Lex.irrefl {R : Tm → Tm → Prop} : ∀ {xs : List Tm}, ¬ Lex R xs xs
 | [], h => by cases h
 | x :: xs, h => by
  cases h with
  | here h _ _ => exact h rfl
  | on h => exact Lex.irrefl h
theorem Lex.trans {R : Tm → Tm → Prop} : ∀ {xs ys zs : List Tm}, (∀ x ∈ xs, ∀ y ∈ ys, ∀ z ∈ zs, R x y → R y z → R x z ∧ x ≠ z) → Lex R xs ys → Lex R ys zs → Lex R xs zs := by
 intro xs ys zs ht h k
 induction h generalizing zs with
 | here hne hr hl =>
  cases k with
  | here hne2 hr2 hl2 =>
   obtain ⟨h1, h2⟩ := ht _ (by simp) _ (by simp) _ (by simp) hr hr2
   exact .here h2 h1 (hl.trans hl2)
  | on k => exact .here hne hr (hl.trans k.len)
 | on h ih =>
  cases k with
  | here hne2 hr2 hl2 => exact .here hne2 hr2 (h.len.trans hl2)
  | on k => exact .on (ih (fun x hx y hy z hz => ht x (by simp [hx]) y (by simp [hy]) z (by simp [hz])) k)
section
variable {s : List Bd} {a b : Tm} {row : List ByteArray}
theorem Lex.map {R : Tm → Tm → Prop} {f : Tm → Tm} : ∀ {xs ys : List Tm}, (∀ x ∈ xs, ∀ y ∈ ys, R x y → R (f x) (f y) ∧ f x ≠ f y) → Lex R xs ys → Lex R (xs.map f) (ys.map f) := by
 intro xs ys h k
 induction k with
 | here hne hr hl =>
  obtain ⟨h1, h2⟩ := h _ (by simp) _ (by simp) hr
  exact .here h2 h1 (by simp [hl])
 | on k ih => exact .on (ih fun x hx y hy => h x (by simp [hx]) y (by simp [hy]))
theorem Lex.at {R : Tm → Tm → Prop} {x y : Tm} (hne : x ≠ y) (h : R x y) : ∀ (xs ys : List Tm), Lex R (xs ++ x :: ys) (xs ++ y :: ys)
 | [], ys => .here hne h rfl
 | z :: xs, ys => .on (Lex.at hne h xs ys)
end






theorem QI {a b : Au} (ha : Am a = true) (hb : Am b = true) : DF [a, b] = 0 := if_pos (by simp [ha, hb])
theorem Im {a b : Au} (ha : a.may 8 40 = 0) (hb : b.may 8 40 = 0) (sa : Am a = true) (sb : Am b = true) (hla : a.last.length ≤ 100000) (hlb : b.last.length ≤ 100000) : A0 Try.prog 12 [aAu a, aAu b] (.tup [Bk (Fo a b), AP 0]) := by
 have h := K9 a b hla hlb
 have hp : Cl a b = 0 := by unfold Cl; rw [if_pos ha, hb]
 unfold JW at h
 rw [if_neg (fun k => k hp), if_neg (fun k => k (QI sa sb))] at h
 exact h
theorem N1 {a : Au} (h3 : a.states ≤ 3) (h2 : ∀ m ∈ a.moves, m.frm.length ≤ 2) : Am a = true := by
 unfold Am
 rw [decide_eq_true h3, Bool.true_and, List.all_eq_true]
 exact fun m hm => decide_eq_true (h2 m hm)

theorem Pg {a : Au} (h : a.may 8 40 = 0) (h8 : a.states ≤ 7) : (A2 a.states a).may 8 40 = 0 := by
 obtain ⟨⟨h1, h2, h3⟩, h4, h5⟩ := Au.may_ok.1 h
 refine Au.may_ok.2 ⟨⟨by show 0 ≤ a.states + 1; omega, by show a.states + 1 ≤ 8; omega, by show ((a.moves.map _).length : Int) ≤ 40; rw [List.length_map]; exact h3⟩, fun m hm => ?_, ?_⟩
 ·obtain ⟨m', hm', rfl⟩ := List.mem_map.1 hm
  obtain ⟨q1, q2, q3, q4⟩ := Mv.err_ok.1 (h4 m' hm')
  refine Mv.err_ok.2 ⟨q1, by show (m'.frm.map _).length ≤ 4; rw [List.length_map]; exact q2, ?_, ?_⟩
  ·rw [List.all_eq_true] at q3 ⊢
   intro x hx
   obtain ⟨s, hs, rfl⟩ := List.mem_map.1 hx
   have := BK.1 (q3 s hs)
   exact BK.2 (by show 0 ≤ a.states - s ∧ a.states - s < a.states + 1; omega)
  ·have := BK.1 q4
   exact BK.2 (by show 0 ≤ a.states - m'.to_ ∧ a.states - m'.to_ < a.states + 1; omega)
 ·rw [List.all_eq_true] at h5 ⊢
  intro x hx
  obtain ⟨s, hs, rfl⟩ := List.mem_map.1 hx
  have := BK.1 (h5 s hs)
  exact BK.2 (by show 0 ≤ a.states - s ∧ a.states - s < a.states + 1; omega)
theorem Iq {a : Au} (hs : Am a = true) : ∀ s ∈ Ad [a], s.2 ≤ 2 := fun s hs' => by
 obtain ⟨c, hc, m, hm, rfl⟩ := CM.1 hs'
 rw [List.mem_singleton.1 hc] at hm
 unfold Am at hs
 simp only [Bool.and_eq_true, List.all_eq_true, decide_eq_true_eq] at hs
 exact hs.2 m hm
def auO : Au := ⟨1, [⟨⟨#[97]⟩, [], 0⟩, ⟨⟨#[104]⟩, [0], 0⟩], [0]⟩
theorem I5 {a : Au} {syms : List Sym} {R : List J} (h : R.length = 1) (t : Nat) : nK a syms R t = 1 := by
 unfold nK
 rw [h, show (1 : Nat) = 0 + 1 from rfl, CN]
 simp [A4, FB, CG]
theorem MR {syms : List Sym} (hs : Ad [auO] = syms) {j : J} (h : Gen auO auZ syms j) : j = ([true], []) := by
 induction h with
 | @mk s l hs' hl _ ih =>
  have h1 : l.map Prod.fst = List.replicate s.2 [true] := List.eq_replicate_iff.2 ⟨by simp [hl], fun x hx => by
   obtain ⟨j, hj, rfl⟩ := List.mem_map.1 hx
   rw [ih j hj]⟩
  subst hs
  obtain ⟨c, hc, m, hm, rfl⟩ := CM.1 hs'
  rw [List.mem_singleton.1 hc] at hm
  unfold nxt
  rw [h1]
  have h0 : auZ.ending m.sym.1 (l.map Prod.snd) = [] := List.eq_nil_of_length_eq_zero (Au.ending_length _ _ _)
  rw [h0]
  simp only [auO, List.mem_cons, List.not_mem_nil, or_false] at hm
  rcases hm with rfl | rfl
  ·refine Prod.ext ?_ rfl
   decide +kernel
  ·refine Prod.ext ?_ rfl
   decide +kernel
theorem EX : (Aw auO auZ (Ad [auO])).length = 1 := by
 have h2 := Iq (a := auO) (by decide)
 have hok := DU (a := auO) (b := auZ) h2
 have hm : ∀ {j : J}, j ∈ Aw auO auZ (Ad [auO]) ↔ Gen auO auZ (Ad [auO]) j := FK h2 (by decide) (by decide)
 have hin : (([true], []) : J) ∈ Aw auO auZ (Ad [auO]) := by
  have h := Gen.mk (a := auO) (b := auZ) (syms := Ad [auO]) (s := ((⟨#[97]⟩ : ByteArray), 0)) (l := []) (CM.2 ⟨auO, by simp, ⟨⟨#[97]⟩, [], 0⟩, by simp [auO], rfl⟩) rfl (by simp)
  exact hm.2 (by rw [← MR rfl h]; exact h)
 have h1 := Dr hok.nod (m := [(([true], []) : J)]) fun x hx => by rw [MR rfl (hok.gen x hx)]; simp
 have h3 := List.length_pos_of_mem hin
 simp only [List.length_singleton] at h1
 omega
theorem M6 : A0 Try.prog 13 [.agg [.st (.int .i64 1), .st (.list [[.str ⟨#[97]⟩, .list [], .int .i64 0], [.str ⟨#[104]⟩, .list [[.int .i64 0]], .int .i64 0]]), .st (.list [[.int .i64 0]])]] (.tup [AP 1, AP 0]) := by
 have h := JZ auO (by decide +kernel) (by decide) (by decide) 1 (by rw [I5 EX]; exact (I5 EX 0).symm) (fun t ht => by
  rw [show t = 0 by omega, I5 EX]
  show ¬ 1 = 0
  omega)
 rw [I5 EX] at h
 exact h
set_option maxRecDepth 100000 in
theorem Kq (l : List Int) (m1 m2 : Int) (hl : ∀ n ∈ l, inR .i64 n) (hm : l.length ≤ maxLen) (h1 : inR .i64 m1) (h2 : inR .i64 m2) : A0 Try.prog 5 [EM l, AP m1, AP m2] (Bk true) := by
 by_cases h256 : (256 : Int) < l.length
 ·refine Bn.ac fun C hC => ?_
  unfold BE
  repeat' with_reducible first | refine W ?_ | refine Z0 ?_ | ((first | refine Wo fun K hK => ?_ | refine Wp ?_ | refine Wq ?_ | refine Wr ?_); (try simp only [go_sem, fN, seval, eT, iR, h256, dT, dF, nL]); (repeat refine Ai ?_); (try (refine hK _ ?_; clear hK K)); try refine iC ?_)
  simp only [go_sem, fN, seval, A6, AS.result, AO, AR, Av]
 have r1 := BI m1 2 (by omega)
 have p1 := FG m1 2 h1 (by omega)
 obtain ⟨k1, e1⟩ : ∃ k : Nat, BC m1 2 = k := ⟨(BC m1 2).toNat, by omega⟩
 rw [e1] at p1 r1
 have r2 := BI m2 9 (by omega)
 have p2 := FG m2 9 h2 (by omega)
 obtain ⟨k2, e2⟩ : ∃ k : Nat, BC m2 9 = k := ⟨(BC m2 9).toNat, by omega⟩
 rw [e2] at p2 r2
 have cA := Li l hl hm 0 (1 + k1) k2 (by omega) (by omega) (by omega) (by omega)
 rw [show (((1 + k1 : Nat) : Int)) = 1 + (k1 : Int) by omega, show (((0 : Nat) : Int)) = 0 from rfl] at cA
 have ma := Pd l 0 (1 + k1) k2 (by omega) (by omega) (by omega)
 have sa : Am (auF l 0 (1 + k1) k2) = true := N1 (by simp only [auF]; omega) (P0 l 0 (1 + k1) k2 (by omega))
 have la : (auF l 0 (1 + k1) k2).last.length ≤ 4 := by
  have := GN l 0 (1 + k1)
  simp only [auF]
  omega
 have hst : (auF l 0 (1 + k1) k2).states = 1 + (k1 : Int) := by simp only [auF]; omega
 generalize auF l 0 (1 + k1) k2 = a at *
 have ga := Au.may_good ma
 obtain ⟨am, a4⟩ := Ee ma
 have mb := Pg ma (by omega)
 have sb : Am (A2 a.states a) = true := by
  unfold Am at sa ⊢
  simp only [Bool.and_eq_true, List.all_eq_true, decide_eq_true_eq] at sa ⊢
  refine ⟨by show a.states + 1 ≤ 3; omega, fun m hm => ?_⟩
  obtain ⟨m', hm', rfl⟩ := List.mem_map.1 hm
  show (m'.frm.map _).length ≤ 2
  rw [List.length_map]
  exact sa.2 m' hm'
 have lb : (A2 a.states a).last.length ≤ 4 := by
  show (a.last.map _).length ≤ 4
  rw [List.length_map]
  exact la
 have hs2 := Iq sa
 have hok := DU (a := a) (b := auZ) hs2
 have hRl : ∀ j ∈ Aw a auZ (Ad [a]), j.1.length = a.states.toNat := fun j hj => (hok.gen j hj).len.1
 obtain ⟨T, _, hT, hmin⟩ := Nx (a := a) (syms := Ad [a]) (R := Aw a auZ (Ad [a])) (hok.len (Ao sa) (by decide))
 have cLa := JZ a ma sa (by omega) T hT hmin
 have hn := O6 ga hRl hs2
 have hp := NH ga hRl hs2
 have cLb := JZ (A2 a.states a) mb sb (by omega) T (by rw [Gs, FH ga hs2, hn, hp]; exact hT) (fun t ht => by rw [Gs, FH ga hs2, hn, hp]; exact hmin t ht)
 rw [Gs, FH ga hs2, hn] at cLb
 have wAB := Im ma mb sa sb (by omega) (by omega)
 have wBA := Im mb ma sb sa (by omega) (by omega)
 rw [(G_ sa sb).2 fun t h => by rw [MC ga]; exact h] at wAB
 rw [(G_ sb sa).2 fun t h => by rw [MC ga] at h; exact h] at wBA
 have cO := M6
 clear hn hp hT hmin hok hRl
 generalize nK a (Ad [a]) (Aw a auZ (Ad [a])) T = K at *
 have hbS : (A2 a.states a).states = 1 + (k1 : Int) + 1 := by show a.states + 1 = _; omega
 have hbM : (A2 a.states a).moves = a.moves.map (Ci (1 + k1)) := by show a.moves.map _ = _; rw [hst]
 have hbL : (A2 a.states a).last = a.last.map (fun s => 1 + (k1 : Int) - s) := by show a.last.map _ = _; rw [hst]
 generalize A2 a.states a = b at *
 refine Bn.ac fun C hC => ?_
 unfold BE
 repeat' (first | (with_reducible first | refine W ?_ | refine Z0 ?_ | ((first | refine Wo fun K hK => ?_ | refine Wp ?_ | refine Wq ?_ | refine Wr ?_); (try simp only [go_sem, fN, seval, eT, iR, h256, dT, dF, nL]); (repeat refine Ai ?_); (try (refine hK _ ?_; clear hK K)); try refine iC ?_)) | refine Cg _ (p1) ?_ | refine Cg _ (p2) ?_ | refine Cg _ (cA) ?_)
 refine IWP.ghost (AZ.ownCellA (e' := 46) (id := 9) (r := 91) 1 3 rfl rfl rfl (by decide)) ?_
 refine IWP.ghost (AZ.ownCellA (e' := 3) (id := 9) (r := 110) 2 1 rfl rfl rfl (by decide)) ?_
 have hml : (a.moves.map Ax).length = a.moves.length := by simp
 have hll : (a.last.map Bo).length = a.last.length := by simp
 refine IWP.loopD [11, 85] (fun q s => ∃ i, i ≤ a.moves.length ∧ q = a.moves.length - i ∧ s.env 7 = AP (1 + (k1 : Int)) ∧ s.env 8 = .one (.ptr 8 1 0 0) ∧ s.env 9 = .one (.ptr 9 1 0 0) ∧ s.env 10 = AP i ∧ s.S 8 = some (AT a) ∧ s.S 9 = some (.box 25 [.st (.int .i64 (1 + (k1 : Int) + 1)), .row 91 i, .row 110 0]) ∧ s.S 91 = some (.arow 46 3 (((a.moves.map (Ci (1 + k1))).take i).map Ax)) ∧ s.S 110 = some (.arow 3 1 []) ∧ s.S 11 = none ∧ s.S 85 = none) a.moves.length
  ⟨0, Nat.zero_le _, rfl, rfl, rfl, rfl, rfl, rfl, rfl, rfl, rfl, rfl, rfl⟩ ?_
 rintro q ⟨env, S⟩ ⟨i, hi, rfl, e7, e8, e9, e10, s8, s9, s91, s110, s11, s85⟩
 simp only at e7 e8 e9 e10 s8 s9 s91 s110 s11 s85
 have hl91 : (((a.moves.map (Ci (1 + k1))).take i).map Ax).length = i := by simp; omega
 by_cases hlt : (i : Int) < a.moves.length
 ·obtain ⟨m, hmi⟩ := Aq (show i < a.moves.length by omega)
  have hmm := AY hmi
  obtain ⟨t0, t1⟩ := ga.to_ m hmm
  have hfr := ga.frm m hmm
  have hfl := a4 m hmm
  have hrm : (a.moves.map (Ci (1 + k1)))[i]? = some (Ci (1 + k1) m) := by rw [List.getElem?_map, hmi]; rfl
  repeat' with_reducible first | refine W ?_ | refine Z0 ?_ | ((first | refine Wo fun K hK => ?_ | refine Wp ?_ | refine Wq ?_ | refine Wr ?_); (try simp only [go_sem, fN, seval, eT, iR, e7, e8, e9, e10, s8, s9, s91, s110, s11, s85, AT, hlt, hmi, Ax, hml, dT, dF, nL]); (repeat refine Ai ?_); (try (refine hK _ ?_; clear hK K)); try refine iC ?_)
  refine IWP.ghost (AZ.ownCellA (e' := 3) (id := 11) (r := 85) (cs := [.st (.str m.name), .full [], .st (.int .i64 (1 + (k1 : Int) - m.to_))]) (e := 46) 1 1 (by simp only [go_sem, fN, seval, eT, iR]) rfl (by simp only [go_sem, fN, seval, eT, iR, s85]) (by decide)) ?_
  refine IWP.loop (fun q s => ∃ k, k ≤ m.frm.length ∧ q = m.frm.length - k ∧ s.env 7 = AP (1 + (k1 : Int)) ∧ s.env 8 = .one (.ptr 8 1 0 0) ∧ s.env 9 = .one (.ptr 9 1 0 0) ∧ s.env 10 = AP i ∧ s.env 11 = .one (.ptr 11 1 0 0) ∧ s.env 12 = AP k ∧ s.S 8 = some (AT a) ∧ s.S 9 = some (.box 25 [.st (.int .i64 (1 + (k1 : Int) + 1)), .row 91 i, .row 110 0]) ∧ s.S 91 = some (.arow 46 3 (((a.moves.map (Ci (1 + k1))).take i).map Ax)) ∧ s.S 110 = some (.arow 3 1 []) ∧ s.S 11 = some (.box 46 [.st (.str m.name), .row 85 k, .st (.int .i64 (1 + (k1 : Int) - m.to_))]) ∧ s.S 85 = some (.arow 3 1 (((m.frm.map (1 + (k1 : Int) - ·)).take k).map Bo))) m.frm.length
   ⟨0, Nat.zero_le _, rfl, e7, e8, e9, e10, rfl, rfl, by simp only [go_sem, fN, seval, eT, iR, s8], by simp only [go_sem, fN, seval, eT, iR, s9], by simp only [go_sem, fN, seval, eT, iR, s91], by simp only [go_sem, fN, seval, eT, iR, s110], by (simp only [go_sem, fN, seval, eT, iR]; rfl), by simp only [go_sem, fN, seval, eT, iR]⟩ ?_
  clear e7 e8 e9 e10 s8 s9 s91 s110 s11 s85
  rintro q ⟨env, S⟩ ⟨k, hk, rfl, e7, e8, e9, e10, e11, e12, s8, s9, s91, s110, s11, s85⟩
  simp only at e7 e8 e9 e10 e11 e12 s8 s9 s91 s110 s11 s85
  have hl85 : (((m.frm.map (1 + (k1 : Int) - ·)).take k).map Bo).length = k := by simp; omega
  have hfl2 : (m.frm.map Bo).length = m.frm.length := by simp
  by_cases hkl : (k : Int) < m.frm.length
  ·obtain ⟨x, hxk⟩ := Aq (show k < m.frm.length by omega)
   obtain ⟨x0, x1⟩ := hfr x (AY hxk)
   have hrx : (m.frm.map (1 + (k1 : Int) - ·))[k]? = some (1 + (k1 : Int) - x) := by rw [List.getElem?_map, hxk]; rfl
   repeat' with_reducible first | refine W ?_ | refine Z0 ?_ | ((first | refine Wo fun K hK => ?_ | refine Wp ?_ | refine Wq ?_ | refine Wr ?_); (try simp only [go_sem, fN, seval, eT, iR, e7, e8, e9, e10, e11, e12, s8, s9, s91, s110, s11, s85, AT, hmi, Ax, hml, hkl, hxk, hfl2, hl85, D6, dT, dF, nL]); (repeat refine Ai ?_); (try (refine hK _ ?_; clear hK K)); try refine iC ?_)
   refine AI ⟨m.frm.length - (k + 1), by omega, k + 1, by omega, rfl, e7, e8, e9, e10, e11, rfl, by (simp only [go_sem, fN, seval, eT, iR, s8]; rfl), by simp only [go_sem, fN, seval, eT, iR, s9], by simp only [go_sem, fN, seval, eT, iR, s91], by simp only [go_sem, fN, seval, eT, iR, s110], by simp only [go_sem, fN, seval, eT, iR], ?_⟩
   rw [Ay hrx, List.map_append]
   simp only [go_sem, fN, seval, eT, iR]
  ·have hke : k = m.frm.length := by omega
   have hrt : (m.frm.map (1 + (k1 : Int) - ·)).take k = m.frm.map (1 + (k1 : Int) - ·) := List.take_of_length_le (by rw [List.length_map]; omega)
   rw [hrt] at s85 hl85
   have henc : Ax (Ci (1 + k1) m) = [.str m.name, .list ((m.frm.map (1 + (k1 : Int) - ·)).map Bo), .int .i64 (1 + (k1 : Int) - m.to_)] := rfl
   repeat' with_reducible first | refine W ?_ | refine Z0 ?_ | ((first | refine Wo fun K hK => ?_ | refine Wp ?_ | refine Wq ?_ | refine Wr ?_); (try simp only [go_sem, fN, seval, eT, iR, e7, e8, e9, e10, e11, e12, s8, s9, s91, s110, s11, s85, AT, hmi, Ax, hml, hkl, hfl2, hl85, hl91, dT, dF, nL]); (repeat refine Ai ?_); (try (refine hK _ ?_; clear hK K)); try refine iC ?_)
   refine AI ⟨a.moves.length - (i + 1), by omega, i + 1, by omega, rfl, ?_⟩
   rw [Ay hrm, List.map_append, List.map_cons, List.map_nil, henc]
   simp only [go_sem, fN, seval, AS.drop, Ag, AC.clears, AC.clear, AC.highs, AC.high, Bool.not_false, Bool.true_and, Bool.and_self, AV.purge, AV.purges, AC.purge, AG.purge, List.contains_cons, List.contains_nil, Nat.reduceBEq, Bool.or_self, Bool.or_false, Bool.false_or, Bool.or_true, eT, iR, e7, e8, e9, e10, e11, e12, s8, s9, s91, s110, AT]
   rfl
 ·have hie : i = a.moves.length := by omega
  have hmt : (a.moves.map (Ci (1 + k1))).take i = a.moves.map (Ci (1 + k1)) := List.take_of_length_le (by rw [List.length_map]; omega)
  rw [hmt, ← hbM] at s91 hl91
  repeat' with_reducible first | refine W ?_ | refine Z0 ?_ | ((first | refine Wo fun K hK => ?_ | refine Wp ?_ | refine Wq ?_ | refine Wr ?_); (try simp only [go_sem, fN, seval, eT, iR, e7, e8, e9, e10, s8, AT, hlt, hml, dT, dF, nL]); (repeat refine Ai ?_); (try (refine hK _ ?_; clear hK K)); try refine iC ?_)
  refine IWP.loop (fun q s => ∃ k, k ≤ a.last.length ∧ q = a.last.length - k ∧ s.env 7 = AP (1 + (k1 : Int)) ∧ s.env 8 = .one (.ptr 8 1 0 0) ∧ s.env 9 = .one (.ptr 9 1 0 0) ∧ s.env 13 = AP k ∧ s.S 8 = some (AT a) ∧ s.S 9 = some (.box 25 [.st (.int .i64 (1 + (k1 : Int) + 1)), .row 91 i, .row 110 k]) ∧ s.S 91 = some (.arow 46 3 (b.moves.map Ax)) ∧ s.S 110 = some (.arow 3 1 ((b.last.take k).map Bo))) a.last.length
   ⟨0, Nat.zero_le _, rfl, e7, e8, e9, rfl, by simp only [go_sem, fN, seval, eT, iR, s8], by simp only [go_sem, fN, seval, eT, iR, s9], by simp only [go_sem, fN, seval, eT, iR, s91], by simp only [go_sem, fN, seval, eT, iR, s110]⟩ ?_
  clear e7 e8 e9 e10 s8 s9 s91 s110 s11 s85
  rintro q ⟨env, S⟩ ⟨k, hk, rfl, e7, e8, e9, e13, s8, s9, s91, s110⟩
  simp only at e7 e8 e9 e13 s8 s9 s91 s110
  have hbl : b.last.length = a.last.length := by rw [hbL, List.length_map]
  have hl110 : ((b.last.take k).map Bo).length = k := by simp; omega
  by_cases hkl : (k : Int) < a.last.length
  ·obtain ⟨x, hxk⟩ := Aq (show k < a.last.length by omega)
   obtain ⟨x0, x1⟩ := ga.last x (AY hxk)
   have hrx : b.last[k]? = some (1 + (k1 : Int) - x) := by rw [hbL, List.getElem?_map, hxk]; rfl
   repeat' with_reducible first | refine W ?_ | refine Z0 ?_ | ((first | refine Wo fun K hK => ?_ | refine Wp ?_ | refine Wq ?_ | refine Wr ?_); (try simp only [go_sem, fN, seval, eT, iR, e7, e8, e9, e13, s8, s9, s91, s110, AT, hll, hkl, hxk, hl110, D6, dT, dF, nL]); (repeat refine Ai ?_); (try (refine hK _ ?_; clear hK K)); try refine iC ?_)
   refine AI ⟨a.last.length - (k + 1), by omega, k + 1, by omega, rfl, e7, e8, e9, rfl, by (simp only [go_sem, fN, seval, eT, iR, s8]; rfl), by simp only [go_sem, fN, seval, eT, iR, s9], by simp only [go_sem, fN, seval, eT, iR, s91], ?_⟩
   rw [Ay hrx, List.map_append]
   simp only [go_sem, fN, seval, eT, iR]
  ·have hke : k = b.last.length := by omega
   rw [hke, List.take_length] at s110 hl110
   rw [hke] at s9
   have hbml : (b.moves.map Ax).length = i := hl91
   have hAa : AV.agg [.st (.int .i64 (1 + (k1 : Int) + 1)), .st (.list (b.moves.map Ax)), .st (.list (b.last.map Bo))] = aAu b := by rw [← hbS]
   repeat' (first | (with_reducible first | refine W ?_ | refine Z0 ?_ | ((first | refine Wo fun K hK => ?_ | refine Wp ?_ | refine Wq ?_ | refine Wr ?_); (try simp only [go_sem, fN, seval, eT, iR, e7, e8, e9, e13, s8, s9, s91, s110, AT, hll, hkl, hbml, hl110, hAa, dT, dF, nL]); (repeat refine Ai ?_); (try (refine hK _ ?_; clear hK K)); try refine iC ?_)) | refine Cg _ (wAB) ?_ | refine Cg _ (wBA) ?_ | refine Cg _ (cLa) ?_ | refine Cg _ (cLb) ?_ | refine Cg _ (cO) ?_)
   simp only [go_sem, fN, seval, A6, AS.result, AO, AR, Av]

open Go.ChangeShapes Go.WideShapes Go.ChangeAt
section
variable {H : Type} {enc : TypeId × Value → H} {P : Program}
theorem En (hl : laidOutB P = true) : ∀ {ts : List TypeId} {vs : List Value} {ds : List (DataW H)} {ps : List MemPlace} {W W' : World} {sp : Nat → Bool},
  (∀ t ∈ ts, P.readableRec t = true ∧ t < P.types.size) → DataW.TrodAll enc P W 0 (fun _ => true) true ts vs ds ps → (∀ p ∈ ps, W.sameAt W' p) → (∀ p ∈ ps, sp p.block = true) → DataW.TrodAll enc P W' 0 sp true ts vs ds ps
 | [], [], [], _, _, _, _, _, h, _, _ => h
 | _ :: _, _ :: _, _ :: _, _, _, _, _, hT, ⟨p, q, h1, h2, e⟩, hsame, hs => ⟨p, q, WideElems.Trod_stays hl (hT _ (List.mem_cons.2 (Or.inl rfl))).1 (hT _ (List.mem_cons.2 (Or.inl rfl))).2 h1 (fun x hx => hsame x (by rw [e]; exact List.mem_append_left _ hx)) (fun x hx => hs x (by rw [e]; exact List.mem_append_left _ hx)),
   En hl (fun t ht => hT t (List.mem_cons.2 (Or.inr ht))) h2 (fun x hx => hsame x (by rw [e]; exact List.mem_append_right _ hx)) (fun x hx => hs x (by rw [e]; exact List.mem_append_right _ hx)), e⟩
 | [], _ :: _, _, _, _, _, _, _, h, _, _ => h.elim
 | [], [], _ :: _, _, _, _, _, _, h, _, _ => h.elim
 | _ :: _, [], _, _, _, _, _, _, h, _, _ => h.elim
 | _ :: _, _ :: _, [], _, _, _, _, _, h, _, _ => h.elim
theorem Ny {f : Func} {s : ChangeSpec} {apart fresh handsOn : Bool} {W W' : World} {args : Array Value} {ds : List (DataW H)} {before : List MemPlace} {tb : TypeId}
  (hW : DataW.Whole enc P f.params.toList s.vars apart W args.toList ds [] before) (hv : s.vars = []) (hr : f.resultTypes = #[tb]) (htb : P.underlying tb = some .bool)
  (hres : (s.fn H (ds ++ [])).results = [.lit (.bool true)]) (hargs : (s.fn H (ds ++ [])).args = ds) (hvs : (s.fn H (ds ++ [])).vars = [])
  (hl : laidOutB P = true) (hT : (f.params.toList.all fun t => P.readableRec t && decide (t < P.types.size)) = true) (hb : Below W.heap.size W W') :
  s.post enc P f apart fresh handsOn false W args (.bool true) W' := by
 have hlt : ∀ p ∈ before, p.block < W.heap.size := fun p hp => hW.lt p hp
 have hT' : ∀ t ∈ f.params.toList, P.readableRec t = true ∧ t < P.types.size := fun t ht => by
  have := List.all_eq_true.1 hT t ht
  simpa using this
 obtain ⟨p, q, hA, hV, rfl, hz, hn⟩ := hW
 rw [hv] at hV
 obtain ⟨_, rfl⟩ := trodVars_none hV
 have hargs' : ∀ sp : Nat → Bool, (∀ x ∈ p, sp x.block = true) → DataW.TrodAll enc P W' 0 sp true f.params.toList args.toList ds p := fun sp hsp =>
  En hl hT' hA (fun x hx => hb.same (hlt x (by simpa using hx))) hsp
 have hres' : ∀ (b : Nat) (sp : Nat → Bool) (hd : Bool), DataW.TrodAll enc P W' b sp hd f.resultTypes.toList ((Value.bool true).resultList f.resultTypes.size) (s.fn H (ds ++ [])).results [] := fun b sp hd => by
  rw [hres, hr]
  exact trodAll_cons_mk (shut_bool htb true) trodAll_mk0
 refine ⟨ds, [], p ++ [], [], p, [], ⟨p, [], hA, by rw [hv]; exact rfl, rfl, hz, hn⟩, hres' _ _ _, by rw [hargs]; exact hargs' _ (fun x hx => by simpa using hlt x (by simpa using hx)), by rw [hv, hvs]; exact rfl,
  World.keptBut_mono (fun x hx => ⟨hx, Or.inr (by simpa using hx)⟩) (hb.frame (· ∈ p ++ [])), fun h => by cases h⟩
variable {W : World} {sp : Nat → Bool} {hd : Bool} {base : Nat}
def sto (W : World) : Sto := CI W
theorem Pl (W : World) : Fit (sto W) W := fun _ _ h => h
theorem H4 {W : World} {a : Addr} {v : Value} (h : W.cell? a = some v) : a.spot = none := by
 cases hs : a.spot with
 | none => rfl
 | some n =>
  unfold World.cell? at h
  split at h
  ·simp [hs] at h
  ·cases h
theorem Ke {α : Type} {p : Nat → α → Prop} {n : Nat} (h : ∀ i, i < n → ∃ b, p i b) : ∃ xs : List α, xs.length = n ∧ ∀ i (h : i < xs.length), p i xs[i] := by
 induction n with
 | zero => exact ⟨[], rfl, fun i h => absurd h (by simp)⟩
 | succ m ih =>
  obtain ⟨xs, h1, h2⟩ := ih (fun i hi => h i (by omega))
  obtain ⟨b, h3⟩ := h m (by omega)
  refine ⟨xs ++ [b], by simp [h1], fun i hi => ?_⟩
  by_cases him : i < xs.length
  ·rw [List.getElem_append_left him]
   exact h2 i him
  ·have : i = xs.length := by simp at hi; omega
   subst this
   rw [show (xs ++ [b])[xs.length]'hi = b by simp, h1]
   exact h3
theorem JR {α : Type} {e0 : α → List SV} {t e : TypeId} {k : Nat} {fuel : Nat} {cs : List Value} {x : DataW H × List MemPlace} (ht : P.underlying t = some (.slice e)) (hc : P.cellsOf e = k) (hlen : ∀ a, (e0 a).length = k) (hk : 0 < k)
  (f : ∀ (n : Nat) (cs : List Value) (y : DataW H × List MemPlace), n < fuel → DataW.trod enc P W base sp hd n e cs = some y → ∃ a : α, AN (Ab (sto W)) cs (e0 a))
  (h : DataW.trod enc P W base sp hd fuel t cs = some x) (hs : BO = true → k < 2 := by decide) : ∃ xs : List α, AN (Ab (sto W)) cs [.list (xs.map e0)] := by
 rcases DataW.trod_slice ht h with ⟨rfl, _⟩ | ⟨a, len, cap, Ca, rest, n, hfu, rfl, _, hb, hl, hm, hlen', hel, _, _⟩
 ·exact ⟨[], .cons J1 .nil⟩
 ·have key : ∀ i, i < len → ∃ (b : α), ∃ (cs' : List Value), cs'.length = k ∧ (∀ j u, cs'[j]? = some u → W.cell? ((a.add (i * k)).add j) = some u) ∧ AN (Ab (sto W)) cs' (e0 b) := fun i hi => by
   have h1 := hel i hi
   rw [List.getElem?_eq_getElem (by omega)] at h1
   obtain ⟨cs', h2, h3⟩ := Option.bind_eq_some_iff.1 h1
   obtain ⟨_, h4, h5⟩ := World.cells?_some h2
   obtain ⟨b, hb⟩ := f n cs' _ (by omega) h3
   rw [hc] at h4 h5
   refine ⟨b, cs', h4, fun j u hj => ?_, hb⟩
   rw [h5 j (by have := (List.getElem?_eq_some_iff.1 hj).1; omega)]
   exact hj
  obtain ⟨xs, hxl, hxs⟩ : ∃ xs : List α, xs.length = len ∧ ∀ i (h : i < xs.length), ∃ cs' : List Value, cs'.length = k ∧ (∀ j u, cs'[j]? = some u → W.cell? ((a.add (i * k)).add j) = some u) ∧ AN (Ab (sto W)) cs' (e0 xs[i]) := Ke key
  have cell : ∀ m y j z, (xs.map e0)[m]? = some y → y[j]? = some z → ∃ v, W.cell? ⟨a.block, a.off + m * k + j, none⟩ = some v ∧ Ab (sto W) v z := fun m y j z hy hz => by
   rw [List.getElem?_map, Option.map_eq_some_iff] at hy
   obtain ⟨b, hb', rfl⟩ := hy
   obtain ⟨hm', hbe⟩ := List.getElem?_eq_some_iff.1 hb'
   obtain ⟨cs', c1, c2, c3⟩ := hxs m hm'
   rw [hbe] at c3
   obtain ⟨v, v1, v2⟩ := c3.get hz
   refine ⟨v, ?_, v2⟩
   have := c2 j v v1
   have hsp := H4 this
   rw [← this]
   congr 1
   have h7 : ((a.add (m * k)).add j).block = a.block ∧ ((a.add (m * k)).add j).off = a.off + m * k + j := by
    unfold Addr.add
    split <;> split <;> simp_all
   generalize (a.add (m * k)).add j = q at *
   cases q
   simp_all
  refine ⟨xs, .cons (.list (b := a.block) (o := a.off) (w := k) (fun m j => (W.cell? ⟨a.block, a.off + m * k + j, none⟩).getD undef) (by simp [hxl]) hl hm (by simp) (fun h0 => ?_) (fun y hy => ?_) (fun q1 q2 _ => absurd (hs q1) (by omega)) (fun m y j z hy hz => ?_) (fun m y j z hy hz => ?_)) .nil⟩
  ·obtain ⟨cs', h1, h2, h3⟩ := hxs 0 (by omega)
   have h4 : W.cell? a = some (cs'[0]'(by omega)) := by
    have := h2 0 _ (List.getElem?_eq_getElem (by omega))
    simpa [Addr.add] using this
   have := H4 h4
   cases a
   simp_all
  ·obtain ⟨b, _, rfl⟩ := List.mem_map.1 hy
   exact hlen b
  ·obtain ⟨v, v1, v2⟩ := cell m y j z hy hz
   show W.cell? _ = _
   rw [v1]; rfl
  ·obtain ⟨v, v1, v2⟩ := cell m y j z hy hz
   rw [v1]; exact v2
theorem Kg {t : TypeId} (ht : P.underlying t = some (.int .i64)) (fuel : Nat) (cs : List Value) (x : DataW H × List MemPlace) (h : DataW.trod enc P W base sp hd fuel t cs = some x) : ∃ n : Int, AN (Ab (sto W)) cs (Bo n) := by
 obtain ⟨n, rfl, _, hn⟩ := DataW.trod_int ht h
 exact ⟨n, .cons (.int (by rw [DA]; simpa [Lit.wf, IntKind.min, IntKind.max, IntKind.signed, IntKind.bits] using hn)) .nil⟩
theorem MJ {t : TypeId} (ht : P.underlying t = some (.int .i64)) {r : Reach} {b0 : Nat} {v : Value} {d : DataW H} {p : List MemPlace} (hv : Value.okWide P W r b0 t v) (h : DataW.Trod enc P W base sp hd t v d p) : ∃ n : Int, AK (sto W) noS noH v (AP n) := by
 obtain ⟨n, rfl⟩ := okWide_int ht hv
 obtain ⟨fuel, hf⟩ := h
 obtain ⟨m, hm⟩ := Kg ht fuel _ _ hf
 have : AN (Ab (sto W)) [.int .i64 n] (Bo m) := hm
 cases this with
 | cons h1 h2 => exact ⟨m, .one (.st h1)⟩
theorem PU {α : Type} {e0 : α → List SV} {t e : TypeId} {k : Nat} (ht : P.underlying t = some (.slice e)) (hc : P.cellsOf e = k) (hlen : ∀ a, (e0 a).length = k) (hk : 0 < k) {r : Reach} {b0 : Nat} {v : Value} {d : DataW H} {p : List MemPlace} (hv : Value.okWide P W r b0 t v)
  (f : ∀ (n : Nat) (cs : List Value) (y : DataW H × List MemPlace), DataW.trod enc P W base sp hd n e cs = some y → ∃ a : α, AN (Ab (sto W)) cs (e0 a)) (h : DataW.Trod enc P W base sp hd t v d p) (hs : BO = true → k < 2 := by decide) : ∃ xs : List α, AK (sto W) noS noH v (.one (.st (.list (xs.map e0)))) := by
 obtain ⟨a, len, cap, rfl⟩ := okWide_slice ht hv
 obtain ⟨fuel, hf⟩ := h
 obtain ⟨xs, hxs⟩ := JR ht hc hlen hk (fun n cs y _ hy => f n cs y hy) hf hs
 have : AN (Ab (sto W)) [.slice a len cap] [.list (xs.map e0)] := hxs
 cases this with
 | cons h1 h2 => exact ⟨xs, .one (.st h1)⟩
end
theorem LA {σ : Sto} (h : Ky = [] := by rfl) : Bp σ := fun x hx => by simp [h] at hx
theorem KQ {P : Program} {f : FuncId} {xs : List AV} {b : Bool} (h : A0 P f xs (Bk b)) {σ : Sto} {w : World} {vs : List Value} (hg : Bp σ) (hf : Fit σ w) (hv : AN (AK σ noS noH) vs xs) :
  Calls P f vs.toArray w fun e w' => e = .returned (.bool b) ∧ Below w.heap.size w w' := (h σ w vs hg hf hv).mono fun e w' ⟨v, σ', he, hv, _, _, hb⟩ => by
 rw [CU hv] at he
 exact ⟨he, hb⟩

section
variable {H : Type} {enc : TypeId × Value → H} {W : World} {sp : Nat → Bool} {hd : Bool} {base : Nat}
set_option maxRecDepth 100000 in
theorem Nn {r : Reach} {b0 : Nat} {v : Value} {d : DataW H} {p : List MemPlace} (hv : Value.okWide Try.prog W r b0 23 v) (h : DataW.Trod enc Try.prog W base sp hd 23 v d p) : ∃ l : List Int, AK (sto W) noS noH v (EM l) :=
 PU (k := 1) Try.underlying23 (by kernel_rfl) (fun _ => rfl) (by decide) hv (Kg Try.underlying3) h
end

end Go.Proofs.Ytkegjgodjigjfaa
namespace Go.Proofs.Ytkegjgodjigjfaa.topNerode
open Go Go.RowKit Go.ChangeShapes Go.WideShapes Go.ChangeAt
set_option linter.unusedVariables false
theorem own : ownKnob Try.prog.godebug = none := by kernel_rfl
theorem Qd : laidOutB Try.prog = true := by kernel_rfl
set_option maxRecDepth 100000 in
theorem Nl (H : Type) (enc : TypeId × Value → H) (W : World) (base : Nat) (args : Array Value) (ds gs : List (DataW H)) (before : List MemPlace)
  (hval : ∀ (j : Nat) t v, Try.f5.params[j]? = some t → args[j]? = some v → Value.okWide Try.prog W .any base t v)
  (hW : DataW.Whole enc Try.prog Try.f5.params.toList Rows.topNerodeSpec.vars false W args.toList ds gs before) :
  Calls Try.prog 5 args W fun e W' => ∃ v, e = .returned v ∧ Rows.topNerodeSpec.post enc Try.prog Try.f5 false true false false W args v W' := by
 obtain ⟨p, q, hA0, hV, rfl, hfz, hnd⟩ := id hW
 obtain ⟨rfl, rfl⟩ := trodVars_none hV
 have hA : DataW.TrodAll enc Try.prog W 0 (fun _ => true) true Try.f5.params.toList args.toList ds p := hA0
 rw [Try.params5] at hA hval
 obtain ⟨v0, v1, v2, d0, d1, d2, p0, p1, p2, hargs, rfl, rfl, h0, h1, h2⟩ := trodAll_three hA
 obtain rfl : args = #[v0, v1, v2] := by cases args; simp_all
 obtain ⟨l, r0⟩ := Nn (hval 0 23 v0 rfl rfl) h0
 obtain ⟨m1, r1⟩ := MJ Try.underlying3 (hval 1 3 v1 rfl rfl) h1
 obtain ⟨m2, r2⟩ := MJ Try.underlying3 (hval 2 3 v2 rfl rfl) h2
 have k0 := Ll r0.known
 refine (KQ (Kq l m1 m2 k0.2 k0.1 r1.known r2.known) LA (Pl W) (vs := [v0, v1, v2]) (.cons r0 (.cons r1 (.cons r2 .nil)))).mono fun e W' ⟨he, hb⟩ => ⟨_, he, ?_⟩
 exact Ny hW rfl rfl Try.underlying4 rfl rfl rfl Qd (by kernel_rfl) hb
set_option maxRecDepth 100000 in
theorem QT (os : Os) (started : os.Started) (H : Type) (enc : TypeId × Value → H) :
  ReturnsInHanded {} Try.checked os 5 .any (Rows.topNerodeSpec.pre6 enc Try.prog Try.f5 Rows.topNerodeRow.domain false) (Rows.topNerodeSpec.post enc Try.prog Try.f5 false true false false) := by
 refine returnsInHanded_of_change (C := Try.checked) own started (by kernel_rfl) Try.func5
  (ChangeSpec.witness6 (enc := enc) (C := Try.checked) false ⟨#[], #[.slice none 0 0, .int .i64 0, .int .i64 0], []⟩ 8 (by kernel_rfl) (by kernel_rfl) (by kernel_rfl) (by kernel_rfl)) ?_
 intro W base args ds gs before hval hW _ _
 exact Nl H enc W base args ds gs before hval hW
theorem proved : Rows.TopNerodeSaid :=
 OpenClaim.holds_of_wide 5 Try.f5 rfl rfl rfl rfl rfl rfl rfl ⟨rfl, rfl, rfl, rfl, rfl⟩ rfl rfl rfl rfl rfl (by kernel_rfl) Try.func5 (by kernel_rfl)
  (of_decide_eq_true (by kernel_rfl)) (by unfold Func.isWrapper; first | (rw [if_pos (by decide +kernel)]; kernel_rfl) | (rw [if_neg (by decide +kernel)]; exact ⟨rfl, rfl⟩))
  (fun os started H enc _ => QT os started H enc)

end Go.Proofs.Ytkegjgodjigjfaa.topNerode
