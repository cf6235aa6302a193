/-
  Part 7 of the texts. Conditions: none.
-/
import Derived.Test.YtkegjgodjigjfaaNer6
namespace Go.Proofs.Ytkegjgodjigjfaa
open Go Go.RowKit
set_option linter.unusedVariables false
set_option linter.unusedSimpArgs false
set_option maxHeartbeats 1000000
def Kj (a : Au) : List SV := [.int .i64 a.states, .list (a.moves.map Ax), .list (a.last.map Bo)]
instance lensEncAu : K6 Kj 3 := ⟨fun _ => rfl⟩
instance lensEncMv : K6 Ax 3 := ⟨fun _ => rfl⟩
abbrev M5 (l : List Au) : AV := .one (.st (.list (l.map Kj)))
def M_ (s : Sym) : KV := .p (.s s.1) (.i (s.2 : Int))
def G0 (s : Sym) : KV × AV := (M_ s, Bk true)
abbrev P_ (l : List Sym) : AG := .map (some (.two none (some .i64))) (l.map G0)
open Classical in
noncomputable def FJ (l : List Sym) (s : Sym) : List Sym := if s ∈ l then l else l ++ [s]
theorem N8 {a b : Sym} : M_ a = M_ b ↔ a = b := by
 obtain ⟨a, i⟩ := a
 obtain ⟨b, j⟩ := b
 simp only [M_, KV.p.injEq, KV.s.injEq, KV.i.injEq, Prod.mk.injEq]
 exact and_congr_right fun _ => by omega
theorem Mo (l : List Sym) (s : Sym) : FM (l.map G0) (M_ s) (Bk true) = (FJ l s).map G0 := by
 induction l with
 | nil => simp [FJ, FM, G0]
 | cons x l ih =>
  simp only [List.map_cons, FM, G0, N8]
  by_cases e : x = s
  ·subst e
   simp [FJ, G0]
  ·rw [if_neg e]
   unfold FJ at ih ⊢
   have e' : ¬ s = x := fun h => e h.symm
   by_cases hm : s ∈ l
   ·rw [if_pos hm] at ih
    rw [if_pos (by simp [hm]), List.map_cons]
    exact congrArg (G0 x :: ·) ih
   ·rw [if_neg hm] at ih
    rw [if_neg (by simp [hm, e']), List.cons_append, List.map_cons]
    exact congrArg (G0 x :: ·) ih
theorem K3 {l : List Sym} {s : Sym} (h : l.Nodup) : (FJ l s).Nodup := by
 unfold FJ
 split
 ·exact h
 ·rename_i hm
  rw [List.nodup_append]
  exact ⟨h, by simp, fun a ha b hb e => hm (by rw [← List.mem_singleton.1 hb, ← e]; exact ha)⟩
theorem PA {l : List Sym} {s x : Sym} : x ∈ FJ l s ↔ x ∈ l ∨ x = s := by
 unfold FJ
 split
 ·rename_i hm
  constructor
  ·exact .inl
  ·rintro (h | rfl)
   ·exact h
   ·exact hm
 ·simp
theorem ON (l : List Sym) (s : Sym) : (FJ l s).length ≤ l.length + 1 := by
 unfold FJ
 split <;> simp
noncomputable def CF (l : List Sym) (ms : List Mv) : List Sym := ms.foldl (fun l m => FJ l m.sym) l
theorem GQ : ∀ {ms : List Mv} {l : List Sym}, l.Nodup → (CF l ms).Nodup
 | [], l, h => h
 | m :: ms, l, h => GQ (ms := ms) (K3 h)
theorem In : ∀ {ms : List Mv} {l : List Sym} {x : Sym}, x ∈ CF l ms ↔ x ∈ l ∨ ∃ m ∈ ms, x = m.sym
 | [], l, x => by simp [CF]
 | m :: ms, l, x => by
  show x ∈ CF (FJ l m.sym) ms ↔ _
  rw [In, PA]
  simp only [List.mem_cons, exists_eq_or_imp, or_assoc]
theorem IB : ∀ {ms : List Mv} {l : List Sym}, (CF l ms).length ≤ l.length + ms.length
 | [], l => by simp [CF]
 | m :: ms, l => by
  have := IB (ms := ms) (l := FJ l m.sym)
  have h2 := ON l m.sym
  show (CF (FJ l m.sym) ms).length ≤ _
  simp only [List.length_cons]
  omega
noncomputable def CS (l : List Sym) (aus : List Au) : List Sym := aus.foldl (fun l a => CF l a.moves) l
theorem Hg : ∀ {aus : List Au} {l : List Sym} {x : Sym}, x ∈ CS l aus ↔ x ∈ l ∨ ∃ a ∈ aus, ∃ m ∈ a.moves, x = m.sym
 | [], l, x => by simp [CS]
 | a :: aus, l, x => by
  show x ∈ CS (CF l a.moves) aus ↔ _
  rw [Hg, In]
  simp only [List.mem_cons, exists_eq_or_imp, or_assoc]
theorem Jg {aus : List Au} {k : Nat} {a : Au} {l : List Sym} (h : aus[k]? = some a) : CS l (aus.take (k + 1)) = CF (CS l (aus.take k)) a.moves := by
 rw [Ay h, CS, List.foldl_append]
 rfl
theorem LS {ms : List Mv} {k : Nat} {m : Mv} {l : List Sym} (h : ms[k]? = some m) : CF l (ms.take (k + 1)) = FJ (CF l (ms.take k)) m.sym := by
 rw [Ay h, CF, List.foldl_append]
 rfl
theorem FZ : ∀ {aus : List Au} {l : List Sym}, l.Nodup → (CS l aus).Nodup
 | [], l, h => h
 | a :: aus, l, h => FZ (aus := aus) (GQ h)
theorem G6 {n : Nat} : ∀ {aus : List Au} {l : List Sym}, (∀ a ∈ aus, a.moves.length ≤ n) → (CS l aus).length ≤ l.length + aus.length * n
 | [], l, h => by simp [CS]
 | a :: aus, l, h => by
  have h1 := G6 (aus := aus) (l := CF l a.moves) (fun b hb => h b (by simp [hb]))
  have h2 := IB (ms := a.moves) (l := l)
  have h3 := h a (by simp)
  show (CS (CF l a.moves) aus).length ≤ _
  rw [List.length_cons, Nat.add_mul, Nat.one_mul]
  omega
theorem IT (aus : List Au) (hl : aus.length ≤ 2) (hm : ∀ a ∈ aus, a.moves.length ≤ 1000) (hf : ∀ a ∈ aus, ∀ m ∈ a.moves, m.frm.length < 100) : A0 Try.prog 32 [M5 aus] (CZ (Ad aus)) := by
 refine Ge.ac fun C hC => ?_
 unfold D3
 repeat' with_reducible first | refine W ?_ | refine Z0 ?_ | ((first | refine Wo fun K hK => ?_ | refine Wp ?_ | refine Wq ?_ | refine Wr ?_); (try simp only [go_sem, fN, seval, eT, iR, dT, dF, nL]); (repeat refine Ai ?_); (try (refine hK _ ?_; clear hK K)); try refine iC ?_)
 refine IWP.loopD [5] (fun q s => ∃ k, k ≤ aus.length ∧ q = aus.length - k ∧ s.env 3 = .one (.mptr 10) ∧ s.S 10 = some (P_ (CS [] (aus.take k))) ∧ s.env 11 = M5 aus ∧ s.env 12 = AP aus.length ∧ s.env 13 = AP k ∧ s.S 5 = none ∧ s.S 7 = none ∧ s.S 34 = none ∧ s.S 9 = none ∧ s.S 502 = none) aus.length
  ⟨0, Nat.zero_le _, rfl, rfl, rfl, rfl, by simp only [go_sem, fN, seval, eT, iR], rfl, rfl, rfl, rfl, rfl, rfl⟩ ?_
 rintro q ⟨env, S⟩ ⟨k, hk, rfl, e3, s10, e11, e12, e13, s5, s7, s34, s9, s502⟩
 simp only at e3 s10 e11 e12 e13 s5 s7 s34 s9 s502
 by_cases hlt : (k : Int) < aus.length
 ·obtain ⟨a, hak⟩ := Aq (show k < aus.length by omega)
  have ham := AY hak
  have h1 := hm a ham
  have hsn := Jg (l := []) hak
  obtain ⟨L0, hL⟩ : ∃ L0, CS [] (aus.take k) = L0 := ⟨_, rfl⟩
  rw [hL] at s10 hsn
  repeat' with_reducible first | refine W ?_ | refine Z0 ?_ | ((first | refine Wo fun K hK => ?_ | refine Wp ?_ | refine Wq ?_ | refine Wr ?_); (try simp only [go_sem, fN, seval, eT, iR, e3, s10, e11, e12, e13, s5, s7, s34, s9, s502, hlt, hak, Kj, dT, dF, nL]); (repeat refine Ai ?_); (try (refine hK _ ?_; clear hK K)); try refine iC ?_)
  refine IWP.loopD [7] (fun q s => ∃ i, i ≤ a.moves.length ∧ q = a.moves.length - i ∧ s.env 3 = .one (.mptr 10) ∧ s.S 10 = some (P_ (CF L0 (a.moves.take i))) ∧ s.env 11 = M5 aus ∧ s.env 12 = AP aus.length ∧ s.env 13 = AP k ∧ s.env 18 = .one (.st (.list (a.moves.map Ax))) ∧ s.env 19 = AP a.moves.length ∧ s.env 20 = AP i ∧ s.S 7 = none ∧ s.S 34 = none ∧ s.S 9 = none ∧ s.S 502 = none) a.moves.length
   ⟨0, Nat.zero_le _, rfl, by simp only [go_sem, fN, seval, eT, iR, e3], by (simp only [go_sem, fN, seval, eT, iR, s10]; rfl), by simp only [go_sem, fN, seval, eT, iR, e11], by simp only [go_sem, fN, seval, eT, iR, e12], by simp only [go_sem, fN, seval, eT, iR, e13], by simp only [go_sem, fN, seval, eT, iR], by simp only [go_sem, fN, seval, eT, iR], by simp only [go_sem, fN, seval, eT, iR], by simp only [go_sem, fN, seval, eT, iR, s7], by simp only [go_sem, fN, seval, eT, iR, s34], by simp only [go_sem, fN, seval, eT, iR, s9], by simp only [go_sem, fN, seval, eT, iR, s502]⟩ ?_
  clear e3 e11 e12 e13 s5 s7 s34 s9 s502 s10
  rintro q ⟨env, S⟩ ⟨i, hi, rfl, e3, s10, e11, e12, e13, e18, e19, e20, s7, s34, s9, s502⟩
  simp only at e3 s10 e11 e12 e13 e18 e19 e20 s7 s34 s9 s502
  by_cases hil : (i : Int) < a.moves.length
  ·obtain ⟨m, hmi⟩ := Aq (show i < a.moves.length by omega)
   have hmm := AY hmi
   have hfm := hf a ham m hmm
   have hys := LS (l := L0) hmi
   have hput : FM ((CF L0 (a.moves.take i)).map G0) (.p (.s m.name) (.i (m.frm.length : Int))) (Bk true) = (CF L0 (a.moves.take (i + 1))).map G0 := by
    rw [hys]
    exact Mo _ m.sym
   obtain ⟨L1, hL1⟩ : ∃ L1, CF L0 (a.moves.take i) = L1 := ⟨_, rfl⟩
   rw [hL1] at s10 hput
   repeat' with_reducible first | refine W ?_ | refine Z0 ?_ | ((first | refine Wo fun K hK => ?_ | refine Wp ?_ | refine Wq ?_ | refine Wr ?_); (try simp only [go_sem, fN, seval, eT, iR, e3, s10, e11, e12, e13, e18, e19, e20, s7, s34, s9, s502, hil, hmi, Ax, BU, D5, KV.of2, KV.of1, hput, dT, dF, nL]); (repeat refine Ai ?_); (try (refine hK _ ?_; clear hK K)); try refine iC ?_)
   refine AI ⟨a.moves.length - (i + 1), by omega, i + 1, by omega, rfl, ?_⟩
   simp only [go_sem, fN, seval, AS.drop, Ag, AC.clears, AC.clear, AC.highs, AC.high, Bool.not_false, Bool.true_and, Bool.and_self, AV.purge, AV.purges, AC.purge, AG.purge, List.contains_cons, List.contains_nil, Nat.reduceBEq, Bool.or_self, Bool.or_false, Bool.false_or, Bool.or_true, eT, iR, e3, s10, e11, e12, e13, e18, e19, e20, s7, s34, s9, s502]
   rfl
  ·have hie : i = a.moves.length := by omega
   rw [hie, List.take_length] at s10
   repeat' with_reducible first | refine W ?_ | refine Z0 ?_ | ((first | refine Wo fun K hK => ?_ | refine Wp ?_ | refine Wq ?_ | refine Wr ?_); (try simp only [go_sem, fN, seval, eT, iR, e3, s10, e11, e12, e13, e18, e19, e20, s7, s34, s9, s502, hil, dT, dF, nL]); (repeat refine Ai ?_); (try (refine hK _ ?_; clear hK K)); try refine iC ?_)
   refine AI ⟨aus.length - (k + 1), by omega, k + 1, by omega, rfl, ?_⟩
   rw [hsn]
   simp only [go_sem, fN, seval, AS.drop, Ag, AC.clears, AC.clear, AC.highs, AC.high, Bool.not_false, Bool.true_and, Bool.and_self, AV.purge, AV.purges, AC.purge, AG.purge, List.contains_cons, List.contains_nil, Nat.reduceBEq, Bool.or_self, Bool.or_false, Bool.false_or, Bool.or_true, eT, iR, e3, s10, e11, e12, e13, e18, e19, e20, s7, s34, s9, s502]
   rfl
 ·have hke : k = aus.length := by omega
  rw [hke, List.take_length] at s10
  have hnod := FZ (aus := aus) (l := []) List.nodup_nil
  have hlen := G6 (aus := aus) (l := []) hm
  have hmem := fun x => Hg (aus := aus) (l := []) (x := x)
  obtain ⟨L, hL⟩ : ∃ L, CS [] aus = L := ⟨_, rfl⟩
  rw [hL] at s10 hnod hlen
  simp only [hL] at hmem
  have hsy : Ad aus = BG L := FI fun x => by
   rw [hmem, List.mem_flatMap]
   simp [eq_comm]
  have hlL : L.length ≤ 2000 := by
   have : aus.length * 1000 ≤ 2 * 1000 := Nat.mul_le_mul_right _ hl
   simp only [List.length_nil] at hlen
   omega
  have hbL : ∀ s ∈ L, s.2 < 100 := fun s hs => by
   rcases (hmem s).1 hs with h | ⟨a, ha, m, hmm, rfl⟩
   ·cases h
   ·exact hf a ha m hmm
  rw [hsy]
  repeat' with_reducible first | refine W ?_ | refine Z0 ?_ | ((first | refine Wo fun K hK => ?_ | refine Wp ?_ | refine Wq ?_ | refine Wr ?_); (try simp only [go_sem, fN, seval, eT, iR, e3, s10, e11, e12, e13, s5, s7, s34, s9, s502, hlt, BU, dT, dF, nL]); (repeat refine Ai ?_); (try (refine hK _ ?_; clear hK K)); try refine iC ?_)
  refine IWP.ghost (AZ.ownM 8 502 72 2 (by rfl) (by simp only [go_sem, fN, seval, eT, iR, s502]) (by rw [hC]; decide)) ?_
  refine IWP.loopD [9] (fun m x => ∃ seen : List Nat, seen.Nodup ∧ (∀ j ∈ seen, j < L.length) ∧ m = L.length - seen.length ∧ x.env 8 = .one (.row 502 seen.length) ∧ x.env 34 = .one (.ptr 34 1 0 0) ∧ x.S 10 = some (P_ L) ∧ x.S 34 = some (.iter (.mptr 10) L.length seen) ∧ x.S 502 = some (Mx (met L seen)) ∧ x.S 9 = none) L.length ⟨[], List.nodup_nil, by simp, rfl, rfl, rfl, by simp only [go_sem, fN, seval, eT, iR, s10], by simp only [go_sem, fN, seval, eT, iR], by (simp only [go_sem, fN, seval, eT, iR]; rfl), by simp only [go_sem, fN, seval, eT, iR, s9]⟩ ?_
  rintro m ⟨env, S⟩ ⟨seen, hnd, hls, rfl, e8, e34, s10, s34, s502, s9⟩
  simp only at e8 e34 s10 s34 s502 s9
  have hsl := Gt hnd hls
  have hmt := L3 hls
  repeat' with_reducible first | refine W ?_ | refine Z0 ?_ | ((first | refine Wo fun K hK => ?_ | refine Wp ?_ | refine Wq ?_ | refine Wr ?_); (try simp only [go_sem, fN, seval, eT, iR, e8, e34, s10, s34, DG, dT, dF, nL]); (repeat refine Ai ?_); (try (refine hK _ ?_; clear hK K)); try refine iC ?_)
  refine ⟨fun hall => ?_, fun j x c hx hj hkv => ?_⟩
  ·have hall : ∀ j, j < L.length → j ∈ seen := fun j hj => hall j (by simpa using hj)
   have hmp := Oj hnd hls hall
   have hl' : seen.length = L.length := by rw [← hmt]; exact hmp.length_eq
   refine hK _ ?_
   clear hK K
   refine Wb ?_
   refine Wa ?_
   with_reducible refine Wp ?_
   simp only [go_sem, fN, seval, true_implies, false_implies, implies_true, dT, dF, nL]
   (try with_reducible refine iC ?_)
   repeat' (with_reducible first | refine Wb ?_ | refine Wc ?_ | refine Wd ?_ | refine We ?_ | refine Wg ?_ | refine Wh ?_ | refine Wi ?_ | refine Wj ?_ | refine Wk (by decide) ?_ | refine Wl ?_ | refine Wm ?_ | refine Wn ?_)
   refine IWP.mid (fun x => x.env 8 = .one (.row 502 L.length) ∧ x.S 502 = some (Mx (BG L))) ?_ ?_
   ·have hs := KA (met L seen) (hmp.nodup_iff.2 hnod) (fun s hs => hbL s (hmp.mem_iff.1 hs)) (by omega) (up1 502) (Ba 502) (upS S) (by rw [B8, s502]; rfl)
    have hse : BG (met L seen) = BG L := FI fun x => hmp.mem_iff
    rw [hmt, hl', hse] at hs
    rw [hl'] at e8
    repeat' with_reducible first | refine W ?_ | refine Z0 ?_ | ((first | refine Wo fun K hK => ?_ | refine Wq ?_ | refine Wr ?_); (try simp only [go_sem, fN, seval, eT, iR, e8]); (repeat refine Ai ?_); (try (refine hK _ ?_; clear hK K)))
    refine ⟨_, _, hs, ?_⟩
    repeat' with_reducible first | refine W ?_ | refine Z0 ?_ | ((first | refine Wo fun K hK => ?_ | refine Wq ?_ | refine Wr ?_); (try simp only [go_sem, fN, seval, eT, iR, e8]); (repeat refine Ai ?_); (try (refine hK _ ?_; clear hK K)))
    refine ⟨rfl, e8, ?_⟩
    simp only [go_sem, fN, seval, eT, iR]
   rintro ⟨env, S⟩ ⟨e8, s502⟩
   simp only at e8 s502
   have hsl2 := Bm hnod
   refine IWP.ghost (AZ.share (id := 502) s502) ?_
   repeat' with_reducible first | refine W ?_ | refine Z0 ?_ | ((first | refine Wo fun K hK => ?_ | refine Wq ?_ | refine Wr ?_); (try simp only [go_sem, fN, seval, eT, iR, e8, hsl2]); (repeat refine Ai ?_); (try (refine hK _ ?_; clear hK K)))
   simp only [go_sem, fN, seval, A6, AS.result, AO, AR, Av, hsl2]
  ·rw [Option.map_eq_some_iff] at hx
   obtain ⟨b, hb, rfl⟩ := hx
   have hjl : j < L.length := (List.getElem?_eq_some_iff.1 hb).1
   have hcv : c = QZ b := by
    have : some (QZ b) = some c := hkv
    cases this
    rfl
   subst hcv
   have hnd' : (seen ++ [j]).Nodup := by
    rw [List.nodup_append]
    exact ⟨hnd, by simp, fun a ha b hb e => hj (by rw [List.mem_singleton.1 hb] at e; rw [← e]; exact ha)⟩
   have hlt' : ∀ i ∈ seen ++ [j], i < L.length := fun i hi => by
    rcases List.mem_append.1 hi with h | h
    ·exact hls i h
    ·rw [List.mem_singleton.1 h]; exact hjl
   have hsl' := Gt hnd' hlt'
   rw [List.length_append, List.length_singleton] at hsl'
   refine hK _ ?_
   clear hK K
   refine Wb ?_
   repeat' with_reducible first | refine W ?_ | refine Z0 ?_ | ((first | refine Wo fun K hK => ?_ | refine Wp ?_ | refine Wq ?_ | refine Wr ?_); (try simp only [go_sem, fN, seval, eT, iR, e8, e34, s10, s34, s502, s9, DG, List.getLast?_concat, hb, KV.sv, KV.sv1, hmt, G0, M_, dT, dF, nL]); (repeat refine Ai ?_); (try (refine hK _ ?_; clear hK K)); try refine iC ?_)
   refine AI ⟨L.length - (seen.length + 1), by omega, seen ++ [j], hnd', hlt', by rw [List.length_append, List.length_singleton], ?_⟩
   rw [OV hb]
   simp only [go_sem, fN, seval, AS.drop, Ag, AC.clears, AC.clear, AC.highs, AC.high, Bool.not_false, Bool.true_and, Bool.and_self, AV.purge, AV.purges, AC.purge, AG.purge, List.contains_cons, List.contains_nil, Nat.reduceBEq, Bool.or_self, Bool.or_false, Bool.false_or, Bool.or_true, eT, iR, e8, e34, s10, s34, s502, s9]
   rw [Mx, List.map_append]
   rfl

set_option maxRecDepth 100000
def E1 : IR :=
 (.seq (.ops [.i 3 (.box 25 (.t 0)), .i 6 (.mov (.c (.one (.st (.int .u64 0)))))]) (.seq (.ops [.i 7 (.mov (.c (.one (.st (.int .u64 0)))))]) (.seq (.seq (.ops [.f 13 1 3, .l 14 13, .i 15 (.len false (.t 14)), .i 16 (.mov (.n 0))]) (.block 0 (.loop (.seq (.ops [.i 17 (.bin .lss (.t 16) (.t 15))]) (.seq (.cond (.t 17) .skip (.exit 0)) (.seq (.block 1 (.seq (.ops [.i 18 (.indexAddr 3 (.t 14) (.t 16)), .L 19 3 18, .i 9 (.alloc 46 [.st (.str (ByteArray.mk (#[]))), .full [], .st (.int .i64 0)]), .s 3 9 19]) (.seq (.seq (.ops [.f 20 0 9, .l 21 20, .m 22 1, .i 23 (.bin .neq (.t 21) (.t 22)), .m 24 23, .mk (some 25) (some (24, false)) (.fieldAddr 1 (.t 9)) .no, .mk (some 26) (some (24, false)) (.load false 1 (.t 25)) .no, .mk (some 27) (some (24, false)) (.len false (.t 26)) .no, .mk (some 28) (some (24, false)) (.mov (.t 2)) .no, .mk (some 29) (some (24, false)) (.len false (.t 28)) .no, .mk (some 30) (some (24, false)) (.bin .neq (.t 27) (.t 29)) .no, .i 31 (.pick (.t 24) (.c (.one (.st (.bool true)))) (.t 30))]) (.cond (.t 31) (.exit 1) .skip)) (.seq (.ops [.i 10 (.mov (.c (.one (.st (.bool true)))))]) (.seq (.seq (.ops [.f 32 1 9, .l 33 32, .i 34 (.len false (.t 33)), .i 35 (.mov (.n 0))]) (.block 2 (.loop (.seq (.ops [.i 36 (.bin .lss (.t 35) (.t 34))]) (.seq (.cond (.t 36) .skip (.exit 2)) (.seq (.block 3 (.seq (.ops [.m 37 35, .i 38 (.indexAddr 1 (.t 33) (.t 35)), .l 39 38, .m 11 37, .m 12 39]) (.ops [.m 40 10, .m 41 40, .mk (some 42) (some (41, true)) (.mov (.t 2)) .no, .mk (some 43) (some (41, true)) (.mov (.t 11)) .no, .mk (some 44) (some (41, true)) (.indexAddr 1 (.t 42) (.t 43)) .no, .mk (some 45) (some (41, true)) (.load false 1 (.t 44)) .no, .mk (some 46) (some (41, true)) (.mov (.t 12)) .no, .mk (some 47) (some (41, true)) (.bits .shr (.t 45) (.t 46)) .no, .mk (some 48) (some (41, true)) (.bits .and (.t 47) (.c (.one (.st (.int .u64 1))))) .no, .mk (some 49) (some (41, true)) (.bin .eql (.t 48) (.c (.one (.st (.int .u64 1))))) .no, .i 50 (.pick (.t 41) (.t 49) (.c (.one (.st (.bool false))))), .m 10 50]))) (.ops [.i 51 (.bin .add (.t 35) (.n 1)), .m 35 51]))))))) (.seq (.ops [.m 52 10]) (.cond (.t 52) (.ops [.m 53 7, .f 54 2 9, .l 55 54, .i 56 (.bits .shl (.c (.one (.st (.int .u64 1)))) (.t 55)), .i 57 (.bits .or (.t 53) (.t 56)), .m 7 57]) .skip))))))) (.ops [.i 58 (.bin .add (.t 16) (.n 1)), .m 16 58]))))))) (.seq (.ops [.m 59 7, .m 6 59]) .ret))))
theorem Hr : OkF Try.prog 36 60 [90000047] E1 [.t 6] := .of Try.func36 rfl rfl (by kernel_rfl) rfl
def Ew : IR :=
 (.seq (.ops [.i 1 (.box 25 (.t 0)), .i 2 (.mov (.c (.one (.st (.int .u64 0)))))]) (.seq (.ops [.i 3 (.mov (.c (.one (.st (.int .u64 0)))))]) (.seq (.seq (.ops [.f 6 2 1, .l 7 6, .i 8 (.len false (.t 7)), .i 9 (.mov (.n 0))]) (.block 0 (.loop (.seq (.ops [.i 10 (.bin .lss (.t 9) (.t 8))]) (.seq (.cond (.t 10) .skip (.exit 0)) (.seq (.block 1 (.seq (.ops [.i 11 (.indexAddr 1 (.t 7) (.t 9)), .l 12 11, .m 5 12]) (.ops [.m 13 3, .m 14 5, .i 15 (.bits .shl (.c (.one (.st (.int .u64 1)))) (.t 14)), .i 16 (.bits .or (.t 13) (.t 15)), .m 3 16]))) (.ops [.i 17 (.bin .add (.t 9) (.n 1)), .m 9 17]))))))) (.seq (.ops [.m 18 3, .m 2 18]) .ret))))
theorem Hl : OkF Try.prog 33 19 [] Ew [.t 2] := .of Try.func33 rfl rfl (by kernel_rfl) rfl

def bN : List Bool → Nat
 | [] => 0
 | b :: bs => b.toNat + 2 * bN bs
theorem Pw (b : Bool) (bs : List Bool) : (b.toNat + 2 * bN bs) / 2 = bN bs := by cases b <;> simp [Bool.toNat] <;> omega
theorem BT : ∀ (l : List Bool) (i : Nat), (bN l).testBit i = l.getD i false
 | [], i => by simp [bN]
 | b :: bs, 0 => by
  rw [bN, Nat.testBit_zero]
  cases b <;> simp [Bool.toNat] <;> omega
 | b :: bs, i + 1 => by
  rw [bN, Nat.testBit_succ, Pw, BT bs i]
  simp
theorem Oy : ∀ l : List Bool, bN l < 2 ^ l.length
 | [] => by simp [bN]
 | b :: bs => by
  have h := Oy bs
  rw [bN, List.length_cons, Nat.pow_succ]
  cases b <;> simp [Bool.toNat] <;> omega
theorem Mf (n : Nat) : bN (List.replicate n false) = 0 := by
 induction n with
 | zero => rfl
 | succ n ih => rw [List.replicate_succ, bN, ih]; rfl
theorem PB {l : List Bool} {i : Nat} (h : i < l.length) : bN l ||| 2 ^ i = bN (l.set i true) := by
 refine Nat.eq_of_testBit_eq fun j => ?_
 rw [Nat.testBit_or, BT, BT, Nat.testBit_two_pow]
 by_cases hj : i = j
 ·subst hj
  simp [List.getD_eq_getElem?_getD, h]
 ·simp [List.getD_eq_getElem?_getD, List.getElem?_set_ne hj, hj]
theorem QN (l : List Bool) (s : Nat) : bN l / 2 ^ s % 2 = (l.getD s false).toNat := by
 rw [← BT, Nat.testBit_eq_decide_div_mod_eq]
 have : bN l / 2 ^ s % 2 < 2 := Nat.mod_lt _ (by omega)
 by_cases h : bN l / 2 ^ s % 2 = 1
 ·simp [h]
 ·simp [h]; omega
theorem Pp (x : Nat) : x &&& 1 = x % 2 := Nat.and_one_is_mod x
theorem LE {l : List Bool} (h : l.length ≤ 64) : bN l ≤ 18446744073709551615 := by
 have h1 := Oy l
 have h2 : 2 ^ l.length ≤ 2 ^ 64 := Nat.pow_le_pow_right (by omega) h
 have h3 : (2 : Nat) ^ 64 = 18446744073709551616 := by decide
 omega
def Au.lastB (a : Au) : List Bool := a.last.foldl (fun l s => l.set s.toNat true) (List.replicate a.states.toNat false)
theorem Cd : ∀ (ss : List Int) (l : List Bool), (ss.foldl (fun l s => l.set s.toNat true) l).length = l.length
 | [], _ => rfl
 | s :: ss, l => by rw [List.foldl_cons, Cd ss]; simp
theorem FR (i : Nat) : ∀ (ss : List Int) (l : List Bool), i < l.length → (ss.foldl (fun l s => l.set s.toNat true) l).getD i false = (l.getD i false || ss.any fun s => decide (s.toNat = i))
 | [], l, h => by simp
 | s :: ss, l, h => by
  rw [List.foldl_cons, FR i ss _ (by simpa using h), List.any_cons, ← Bool.or_assoc]
  congr 1
  by_cases he : s.toNat = i
  ·subst he
   simp [List.getD_eq_getElem?_getD, h]
  ·simp [List.getD_eq_getElem?_getD, List.getElem?_set_ne he, he]
theorem Au.lastB_length (a : Au) : a.lastB.length = a.states.toNat := by
 unfold Au.lastB
 rw [Cd]
 simp
theorem Au.lastB_get (a : Au) (i : Nat) (h : i < a.states.toNat) : a.lastB.getD i false = a.last.any fun s => decide (s.toNat = i) := by
 unfold Au.lastB
 rw [FR _ _ _ (by simpa using h)]
 simp [List.getD_eq_getElem?_getD, h]

set_option maxHeartbeats 2000000
def Hk (l : List Bool) : List SV := [.int .u64 (bN l)]
abbrev aU (l : List Bool) : AV := .one (.st (.int .u64 (bN l)))
abbrev aUs (l : List (List Bool)) : AV := .one (.st (.list (l.map Hk)))
theorem OF (n k : Nat) : ((n : Int)).fdiv (2 ^ k) = ((n / 2 ^ k : Nat) : Int) := by
 rw [show ((2 : Int) ^ k) = ((2 ^ k : Nat) : Int) by simp, Int.fdiv_eq_ediv_of_nonneg _ (Int.natCast_nonneg _)]
 exact (Int.natCast_ediv _ _).symm
theorem N3 (k : Nat) : (1 : Int) * 2 ^ k = ((2 ^ k : Nat) : Int) := by simp
theorem L5 {k : Nat} (h : k < 64) : inR .u64 ((2 ^ k : Nat) : Int) := by
 rw [Eg]
 have h2 : 2 ^ k ≤ 2 ^ 63 := Nat.pow_le_pow_right (by omega) (by omega)
 have h3 : (2 : Nat) ^ 63 = 9223372036854775808 := by decide
 generalize 2 ^ k = p at *
 omega
theorem QK {l : List Bool} (h : l.length ≤ 64) (k : Nat) : inR .u64 ((bN l / 2 ^ k : Nat) : Int) := by
 rw [Eg]
 have := LE h
 have h2 := Nat.div_le_self (bN l) (2 ^ k)
 generalize bN l / 2 ^ k = p at *
 omega
theorem P1 : (1 : Int).toNat = 1 := rfl
theorem JN (a : Au) (ga : a.Good) (hs64 : a.states ≤ 64) (hm : a.moves.length ≤ 100000) (n : ByteArray) (below : List (List Bool)) (hb : ∀ l ∈ below, l.length = a.states.toNat) (hbl : below.length ≤ 1000000) :
  A0 Try.prog 36 [aAu a, NC n, aUs below] (aU (a.ending n below)) := by
 have hst := ga.states
 have h0 : bN (List.replicate a.states.toNat false) = 0 := Mf _
 refine Hr.ac fun C hC => ?_
 unfold E1
 repeat' with_reducible first | refine W ?_ | refine Z0 ?_ | ((first | refine Wo fun K hK => ?_ | refine Wp ?_ | refine Wq ?_ | refine Wr ?_); (try simp only [go_sem, fN, seval, eT, iR, dT, dF, nL]); (repeat refine Ai ?_); (try (refine hK _ ?_; clear hK K)); try refine iC ?_)
 refine IWP.loopD [9] (fun q s => ∃ k, k ≤ a.moves.length ∧ q = a.moves.length - k ∧ s.env 1 = NC n ∧ s.env 2 = aUs below ∧ s.env 3 = .one (.ptr 3 1 0 0) ∧ s.S 3 = some (AT a) ∧ s.env 7 = aU ((a.moves.take k).foldl (Bw n below) (List.replicate a.states.toNat false)) ∧ s.env 14 = .one (.st (.list (a.moves.map Ax))) ∧ s.env 15 = AP a.moves.length ∧ s.env 16 = AP k ∧ s.S 9 = none) a.moves.length
  ⟨0, Nat.zero_le _, rfl, rfl, rfl, rfl, rfl, by simp [AF, h0], by simp [AF], by simp [AF], rfl, rfl⟩ ?_
 rintro q ⟨env, St⟩ ⟨k, hk, rfl, e1, e2, e3, s3, e7, e14, e15, e16, s9⟩
 simp only at e1 e2 e3 s3 e7 e14 e15 e16 s9
 unfold AT at s3
 by_cases hlt : (k : Int) < a.moves.length
 ·obtain ⟨m, hmk⟩ := Aq (show k < a.moves.length by omega)
  have hmm := AY hmk
  have hto := ga.to_ m hmm
  have hfold : (a.moves.take (k + 1)).foldl (Bw n below) (List.replicate a.states.toNat false) = Bw n below ((a.moves.take k).foldl (Bw n below) (List.replicate a.states.toNat false)) m := by
   rw [Ay hmk, List.foldl_append]
   rfl
  have hfl := EH n below (a.moves.take k) (List.replicate a.states.toNat false)
  rw [List.length_replicate] at hfl
  generalize (a.moves.take k).foldl (Bw n below) (List.replicate a.states.toNat false) = L at *
  by_cases g1 : m.name = n
  case neg =>
   have hf : m.fits n below = false := by simp [Mv.fits, g1]
   repeat' with_reducible first | refine W ?_ | refine Z0 ?_ | ((first | refine Wo fun K hK => ?_ | refine Wp ?_ | refine Wq ?_ | refine Wr ?_); (try simp only [go_sem, fN, seval, eT, iR, e1, e2, e3, s3, e7, e14, e15, e16, s9, hlt, hmk, Ax, g1, dT, dF, nL]); (repeat refine Ai ?_); (try (refine hK _ ?_; clear hK K)); try refine iC ?_)
   refine AI ⟨a.moves.length - (k + 1), by omega, k + 1, by omega, rfl, ?_⟩
   simp only [go_sem, fN, seval, AS.drop, Ag, AC.clears, AC.clear, AC.highs, AC.high, Bool.not_false, Bool.true_and, Bool.and_self, AV.purge, AV.purges, AC.purge, AG.purge, List.contains_cons, List.contains_nil, Nat.reduceBEq, Bool.or_self, Bool.or_false, Bool.false_or, Bool.or_true, eT, iR, e1, e2, e3, s3, e7, e14, e15, e16, s9, AT]
   simp [hfold, Bw, hf]
  case pos =>
  by_cases g2 : (m.frm.length : Int) = below.length
  case neg =>
   have hf : m.fits n below = false := by
    unfold Mv.fits
    rw [Il (by omega)]
    simp
   repeat' with_reducible first | refine W ?_ | refine Z0 ?_ | ((first | refine Wo fun K hK => ?_ | refine Wp ?_ | refine Wq ?_ | refine Wr ?_); (try simp only [go_sem, fN, seval, eT, iR, e1, e2, e3, s3, e7, e14, e15, e16, s9, hlt, hmk, Ax, g1, g2, dT, dF, nL]); (repeat refine Ai ?_); (try (refine hK _ ?_; clear hK K)); try refine iC ?_)
   refine AI ⟨a.moves.length - (k + 1), by omega, k + 1, by omega, rfl, ?_⟩
   simp only [go_sem, fN, seval, AS.drop, Ag, AC.clears, AC.clear, AC.highs, AC.high, Bool.not_false, Bool.true_and, Bool.and_self, AV.purge, AV.purges, AC.purge, AG.purge, List.contains_cons, List.contains_nil, Nat.reduceBEq, Bool.or_self, Bool.or_false, Bool.false_or, Bool.or_true, eT, iR, e1, e2, e3, s3, e7, e14, e15, e16, s9, AT]
   simp [hfold, Bw, hf]
  case pos =>
  have g2' : m.frm.length = below.length := by omega
  repeat' with_reducible first | refine W ?_ | refine Z0 ?_ | ((first | refine Wo fun K hK => ?_ | refine Wp ?_ | refine Wq ?_ | refine Wr ?_); (try simp only [go_sem, fN, seval, eT, iR, e1, e2, e3, s3, e7, e14, e15, e16, s9, hlt, hmk, Ax, g1, g2, dT, dF, nL]); (repeat refine Ai ?_); (try (refine hK _ ?_; clear hK K)); try refine iC ?_)
  refine IWP.loop (fun q s => ∃ j, j ≤ below.length ∧ q = below.length - j ∧ s.env 1 = NC n ∧ s.env 2 = aUs below ∧ s.env 3 = .one (.ptr 3 1 0 0) ∧ s.S 3 = some (AT a) ∧ s.env 7 = aU L ∧ s.env 14 = .one (.st (.list (a.moves.map Ax))) ∧ s.env 15 = AP a.moves.length ∧ s.env 16 = AP k ∧ s.env 9 = .one (.ptr 9 1 0 0) ∧ s.S 9 = some (.box 46 [.st (.str m.name), .st (.list (m.frm.map Bo)), .st (.int .i64 m.to_)]) ∧ s.env 10 = Bk (Be (below.take j) (m.frm.take j)) ∧ s.env 33 = .one (.st (.list (m.frm.map Bo))) ∧ s.env 34 = AP below.length ∧ s.env 35 = AP j) below.length
   ⟨0, Nat.zero_le _, rfl, by simp [AF, e1], by simp [AF, e2], by simp [AF, e3], by simp [AF, AT, s3], by simp [AF, e7], by simp [AF, e14], by simp [AF, e15], by simp [AF, e16], by simp [AF], by simp [AF, g1], by simp [AF, Be], by simp [AF], by simp [AF, g2], by simp [AF]⟩ ?_
  rintro q ⟨env2, S2⟩ ⟨j, hj, rfl, f1, f2, f3, t3, f7, f14, f15, f16, f9, t9, f10, f33, f34, f35⟩
  simp only at f1 f2 f3 t3 f7 f14 f15 f16 f9 t9 f10 f33 f34 f35
  unfold AT at t3
  by_cases hjl : (j : Int) < below.length
  ·obtain ⟨bl, hbj⟩ := Aq (show j < below.length by omega)
   obtain ⟨x, hx⟩ := Aq (show j < m.frm.length by omega)
   have qx := ga.frm m hmm x (AY hx)
   have hbll := hb bl (AY hbj)
   have hst2 := Hc hbj hx
   have hsh := QK (l := bl) (by omega) x.toNat
   have hbit := QN bl x.toNat
   rw [← Pp] at hbit
   have q64 : 0 ≤ x ∧ x.toNat ≤ 64 := by omega
   generalize bl.getD x.toNat false = y at hbit hst2
   generalize Be (below.take j) (m.frm.take j) = ok at f10 hst2
   cases ok with
   | true =>
    cases y <;> simp only [Bool.toNat_true, Bool.toNat_false] at hbit
    all_goals
     repeat' with_reducible first | refine W ?_ | refine Z0 ?_ | ((first | refine Wo fun K hK => ?_ | refine Wp ?_ | refine Wq ?_ | refine Wr ?_); (try simp only [go_sem, fN, seval, eT, iR, f1, f2, f3, t3, f7, f14, f15, f16, f9, t9, f10, f33, f34, f35, hjl, hbj, hx, Hk, OF, hsh, hbit, q64, P1, Int.toNat_natCast, F5, IntKind.bits, dT, dF, nL]); (repeat refine Ai ?_); (try (refine hK _ ?_; clear hK K)); try refine iC ?_)
     refine AI ⟨below.length - (j + 1), by omega, j + 1, by omega, rfl, ?_⟩
     simp only [go_sem, fN, seval, eT, iR, f1, f2, f3, t3, f7, f14, f15, f16, f9, t9, f10, f33, f34, f35, AT]
     simp [hst2]
   | false =>
    repeat' with_reducible first | refine W ?_ | refine Z0 ?_ | ((first | refine Wo fun K hK => ?_ | refine Wp ?_ | refine Wq ?_ | refine Wr ?_); (try simp only [go_sem, fN, seval, eT, iR, f1, f2, f3, t3, f7, f14, f15, f16, f9, t9, f10, f33, f34, f35, hjl, hbj, hx, dT, dF, nL]); (repeat refine Ai ?_); (try (refine hK _ ?_; clear hK K)); try refine iC ?_)
    refine AI ⟨below.length - (j + 1), by omega, j + 1, by omega, rfl, ?_⟩
    simp only [go_sem, fN, seval, eT, iR, f1, f2, f3, t3, f7, f14, f15, f16, f9, t9, f10, f33, f34, f35, AT]
    simp [hst2]
  ·rw [List.take_of_length_le (l := below) (i := j) (by omega), List.take_of_length_le (l := m.frm) (i := j) (by omega)] at f10
   have hf : m.fits n below = Be below m.frm := by simp [Mv.fits, g1]
   have hor := PB (l := L) (i := m.to_.toNat) (by omega)
   have hip := L5 (k := m.to_.toNat) (by omega)
   have q64 : 0 ≤ m.to_ ∧ m.to_.toNat ≤ 64 := by omega
   by_cases g3 : Be below m.frm = true
   ·rw [g3] at f10 hf
    repeat' with_reducible first | refine W ?_ | refine Z0 ?_ | ((first | refine Wo fun K hK => ?_ | refine Wp ?_ | refine Wq ?_ | refine Wr ?_); (try simp only [go_sem, fN, seval, eT, iR, f1, f2, f3, t3, f7, f14, f15, f16, f9, t9, f10, f33, f34, f35, hjl, N3, hip, q64, Int.toNat_natCast, F5, IntKind.bits, hor, dT, dF, nL]); (repeat refine Ai ?_); (try (refine hK _ ?_; clear hK K)); try refine iC ?_)
    refine AI ⟨a.moves.length - (k + 1), by omega, k + 1, by omega, rfl, ?_⟩
    simp only [go_sem, fN, seval, AS.drop, Ag, AC.clears, AC.clear, AC.highs, AC.high, Bool.not_false, Bool.true_and, Bool.and_self, AV.purge, AV.purges, AC.purge, AG.purge, List.contains_cons, List.contains_nil, Nat.reduceBEq, Bool.or_self, Bool.or_false, Bool.false_or, Bool.or_true, eT, iR, f1, f2, f3, t3, f7, f14, f15, f16, f9, t9, f10, AT]
    simp [hfold, Bw, hf]
   ·have g3' : Be below m.frm = false := by simpa using g3
    rw [g3'] at f10 hf
    repeat' with_reducible first | refine W ?_ | refine Z0 ?_ | ((first | refine Wo fun K hK => ?_ | refine Wp ?_ | refine Wq ?_ | refine Wr ?_); (try simp only [go_sem, fN, seval, eT, iR, f1, f2, f3, t3, f7, f14, f15, f16, f9, t9, f10, f33, f34, f35, hjl, dT, dF, nL]); (repeat refine Ai ?_); (try (refine hK _ ?_; clear hK K)); try refine iC ?_)
    refine AI ⟨a.moves.length - (k + 1), by omega, k + 1, by omega, rfl, ?_⟩
    simp only [go_sem, fN, seval, AS.drop, Ag, AC.clears, AC.clear, AC.highs, AC.high, Bool.not_false, Bool.true_and, Bool.and_self, AV.purge, AV.purges, AC.purge, AG.purge, List.contains_cons, List.contains_nil, Nat.reduceBEq, Bool.or_self, Bool.or_false, Bool.false_or, Bool.or_true, eT, iR, f1, f2, f3, t3, f7, f14, f15, f16, f9, t9, f10, AT]
    simp [hfold, Bw, hf]
 ·rw [List.take_of_length_le (l := a.moves) (i := k) (by omega)] at e7
  have hle : a.ending n below = a.moves.foldl (Bw n below) (List.replicate a.states.toNat false) := rfl
  rw [← hle] at e7
  repeat' with_reducible first | refine W ?_ | refine Z0 ?_ | ((first | refine Wo fun K hK => ?_ | refine Wp ?_ | refine Wq ?_ | refine Wr ?_); (try simp only [go_sem, fN, seval, eT, iR, e1, e2, e3, s3, e7, e14, e15, e16, hlt, dT, dF, nL]); (repeat refine Ai ?_); (try (refine hK _ ?_; clear hK K)); try refine iC ?_)
  simp only [go_sem, fN, seval, A6, AS.result, AO, AR, Av, e7]
theorem HY (a : Au) (ga : a.Good) (hs64 : a.states ≤ 64) (hl : a.last.length ≤ 100000) : A0 Try.prog 33 [aAu a] (aU a.lastB) := by
 have hst := ga.states
 have h0 : bN (List.replicate a.states.toNat false) = 0 := Mf _
 refine Hl.ac fun C hC => ?_
 unfold Ew
 repeat' with_reducible first | refine W ?_ | refine Z0 ?_ | ((first | refine Wo fun K hK => ?_ | refine Wp ?_ | refine Wq ?_ | refine Wr ?_); (try simp only [go_sem, fN, seval, eT, iR, dT, dF, nL]); (repeat refine Ai ?_); (try (refine hK _ ?_; clear hK K)); try refine iC ?_)
 refine IWP.loop (fun q s => ∃ k, k ≤ a.last.length ∧ q = a.last.length - k ∧ s.env 3 = aU ((a.last.take k).foldl (fun l s => l.set s.toNat true) (List.replicate a.states.toNat false)) ∧ s.env 7 = .one (.st (.list (a.last.map Bo))) ∧ s.env 8 = AP a.last.length ∧ s.env 9 = AP k) a.last.length ⟨0, Nat.zero_le _, rfl, by simp [AF, h0], rfl, rfl, rfl⟩ ?_
 rintro q ⟨env, St⟩ ⟨k, hk, rfl, e3, e7, e8, e9⟩
 simp only at e3 e7 e8 e9
 by_cases hlt : (k : Int) < a.last.length
 ·obtain ⟨x, hx⟩ := Aq (show k < a.last.length by omega)
  have qx := ga.last x (AY hx)
  have hfold : (a.last.take (k + 1)).foldl (fun l s => l.set s.toNat true) (List.replicate a.states.toNat false) = ((a.last.take k).foldl (fun l s => l.set s.toNat true) (List.replicate a.states.toNat false)).set x.toNat true := by
   rw [Ay hx, List.foldl_append]
   rfl
  have hfl := Cd (a.last.take k) (List.replicate a.states.toNat false)
  rw [List.length_replicate] at hfl
  generalize (a.last.take k).foldl (fun l s => l.set s.toNat true) (List.replicate a.states.toNat false) = L at *
  have hor := PB (l := L) (i := x.toNat) (by omega)
  have hip := L5 (k := x.toNat) (by omega)
  have q64 : 0 ≤ x ∧ x.toNat ≤ 64 := by omega
  repeat' with_reducible first | refine W ?_ | refine Z0 ?_ | ((first | refine Wo fun K hK => ?_ | refine Wp ?_ | refine Wq ?_ | refine Wr ?_); (try simp only [go_sem, fN, seval, eT, iR, e3, e7, e8, e9, hlt, hx, N3, hip, q64, Int.toNat_natCast, F5, IntKind.bits, hor, dT, dF, nL]); (repeat refine Ai ?_); (try (refine hK _ ?_; clear hK K)); try refine iC ?_)
  refine AI ⟨a.last.length - (k + 1), by omega, k + 1, by omega, rfl, ?_⟩
  simp only [go_sem, fN, seval, eT, iR, e3, e7, e8, e9]
  simp [hfold]
 ·rw [List.take_of_length_le (l := a.last) (i := k) (by omega)] at e3
  have hle : a.lastB = a.last.foldl (fun l s => l.set s.toNat true) (List.replicate a.states.toNat false) := rfl
  rw [← hle] at e3
  repeat' with_reducible first | refine W ?_ | refine Z0 ?_ | ((first | refine Wo fun K hK => ?_ | refine Wp ?_ | refine Wq ?_ | refine Wr ?_); (try simp only [go_sem, fN, seval, eT, iR, e3, e7, e8, e9, hlt, dT, dF, nL]); (repeat refine Ai ?_); (try (refine hK _ ?_; clear hK K)); try refine iC ?_)
  simp only [go_sem, fN, seval, A6, AS.result, AO, AR, Av, e3]

theorem IWP.at_ {P : Program} {C : Ctx} {mu : List Nat} {x : IR} {Q : AX → AS → Prop} {env0 : Nat → AV} {S0 : AA} (M : (Nat → AV) → AA → Prop) (hM : M env0 S0) (h : ∀ env S, M env S → IWP P C mu x Q ⟨env, S⟩) : IWP P C mu x Q ⟨env0, S0⟩ := h _ _ hM
section
variable {C : Ctx} {s : AS}
end
theorem J3 {S U : AA} (hU : Aa U) (h : ∀ i, 1000 ≤ i → S i = U i) : Cj S = U := by
 funext i
 show (if i < 1000 then none else S i) = U i
 by_cases hi : i < 1000
 ·rw [if_pos hi, C2 hU hi]
 ·rw [if_neg hi, h i (by omega)]
theorem GJ {C : Ctx} {y : Nat} {b : AG} {N : AA → Prop} {Jx : AX → AA → Prop} {env : Nat → AV} {S : AA} (U : AA) (hU : Aa (AF U y (some b))) (hy : U y = none) (hS : ∀ i, 1000 ≤ i → S i = AF U y (some b) i) (hN : N U) : JL C y b N Jx .normal ⟨env, S⟩ :=
 ⟨⟨fun i => (env i).low, Cj S⟩, U, AZ.low (s := ⟨env, S⟩) (fun i b' hi h => by
  have h : S i = some b' := h
  rw [hS i hi] at h
  exact (hU i b' h).2), J3 hU hS, by
  show Aa (Cj S)
  rw [J3 hU hS]
  exact hU, hy, hN⟩
theorem AZ.ownCellA {C : Ctx} {s : AS} {id r : Nat} {e e' : TypeId} {cs : List AC} (j wd : Nat) (hS : s.S id = some (.box e cs)) (hj : cs[j]? = some (.full [])) (hr : s.S r = none) (hne : id ≠ r) :
  AZ C s ((s.set r (.arow e' wd [])).set id (.box e (cs.set j (.row r 0)))) := fun a w ⟨σ, ι, R⟩ => by
 have hb := R.blk _ _ hS
 cases hb with
 | @box _ _ g vs k1 k2 k3 k4 k5 =>
  obtain ⟨v, hv, hvr⟩ := k4.get hj
  cases hvr with
  | @full p len xs hs =>
   have hl : len = 0 := by
    obtain ⟨p', cap', e1, _⟩ := B1 hs
    cases e1
    rfl
   subst hl
   obtain ⟨hu, R'⟩ := R.fresh (w' := w) hr (.arow e' wd []) ⟨p, 0, none⟩ (Ext.refl _ _) R.fit (Below.refl _ _) (by simp) (fun S' ι' hu => .afull rfl rfl (by simp) hs)
   have hS' : (s.set r (.arow e' wd [])).S id = some (.box e cs) := by simp [AS.set, AD _ hne, hS]
   have hι : AF ι r ⟨p, 0, none⟩ id = ι id := AD _ hne _
   obtain ⟨hu2, R2⟩ := R'.turn (w' := w) hS' (.box e (cs.set j (.row r 0))) (AF ι r ⟨p, 0, none⟩ id) (σ' := σ) (fun _ _ h => h) (fun _ _ _ => rfl) R.fit (by simp [AG.len]) (fun _ => ⟨rfl, rfl⟩) ⟨rfl, rfl, rfl⟩ (Nat.le_refl _) (fun _ _ _ => rfl) (fun g h => .inl h)
    (fun hu2 => by
     rw [hι] at hu2 ⊢
     refine .box k1 k2 k3 (AN.of_get (by rw [List.length_set]; exact k4.len) fun q u c hu3 hc => ?_) k5
     by_cases e2 : q = j
     ·subst e2
      rw [hv] at hu3
      cases hu3
      rw [List.getElem?_set_self (List.getElem?_eq_some_iff.1 hj).1] at hc
      cases hc
      refine .row (b := .arow e' wd []) (by simp [AS.set, AF, Ne.symm hne]) (Nat.le_refl _) rfl fun _ => ?_
      simp [AF, Ne.symm hne]
     ·rw [List.getElem?_set_ne (fun e => e2 e.symm)] at hc
      obtain ⟨u', hu', hr'⟩ := k4.get hc
      rw [hu3] at hu'
      cases hu'
      exact (hr'.mono (fun _ _ h => h) hu).mono (fun _ _ h => h) hu2)
   exact ⟨σ, _, R2⟩

abbrev J := List Bool × List Bool
def nxt (a b : Au) (n : ByteArray) (l : List J) : J := (a.ending n (l.map Prod.fst), b.ending n (l.map Prod.snd))
def Ae (out : List J) (l : List Nat) : List J := l.map fun i => out.getD i ([], [])
open Classical in
noncomputable def FU (out : List J) (j : J) : List J := if j ∈ out then out else out ++ [j]
noncomputable def Br (a b : Au) (n : ByteArray) (out : List J) (l : List Nat) : List J := FU out (nxt a b n (Ae out l))
noncomputable def Cm (a b : Au) (out : List J) (s : Sym) : List J := (C5 out.length s.2).foldl (Br a b s.1) out
noncomputable def Er (a b : Au) (syms : List Sym) (out : List J) : List J := syms.foldl (Cm a b) out
noncomputable def itJ (a b : Au) (syms : List Sym) : Nat → List J
 | 0 => []
 | k + 1 => Er a b syms (itJ a b syms k)
theorem O4 (out : List J) (j : J) : out <+: FU out j := by
 unfold FU
 split
 ·exact List.prefix_refl _
 ·exact List.prefix_append _ _
theorem DN {α : Type} {f : List J → α → List J} (h : ∀ out x, out <+: f out x) : ∀ (l : List α) (out : List J), out <+: l.foldl f out
 | [], out => List.prefix_refl _
 | x :: l, out => (h out x).trans (DN h l (f out x))
theorem DY {a b : Au} {n : ByteArray} (out : List J) (l : List Nat) : out <+: Br a b n out l := O4 _ _
theorem HS {a b : Au} (out : List J) (s : Sym) : out <+: Cm a b out s := DN (fun out l => DY out l) _ _
theorem IG {a b : Au} {syms : List Sym} (out : List J) : out <+: Er a b syms out := DN (fun out s => HS out s) _ _
inductive Gen (a b : Au) (syms : List Sym) : J → Prop
 | mk {s : Sym} {l : List J} : s ∈ syms → l.length = s.2 → (∀ x ∈ l, Gen a b syms x) → Gen a b syms (nxt a b s.1 l)
theorem Gen.len {a b : Au} {syms : List Sym} {j : J} (h : Gen a b syms j) : j.1.length = a.states.toNat ∧ j.2.length = b.states.toNat := by
 cases h
 exact ⟨Au.ending_length _ _ _, Au.ending_length _ _ _⟩
structure OkJ (a b : Au) (syms : List Sym) (out : List J) : Prop where
 nod : out.Nodup
 gen : ∀ j ∈ out, Gen a b syms j
section
variable {a b : Au} {syms : List Sym}
theorem OkJ.nil : OkJ a b syms [] := ⟨List.nodup_nil, by simp⟩
theorem OkJ.add {out : List J} {j : J} (h : OkJ a b syms out) (hj : Gen a b syms j) : OkJ a b syms (FU out j) := by
 unfold FU
 split
 ·exact h
 ·rename_i hm
  refine ⟨?_, fun x hx => ?_⟩
  ·rw [List.nodup_append]
   exact ⟨h.nod, by simp, fun x hx y hy e => hm (by rw [← List.mem_singleton.1 hy, ← e]; exact hx)⟩
  ·rcases List.mem_append.1 hx with hx | hx
   ·exact h.gen x hx
   ·rw [List.mem_singleton.1 hx]; exact hj
theorem Cr {out : List J} {l : List Nat} (hl : ∀ i ∈ l, i < out.length) : ∀ x ∈ Ae out l, x ∈ out := fun x hx => by
 unfold Ae at hx
 obtain ⟨i, hi, rfl⟩ := List.mem_map.1 hx
 have := hl i hi
 rw [List.getD_eq_getElem?_getD, List.getElem?_eq_getElem this]
 exact List.getElem_mem this
theorem B4 (out : List J) (l : List Nat) : (Ae out l).length = l.length := by simp [Ae]
theorem OkJ.step {out : List J} {s : Sym} {l : List Nat} (h : OkJ a b syms out) (hs : s ∈ syms) (hl : l.length = s.2) (hi : ∀ i ∈ l, i < out.length) : OkJ a b syms (Br a b s.1 out l) :=
 h.add (.mk hs (by rw [B4, hl]) fun x hx => h.gen x (Cr hi x hx))
theorem OkJ.steps {s : Sym} (hs : s ∈ syms) {n : Nat} : ∀ {ls : List (List Nat)} {out : List J}, OkJ a b syms out → n ≤ out.length → (∀ l ∈ ls, l.length = s.2 ∧ ∀ i ∈ l, i < n) → OkJ a b syms (ls.foldl (Br a b s.1) out)
 | [], out, h, hn, hl => h
 | l :: ls, out, h, hn, hl => by
  obtain ⟨h1, h2⟩ := hl l (by simp)
  show OkJ a b syms (ls.foldl (Br a b s.1) (Br a b s.1 out l))
  exact OkJ.steps hs (h.step hs h1 fun i hi => Nat.lt_of_lt_of_le (h2 i hi) hn) (Nat.le_trans hn (DY out l).length_le) fun l' hl' => hl l' (by simp [hl'])
theorem OkJ.sym {out : List J} {s : Sym} (h : OkJ a b syms out) (hs : s ∈ syms) (h2 : s.2 ≤ 2) : OkJ a b syms (Cm a b out s) :=
 OkJ.steps hs h (Nat.le_refl _) fun l hl => (Cy h2).1 hl
theorem OkJ.symsF (h2 : ∀ s ∈ syms, s.2 ≤ 2) : ∀ {ss : List Sym} {out : List J}, (∀ s ∈ ss, s ∈ syms) → OkJ a b syms out → OkJ a b syms (ss.foldl (Cm a b) out)
 | [], out, hs, h => h
 | s :: ss, out, hs, h => by
  show OkJ a b syms (ss.foldl (Cm a b) (Cm a b out s))
  exact OkJ.symsF h2 (fun x hx => hs x (by simp [hx])) (h.sym (hs s (by simp)) (h2 s (hs s (by simp))))
theorem OkJ.pass (h2 : ∀ s ∈ syms, s.2 ≤ 2) {out : List J} (h : OkJ a b syms out) : OkJ a b syms (Er a b syms out) := OkJ.symsF h2 (fun s hs => hs) h
theorem Gp (h2 : ∀ s ∈ syms, s.2 ≤ 2) : ∀ k, OkJ a b syms (itJ a b syms k)
 | 0 => .nil
 | k + 1 => (Gp h2 k).pass h2
theorem G2 : ∀ {l m : List Bool}, l.length = m.length → bN l = bN m → l = m := fun {l m} hl h => by
 refine List.ext_getElem hl fun i h1 h2 => ?_
 have e1 := BT l i
 have e2 := BT m i
 rw [h, e2] at e1
 simpa [List.getD_eq_getElem?_getD, h1, h2] using e1.symm
theorem OkJ.len {out : List J} (h : OkJ a b syms out) (ha : a.states ≤ 3) (hb : b.states ≤ 3) : out.length ≤ 64 := by
 have hlt : ∀ {l : List Bool}, l.length ≤ 3 → bN l < 8 := fun {l} hl => Nat.lt_of_lt_of_le (Oy l) (Nat.pow_le_pow_right (by omega) hl)
 have hc : (out.map fun j => bN j.1 * 8 + bN j.2).Nodup := by
  rw [List.nodup_iff_pairwise_ne, List.pairwise_map]
  have := h.nod
  rw [List.nodup_iff_pairwise_ne, List.pairwise_iff_getElem] at this
  rw [List.pairwise_iff_getElem]
  intro i j hi hj hij e
  refine this i j hi hj hij ?_
  obtain ⟨q1, q2⟩ := (h.gen _ (List.getElem_mem hi)).len
  obtain ⟨r1, r2⟩ := (h.gen _ (List.getElem_mem hj)).len
  have p1 := hlt (l := out[i].2) (by omega)
  have p2 := hlt (l := out[j].2) (by omega)
  exact Prod.ext (G2 (by omega) (by omega)) (G2 (by omega) (by omega))
 have := Gt hc (n := 64) fun x hx => by
  obtain ⟨j, hj, rfl⟩ := List.mem_map.1 hx
  obtain ⟨q1, q2⟩ := (h.gen j hj).len
  have p1 := hlt (l := j.1) (by omega)
  have p2 := hlt (l := j.2) (by omega)
  omega
 simpa using this
theorem FF (h2 : ∀ s ∈ syms, s.2 ≤ 2) (ha : a.states ≤ 3) (hb : b.states ≤ 3) : ∃ k, k ≤ 64 ∧ itJ a b syms (k + 1) = itJ a b syms k := by
 by_cases h : ∃ k, k ≤ 64 ∧ itJ a b syms (k + 1) = itJ a b syms k
 ·exact h
 ·exfalso
  have hgrow : ∀ k, k ≤ 65 → k ≤ (itJ a b syms k).length := fun k => by
   induction k with
   | zero => intro _; omega
   | succ k ih =>
    intro hk
    have h1 := ih (by omega)
    have hp := IG (a := a) (b := b) (syms := syms) (itJ a b syms k)
    have hne : ¬ itJ a b syms (k + 1) = itJ a b syms k := fun e => h ⟨k, by omega, e⟩
    have hl := hp.length_le
    have : (itJ a b syms k).length ≠ (Er a b syms (itJ a b syms k)).length := fun e => hne (hp.eq_of_length e).symm
    show k + 1 ≤ (Er a b syms (itJ a b syms k)).length
    omega
  have h1 := hgrow 65 (Nat.le_refl _)
  have h2 := (Gp (a := a) (b := b) h2 65).len ha hb
  omega
theorem Ff {k : Nat} (h : itJ a b syms (k + 1) = itJ a b syms k) : ∀ d, itJ a b syms (k + d) = itJ a b syms k
 | 0 => rfl
 | d + 1 => by
  show Er a b syms (itJ a b syms (k + d)) = _
  rw [Ff h d]
  exact h
noncomputable def Aw (a b : Au) (syms : List Sym) : List J := itJ a b syms 64
theorem IA {k : Nat} (h2 : ∀ s ∈ syms, s.2 ≤ 2) (ha : a.states ≤ 3) (hb : b.states ≤ 3) (h : itJ a b syms (k + 1) = itJ a b syms k) : itJ a b syms k = Aw a b syms := by
 obtain ⟨k0, h0, hs⟩ := FF (a := a) (b := b) h2 ha hb
 have e1 := Ff hs (64 - k0)
 rw [show k0 + (64 - k0) = 64 by omega] at e1
 unfold Aw
 rw [e1]
 rcases Nat.le_total k k0 with hk | hk
 ·have := Ff h (k0 - k)
  rw [show k + (k0 - k) = k0 by omega] at this
  exact this.symm
 ·have := Ff hs (k - k0)
  rw [show k0 + (k - k0) = k by omega] at this
  exact this
theorem DU (h2 : ∀ s ∈ syms, s.2 ≤ 2) : OkJ a b syms (Aw a b syms) := Gp h2 64
theorem LU (h2 : ∀ s ∈ syms, s.2 ≤ 2) (ha : a.states ≤ 3) (hb : b.states ≤ 3) : Er a b syms (Aw a b syms) = Aw a b syms := by
 obtain ⟨k0, h0, hs⟩ := FF (a := a) (b := b) h2 ha hb
 rw [← IA h2 ha hb hs]
 exact hs
theorem HN {α : Type} {f : List J → α → List J} (hp : ∀ out x, out <+: f out x) : ∀ {l : List α} {out : List J}, l.foldl f out = out → ∀ x ∈ l, f out x = out
 | [], out, h, x, hx => by cases hx
 | y :: l, out, h, x, hx => by
  have h1 : f out y = out := by
   have p1 := hp out y
   have p2 := DN hp l (f out y)
   have hl : (l.foldl f (f out y)).length = out.length := congrArg List.length h
   exact (p1.eq_of_length (by have := p1.length_le; have := p2.length_le; omega)).symm
  rcases List.mem_cons.1 hx with rfl | hx
  ·exact h1
  ·refine HN hp (l := l) ?_ x hx
   have h : l.foldl f (f out y) = out := h
   rw [h1] at h
   exact h
theorem Es (h2 : ∀ s ∈ syms, s.2 ≤ 2) (ha : a.states ≤ 3) (hb : b.states ≤ 3) {s : Sym} (hs : s ∈ syms) {l : List J} (hl : l.length = s.2) (hm : ∀ x ∈ l, x ∈ Aw a b syms) : nxt a b s.1 l ∈ Aw a b syms := by
 have h1 := HN (fun out s => HS out s) (LU (a := a) (b := b) h2 ha hb) s hs
 have hidx : ∀ {l : List J}, (∀ x ∈ l, x ∈ Aw a b syms) → ∃ is : List Nat, is.length = l.length ∧ (∀ i ∈ is, i < (Aw a b syms).length) ∧ Ae (Aw a b syms) is = l := fun {l} => by
  induction l with
  | nil => intro _; exact ⟨[], rfl, by simp, rfl⟩
  | cons x l ih =>
   intro hm
   obtain ⟨is, q1, q2, q3⟩ := ih fun y hy => hm y (by simp [hy])
   obtain ⟨i, hi⟩ := List.getElem?_of_mem (hm x (by simp))
   refine ⟨i :: is, by simp [q1], fun j hj => ?_, ?_⟩
   ·rcases List.mem_cons.1 hj with rfl | hj
    ·exact (List.getElem?_eq_some_iff.1 hi).1
    ·exact q2 j hj
   ·show (Aw a b syms).getD i ([], []) :: Ae _ is = _
    rw [q3, List.getD_eq_getElem?_getD, hi]
    rfl
 obtain ⟨is, q1, q2, q3⟩ := hidx hm
 have h3 := HN (fun out l => DY out l) h1 is ((Cy (h2 s hs)).2 ⟨by omega, q2⟩)
 unfold Br at h3
 rw [q3] at h3
 unfold FU at h3
 split at h3
 ·assumption
 ·exact absurd (congrArg List.length h3) (by simp)
theorem J6 (h2 : ∀ s ∈ syms, s.2 ≤ 2) (ha : a.states ≤ 3) (hb : b.states ≤ 3) {j : J} (h : Gen a b syms j) : j ∈ Aw a b syms := by
 induction h with
 | mk hs hl _ ih => exact Es h2 ha hb hs hl ih
theorem FK (h2 : ∀ s ∈ syms, s.2 ≤ 2) (ha : a.states ≤ 3) (hb : b.states ≤ 3) {j : J} : j ∈ Aw a b syms ↔ Gen a b syms j :=
 ⟨(DU h2).gen j, J6 h2 ha hb⟩
end

def Cw (j : J) : List SV := [.int .u64 (bN j.1 : Int), .int .u64 (bN j.2 : Int)]
instance lensEncJ : K6 Cw 2 := ⟨fun _ => rfl⟩
abbrev aJs (l : List J) : AV := .one (.st (.list (l.map Cw)))
def Ko (j : J) : KV := .p (.i (bN j.1 : Int)) (.i (bN j.2 : Int))
def Ni (j : J) : KV × AV := (Ko j, Bk true)
abbrev I0 (l : List J) : AG := .map (some (.two (some .u64) (some .u64))) (l.map Ni)
abbrev Hn (l : List J) : AG := .arow 67 2 (l.map Cw)
theorem PL {i j : J} (h1 : i.1.length = j.1.length) (h2 : i.2.length = j.2.length) : Ko i = Ko j ↔ i = j := by
 constructor
 ·intro h
  simp only [Ko, KV.p.injEq, KV.i.injEq] at h
  exact Prod.ext (G2 h1 (by omega)) (G2 h2 (by omega))
 ·rintro rfl; rfl
section
variable {a b : Au} {syms : List Sym}
theorem H7 {l : List J} {j : J} (h : ∀ i ∈ l, i.1.length = j.1.length ∧ i.2.length = j.2.length) : (j ∈ l → B0 (l.map Ni) (Ko j) = some (Bk true)) ∧ (¬ j ∈ l → B0 (l.map Ni) (Ko j) = none) := by
 induction l with
 | nil => exact ⟨fun h => (by cases h), fun _ => rfl⟩
 | cons x l ih =>
  obtain ⟨i1, i2⟩ := ih fun i hi => h i (by simp [hi])
  obtain ⟨e1, e2⟩ := h x (by simp)
  simp only [List.map_cons, B0, Ni, PL e1 e2]
  by_cases e : x = j
  ·subst e
   exact ⟨fun _ => by rw [if_pos rfl], fun h => absurd (by simp) h⟩
  ·rw [if_neg e]
   refine ⟨fun h => i1 ?_, fun h => i2 fun h' => h (by simp [h'])⟩
   rcases List.mem_cons.1 h with h | h
   ·exact absurd h.symm e
   ·exact h
theorem Nf {l : List J} {j : J} (h : ∀ i ∈ l, i.1.length = j.1.length ∧ i.2.length = j.2.length) (hm : ¬ j ∈ l) : FM (l.map Ni) (Ko j) (Bk true) = (l ++ [j]).map Ni := by
 rw [EW ((H7 h).2 hm), List.map_append]
 rfl
end
def CW (S : AA) (base : Nat) (out : List J) : AA := AF (AF (AF (AF (upS S) 1500 (some (Hn out))) 1007 (some (.box 61 [.row 1500 out.length]))) 1018 (some (I0 out))) 1009 (some (.box 4 [.st (.bool (decide (base < out.length)))]))
theorem BZ {S : AA} {base : Nat} {out : List J} {i : Nat} (h1 : i ≠ 1500) (h2 : i ≠ 1007) (h3 : i ≠ 1018) (h4 : i ≠ 1009) : CW S base out i = upS S i := by
 unfold CW
 rw [AD _ h4, AD _ h3, AD _ h2, AD _ h1]
theorem Fq {S : AA} {base : Nat} {out : List J} : Aa (CW S base out) :=
 Ak (Ak (Ak (Ak (Db S) (by decide) rfl) (by decide) rfl) (by decide) rfl) (by decide) rfl
theorem LO {S : AA} {base : Nat} {out : List J} : dnS (CW S base out) = AF (AF (AF (AF S 500 (some (Hn out))) 7 (some (.box 61 [.row 500 out.length]))) 18 (some (I0 out))) 9 (some (.box 4 [.st (.bool (decide (base < out.length)))])) := by
 unfold CW
 rw [show (1009 : Nat) = up1 9 from rfl, El, show (1018 : Nat) = up1 18 from rfl, El, show (1007 : Nat) = up1 7 from rfl, El, show (1500 : Nat) = up1 500 from rfl, El, HL]
 rfl
theorem DI {S : AA} {r : Nat} {b : AG} (h : S r = some b) : AF S r (some b) = S := by
 funext k
 unfold AF
 split
 ·rename_i e; rw [e, h]
 ·rfl
theorem Kp {S : AA} {base : Nat} {out : List J} (h1 : S 500 = some (Hn out)) (h2 : S 7 = some (.box 61 [.row 500 out.length])) (h3 : S 18 = some (I0 out)) (h4 : S 9 = some (.box 4 [.st (.bool (decide (base < out.length)))])) : upS S = CW S base out := by
 unfold CW
 have k1 : upS S 1500 = some (Hn out) := BV h1
 have k2 : upS S 1007 = some (.box 61 [.row 1500 out.length]) := BV h2
 have k3 : upS S 1018 = some (I0 out) := BV h3
 have k4 : upS S 1009 = some (.box 4 [.st (.bool (decide (base < out.length)))]) := BV h4
 rw [DI k1, DI k2, DI k3, DI k4]
theorem MA (a b : Au) (ga : a.Good) (gb : b.Good) (ha : a.states ≤ 3) (hb : b.states ≤ 3) (hma : a.moves.length ≤ 100000) (hmb : b.moves.length ≤ 100000) (syms : List Sym) (h2 : ∀ s ∈ syms, s.2 ≤ 2) (hsl : syms.length ≤ 100000) :
  A0 Try.prog 31 [aAu a, aAu b, CZ syms] (aJs (Aw a b syms)) := by
 obtain ⟨k0, hk0, hst⟩ := FF (a := a) (b := b) h2 ha hb
 refine Hw.acT fun C hC htop => ?_
 unfold E0
 repeat' with_reducible first | refine W ?_ | refine Z0 ?_ | ((first | refine Wo fun K hK => ?_ | refine Wp ?_ | refine Wq ?_ | refine Wr ?_); (try simp only [go_sem, fN, seval, eT, iR, dT, dF, nL]); (repeat refine Ai ?_); (try (refine hK _ ?_; clear hK K)); try refine iC ?_)
 refine IWP.ghost (AZ.ownCellA (e' := 67) (id := 7) (r := 500) 0 2 rfl rfl rfl (by decide)) ?_
 refine IWP.loop (fun q s => ∃ i, i ≤ k0 + 1 ∧ q = k0 + 2 - i ∧ s.env 2 = CZ syms ∧ s.env 3 = .one (.ptr 3 1 0 0) ∧ s.env 4 = .one (.ptr 4 1 0 0) ∧ s.env 7 = .one (.ptr 7 1 0 0) ∧ s.env 8 = .one (.ptr 8 1 0 0) ∧ s.env 9 = .one (.ptr 9 1 0 0) ∧ s.S 3 = some (AT a) ∧ s.S 4 = some (AT b) ∧
  s.S 7 = some (.box 61 [.row 500 (itJ a b syms i).length]) ∧ s.S 500 = some (Hn (itJ a b syms i)) ∧ s.S 8 = some (.box 97 [.mptr 18]) ∧ s.S 18 = some (I0 (itJ a b syms i)) ∧ (∃ m, s.S 9 = some (.box 4 [.st (.bool m)]) ∧ (m = false → ∃ j, i = j + 1 ∧ itJ a b syms (j + 1) = itJ a b syms j) ∧ (m = true → i ≤ k0)) ∧ s.S 11 = none ∧ s.S 501 = none ∧ s.S 502 = none) (k0 + 2)
  ⟨0, Nat.zero_le _, rfl, rfl, rfl, rfl, rfl, rfl, rfl, rfl, rfl, rfl, rfl, rfl, rfl, ⟨true, rfl, by simp, fun _ => Nat.zero_le _⟩, rfl, rfl, rfl⟩ ?_
 rintro q ⟨env, S⟩ ⟨i, hi, rfl, e2, e3, e4, e7, e8, e9, s3, s4, s7, s500, s8, s18, ⟨mo, s9, hm1, hm2⟩, s11, s501, s502⟩
 simp only at e2 e3 e4 e7 e8 e9 s3 s4 s7 s500 s8 s18 s9 s11 s501 s502
 cases mo with
 | false =>
  obtain ⟨j, rfl, hj⟩ := hm1 rfl
  have hR := IA h2 ha hb hj
  rw [← hj] at hR
  rw [hR] at s7 s500
  repeat' with_reducible first | refine W ?_ | refine Z0 ?_ | ((first | refine Wo fun K hK => ?_ | refine Wp ?_ | refine Wq ?_ | refine Wr ?_); (try simp only [go_sem, fN, seval, eT, iR, e2, e3, e4, e7, e8, e9, s7, s500, s9, dT, dF, nL]); (repeat refine Ai ?_); (try (refine hK _ ?_; clear hK K)); try refine iC ?_)
  simp only [go_sem, fN, seval, A6, AS.result, AO, AR, Av, s500]
 | true =>
  have hik := hm2 rfl
  repeat' with_reducible first | refine W ?_ | refine Z0 ?_ | ((first | refine Wo fun K hK => ?_ | refine Wp ?_ | refine Wq ?_ | refine Wr ?_); (try simp only [go_sem, fN, seval, eT, iR, e2, e3, e4, e7, e8, e9, s7, s500, s9, dT, dF, nL]); (repeat refine Ai ?_); (try (refine hK _ ?_; clear hK K)); try refine iC ?_)
  obtain ⟨o0, ho0⟩ : ∃ o0, itJ a b syms i = o0 := ⟨_, rfl⟩
  have hok0 := Gp (a := a) (b := b) h2 i
  rw [ho0] at s7 s500 s18 hok0
  refine IWP.loopD [11, 501, 502] (fun q s => ∃ k, k ≤ syms.length ∧ q = syms.length - k ∧ s.env 2 = CZ syms ∧ s.env 3 = .one (.ptr 3 1 0 0) ∧ s.env 4 = .one (.ptr 4 1 0 0) ∧ s.env 7 = .one (.ptr 7 1 0 0) ∧ s.env 8 = .one (.ptr 8 1 0 0) ∧ s.env 9 = .one (.ptr 9 1 0 0) ∧ s.env 20 = CZ syms ∧ s.env 21 = AP syms.length ∧ s.env 22 = AP k ∧ s.S 3 = some (AT a) ∧ s.S 4 = some (AT b) ∧
   s.S 7 = some (.box 61 [.row 500 ((syms.take k).foldl (Cm a b) o0).length]) ∧ s.S 500 = some (Hn ((syms.take k).foldl (Cm a b) o0)) ∧ s.S 8 = some (.box 97 [.mptr 18]) ∧ s.S 18 = some (I0 ((syms.take k).foldl (Cm a b) o0)) ∧ s.S 9 = some (.box 4 [.st (.bool (decide (o0.length < ((syms.take k).foldl (Cm a b) o0).length)))]) ∧ s.S 11 = none ∧ s.S 501 = none ∧ s.S 502 = none) syms.length
   ⟨0, Nat.zero_le _, rfl, e2, e3, e4, e7, e8, e9, by simp only [go_sem, fN, seval, eT, iR, e2], by simp only [go_sem, fN, seval, eT, iR], rfl, by simp only [go_sem, fN, seval, eT, iR, s3], by simp only [go_sem, fN, seval, eT, iR, s4], by simp only [go_sem, fN, seval, eT, iR, s7]; rfl, by simp only [go_sem, fN, seval, eT, iR, s500]; rfl, by simp only [go_sem, fN, seval, eT, iR, s8], by simp only [go_sem, fN, seval, eT, iR, s18]; rfl, by simp only [go_sem, fN, seval, eT, iR]; simp, by simp only [go_sem, fN, seval, eT, iR, s11], by simp only [go_sem, fN, seval, eT, iR, s501], by simp only [go_sem, fN, seval, eT, iR, s502]⟩ ?_
  clear e2 e3 e4 e7 e8 e9 s3 s4 s7 s500 s8 s18 s9 s11 s501 s502
  rintro q ⟨env, S⟩ ⟨k, hk, rfl, e2, e3, e4, e7, e8, e9, e20, e21, e22, s3, s4, s7, s500, s8, s18, s9, s11, s501, s502⟩
  simp only at e2 e3 e4 e7 e8 e9 e20 e21 e22 s3 s4 s7 s500 s8 s18 s9 s11 s501 s502
  by_cases hlt : (k : Int) < syms.length
  ·obtain ⟨sy, hsk⟩ := Aq (show k < syms.length by omega)
   have hsm := AY hsk
   have hs2 := h2 sy hsm
   have hfold : (syms.take (k + 1)).foldl (Cm a b) o0 = Cm a b ((syms.take k).foldl (Cm a b) o0) sy := by
    rw [Ay hsk, List.foldl_append]
    rfl
   have hoko : OkJ a b syms ((syms.take k).foldl (Cm a b) o0) := OkJ.symsF h2 (fun s hs => List.mem_of_mem_take hs) hok0
   have hbase := (DN (f := Cm a b) (fun out s => HS out s) (syms.take k) o0).length_le
   obtain ⟨o, ho⟩ : ∃ o, (syms.take k).foldl (Cm a b) o0 = o := ⟨_, rfl⟩
   rw [ho] at s7 s500 s18 s9 hfold hoko hbase
   have holen := hoko.len ha hb
   have hol : (o.map Cw).length = o.length := by simp
   repeat' (first | (with_reducible first | refine W ?_ | refine Z0 ?_ | ((first | refine Wo fun K hK => ?_ | refine Wp ?_ | refine Wq ?_ | refine Wr ?_); (try simp only [go_sem, fN, seval, eT, iR, e2, e3, e4, e7, e8, e9, e20, e21, e22, s3, s4, s7, s500, s8, s18, s9, s11, s501, s502, hlt, hsk, GH, hol, dT, dF, nL]); (repeat refine Ai ?_); (try (refine hK _ ?_; clear hK K)); try refine iC ?_)) | refine Cg _ (Jy o.length sy.2) ?_)
   refine IWP.at_ (fun env S => env 2 = CZ syms ∧ env 3 = .one (.ptr 3 1 0 0) ∧ env 4 = .one (.ptr 4 1 0 0) ∧ env 7 = .one (.ptr 7 1 0 0) ∧ env 8 = .one (.ptr 8 1 0 0) ∧ env 9 = .one (.ptr 9 1 0 0) ∧ env 11 = .one (.ptr 11 1 0 0) ∧ env 20 = CZ syms ∧ env 21 = AP syms.length ∧ env 22 = AP k ∧ env 30 = .one (.fn 57 [.eptr [.int .i64 sy.2], .eptr [.int .i64 o.length]]) ∧ S 3 = some (AT a) ∧ S 4 = some (AT b) ∧
    S 7 = some (.box 61 [.row 500 o.length]) ∧ S 500 = some (Hn o) ∧ S 8 = some (.box 97 [.mptr 18]) ∧ S 18 = some (I0 o) ∧ S 9 = some (.box 4 [.st (.bool (decide (o0.length < o.length)))]) ∧ S 11 = some (.box 72 [.st (.str sy.1), .st (.int .i64 (sy.2 : Int))]) ∧ S 501 = none ∧ S 502 = none)
    ⟨e2, e3, e4, e7, e8, e9, rfl, e20, e21, e22, rfl, by simp only [go_sem, fN, seval, eT, iR, s3], by simp only [go_sem, fN, seval, eT, iR, s4], by simp only [go_sem, fN, seval, eT, iR, s7], by simp only [go_sem, fN, seval, eT, iR, s500], by simp only [go_sem, fN, seval, eT, iR, s8], by simp only [go_sem, fN, seval, eT, iR, s18], by simp only [go_sem, fN, seval, eT, iR, s9], by simp only [go_sem, fN, seval, eT, iR], by simp only [go_sem, fN, seval, eT, iR, s501], by simp only [go_sem, fN, seval, eT, iR, s502]⟩ ?_
   clear e2 e3 e4 e7 e8 e9 e20 e21 e22 s3 s4 s7 s500 s8 s18 s9 s11 s501 s502
   rintro env S ⟨e2, e3, e4, e7, e8, e9, e11, e20, e21, e22, e30, s3, s4, s7, s500, s8, s18, s9, s11, s501, s502⟩
   refine IWP.rangeW htop 501 (by decide) s501 (show AS.ev _ (.t 30) = _ from e30) (by kernel_rfl) 502 (by decide) (FY o.length sy.2 hs2 (by omega)) rfl (fun pre U => U = CW S o0.length (pre.foldl (Br a b sy.1) o)) (fun _ _ => False) ?_ ?_ (fun _ _ _ _ _ => trivial) ?_ ?_ (fun _ _ _ h => h.elim)
   ·exact Kp s500 s7 s18 s9
   ·rintro pre U rfl
    rw [BZ (by decide) (by decide) (by decide) (by decide), show up1 502 = up1 502 from rfl, B8, s502]
    rfl
   ·rintro C' b0 b1 pre v U hC' hpre rfl hU hcl hb1
    obtain ⟨tl, htl⟩ := hpre
    have hvm : v ∈ C5 o.length sy.2 := by rw [← htl]; simp
    obtain ⟨hvl, hvi⟩ := (Cy hs2).1 hvm
    have hpm : ∀ l ∈ pre, l.length = sy.2 ∧ ∀ i ∈ l, i < o.length := fun l hl => (Cy hs2).1 (by rw [← htl]; simp [hl])
    have hok1 : OkJ a b syms (pre.foldl (Br a b sy.1) o) := OkJ.steps hsm hoko (Nat.le_refl _) hpm
    have hpre1 := DN (f := Br a b sy.1) (fun out l => DY out l) pre o
    have hsnoc : (pre ++ [v]).foldl (Br a b sy.1) o = Br a b sy.1 (pre.foldl (Br a b sy.1) o) v := by rw [List.foldl_append]; rfl
    obtain ⟨o1, ho1⟩ : ∃ o1, pre.foldl (Br a b sy.1) o = o1 := ⟨_, rfl⟩
    rw [ho1] at hok1 hpre1 hsnoc hcl hU ⊢
    have h1len := hok1.len ha hb
    have hvi1 : ∀ i ∈ v, i < o1.length := fun i hi => Nat.lt_of_lt_of_le (hvi i hi) hpre1.length_le
    have low : ∀ {i : Nat}, i < 1000 → CW S o0.length o1 i = none := fun hi => C2 hcl hi
    have n13 := low (i := 45) (by decide)
    have n14 := low (i := 53) (by decide)
    have n17 := low (i := 17) (by decide)
    have w3 : BX C.n env 3 = .one (.ptr 1003 1 0 0) := by rw [BX, if_pos (by rw [hC]; decide), e3]; rfl
    have w4 : BX C.n env 4 = .one (.ptr 1004 1 0 0) := by rw [BX, if_pos (by rw [hC]; decide), e4]; rfl
    have w7 : BX C.n env 7 = .one (.ptr 1007 1 0 0) := by rw [BX, if_pos (by rw [hC]; decide), e7]; rfl
    have w8 : BX C.n env 8 = .one (.ptr 1008 1 0 0) := by rw [BX, if_pos (by rw [hC]; decide), e8]; rfl
    have w9 : BX C.n env 9 = .one (.ptr 1009 1 0 0) := by rw [BX, if_pos (by rw [hC]; decide), e9]; rfl
    have w11 : BX C.n env 11 = .one (.ptr 1011 1 0 0) := by rw [BX, if_pos (by rw [hC]; decide), e11]; rfl
    have u501 : up1 501 = 1501 := rfl
    have u502 : up1 502 = 1502 := rfl
    have hel := BF v
    obtain ⟨W, hW⟩ : ∃ W, AF (AF (CW S o0.length o1) 1502 (some (.mrow 3 1 (AU v)))) 1501 (some b1) = W := ⟨_, rfl⟩
    rw [u501, u502, hel, hvl]
    repeat' with_reducible first | refine W ?_ | refine Z0 ?_ | ((first | refine Wo fun K hK => ?_ | refine Wp ?_ | refine Wq ?_ | refine Wr ?_); (try simp only [go_sem, fN, seval, eT, iR, Gc, u501, u502, dT, dF, nL]); (repeat refine Ai ?_); (try (refine hK _ ?_; clear hK K)); try refine iC ?_)
    refine AI ⟨by simp only [go_sem, fN, seval, eT, iR, u501, u502], ?_⟩
    refine IWP.at_ (fun env1 S1 => env1 3 = .one (.ptr 1003 1 0 0) ∧ env1 4 = .one (.ptr 1004 1 0 0) ∧ env1 7 = .one (.ptr 1007 1 0 0) ∧ env1 8 = .one (.ptr 1008 1 0 0) ∧ env1 9 = .one (.ptr 1009 1 0 0) ∧ env1 11 = .one (.ptr 1011 1 0 0) ∧ env1 12 = .one (.row 1502 sy.2) ∧ S1 = W) ⟨w3, w4, w7, w8, w9, w11, rfl, by rw [← hW]; exact F6⟩ ?_
    rintro env1 S1 ⟨x3, x4, x7, x8, x9, x11, x12, rfl⟩
    have hWat : ∀ i, i ≠ 1501 → i ≠ 1502 → S1 i = CW S o0.length o1 i := fun i p q => by rw [← hW, AD _ p, AD _ q]
    have q45 : S1 45 = none := by rw [hWat 45 (by decide) (by decide)]; exact n13
    have q53 : S1 53 = none := by rw [hWat 53 (by decide) (by decide)]; exact n14
    have q17 : S1 17 = none := by rw [hWat 17 (by decide) (by decide)]; exact n17
    have q3 : S1 1003 = some (AT a) := by rw [hWat 1003 (by decide) (by decide), BZ (by decide) (by decide) (by decide) (by decide)]; exact BV s3
    have q4 : S1 1004 = some (AT b) := by rw [hWat 1004 (by decide) (by decide), BZ (by decide) (by decide) (by decide) (by decide)]; exact BV s4
    have q8 : S1 1008 = some (.box 97 [.mptr 1018]) := by rw [hWat 1008 (by decide) (by decide), BZ (by decide) (by decide) (by decide) (by decide)]; exact BV s8
    have q11 : S1 1011 = some (.box 72 [.st (.str sy.1), .st (.int .i64 (sy.2 : Int))]) := by rw [hWat 1011 (by decide) (by decide), BZ (by decide) (by decide) (by decide) (by decide)]; exact BV s11
    have q7 : S1 1007 = some (.box 61 [.row 1500 o1.length]) := by rw [hWat 1007 (by decide) (by decide)]; rfl
    have q500 : S1 1500 = some (Hn o1) := by rw [hWat 1500 (by decide) (by decide)]; rfl
    have q18 : S1 1018 = some (I0 o1) := by rw [hWat 1018 (by decide) (by decide)]; rfl
    have q9 : S1 1009 = some (.box 4 [.st (.bool (decide (o0.length < o1.length)))]) := by rw [hWat 1009 (by decide) (by decide)]; rfl
    have q502 : S1 1502 = some (.mrow 3 1 (AU v)) := by rw [← hW, AD _ (by decide), AB]
    have hWc : Aa S1 := by rw [← hW]; exact Ak (Ak Fq (by decide) rfl) (by decide) hb1
    repeat' with_reducible first | refine W ?_ | refine Z0 ?_ | ((first | refine Wo fun K hK => ?_ | refine Wp ?_ | refine Wq ?_ | refine Wr ?_); (try simp only [go_sem, fN, seval, eT, iR, x12, q502, hel, hvl, dT, dF, nL]); (repeat refine Ai ?_); (try (refine hK _ ?_; clear hK K)); try refine iC ?_)
    refine IWP.ghost (AZ.own 13 45 65 1 rfl q45 (by simp) (by rw [hC', hC]; decide)) ?_
    refine IWP.ghost (AZ.own 14 53 65 1 rfl (by simp only [go_sem, fN, seval, eT, iR, q53]) (by simp) (by rw [hC', hC]; decide)) ?_
    refine IWP.loop (fun q s => ∃ t, t ≤ sy.2 ∧ q = sy.2 - t ∧ s.env 3 = .one (.ptr 1003 1 0 0) ∧ s.env 4 = .one (.ptr 1004 1 0 0) ∧ s.env 7 = .one (.ptr 1007 1 0 0) ∧ s.env 8 = .one (.ptr 1008 1 0 0) ∧ s.env 9 = .one (.ptr 1009 1 0 0) ∧ s.env 11 = .one (.ptr 1011 1 0 0) ∧ s.env 13 = .one (.row 45 t) ∧ s.env 14 = .one (.row 53 t) ∧ s.env 32 = .one (.row 1502 sy.2) ∧ s.env 33 = AP sy.2 ∧ s.env 34 = AP t ∧
     s.S 45 = some (.arow 65 1 (((Ae o1 (v.take t)).map Prod.fst).map Hk)) ∧ s.S 53 = some (.arow 65 1 (((Ae o1 (v.take t)).map Prod.snd).map Hk)) ∧ s.S 17 = none ∧ ∀ i, 1000 ≤ i → s.S i = S1 i) sy.2
     ⟨0, Nat.zero_le _, rfl, x3, x4, x7, x8, x9, x11, rfl, rfl, by simp only [go_sem, fN, seval, eT, iR, x12], by simp only [go_sem, fN, seval, eT, iR], rfl, by simp only [go_sem, fN, seval, eT, iR]; rfl, by simp only [go_sem, fN, seval, eT, iR]; rfl, by simp only [go_sem, fN, seval, eT, iR, q17], fun i hi => (AD _ (by omega) _).trans (AD _ (by omega) _)⟩ ?_
    rintro q ⟨env2, S2⟩ ⟨t, ht, rfl, y3, y4, y7, y8, y9, y11, y13, y14, y32, y33, y34, z45, z53, z17, hS2⟩
    simp only at y3 y4 y7 y8 y9 y11 y13 y14 y32 y33 y34 z45 z53 z17 hS2
    have r3 := (hS2 1003 (by decide)).trans q3
    have r4 := (hS2 1004 (by decide)).trans q4
    have r7 := (hS2 1007 (by decide)).trans q7
    have r8 := (hS2 1008 (by decide)).trans q8
    have r9 := (hS2 1009 (by decide)).trans q9
    have r11 := (hS2 1011 (by decide)).trans q11
    have r500 := (hS2 1500 (by decide)).trans q500
    have r18 := (hS2 1018 (by decide)).trans q18
    have r502 := (hS2 1502 (by decide)).trans q502
    have hl45 : (((Ae o1 (v.take t)).map Prod.fst).map Hk).length = t := by rw [List.length_map, List.length_map, B4, List.length_take]; omega
    have hl53 : (((Ae o1 (v.take t)).map Prod.snd).map Hk).length = t := by rw [List.length_map, List.length_map, B4, List.length_take]; omega
    have hol1 : (o1.map Cw).length = o1.length := by simp
    by_cases htl2 : t < sy.2
    ·obtain ⟨x, hx⟩ := Aq (show t < v.length by omega)
     have hxo := hvi1 x (AY hx)
     have hx' := BY hx
     obtain ⟨jx, hjx⟩ := Aq hxo
     have hpt : Ae o1 (v.take (t + 1)) = Ae o1 (v.take t) ++ [jx] := by
      rw [Ay hx]
      unfold Ae
      rw [List.map_append, List.map_cons, List.map_nil, List.getD_eq_getElem?_getD, hjx]
      rfl
     have hjm := hok1.gen jx (AY hjx)
     repeat' with_reducible first | refine W ?_ | refine Z0 ?_ | ((first | refine Wo fun K hK => ?_ | refine Wp ?_ | refine Wq ?_ | refine Wr ?_); (try simp only [go_sem, fN, seval, eT, iR, y3, y4, y7, y8, y9, y11, y13, y14, y32, y33, y34, z45, z53, r7, r500, r502, htl2, hx', hjx, hl45, hl53, hol1, hel, hvl, Cw, D6, dT, dF, nL]); (repeat refine Ai ?_); (try (refine hK _ ?_; clear hK K)); try refine iC ?_)
     refine AI ⟨sy.2 - (t + 1), by omega, t + 1, by omega, rfl, y3, y4, y7, y8, y9, y11, ?_, ?_, ?_, ?_, rfl, ?_, ?_, ?_, fun i hi => ?_⟩
     ·simp only [go_sem, fN, seval, eT, iR]
     ·simp only [go_sem, fN, seval, eT, iR]
     ·simp only [go_sem, fN, seval, eT, iR, y32]
     ·simp only [go_sem, fN, seval, eT, iR, y33]
     ·rw [hpt]
      simp only [go_sem, fN, seval, eT, iR]
      simp [Hk]
     ·rw [hpt]
      simp only [go_sem, fN, seval, eT, iR]
      simp [Hk]
     ·simp only [go_sem, fN, seval, eT, iR, z17]
     ·show AF (AF S2 45 _) 53 _ i = _
      rw [AD _ (by omega), AD _ (by omega)]
      exact hS2 i hi
    ·have hte : t = sy.2 := by omega
     have htk : v.take t = v := by rw [hte, ← hvl]; exact List.take_length
     rw [htk] at z45 z53 hl45 hl53
     have hbelow : ∀ x ∈ Ae o1 v, x.1.length = a.states.toNat ∧ x.2.length = b.states.toNat := fun x hx => (hok1.gen x (Cr hvi1 x hx)).len
     have hfa := JN a ga (by omega) hma sy.1 ((Ae o1 v).map Prod.fst) (fun l hl => by
      obtain ⟨x, hx, rfl⟩ := List.mem_map.1 hl
      exact (hbelow x hx).1) (by rw [List.length_map, B4]; omega)
     have hfb := JN b gb (by omega) hmb sy.1 ((Ae o1 v).map Prod.snd) (fun l hl => by
      obtain ⟨x, hx, rfl⟩ := List.mem_map.1 hl
      exact (hbelow x hx).2) (by rw [List.length_map, B4]; omega)
     have hnx : nxt a b sy.1 (Ae o1 v) = (a.ending sy.1 ((Ae o1 v).map Prod.fst), b.ending sy.1 ((Ae o1 v).map Prod.snd)) := rfl
     have hnl : ∀ i ∈ o1, i.1.length = (nxt a b sy.1 (Ae o1 v)).1.length ∧ i.2.length = (nxt a b sy.1 (Ae o1 v)).2.length := fun i hi => by
      obtain ⟨p, q⟩ := (hok1.gen i hi).len
      rw [hnx]
      exact ⟨by rw [p, Au.ending_length], by rw [q, Au.ending_length]⟩
     obtain ⟨g1, g2⟩ := H7 hnl
     have g3 := Nf hnl
     have hyes : nxt a b sy.1 (Ae o1 v) ∈ o1 → FU o1 (nxt a b sy.1 (Ae o1 v)) = o1 := fun h => by unfold FU; exact if_pos h
     have hno : ¬ nxt a b sy.1 (Ae o1 v) ∈ o1 → FU o1 (nxt a b sy.1 (Ae o1 v)) = o1 ++ [nxt a b sy.1 (Ae o1 v)] := fun h => by unfold FU; exact if_neg h
     have hsnoc : (pre ++ [v]).foldl (Br a b sy.1) o = FU o1 (nxt a b sy.1 (Ae o1 v)) := hsnoc
     obtain ⟨jn, hjn⟩ : ∃ jn, nxt a b sy.1 (Ae o1 v) = jn := ⟨_, rfl⟩
     rw [hjn] at g1 g2 g3 hsnoc hnx hyes hno
     have hk1 : KV.p (.i (bN jn.1 : Int)) (.i (bN jn.2 : Int)) = Ko jn := rfl
     obtain ⟨j1, j2⟩ := jn
     obtain ⟨rfl, rfl⟩ : j1 = _ ∧ j2 = _ := Prod.mk.injEq .. ▸ hnx
     by_cases hin : (a.ending sy.1 ((Ae o1 v).map Prod.fst), b.ending sy.1 ((Ae o1 v).map Prod.snd)) ∈ o1
     ·rw [hyes hin] at hsnoc
      have g := g1 hin
      repeat' (first | (with_reducible first | refine W ?_ | refine Z0 ?_ | ((first | refine Wo fun K hK => ?_ | refine Wp ?_ | refine Wq ?_ | refine Wr ?_); (try simp only [go_sem, fN, seval, eT, iR, y3, y4, y7, y8, y9, y11, y13, y14, y32, y33, y34, z45, z53, z17, r3, r4, r7, r8, r9, r11, r18, htl2, hl45, hl53, AT, BU, D5, KV.of2, KV.of1, hk1, g, Ga, dT, dF, nL]); (repeat refine Ai ?_); (try (refine hK _ ?_; clear hK K)); try refine iC ?_)) | refine Cg _ (hfa) ?_ | refine Cg _ (hfb) ?_)
      refine GJ (AF (CW S o0.length o1) 1502 (some (.mrow 3 1 (AU v)))) (by rw [hW]; exact hWc) (by rw [AD _ (by decide)]; exact hU) (fun i hi => ?_) ⟨_, rfl, ?_, by rw [hsnoc]⟩
      ·rw [hW]
       show AF (AF S2 17 _) 17 _ i = S1 i
       rw [AD _ (by omega), AD _ (by omega)]
       exact hS2 i hi
      ·rw [BZ (by decide) (by decide) (by decide) (by decide)]
       show upS S (up1 502) = none
       rw [B8, s502]
       rfl
     ·rw [hno hin] at hsnoc
      have g := g2 hin
      have g4 := g3 hin
      repeat' (first | (with_reducible first | refine W ?_ | refine Z0 ?_ | ((first | refine Wo fun K hK => ?_ | refine Wp ?_ | refine Wq ?_ | refine Wr ?_); (try simp only [go_sem, fN, seval, eT, iR, y3, y4, y7, y8, y9, y11, y13, y14, y32, y33, y34, z45, z53, z17, r3, r4, r7, r8, r9, r11, r18, r500, htl2, hl45, hl53, hol1, AT, BU, D5, KV.of2, KV.of1, hk1, g, g4, Ga, dT, dF, nL]); (repeat refine Ai ?_); (try (refine hK _ ?_; clear hK K)); try refine iC ?_)) | refine Cg _ (hfa) ?_ | refine Cg _ (hfb) ?_)
      obtain ⟨jn, hjn⟩ : ∃ jn : J, (a.ending sy.1 ((Ae o1 v).map Prod.fst), b.ending sy.1 ((Ae o1 v).map Prod.snd)) = jn := ⟨_, rfl⟩
      refine GJ (AF (CW S o0.length (o1 ++ [jn])) 1502 (some (.mrow 3 1 (AU v)))) (Ak (Ak Fq (by decide) rfl) (by decide) hb1) (by rw [AD _ (by decide), BZ (by decide) (by decide) (by decide) (by decide)]; show upS S (up1 501) = none; rw [B8, s501]; rfl) (fun i hi => ?_) ⟨_, rfl, ?_, by rw [hsnoc, hjn]⟩
      ·show AF (AF (AF (AF (AF (AF S2 17 _) 17 _) 1018 _) 1500 _) 1007 _) 1009 _ i = _
       by_cases c1 : i = 1009
       ·subst c1
        rw [AB, AD _ (by decide), AD _ (by decide)]
        show _ = AF _ 1009 _ 1009
        rw [AB]
        have hle := hpre1.length_le
        have hle := hpre1.length_le
        have hle := hpre1.length_le
        have hle := hpre1.length_le
        simp
        omega
       by_cases c2 : i = 1007
       ·subst c2
        rw [AD _ (by decide), AB, AD _ (by decide), AD _ (by decide)]
        show _ = AF (AF (AF _ 1007 _) 1018 _) 1009 _ 1007
        rw [AD _ (by decide), AD _ (by decide), AB]
        simp
       by_cases c3 : i = 1500
       ·subst c3
        rw [AD _ (by decide), AD _ (by decide), AB, AD _ (by decide), AD _ (by decide)]
        show _ = AF (AF (AF (AF _ 1500 _) 1007 _) 1018 _) 1009 _ 1500
        rw [AD _ (by decide), AD _ (by decide), AD _ (by decide), AB, ← hjn, Hn, List.map_append]
        rfl
       by_cases c4 : i = 1018
       ·subst c4
        rw [AD _ (by decide), AD _ (by decide), AD _ (by decide), AB, AD _ (by decide), AD _ (by decide)]
        show _ = AF (AF _ 1018 _) 1009 _ 1018
        rw [AD _ (by decide), AB, hjn]
       rw [AD _ c1, AD _ c2, AD _ c3, AD _ c4, AD _ (by omega), AD _ (by omega), hS2 i hi, ← hW]
       by_cases c5 : i = 1501
       ·subst c5
        rw [AB, AB]
       by_cases c6 : i = 1502
       ·subst c6
        rw [AD _ c5, AB, AD _ c5, AB]
       rw [AD _ c5, AD _ c6, AD _ c5, AD _ c6, BZ c3 c2 c4 c1, BZ c3 c2 c4 c1]
      ·rw [BZ (by decide) (by decide) (by decide) (by decide)]
       show upS S (up1 502) = none
       rw [B8, s502]
       rfl
   ·rintro U bb rfl
    rw [LO]
    have hsy : (C5 o.length sy.2).foldl (Br a b sy.1) o = Cm a b o sy := rfl
    rw [hsy]
    obtain ⟨o3, ho3⟩ : ∃ o3, Cm a b o sy = o3 := ⟨_, rfl⟩
    rw [ho3] at hfold ⊢
    repeat' with_reducible first | refine W ?_ | refine Z0 ?_ | ((first | refine Wo fun K hK => ?_ | refine Wp ?_ | refine Wq ?_ | refine Wr ?_); (try simp only [go_sem, fN, seval, eT, iR, e22, dT, dF, nL]); (repeat refine Ai ?_); (try (refine hK _ ?_; clear hK K)); try refine iC ?_)
    refine AI ⟨syms.length - (k + 1), by omega, k + 1, by omega, rfl, ?_⟩
    rw [hfold]
    simp only [go_sem, fN, seval, AS.drop, Ag, AC.clears, AC.clear, AC.highs, AC.high, Bool.not_false, Bool.true_and, Bool.and_self, AV.purge, AV.purges, AC.purge, AG.purge, List.contains_cons, List.contains_nil, Nat.reduceBEq, Bool.or_self, Bool.or_false, Bool.false_or, Bool.or_true, eT, iR, e2, e3, e4, e7, e8, e9, e20, e21, e22, s3, s4, s8, AT]
    rfl
  ·have hke : k = syms.length := by omega
   have hit : itJ a b syms (i + 1) = syms.foldl (Cm a b) o0 := by rw [← ho0]; rfl
   rw [hke, List.take_length, ← hit] at s7 s500 s18 s9
   have hpp := IG (a := a) (b := b) (syms := syms) o0
   have hit2 : itJ a b syms (i + 1) = Er a b syms o0 := by rw [← ho0]; rfl
   iterate 11 with_reducible first | refine W ?_ | refine Z0 ?_ | ((first | refine Wo fun K hK => ?_ | refine Wp ?_ | refine Wq ?_ | refine Wr ?_); (try simp only [go_sem, fN, seval, eT, iR, e2, e3, e4, e7, e8, e9, e22, e21, s9, hlt, dT, dF, nL]); (repeat refine Ai ?_); (try (refine hK _ ?_; clear hK K)); try refine iC ?_)
   refine W ?_
   refine Wo (fun K hK => ?_)
   (try simp only [go_sem, fN, seval, eT, iR, e9, s9])
   (repeat with_reducible refine Ai ?_)
   refine hK _ ?_
   clear hK K
   refine W ?_
   refine IWP.ghost (AZ.drop [9] _ (by decide)) ?_
   refine IWP.at_ (fun env1 S1 => env1 2 = CZ syms ∧ env1 3 = .one (.ptr 3 1 0 0) ∧ env1 4 = .one (.ptr 4 1 0 0) ∧ env1 7 = .one (.ptr 7 1 0 0) ∧ env1 8 = .one (.ptr 8 1 0 0) ∧ env1 77 = Bk (decide (o0.length < (itJ a b syms (i + 1)).length)) ∧ S1 3 = some (AT a) ∧ S1 4 = some (AT b) ∧
    S1 7 = some (.box 61 [.row 500 (itJ a b syms (i + 1)).length]) ∧ S1 500 = some (Hn (itJ a b syms (i + 1))) ∧ S1 8 = some (.box 97 [.mptr 18]) ∧ S1 18 = some (I0 (itJ a b syms (i + 1))) ∧ S1 9 = none ∧ S1 11 = none ∧ S1 501 = none ∧ S1 502 = none)
    (by simp only [go_sem, fN, seval, AS.drop, Ag, AC.clears, AC.clear, AC.highs, AC.high, Bool.not_false, Bool.true_and, Bool.and_self, AV.purge, AV.purges, AC.purge, AG.purge, List.contains_cons, List.contains_nil, Nat.reduceBEq, Bool.or_self, Bool.or_false, Bool.false_or, Bool.or_true, eT, iR, e2, e3, e4, e7, e8, s3, s4, s7, s500, s8, s18, s11, s501, s502, AT]) ?_
   clear e2 e3 e4 e7 e8 e9 e20 e21 e22 s3 s4 s7 s500 s8 s18 s9 s11 s501 s502
   rintro env1 S1 ⟨e2, e3, e4, e7, e8, e77, s3, s4, s7, s500, s8, s18, s9, s11, s501, s502⟩
   repeat' with_reducible first | refine W ?_ | refine Z0 ?_ | ((first | refine Wo fun K hK => ?_ | refine Wp ?_ | refine Wq ?_ | refine Wr ?_); (try simp only [go_sem, fN, seval, eT, iR, e77, s9, dT, dF, nL]); (repeat refine Ai ?_); (try (refine hK _ ?_; clear hK K)); try refine iC ?_)
   refine AI ⟨k0 + 2 - (i + 1), by omega, i + 1, by omega, rfl, e2, e3, e4, e7, e8, rfl, by simp only [go_sem, fN, seval, eT, iR, s3], by simp only [go_sem, fN, seval, eT, iR, s4], by simp only [go_sem, fN, seval, eT, iR, s7], by simp only [go_sem, fN, seval, eT, iR, s500], by simp only [go_sem, fN, seval, eT, iR, s8], by simp only [go_sem, fN, seval, eT, iR, s18], ⟨decide (o0.length < (itJ a b syms (i + 1)).length), by simp only [go_sem, fN, seval, eT, iR], fun h => ⟨i, rfl, ?_⟩, fun h => ?_⟩, by simp only [go_sem, fN, seval, eT, iR, s11], by simp only [go_sem, fN, seval, eT, iR, s501], by simp only [go_sem, fN, seval, eT, iR, s502]⟩
   ·have h : ¬ o0.length < (itJ a b syms (i + 1)).length := by simpa using h
    rw [hit2] at h ⊢
    have := hpp.eq_of_length (by have := hpp.length_le; omega)
    rw [ho0]
    exact this.symm
   ·have h : o0.length < (itJ a b syms (i + 1)).length := by simpa using h
    rcases Nat.lt_or_ge i k0 with hlt | hge
    ·exact hlt
    ·exfalso
     have hik2 : i = k0 := by omega
     subst hik2
     rw [hst, ho0] at h
     omega

def Am (a : Au) : Bool := decide (a.states ≤ 3) && a.moves.all fun m => decide (m.frm.length ≤ 2)
def DF (l : List Au) : Int := if l.all Am = true then 0 else 3
def Au.fin (a : Au) (x : List Bool) : Bool := a.last.any fun s => x.getD s.toNat false
theorem Fa (a : Au) (t : Tm) : a.acc t = a.fin (a.ends t) := rfl
theorem Gz {a : Au} (ga : a.Good) (x : List Bool) : (bN x &&& bN a.lastB ≠ 0) ↔ a.fin x = true := by
 unfold Au.fin
 rw [List.any_eq_true]
 constructor
 ·intro h
  obtain ⟨i, hi⟩ := Nat.exists_testBit_of_ne_zero h
  rw [Nat.testBit_and, BT, BT, Bool.and_eq_true] at hi
  have hl : i < a.states.toNat := by
   rcases Nat.lt_or_ge i a.lastB.length with q | q
   ·rwa [← a.lastB_length]
   ·have h2 := hi.2
    rw [List.getD_eq_getElem?_getD, List.getElem?_eq_none q] at h2
    cases h2
  rw [a.lastB_get i hl, List.any_eq_true] at hi
  obtain ⟨h1, s, hs, he⟩ := hi
  exact ⟨s, hs, by rw [of_decide_eq_true he]; exact h1⟩
 ·rintro ⟨s, hs, h⟩ h0
  have hb := ga.last s hs
  have := congrArg (fun n => Nat.testBit n s.toNat) h0
  simp only [Nat.testBit_and, BT, Nat.zero_testBit] at this
  rw [h, a.lastB_get _ (by omega), Bool.true_and, List.any_eq_false] at this
  exact this s hs (by simp)
inductive JE (syms : List Sym) : Tm → Prop
 | mk {n : ByteArray} {ts : List Tm} : (n, ts.length) ∈ syms → (∀ t ∈ ts, JE syms t) → JE syms (.mk n ts)
section
variable {a b : Au} {syms : List Sym}
theorem QJ {t : Tm} (h : JE syms t) : Gen a b syms (a.ends t, b.ends t) := by
 induction h with
 | @mk n ts hs _ ih =>
  have := Gen.mk (a := a) (b := b) (s := (n, ts.length)) (l := ts.map fun t => (a.ends t, b.ends t)) hs (by simp) fun x hx => by
   obtain ⟨t, ht, rfl⟩ := List.mem_map.1 hx
   exact ih t ht
  have e : nxt a b n (ts.map fun t => (a.ends t, b.ends t)) = (a.ends (.mk n ts), b.ends (.mk n ts)) := by
   unfold nxt
   rw [Au.ends_eq, Au.ends_eq, Au.endsL_eq, Au.endsL_eq, List.map_map, List.map_map]
   rfl
  rw [e] at this
  exact this
theorem Nv {j : J} (h : Gen a b syms j) : ∃ t, JE syms t ∧ j = (a.ends t, b.ends t) := by
 induction h with
 | @mk s l hs hl _ ih =>
  have : ∀ {l : List J}, (∀ x ∈ l, ∃ t, JE syms t ∧ x = (a.ends t, b.ends t)) → ∃ ts : List Tm, ts.length = l.length ∧ (∀ t ∈ ts, JE syms t) ∧ l = ts.map fun t => (a.ends t, b.ends t) := fun {l} => by
   induction l with
   | nil => intro _; exact ⟨[], rfl, by simp, rfl⟩
   | cons x l ih =>
    intro h
    obtain ⟨t, t1, t2⟩ := h x (by simp)
    obtain ⟨ts, q1, q2, q3⟩ := ih fun y hy => h y (by simp [hy])
    refine ⟨t :: ts, by simp [q1], fun u hu => ?_, by rw [t2, q3]; rfl⟩
    rcases List.mem_cons.1 hu with rfl | hu
    ·exact t1
    ·exact q2 u hu
  obtain ⟨ts, q1, q2, q3⟩ := this ih
  refine ⟨.mk s.1 ts, .mk (by rw [q1, hl]; exact hs) q2, ?_⟩
  unfold nxt
  rw [q3, Au.ends_eq, Au.ends_eq, Au.endsL_eq, Au.endsL_eq, List.map_map, List.map_map]
  rfl
theorem LB {bs : List (List Bool)} : ∀ {ss : List Int}, Be bs ss = true → ∀ x ∈ bs, ∃ i : Nat, x.getD i false = true := by
 induction bs with
 | nil => intro ss _ x hx; cases hx
 | cons c bs ih =>
  intro ss h x hx
  cases ss with
  | nil => simp [Be] at h
  | cons s ss =>
   simp only [Be, Bool.and_eq_true] at h
   rcases List.mem_cons.1 hx with rfl | hx
   ·exact ⟨s.toNat, h.1⟩
   ·exact ih h.2 x hx
theorem Ig (hs : ∀ m ∈ a.moves, m.sym ∈ syms) : ∀ (N : Nat) (t : Tm), SizeOf.sizeOf t < N → ∀ i, (a.ends t).getD i false = true → JE syms t
 | 0, _, h, _, _ => by omega
 | N + 1, .mk n ts, hN, i, hi => by
  have hl : i < a.states.toNat := by
   rcases Nat.lt_or_ge i (a.ends (.mk n ts)).length with q | q
   ·rwa [← a.ends_length (.mk n ts)]
   ·rw [List.getD_eq_getElem?_getD, List.getElem?_eq_none q] at hi
    cases hi
  rw [Au.ends_get a _ i hl, List.any_eq_true] at hi
  obtain ⟨m, hm, h⟩ := hi
  simp only [Bool.and_eq_true] at h
  have hf := h.1
  unfold Mv.fits at hf
  simp only [Bool.and_eq_true, decide_eq_true_eq] at hf
  obtain ⟨rfl, hall⟩ := hf
  have hlen := Fc hall
  rw [Au.endsL_eq] at hall hlen
  refine .mk ?_ fun t ht => ?_
  ·have := hs m hm
   unfold Mv.sym at this
   rw [hlen, List.length_map] at this
   exact this
  ·obtain ⟨k, hk⟩ := LB hall (a.ends t) (List.mem_map.2 ⟨t, ht, rfl⟩)
   exact Ig hs N t (by have := Tm.lt_of_mem (n := m.name) ht; omega) k hk
theorem Oi (hs : ∀ m ∈ a.moves, m.sym ∈ syms) {t : Tm} (h : a.acc t = true) : JE syms t := by
 unfold Au.acc at h
 obtain ⟨s, _, h⟩ := List.any_eq_true.1 h
 exact Ig hs _ t (Nat.lt_succ_self _) _ h
end
noncomputable def Fo (a b : Au) : Bool := (Aw a b (Ad [a, b])).all fun j => !(a.fin j.1 && !b.fin j.2)
theorem HC {a b : Au} (ha : Am a = true) (hb : Am b = true) : ∀ s ∈ Ad [a, b], s.2 ≤ 2 := fun s hs => by
 obtain ⟨c, hc, m, hm, rfl⟩ := CM.1 hs
 unfold Am at ha hb
 simp only [Bool.and_eq_true, List.all_eq_true, decide_eq_true_eq] at ha hb
 simp only [List.mem_cons, List.not_mem_nil, or_false] at hc
 rcases hc with rfl | rfl
 ·exact ha.2 m hm
 ·exact hb.2 m hm
theorem Ao {a : Au} (ha : Am a = true) : a.states ≤ 3 := by
 unfold Am at ha
 simp only [Bool.and_eq_true, decide_eq_true_eq] at ha
 exact ha.1
theorem G_ {a b : Au} (ha : Am a = true) (hb : Am b = true) : Fo a b = true ↔ ∀ t, a.acc t = true → b.acc t = true := by
 have h2 := HC ha hb
 unfold Fo
 rw [List.all_eq_true]
 constructor
 ·intro h t ht
  have ho : JE (Ad [a, b]) t := Oi (fun m hm => CM.2 ⟨a, by simp, m, hm, rfl⟩) ht
  have := h _ ((FK h2 (Ao ha) (Ao hb)).2 (QJ ho))
  rw [Fa] at ht ⊢
  simpa [ht] using this
 ·intro h j hj
  obtain ⟨t, _, rfl⟩ := Nv ((FK h2 (Ao ha) (Ao hb)).1 hj)
  have := h t
  rw [Fa, Fa] at this
  cases hx : a.fin (a.ends t)
  ·simp
  ·simp [this hx]

theorem MD (l : List Au) (hl : l.length ≤ 1000) (hm : ∀ a ∈ l, a.moves.length ≤ 100000) (hf : ∀ a ∈ l, ∀ m ∈ a.moves, m.frm.length ≤ 100000) : A0 Try.prog 30 [M5 l] (AP (DF l)) := by
 refine Hv.ac fun C hC => ?_
 unfold Ez
 repeat' with_reducible first | refine W ?_ | refine Z0 ?_ | ((first | refine Wo fun K hK => ?_ | refine Wp ?_ | refine Wq ?_ | refine Wr ?_); (try simp only [go_sem, fN, seval, eT, iR, dT, dF, nL]); (repeat refine Ai ?_); (try (refine hK _ ?_; clear hK K)); try refine iC ?_)
 refine IWP.loopD [4] (fun q s => ∃ k, k ≤ l.length ∧ q = l.length - k ∧ (l.take k).all Am = true ∧ s.env 7 = M5 l ∧ s.env 8 = AP l.length ∧ s.env 9 = AP k ∧ s.S 4 = none ∧ s.S 6 = none) l.length ⟨0, Nat.zero_le _, rfl, rfl, rfl, by simp only [go_sem, fN, seval, eT, iR], rfl, rfl, rfl⟩ ?_
 rintro q ⟨env, S⟩ ⟨k, hk, rfl, hall, e7, e8, e9, s4, s6⟩
 simp only at e7 e8 e9 s4 s6
 by_cases hlt : (k : Int) < l.length
 ·obtain ⟨a, ha⟩ := Aq (show k < l.length by omega)
  have ham := AY ha
  have h1 := hm a ham
  have hno : Am a = false → DF l = 3 := fun h => if_neg (by
   rw [List.all_eq_true]
   intro h'
   rw [h' a ham] at h
   cases h)
  have hsn : (l.take (k + 1)).all Am = Am a := EY ha hall
  by_cases h3 : (3 : Int) < a.states
  ·have hb : Am a = false := by
    unfold Am
    rw [decide_eq_false (by omega)]
    rfl
   rw [hno hb]
   repeat' with_reducible first | refine W ?_ | refine Z0 ?_ | ((first | refine Wo fun K hK => ?_ | refine Wp ?_ | refine Wq ?_ | refine Wr ?_); (try simp only [go_sem, fN, seval, eT, iR, e7, e8, e9, s4, s6, hlt, ha, Kj, h3, dT, dF, nL]); (repeat refine Ai ?_); (try (refine hK _ ?_; clear hK K)); try refine iC ?_)
   simp only [go_sem, fN, seval, A6, AS.result, AO, AR, Av]
  ·repeat' with_reducible first | refine W ?_ | refine Z0 ?_ | ((first | refine Wo fun K hK => ?_ | refine Wp ?_ | refine Wq ?_ | refine Wr ?_); (try simp only [go_sem, fN, seval, eT, iR, e7, e8, e9, s4, s6, hlt, ha, Kj, h3, dT, dF, nL]); (repeat refine Ai ?_); (try (refine hK _ ?_; clear hK K)); try refine iC ?_)
   refine IWP.loopD [6] (fun q s => ∃ i, i ≤ a.moves.length ∧ q = a.moves.length - i ∧ (a.moves.take i).all (fun m => decide (m.frm.length ≤ 2)) = true ∧ s.env 7 = M5 l ∧ s.env 8 = AP l.length ∧ s.env 9 = AP k ∧ s.env 17 = .one (.st (.list (a.moves.map Ax))) ∧ s.env 18 = AP a.moves.length ∧ s.env 19 = AP i ∧ s.S 6 = none) a.moves.length
    ⟨0, Nat.zero_le _, rfl, rfl, by simp only [go_sem, fN, seval, eT, iR, e7], by simp only [go_sem, fN, seval, eT, iR, e8], by simp only [go_sem, fN, seval, eT, iR, e9], by simp only [go_sem, fN, seval, eT, iR], by simp only [go_sem, fN, seval, eT, iR], by simp only [go_sem, fN, seval, eT, iR], by simp only [go_sem, fN, seval, eT, iR, s6]⟩ ?_
   clear e7 e8 e9 s4 s6
   rintro q ⟨env, S⟩ ⟨i, hi, rfl, hai, e7, e8, e9, e17, e18, e19, s6⟩
   simp only at e7 e8 e9 e17 e18 e19 s6
   by_cases hil : (i : Int) < a.moves.length
   ·obtain ⟨m, hmi⟩ := Aq (show i < a.moves.length by omega)
    have hmm := AY hmi
    have hfm := hf a ham m hmm
    have hsn2 : (a.moves.take (i + 1)).all (fun m => decide (m.frm.length ≤ 2)) = decide (m.frm.length ≤ 2) := EY hmi hai
    by_cases h2 : (2 : Int) < m.frm.length
    ·have hb : Am a = false := by
      unfold Am
      rw [PZ hmm (p := fun m => decide (m.frm.length ≤ 2)) (decide_eq_false (by omega))]
      simp
     rw [hno hb]
     have h2' : 2 < m.frm.length := by omega
     repeat' with_reducible first | refine W ?_ | refine Z0 ?_ | ((first | refine Wo fun K hK => ?_ | refine Wp ?_ | refine Wq ?_ | refine Wr ?_); (try simp only [go_sem, fN, seval, eT, iR, e7, e8, e9, e17, e18, e19, s6, hil, hmi, Ax, h2, h2', dT, dF, nL]); (repeat refine Ai ?_); (try (refine hK _ ?_; clear hK K)); try refine iC ?_)
     simp only [go_sem, fN, seval, A6, AS.result, AO, AR, Av]
    ·have h2' : ¬ 2 < m.frm.length := by omega
     repeat' with_reducible first | refine W ?_ | refine Z0 ?_ | ((first | refine Wo fun K hK => ?_ | refine Wp ?_ | refine Wq ?_ | refine Wr ?_); (try simp only [go_sem, fN, seval, eT, iR, e7, e8, e9, e17, e18, e19, s6, hil, hmi, Ax, h2, h2', dT, dF, nL]); (repeat refine Ai ?_); (try (refine hK _ ?_; clear hK K)); try refine iC ?_)
     refine AI ⟨a.moves.length - (i + 1), by omega, i + 1, by omega, rfl, by rw [hsn2]; exact decide_eq_true (by omega), ?_⟩
     simp only [go_sem, fN, seval, AS.drop, Ag, AC.clears, AC.clear, AC.highs, AC.high, Bool.not_false, Bool.true_and, Bool.and_self, AV.purge, AV.purges, AC.purge, AG.purge, List.contains_cons, List.contains_nil, Nat.reduceBEq, Bool.or_self, Bool.or_false, Bool.false_or, Bool.or_true, eT, iR, e7, e8, e9, e17, e18, e19, s6]
     rfl
   ·have hie : i = a.moves.length := by omega
    rw [hie, List.take_length] at hai
    repeat' with_reducible first | refine W ?_ | refine Z0 ?_ | ((first | refine Wo fun K hK => ?_ | refine Wp ?_ | refine Wq ?_ | refine Wr ?_); (try simp only [go_sem, fN, seval, eT, iR, e7, e8, e9, e17, e18, e19, s6, hil, dT, dF, nL]); (repeat refine Ai ?_); (try (refine hK _ ?_; clear hK K)); try refine iC ?_)
    refine AI ⟨l.length - (k + 1), by omega, k + 1, by omega, rfl, ?_, ?_⟩
    ·rw [hsn]
     unfold Am
     rw [decide_eq_true (by omega), hai]
     rfl
    ·simp only [go_sem, fN, seval, AS.drop, Ag, AC.clears, AC.clear, AC.highs, AC.high, Bool.not_false, Bool.true_and, Bool.and_self, AV.purge, AV.purges, AC.purge, AG.purge, List.contains_cons, List.contains_nil, Nat.reduceBEq, Bool.or_self, Bool.or_false, Bool.false_or, Bool.or_true, eT, iR, e7, e8, e9, s6]
     rfl
 ·have hke : k = l.length := by omega
  rw [hke, List.take_length] at hall
  have hE : DF l = 0 := if_pos hall
  rw [hE]
  repeat' with_reducible first | refine W ?_ | refine Z0 ?_ | ((first | refine Wo fun K hK => ?_ | refine Wp ?_ | refine Wq ?_ | refine Wr ?_); (try simp only [go_sem, fN, seval, eT, iR, e7, e8, e9, hlt, dT, dF, nL]); (repeat refine Ai ?_); (try (refine hK _ ?_; clear hK K)); try refine iC ?_)
  simp only [go_sem, fN, seval, A6, AS.result, AO, AR, Av]
theorem Ee {a : Au} (h : a.may 8 40 = 0) : a.moves.length ≤ 40 ∧ ∀ m ∈ a.moves, m.frm.length ≤ 4 := by
 obtain ⟨⟨_, _, h3⟩, h4, _⟩ := Au.may_ok.1 h
 exact ⟨by omega, fun m hm => (Mv.err_ok.1 (h4 m hm)).2.1⟩
theorem LR (a b : Au) : (Ad [a, b]).length ≤ a.moves.length + b.moves.length := by
 unfold Ad
 have key : ∀ l : List Sym, (BG l).length ≤ l.length := fun l => by
  induction l with
  | nil => exact Nat.le_refl _
  | cons x l ih =>
   have h1 : ∀ m : List Sym, (F4 x m).length ≤ m.length + 1 := fun m => by
    induction m with
    | nil => exact Nat.le_refl _
    | cons y m ih2 =>
     unfold F4
     split
     ·simp
     ·split
      ·simp
      ·simp only [List.length_cons]; omega
   have := h1 (BG l)
   show (F4 x (BG l)).length ≤ _
   simp only [List.length_cons]
   omega
 refine Nat.le_trans (key _) ?_
 simp
def JW (a b : Au) (w : Bool) : AV := if Cl a b ≠ 0 then .tup [Bk false, AP (Cl a b)] else if DF [a, b] ≠ 0 then .tup [Bk false, AP (DF [a, b])] else .tup [Bk w, AP 0]
theorem PX {a b : Au} (h : Cl a b = 0) : a.may 8 40 = 0 ∧ b.may 8 40 = 0 := by
 unfold Cl at h
 split at h
 ·rename_i h1; exact ⟨h1, h⟩
 ·rename_i h1; exact absurd h h1
theorem NJ {a b : Au} (h : DF [a, b] = 0) : Am a = true ∧ Am b = true := by
 unfold DF at h
 split at h
 ·rename_i h1
  simpa using h1
 ·cases h
theorem K9 (a b : Au) (hla : a.last.length ≤ 100000) (hlb : b.last.length ≤ 100000) : A0 Try.prog 12 [aAu a, aAu b] (JW a b (Fo a b)) := by
 have hp := QG a b
 unfold JW
 by_cases h1 : Cl a b = 0
 case neg =>
  rw [if_pos h1]
  refine C1.ac fun C hC => ?_
  unfold CH
  repeat' (first | (with_reducible first | refine W ?_ | refine Z0 ?_ | ((first | refine Wo fun K hK => ?_ | refine Wp ?_ | refine Wq ?_ | refine Wr ?_); (try simp only [go_sem, fN, seval, eT, iR, h1, dT, dF, nL]); (repeat refine Ai ?_); (try (refine hK _ ?_; clear hK K)); try refine iC ?_)) | refine Cg _ (hp) ?_)
  simp only [go_sem, fN, seval, A6, AS.result, AO, AR, Av]
 case pos =>
  rw [if_neg (fun h => h h1)]
  rw [h1] at hp
  obtain ⟨ma, mb⟩ := PX h1
  have ga := Au.may_good ma
  have gb := Au.may_good mb
  obtain ⟨a1, a2⟩ := Ee ma
  obtain ⟨b1, b2⟩ := Ee mb
  have hsm := MD [a, b] (by simp) (fun c hc => by
   simp only [List.mem_cons, List.not_mem_nil, or_false] at hc
   rcases hc with rfl | rfl <;> omega) (fun c hc m hm => by
   simp only [List.mem_cons, List.not_mem_nil, or_false] at hc
   rcases hc with rfl | rfl
   ·have := a2 m hm; omega
   ·have := b2 m hm; omega)
  by_cases h2 : DF [a, b] = 0
  case neg =>
   rw [if_pos h2]
   refine C1.ac fun C hC => ?_
   unfold CH
   repeat' (first | (with_reducible first | refine W ?_ | refine Z0 ?_ | ((first | refine Wo fun K hK => ?_ | refine Wp ?_ | refine Wq ?_ | refine Wr ?_); (try simp only [go_sem, fN, seval, eT, iR, h2, dT, dF, nL]); (repeat refine Ai ?_); (try (refine hK _ ?_; clear hK K)); try refine iC ?_)) | refine Cg _ (hp) ?_ | refine Cg _ (hsm) ?_)
   simp only [go_sem, fN, seval, A6, AS.result, AO, AR, Av]
  case pos =>
   rw [if_neg (fun h => h h2)]
   rw [h2] at hsm
   obtain ⟨sa, sb⟩ := NJ h2
   have hs2 := HC sa sb
   have hsy := IT [a, b] (by simp) (fun c hc => by
    simp only [List.mem_cons, List.not_mem_nil, or_false] at hc
    rcases hc with rfl | rfl <;> omega) (fun c hc m hm => by
    simp only [List.mem_cons, List.not_mem_nil, or_false] at hc
    rcases hc with rfl | rfl
    ·have := a2 m hm; omega
    ·have := b2 m hm; omega)
   have hsl := LR a b
   have hre := MA a b ga gb (Ao sa) (Ao sb) (by omega) (by omega) (Ad [a, b]) hs2 (by omega)
   have hok := DU (a := a) (b := b) hs2
   have hlen := hok.len (Ao sa) (Ao sb)
   have hlA := HY a ga (by have := Ao sa; omega) hla
   have hlB := HY b gb (by have := Ao sb; omega) hlb
   have hfa := fun x => Gz ga x
   have hfb := fun x => Gz gb x
   unfold Fo
   obtain ⟨R, hR⟩ : ∃ R, Aw a b (Ad [a, b]) = R := ⟨_, rfl⟩
   rw [hR] at hre hlen
   rw [hR]
   refine C1.ac fun C hC => ?_
   unfold CH
   repeat' (first | (with_reducible first | refine W ?_ | refine Z0 ?_ | ((first | refine Wo fun K hK => ?_ | refine Wp ?_ | refine Wq ?_ | refine Wr ?_); (try simp only [go_sem, fN, seval, eT, iR, dT, dF, nL]); (repeat refine Ai ?_); (try (refine hK _ ?_; clear hK K)); try refine iC ?_)) | refine Cg _ (hp) ?_ | refine Cg _ (hsm) ?_ | refine Cg _ (hsy) ?_ | refine Cg _ (hre) ?_)
   refine IWP.loopD [9] (fun q s => ∃ k, k ≤ R.length ∧ q = R.length - k ∧ (R.take k).all (fun j => !(a.fin j.1 && !b.fin j.2)) = true ∧ s.env 2 = .one (.ptr 2 1 0 0) ∧ s.env 3 = .one (.ptr 3 1 0 0) ∧ s.env 29 = aJs R ∧ s.env 30 = AP R.length ∧ s.env 31 = AP k ∧ s.S 2 = some (AT a) ∧ s.S 3 = some (AT b) ∧ s.S 9 = none) R.length ⟨0, Nat.zero_le _, rfl, rfl, rfl, rfl, rfl, by simp only [go_sem, fN, seval, eT, iR], rfl, by simp only [go_sem, fN, seval, eT, iR]; rfl, by simp only [go_sem, fN, seval, eT, iR]; rfl, rfl⟩ ?_
   rintro q ⟨env, S⟩ ⟨k, hk, rfl, hall, e2, e3, e29, e30, e31, s2, s3, s9⟩
   simp only at e2 e3 e29 e30 e31 s2 s3 s9
   by_cases hlt : (k : Int) < R.length
   ·obtain ⟨j, hj⟩ := Aq (show k < R.length by omega)
    have hjm := AY hj
    have hsn : (R.take (k + 1)).all (fun j => !(a.fin j.1 && !b.fin j.2)) = !(a.fin j.1 && !b.fin j.2) := EY hj hall
    have fa := hfa j.1
    have fb := hfb j.2
    by_cases hA : ((bN j.1 &&& bN a.lastB : Nat) : Int) = 0
    ·have hA' : a.fin j.1 = false := by
      cases hx : a.fin j.1 with
      | false => rfl
      | true => exact absurd hA (by have := fa.2 hx; omega)
     repeat' (first | (with_reducible first | refine W ?_ | refine Z0 ?_ | ((first | refine Wo fun K hK => ?_ | refine Wp ?_ | refine Wq ?_ | refine Wr ?_); (try simp only [go_sem, fN, seval, eT, iR, e2, e3, e29, e30, e31, s2, s3, s9, AT, hlt, hj, Cw, F5, IntKind.bits, hA, Int.toNat_natCast, dT, dF, nL]); (repeat refine Ai ?_); (try (refine hK _ ?_; clear hK K)); try refine iC ?_)) | refine Cg _ (hlA) ?_ | refine Cg _ (hlB) ?_)
     refine AI ⟨R.length - (k + 1), by omega, k + 1, by omega, rfl, by rw [hsn, hA']; rfl, ?_⟩
     simp only [go_sem, fN, seval, AS.drop, Ag, AC.clears, AC.clear, AC.highs, AC.high, Bool.not_false, Bool.true_and, Bool.and_self, AV.purge, AV.purges, AC.purge, AG.purge, List.contains_cons, List.contains_nil, Nat.reduceBEq, Bool.or_self, Bool.or_false, Bool.false_or, Bool.or_true, eT, iR, e2, e3, e29, e30, e31, s2, s3, s9, AT]
     rfl
    ·have hA' : a.fin j.1 = true := fa.1 (by omega)
     by_cases hB : ((bN j.2 &&& bN b.lastB : Nat) : Int) = 0
     ·have hB' : b.fin j.2 = false := by
       cases hx : b.fin j.2 with
       | false => rfl
       | true => exact absurd hB (by have := fb.2 hx; omega)
      have hw : R.all (fun j => !(a.fin j.1 && !b.fin j.2)) = false := PZ hjm (p := fun j => !(a.fin j.1 && !b.fin j.2)) (by rw [hA', hB']; rfl)
      rw [hw]
      repeat' (first | (with_reducible first | refine W ?_ | refine Z0 ?_ | ((first | refine Wo fun K hK => ?_ | refine Wp ?_ | refine Wq ?_ | refine Wr ?_); (try simp only [go_sem, fN, seval, eT, iR, e2, e3, e29, e30, e31, s2, s3, s9, AT, hlt, hj, Cw, F5, IntKind.bits, hA, hB, Int.toNat_natCast, dT, dF, nL]); (repeat refine Ai ?_); (try (refine hK _ ?_; clear hK K)); try refine iC ?_)) | refine Cg _ (hlA) ?_ | refine Cg _ (hlB) ?_)
      simp only [go_sem, fN, seval, A6, AS.result, AO, AR, Av]
     ·have hB' : b.fin j.2 = true := fb.1 (by omega)
      repeat' (first | (with_reducible first | refine W ?_ | refine Z0 ?_ | ((first | refine Wo fun K hK => ?_ | refine Wp ?_ | refine Wq ?_ | refine Wr ?_); (try simp only [go_sem, fN, seval, eT, iR, e2, e3, e29, e30, e31, s2, s3, s9, AT, hlt, hj, Cw, F5, IntKind.bits, hA, hB, Int.toNat_natCast, dT, dF, nL]); (repeat refine Ai ?_); (try (refine hK _ ?_; clear hK K)); try refine iC ?_)) | refine Cg _ (hlA) ?_ | refine Cg _ (hlB) ?_)
      refine AI ⟨R.length - (k + 1), by omega, k + 1, by omega, rfl, by rw [hsn, hA', hB']; rfl, ?_⟩
      simp only [go_sem, fN, seval, AS.drop, Ag, AC.clears, AC.clear, AC.highs, AC.high, Bool.not_false, Bool.true_and, Bool.and_self, AV.purge, AV.purges, AC.purge, AG.purge, List.contains_cons, List.contains_nil, Nat.reduceBEq, Bool.or_self, Bool.or_false, Bool.false_or, Bool.or_true, eT, iR, e2, e3, e29, e30, e31, s2, s3, s9, AT]
      rfl
   ·have hke : k = R.length := by omega
    rw [hke, List.take_length] at hall
    rw [hall]
    repeat' with_reducible first | refine W ?_ | refine Z0 ?_ | ((first | refine Wo fun K hK => ?_ | refine Wp ?_ | refine Wq ?_ | refine Wr ?_); (try simp only [go_sem, fN, seval, eT, iR, e2, e3, e29, e30, e31, hlt, dT, dF, nL]); (repeat refine Ai ?_); (try (refine hK _ ?_; clear hK K)); try refine iC ?_)
    simp only [go_sem, fN, seval, A6, AS.result, AO, AR, Av]

def CG : List ByteArray → ByteArray → Nat
 | [], _ => 0
 | x :: l, n => if x = n then 0 else CG l n + 1
def FB (l : List ByteArray) (n : ByteArray) : List ByteArray := if CG l n < l.length then l else l ++ [n]
theorem Du : ∀ {l : List ByteArray} {n : ByteArray}, CG l n < l.length ↔ n ∈ l
 | [], n => by simp [CG]
 | x :: l, n => by
  have ih := Du (l := l) (n := n)
  unfold CG
  by_cases e : x = n
  ·subst e; simp
  ·have e' : ¬ n = x := fun h => e h.symm
   rw [if_neg e]
   simp only [List.length_cons, List.mem_cons, e', false_or, ← ih]
   omega
theorem HA : ∀ {l : List ByteArray} {n : ByteArray}, CG l n < l.length → l[CG l n]? = some n
 | [], n, h => by simp at h
 | x :: l, n, h => by
  unfold CG at h ⊢
  by_cases e : x = n
  ·rw [if_pos e, e]; rfl
  ·rw [if_neg e] at h ⊢
   rw [List.getElem?_cons_succ]
   exact HA (by simpa using h)
theorem Oz {l : List ByteArray} {m n : ByteArray} (hm : m ∈ l) (hn : n ∈ l) (h : CG l m = CG l n) : m = n := by
 have h1 := HA (Du.2 hm)
 have h2 := HA (Du.2 hn)
 rw [h, h2] at h1
 exact (Option.some.inj h1).symm
theorem Ks {l : List ByteArray} {n : ByteArray} (h : n ∈ l) (m : List ByteArray) : CG (l ++ m) n = CG l n := by
 induction l with
 | nil => cases h
 | cons x l ih =>
  rw [List.cons_append]
  unfold CG
  by_cases e : x = n
  ·rw [if_pos e, if_pos e]
  ·rw [if_neg e, if_neg e]
   rcases List.mem_cons.1 h with h | h
   ·exact absurd h.symm e
   ·rw [ih h]
theorem Of (l : List ByteArray) (n : ByteArray) : l <+: FB l n := by
 unfold FB
 split
 ·exact List.prefix_refl _
 ·exact List.prefix_append _ _
theorem Ki {l : List ByteArray} {n x : ByteArray} : x ∈ FB l n ↔ x ∈ l ∨ x = n := by
 unfold FB
 split
 ·rename_i h
  have := Du.1 h
  constructor
  ·exact .inl
  ·rintro (h | rfl)
   ·exact h
   ·exact this
 ·simp
theorem LN {l : List ByteArray} {n : ByteArray} (h : l.Nodup) : (FB l n).Nodup := by
 unfold FB
 split
 ·exact h
 ·rename_i hm
  rw [List.nodup_append]
  exact ⟨h, by simp, fun x hx y hy e => hm (Du.2 (by rw [← List.mem_singleton.1 hy, ← e]; exact hx))⟩
theorem Dr {α : Type} : ∀ {l m : List α}, l.Nodup → (∀ x ∈ l, x ∈ m) → l.length ≤ m.length
 | [], m, _, _ => Nat.zero_le _
 | x :: l, m, hn, hs => by
  obtain ⟨h1, h2⟩ := List.nodup_cons.1 hn
  obtain ⟨p, q, hpq⟩ := List.append_of_mem (hs x (by simp))
  subst hpq
  have := Dr (m := p ++ q) h2 fun y hy => by
   have h3 := hs y (by simp [hy])
   have hne : ¬ y = x := fun e => h1 (by rw [← e]; exact hy)
   simp only [List.mem_append, List.mem_cons, hne, false_or] at h3 ⊢
   exact h3
  simp only [List.length_cons, List.length_append] at this ⊢
  omega
section
variable (a : Au) (syms : List Sym) (R : List J)
def stp (n : ByteArray) (l : List Nat) : Nat := (R.map Prod.fst).idxOf (a.ending n ((Ae R l).map Prod.fst))
def DL (part : List Nat) (n : ByteArray) (i : Nat) (key : List Nat) (l : List Nat) : List Nat := key ++ (List.range l.length).map fun k => part.getD (stp a R n (l.set k i)) 0
def FP (part : List Nat) (i : Nat) (key : List Nat) (s : Sym) : List Nat := (C5 R.length s.2).foldl (DL a R part s.1 i) key
def sig (part : List Nat) (i : Nat) : List Nat := syms.foldl (FP a R part i) [part.getD i 0]
def BJ (l : List Nat) : ByteArray := ⟨(l.map fun p => UInt8.ofNat (p + 1)).toArray⟩
def A4 (part : List Nat) (k : Nat) : List ByteArray := (List.range k).foldl (fun L i => FB L (BJ (sig a syms R part i))) []
def fresh (part : List Nat) : List Nat := (List.range R.length).map fun i => CG (A4 a syms R part R.length) (BJ (sig a syms R part i))
def DQ : List Nat := R.map fun j => if a.fin j.1 = true then 1 else 0
def BQ : Nat → List Nat
 | 0 => DQ a R
 | t + 1 => fresh a syms R (BQ t)
def nK (t : Nat) : Nat := (A4 a syms R (BQ a syms R t) R.length).length
def B5 : Nat → Nat
 | 0 => 0
 | t + 1 => nK a syms R t
end
section
variable {a : Au} {syms : List Sym} {R : List J}
theorem CN {part : List Nat} (k : Nat) : A4 a syms R part (k + 1) = FB (A4 a syms R part k) (BJ (sig a syms R part k)) := by
 unfold A4
 rw [List.range_succ, List.foldl_append]
 rfl
theorem CR {part : List Nat} : ∀ {k : Nat} {x : ByteArray}, x ∈ A4 a syms R part k ↔ ∃ i, i < k ∧ x = BJ (sig a syms R part i)
 | 0, x => by simp [A4]
 | k + 1, x => by
  rw [CN, Ki, CR]
  constructor
  ·rintro (⟨i, h1, h2⟩ | h)
   ·exact ⟨i, by omega, h2⟩
   ·exact ⟨k, by omega, h⟩
  ·rintro ⟨i, h1, h2⟩
   rcases Nat.lt_or_ge i k with h | h
   ·exact .inl ⟨i, h, h2⟩
   ·have : i = k := by omega
    subst this
    exact .inr h2
theorem Gb {part : List Nat} : ∀ {k : Nat}, (A4 a syms R part k).Nodup
 | 0 => List.nodup_nil
 | k + 1 => by rw [CN]; exact LN Gb
theorem DT {part : List Nat} : ∀ {k : Nat}, (A4 a syms R part k).length ≤ k
 | 0 => Nat.le_refl _
 | k + 1 => by
  rw [CN]
  have := DT (part := part) (k := k)
  unfold FB
  split
  ·omega
  ·simp; omega
theorem Iy {part : List Nat} {k : Nat} : ∀ d, A4 a syms R part k <+: A4 a syms R part (k + d)
 | 0 => List.prefix_refl _
 | d + 1 => (Iy d).trans (by rw [show k + (d + 1) = (k + d) + 1 from rfl, CN]; exact Of _ _)
theorem OR {part : List Nat} {k i : Nat} (hi : i < k) (hk : k ≤ R.length) : CG (A4 a syms R part R.length) (BJ (sig a syms R part i)) = CG (A4 a syms R part k) (BJ (sig a syms R part i)) := by
 obtain ⟨d, hd⟩ := Nat.exists_eq_add_of_le hk
 obtain ⟨r, hr⟩ := Iy (a := a) (syms := syms) (R := R) (part := part) (k := k) d
 rw [hd, ← hr]
 exact Ks (CR.2 ⟨i, hi, rfl⟩) r
theorem F2 {part : List Nat} : (fresh a syms R part).length = R.length := by simp [fresh]
theorem GM {part : List Nat} {i : Nat} (hi : i < R.length) : (fresh a syms R part).getD i 0 = CG (A4 a syms R part R.length) (BJ (sig a syms R part i)) := by
 unfold fresh
 rw [List.getD_eq_getElem?_getD, List.getElem?_map, List.getElem?_range hi]
 rfl
theorem Ok {part : List Nat} {i : Nat} (hi : i < R.length) : (fresh a syms R part).getD i 0 < R.length := by
 rw [GM hi]
 exact Nat.lt_of_lt_of_le (Du.2 (CR.2 ⟨i, hi, rfl⟩)) DT
theorem H9 : (DQ a R).length = R.length := by simp [DQ]
theorem NT : ∀ t, (BQ a syms R t).length = R.length
 | 0 => H9
 | t + 1 => F2
theorem KJ (i : Nat) : ∀ t, (BQ a syms R t).getD i 0 ≤ R.length
 | 0 => by
  unfold BQ DQ
  rw [List.getD_eq_getElem?_getD, List.getElem?_map]
  rcases Nat.lt_or_ge i R.length with h | h
  ·rw [List.getElem?_eq_getElem h, Option.map_some, Option.getD_some]
   split <;> omega
  ·rw [List.getElem?_eq_none h]
   simp
 | t + 1 => by
  rcases Nat.lt_or_ge i R.length with h | h
  ·exact Nat.le_of_lt (Ok h)
  ·unfold BQ
   rw [List.getD_eq_getElem?_getD, List.getElem?_eq_none (by rw [F2]; exact h)]
   exact Nat.zero_le _
theorem Om : ∀ {l m : List Nat}, (∀ x ∈ l, x < 100) → (∀ x ∈ m, x < 100) → BJ l = BJ m → l = m := fun {l m} hl hm h => by
 have h1 : l.map (fun p => UInt8.ofNat (p + 1)) = m.map (fun p => UInt8.ofNat (p + 1)) := by
  have h2 := congrArg (fun b : ByteArray => b.data.toList) h
  simpa [BJ] using h2
 have hlen : l.length = m.length := by simpa using congrArg List.length h1
 refine List.ext_getElem hlen fun i p q => ?_
 have h3 := congrArg (fun k : List UInt8 => k[i]?) h1
 simp only [List.getElem?_map, List.getElem?_eq_getElem p, List.getElem?_eq_getElem q, Option.map_some, Option.some.injEq] at h3
 have a1 := hl _ (List.getElem_mem p)
 have a2 := hm _ (List.getElem_mem q)
 have h4 := congrArg UInt8.toNat h3
 rw [UInt8.toNat_ofNat', UInt8.toNat_ofNat'] at h4
 omega
theorem OW {part : List Nat} {B : Nat} (hp : ∀ i, part.getD i 0 ≤ B) {n : ByteArray} {i : Nat} {key : List Nat} (h : ∀ x ∈ key, x ≤ B) (l : List Nat) : ∀ x ∈ DL a R part n i key l, x ≤ B := fun x hx => by
 unfold DL at hx
 rcases List.mem_append.1 hx with hx | hx
 ·exact h x hx
 ·obtain ⟨k, _, rfl⟩ := List.mem_map.1 hx
  exact hp _
theorem F9 {α : Type} {f : List Nat → α → List Nat} {B : Nat} (hf : ∀ key x, (∀ y ∈ key, y ≤ B) → ∀ y ∈ f key x, y ≤ B) : ∀ (l : List α) (key : List Nat), (∀ y ∈ key, y ≤ B) → ∀ y ∈ l.foldl f key, y ≤ B
 | [], key, h => h
 | x :: l, key, h => F9 hf l (f key x) (hf key x h)
theorem P4 {part : List Nat} {B : Nat} (hp : ∀ i, part.getD i 0 ≤ B) (i : Nat) : ∀ x ∈ sig a syms R part i, x ≤ B :=
 F9 (fun key s h => F9 (fun key l h => OW hp h l) _ _ h) _ _ fun y hy => by
  rw [List.mem_singleton.1 hy]
  exact hp i
theorem E6 {α : Type} {f : List Nat → α → List Nat} (hf : ∀ key x, key <+: f key x) : ∀ (l : List α) (key : List Nat), key <+: l.foldl f key
 | [], key => List.prefix_refl _
 | x :: l, key => (hf key x).trans (E6 hf l (f key x))
theorem K0 (part : List Nat) (i : Nat) : [part.getD i 0] <+: sig a syms R part i :=
 E6 (fun key s => E6 (fun key l => List.prefix_append _ _) _ _) _ _
theorem Ox {part : List Nat} {i j : Nat} (h : sig a syms R part i = sig a syms R part j) : part.getD i 0 = part.getD j 0 := by
 obtain ⟨r, hr⟩ := K0 (a := a) (syms := syms) (R := R) part i
 obtain ⟨s, hs⟩ := K0 (a := a) (syms := syms) (R := R) part j
 rw [← hr, ← hs] at h
 exact (List.cons.inj h).1
theorem KR (h64 : R.length ≤ 64) {t i j : Nat} (hi : i < R.length) (hj : j < R.length) (h : BJ (sig a syms R (BQ a syms R (t + 1)) i) = BJ (sig a syms R (BQ a syms R (t + 1)) j)) : BJ (sig a syms R (BQ a syms R t) i) = BJ (sig a syms R (BQ a syms R t) j) := by
 have hb : ∀ i, ∀ x ∈ sig a syms R (BQ a syms R (t + 1)) i, x < 100 := fun i x hx => by
  have := P4 (fun k => KJ k (t + 1)) i x hx
  omega
 have h1 := Ox (Om (hb i) (hb j) h)
 rw [show BQ a syms R (t + 1) = fresh a syms R (BQ a syms R t) from rfl, GM hi, GM hj] at h1
 exact Oz (CR.2 ⟨i, hi, rfl⟩) (CR.2 ⟨j, hj, rfl⟩) h1
theorem OT {k : Nat} {f g : Nat → ByteArray} {F G : List ByteArray} (hG : G.Nodup) (hF : ∀ i, i < k → f i ∈ F) (hg : ∀ x ∈ G, ∃ i, i < k ∧ x = g i) (h : ∀ i j, i < k → j < k → f i = f j → g i = g j) : G.length ≤ F.length := by
 obtain ⟨c, hc⟩ := Classical.axiomOfChoice (r := fun (x : ByteArray) i => x ∈ G → i < k ∧ x = g i) fun x => by
  by_cases hx : x ∈ G
  ·obtain ⟨i, h1, h2⟩ := hg x hx
   exact ⟨i, fun _ => ⟨h1, h2⟩⟩
  ·exact ⟨0, fun h => absurd h hx⟩
 have := Dr (l := G.map fun x => f (c x)) (m := F) ?_ ?_
 ·simpa using this
 ·rw [List.nodup_iff_pairwise_ne, List.pairwise_map]
  rw [List.nodup_iff_pairwise_ne, List.pairwise_iff_getElem] at hG
  rw [List.pairwise_iff_getElem]
  intro i j hi hj hij e
  obtain ⟨p1, p2⟩ := hc _ (List.getElem_mem hi)
  obtain ⟨q1, q2⟩ := hc _ (List.getElem_mem hj)
  refine hG i j hi hj hij ?_
  rw [p2, q2]
  exact h _ _ p1 q1 e
 ·intro x hx
  obtain ⟨y, hy, rfl⟩ := List.mem_map.1 hx
  exact hF _ (hc y hy).1
theorem Pk (h64 : R.length ≤ 64) (t : Nat) : nK a syms R t ≤ nK a syms R (t + 1) :=
 OT (k := R.length) (f := fun i => BJ (sig a syms R (BQ a syms R (t + 1)) i)) (g := fun i => BJ (sig a syms R (BQ a syms R t) i)) Gb (fun i hi => CR.2 ⟨i, hi, rfl⟩) (fun x hx => CR.1 hx) fun i j hi hj h => KR h64 hi hj h
theorem Nx (h64 : R.length ≤ 64) : ∃ T, T ≤ 65 ∧ nK a syms R T = B5 a syms R T ∧ ∀ t, t < T → ¬ nK a syms R t = B5 a syms R t := by
 have key : ∀ n, (∃ T, T ≤ n ∧ nK a syms R T = B5 a syms R T ∧ ∀ t, t < T → ¬ nK a syms R t = B5 a syms R t) ∨ (n + 1 ≤ nK a syms R n ∧ ∀ t, t ≤ n → ¬ nK a syms R t = B5 a syms R t) := fun n => by
  induction n with
  | zero =>
   by_cases h : nK a syms R 0 = B5 a syms R 0
   ·exact .inl ⟨0, Nat.le_refl _, h, fun t ht => by omega⟩
   ·refine .inr ⟨?_, fun t ht => by rw [show t = 0 by omega]; exact h⟩
    have h0 : B5 a syms R 0 = 0 := rfl
    omega
  | succ n ih =>
   rcases ih with ⟨T, h1, h2, h3⟩ | ⟨h1, h2⟩
   ·exact .inl ⟨T, by omega, h2, h3⟩
   ·by_cases h : nK a syms R (n + 1) = B5 a syms R (n + 1)
    ·exact .inl ⟨n + 1, Nat.le_refl _, h, fun t ht => h2 t (by omega)⟩
    ·refine .inr ⟨?_, fun t ht => ?_⟩
     ·have := Pk (a := a) (syms := syms) h64 n
      have h4 : B5 a syms R (n + 1) = nK a syms R n := rfl
      omega
     ·rcases Nat.lt_or_ge t (n + 1) with h5 | h5
      ·exact h2 t (by omega)
      ·rw [show t = n + 1 by omega]; exact h
 rcases key 65 with h | ⟨h, _⟩
 ·exact h
 ·have := DT (a := a) (syms := syms) (R := R) (part := BQ a syms R 65) (k := R.length)
  unfold nK at h
  omega
end

end Go.Proofs.Ytkegjgodjigjfaa
