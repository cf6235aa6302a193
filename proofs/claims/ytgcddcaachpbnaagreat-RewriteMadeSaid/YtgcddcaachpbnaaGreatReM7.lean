/-
  Part 7 of the texts. Conditions: none.
-/
import Derived.Test.YtgcddcaachpbnaaGreatReM6
namespace Go.Proofs.YtgcddcaachpbnaaGreat
open Go Go.RowKit
set_option linter.unusedVariables false
set_option linter.unusedSimpArgs false
set_option maxHeartbeats 2000000
theorem JF {S : AA} {a0 r : Nat} {bs : ByteArray} (ha : 1000 ≤ a0) (hr : 1000 ≤ r) (hne : a0 ≠ r) (h1 : S a0 = some (.box bT [.ptr a0 1 0 0, .row r bs.size])) (h2 : S r = some (.mrow u8T 1 (At bs))) : Bld (upS S) (up1 a0) (up1 r) bs :=
 MO ⟨ha, hr, hne, ⟨_, .inr rfl, h1⟩, h2⟩
theorem Tg {S S' : AA} {a0 r : Nat} {bs : ByteArray} (h : Bld S a0 r bs) (h1 : S' a0 = S a0) (h2 : S' r = S r) : Bld (upS S') (up1 a0) (up1 r) bs := by
 obtain ⟨p, hp, hb⟩ := h.box
 exact MO ⟨h.ha, h.hr, h.ne, ⟨p, hp, h1.trans hb⟩, h2.trans h.row⟩
theorem NK {C : Ctx} {rs : List RV} {r : AV} {e : AX} {s : AS} {S : AA} {a0 r0 : Nat} {bs : ByteArray} (h : Bld S a0 r0 bs) {cs : ByteArray} (rv : AV) (hS : Ar S) (he : match e with | .normal => True | .ret => True | _ => False)
  (h1 : (AB s rs).map AI = some rv) (h2 : outV s.S rv = some r) (h3 : s.S a0 = some (.box bT [.ptr a0 1 0 0, .row r0 cs.size])) (h3' : s.S r0 = some (.mrow u8T 1 (At cs))) (h4 : ∀ i, 1000 ≤ i → i ≠ a0 → i ≠ r0 → s.S i = S i) : Gc C rs r (HX S a0 r0 cs) e s :=
 J4 rv hS h.ha h.hr (fun e => h.ne e.symm) (Jy h.ha h.hr) rfl he h1 h2 h3 h3' h4
theorem Us (t : Tm) : ∀ {a0 r : Nat} {bs : ByteArray} {S : AA}, Bld S a0 r bs → bs.size + t.text.size ≤ 1000000000 → As Tryz.prog 49 [.one (.ptr a0 1 0 0), aTm t] S (.tup []) (HX S a0 r (bs ++ t.text)) := by
 obtain ⟨N, hN⟩ : ∃ N, SizeOf.sizeOf t < N := ⟨_, Nat.lt_succ_self _⟩
 induction N generalizing t with
 | zero => omega
 | succ N ih =>
 intro a0 r bs S h hz
 have ha := h.ha
 have hr := h.hr
 have hne := h.ne
 have hne2 : ¬ r = a0 := fun e => hne e.symm
 have a3 : ¬ a0 = 3 := by omega
 have r3 : ¬ r = 3 := by omega
 have q3 : ¬ 3 = a0 := by omega
 have s3 : ¬ 3 = r := by omega
 have a5 : ¬ a0 = 5 := by omega
 have r5 : ¬ r = 5 := by omega
 have q5 : ¬ 5 = a0 := by omega
 have s5 : ¬ 5 = r := by omega
 have hn0 := t.ahead_le 0
 rw [Tm.ahead_zero] at hn0
 refine Mk.acS fun hS C hC => ?_
 have k3 : S 3 = none := Aj hS (by omega)
 have k5 : S 5 = none := Aj hS (by omega)
 unfold HJ
 repeat' with_reducible first | refine W ?_ | refine Z0 ?_ | ((first | refine Wo fun K hK => ?_ | refine Wp ?_ | refine Wq ?_ | refine Wr ?_); (try simp only [go_sem, fN, seval, eT, iR, k3, k5, dT, dF, nL]); (repeat refine Ai ?_); (try (refine hK _ ?_; clear hK K)); try refine iC ?_)
 refine ⟨_, _, Ke (Tg h (by simp only [go_sem, fN, seval, eT, iR, a3]) (by simp only [go_sem, fN, seval, eT, iR, r3])) t.name (by omega), ?_⟩
 repeat' with_reducible first | refine W ?_ | refine Z0 ?_ | ((first | refine Wo fun K hK => ?_ | refine Wp ?_ | refine Wq ?_ | refine Wr ?_); (try simp only [go_sem, fN, seval, eT, iR, HX, q3, s3, hne, hne2, k5, dT, dF, nL]); (repeat refine Ai ?_); (try (refine hK _ ?_; clear hK K)); try refine iC ?_)
 refine IWP.loopD [5] (fun m s => ∃ k, k ≤ t.args.length ∧ m = t.args.length - k ∧ s.env 0 = .one (.ptr a0 1 0 0) ∧ s.env 3 = .one (.ptr 3 1 0 0) ∧ s.env 11 = .one (.st (.list (t.args.map Al))) ∧ s.env 12 = AO t.args.length ∧ s.env 13 = AO k ∧ s.S 3 = some (.box 25 [.st (.str t.name), .st (.list (t.args.map Al))]) ∧ s.S 5 = none ∧ s.S a0 = some (.box bT [.ptr a0 1 0 0, .row r (bs ++ t.ahead k).size]) ∧ s.S r = some (.mrow u8T 1 (At (bs ++ t.ahead k))) ∧ ∀ i, 1000 ≤ i → i ≠ a0 → i ≠ r → s.S i = S i) t.args.length ⟨0, Nat.zero_le _, rfl, rfl, rfl, rfl, rfl, rfl, ?_, ?_, ?_, ?_, fun i hi i1 i2 => ?_⟩ ?_
 ·simp only [go_sem, fN, seval, eT, iR, q3, s3]
 ·simp only [go_sem, fN, seval, eT, iR, q5, s5, k5]
 ·rw [Tm.ahead_zero]
  simp only [go_sem, fN, seval, eT, iR, hne, hne2]
 ·rw [Tm.ahead_zero]
  simp only [go_sem, fN, seval, eT, iR, hne, hne2]
 ·have i3 : ¬ i = 3 := by omega
  simp only [go_sem, fN, seval, eT, iR, i1, i2, i3]
 rintro m ⟨env, T⟩ ⟨k, hk, rfl, e0, e3, e11, e12, e13, t3, t5, ta, tr, th⟩
 simp only at e0 e3 e11 e12 e13 t3 t5 ta tr th
 have hah := t.ahead_le k
 have hal0 := t.args_text
 have hg := JF ha hr hne ta tr
 by_cases hlt : k < t.args.length
 case neg =>
  have hlt' : ¬ (k : Int) < t.args.length := by omega
  have hal := Tm.ahead_all (t := t) (k := k) (by omega)
  by_cases h0 : k = 0
  ·rw [if_pos h0, append_empty] at hal
   have hl0 : ¬ (0 : Int) < t.args.length := by omega
   repeat' with_reducible first | refine W ?_ | refine Z0 ?_ | ((first | refine Wo fun K hK => ?_ | refine Wp ?_ | refine Wq ?_ | refine Wr ?_); (try simp only [go_sem, fN, seval, eT, iR, e0, e3, e11, e12, e13, t3, t5, ta, tr, hlt', hl0, dT, dF, nL]); (repeat refine Ai ?_); (try (refine hK _ ?_; clear hK K)); try refine iC ?_)
   refine NK h (.tup []) hS trivial rfl rfl ?_ ?_ fun i hi i1 i2 => ?_
   ·rw [hal]
    simp only [go_sem, fN, seval, eT, iR, ta]
   ·rw [hal]
    simp only [go_sem, fN, seval, eT, iR, tr]
   ·exact th i hi i1 i2
  ·rw [if_neg h0] at hal
   have hl0 : (0 : Int) < t.args.length := by omega
   rw [hal, ByteArray.size_append] at hz
   have z1 : (⟨#[41]⟩ : ByteArray).size = 1 := rfl
   repeat' with_reducible first | refine W ?_ | refine Z0 ?_ | ((first | refine Wo fun K hK => ?_ | refine Wp ?_ | refine Wq ?_ | refine Wr ?_); (try simp only [go_sem, fN, seval, eT, iR, e0, e3, e11, e12, e13, t3, t5, ta, tr, hlt', hl0, dT, dF, nL]); (repeat refine Ai ?_); (try (refine hK _ ?_; clear hK K)); try refine iC ?_)
   refine ⟨_, _, (FW hg 41 (by rw [ByteArray.size_append]; omega) : As _ _ [_, .one (.st (.int .u8 41))] _ _ _), ?_⟩
   repeat' with_reducible first | refine W ?_ | refine Z0 ?_ | ((first | refine Wo fun K hK => ?_ | refine Wp ?_ | refine Wq ?_ | refine Wr ?_); (try simp only [go_sem, fN, seval, eT, iR, HX, q3, s3, hne, hne2, dT, dF, nL]); (repeat refine Ai ?_); (try (refine hK _ ?_; clear hK K)); try refine iC ?_)
   rw [hal, ← ByteArray.append_assoc]
   refine NK h (.tup []) hS trivial rfl rfl ?_ ?_ fun i hi i1 i2 => ?_
   ·simp only [go_sem, fN, seval, eT, iR, hne, hne2]
    try rfl
   ·simp only [go_sem, fN, seval, eT, iR, hne, hne2]
    try rfl
   ·simp only [go_sem, fN, seval, eT, iR, i1, i2]
    exact th i hi i1 i2
 have hlt' : (k : Int) < t.args.length := by omega
 obtain ⟨a, haa⟩ := Af hlt
 have hm := AP haa
 have hta := Tm.text_lt hm
 have hs := @ih a (by have := Tm.lt_of_arg hm; omega)
 have hnx := Tm.ahead_succ haa
 have h1 := t.ahead_le (k + 1)
 rw [hnx, ByteArray.size_append, ByteArray.size_append, HP] at h1
 have z1 : (⟨#[40]⟩ : ByteArray).size = 1 := rfl
 have z2 : (⟨#[44]⟩ : ByteArray).size = 1 := rfl
 have ab5 : (a0 == 5) = false := beq_false_of_ne (by omega)
 have rb5 : (r == 5) = false := beq_false_of_ne (by omega)
 have b0 : EA (⟨#[40, 44]⟩ : ByteArray) 0 = 40 := by decide
 have b1 : EA (⟨#[40, 44]⟩ : ByteArray) 1 = 44 := by decide
 have hg0 : ∀ B C : AL, Bld (upS (AG (AG T 5 (some B)) 5 (some C))) (up1 a0) (up1 r) (bs ++ t.ahead k) := fun B C => JF ha hr hne (by simp only [go_sem, fN, seval, eT, iR, a5, ta]) (by simp only [go_sem, fN, seval, eT, iR, r5, tr])
 by_cases h0 : k = 0
 ·subst h0
  rw [Nl] at hnx
  have hl0 : (0 : Int) < t.args.length := by omega
  repeat' with_reducible first | refine W ?_ | refine Z0 ?_ | ((first | refine Wo fun K hK => ?_ | refine Wp ?_ | refine Wq ?_ | refine Wr ?_); (try simp only [go_sem, fN, seval, eT, iR, e0, e3, e11, e12, e13, t3, t5, ta, tr, hl0, haa, b0, dT, dF, nL]); (repeat refine Ai ?_); (try (refine hK _ ?_; clear hK K)); try refine iC ?_)
  refine ⟨_, _, (FW (hg0 _ _) 40 (by rw [ByteArray.size_append]; omega) : As _ _ [_, .one (.st (.int .u8 40))] _ _ _), ?_⟩
  repeat' with_reducible first | refine W ?_ | refine Z0 ?_ | ((first | refine Wo fun K hK => ?_ | refine Wp ?_ | refine Wq ?_ | refine Wr ?_); (try simp only [go_sem, fN, seval, eT, iR, e0, e3, e11, e12, e13, t3, HX, q3, s3, q5, s5, hne, hne2, dT, dF, nL]); (repeat refine Ai ?_); (try (refine hK _ ?_; clear hK K)); try refine iC ?_)
  refine ⟨_, _, hs (JF (bs := bs ++ t.ahead 0 ++ ⟨#[40]⟩) ha hr hne (by simp only [go_sem, fN, seval, eT, iR, hne, hne2]) (by simp only [go_sem, fN, seval, eT, iR, hne, hne2])) (by rw [ByteArray.size_append, ByteArray.size_append]; omega), ?_⟩
  repeat' with_reducible first | refine W ?_ | refine Z0 ?_ | ((first | refine Wo fun K hK => ?_ | refine Wp ?_ | refine Wq ?_ | refine Wr ?_); (try simp only [go_sem, fN, seval, eT, iR, e0, e3, e11, e12, e13, t3, HX, q3, s3, q5, s5, hne, hne2, dT, dF, nL]); (repeat refine Ai ?_); (try (refine hK _ ?_; clear hK K)); try refine iC ?_)
  refine AF ⟨t.args.length - (0 + 1), by omega, 0 + 1, by omega, rfl, ?_⟩
  simp only [go_sem, fN, seval, AS.drop, Ac, AC.clears, AC.clear, AC.highs, AC.high, Bool.not_false, Bool.true_and, Bool.and_self, AV.purge, AV.purges, AC.purge, AL.purge, List.contains_cons, List.contains_nil, Nat.reduceBEq, Bool.or_self, Bool.or_false, Bool.false_or, Bool.or_true, eT, iR, e0, e3, e11, e12, e13, t3, hne, hne2, hnx, q3, s3, q5, s5, ab5, rb5]
  refine ⟨by simp only [Nat.add_assoc], by simp only [ByteArray.append_assoc], fun i hi i1 i2 => ?_⟩
  have i5 : ¬ i = 5 := by omega
  have i5b : (i == 5) = false := beq_false_of_ne i5
  simp only [i5b, i5, i1, i2, if_false, Bool.false_eq_true]
  rw [th i hi i1 i2]
  exact PA (by decide) fun b hb => (hS i b hb).2
 ·rw [NO h0] at hnx
  have h0' : (if (1 : Int) < (k : Int) then (1 : Int) else (k : Int)) = 1 := by split <;> omega
  repeat' with_reducible first | refine W ?_ | refine Z0 ?_ | ((first | refine Wo fun K hK => ?_ | refine Wp ?_ | refine Wq ?_ | refine Wr ?_); (try simp only [go_sem, fN, seval, eT, iR, e0, e3, e11, e12, e13, t3, t5, ta, tr, hlt', h0', haa, b1, dT, dF, nL]); (repeat refine Ai ?_); (try (refine hK _ ?_; clear hK K)); try refine iC ?_)
  refine ⟨_, _, (FW (hg0 _ _) 44 (by rw [ByteArray.size_append]; omega) : As _ _ [_, .one (.st (.int .u8 44))] _ _ _), ?_⟩
  repeat' with_reducible first | refine W ?_ | refine Z0 ?_ | ((first | refine Wo fun K hK => ?_ | refine Wp ?_ | refine Wq ?_ | refine Wr ?_); (try simp only [go_sem, fN, seval, eT, iR, e0, e3, e11, e12, e13, t3, HX, q3, s3, q5, s5, hne, hne2, dT, dF, nL]); (repeat refine Ai ?_); (try (refine hK _ ?_; clear hK K)); try refine iC ?_)
  refine ⟨_, _, hs (JF (bs := bs ++ t.ahead k ++ ⟨#[44]⟩) ha hr hne (by simp only [go_sem, fN, seval, eT, iR, hne, hne2]) (by simp only [go_sem, fN, seval, eT, iR, hne, hne2])) (by rw [ByteArray.size_append, ByteArray.size_append]; omega), ?_⟩
  repeat' with_reducible first | refine W ?_ | refine Z0 ?_ | ((first | refine Wo fun K hK => ?_ | refine Wp ?_ | refine Wq ?_ | refine Wr ?_); (try simp only [go_sem, fN, seval, eT, iR, e0, e3, e11, e12, e13, t3, HX, q3, s3, q5, s5, hne, hne2, dT, dF, nL]); (repeat refine Ai ?_); (try (refine hK _ ?_; clear hK K)); try refine iC ?_)
  refine AF ⟨t.args.length - (k + 1), by omega, k + 1, by omega, rfl, ?_⟩
  simp only [go_sem, fN, seval, AS.drop, Ac, AC.clears, AC.clear, AC.highs, AC.high, Bool.not_false, Bool.true_and, Bool.and_self, AV.purge, AV.purges, AC.purge, AL.purge, List.contains_cons, List.contains_nil, Nat.reduceBEq, Bool.or_self, Bool.or_false, Bool.false_or, Bool.or_true, eT, iR, e0, e3, e11, e12, e13, t3, hne, hne2, hnx, q3, s3, q5, s5, ab5, rb5]
  refine ⟨by congr 3, by simp only [Nat.add_assoc], by simp only [ByteArray.append_assoc], fun i hi i1 i2 => ?_⟩
  have i5 : ¬ i = 5 := by omega
  have i5b : (i == 5) = false := beq_false_of_ne i5
  simp only [i5b, i5, i1, i2, if_false, Bool.false_eq_true]
  rw [th i hi i1 i2]
  exact PA (by decide) fun b hb => (hS i b hb).2
theorem MU (t : Tm) (h0 : 0 < t.name.size) (hz : t.text.size ≤ 100000000) : AN Tryz.prog 28 [aTm t] (CP t.text) := by
 have hn0 := t.ahead_le 0
 rw [Tm.ahead_zero] at hn0
 have hne : ∀ b : ByteArray, (⟨#[]⟩ : ByteArray) ++ b = b := empty_append
 refine Mm.ac fun C hC => ?_
 unfold G5
 refine W ?_
 refine Wo (fun K hK => ?_)
 (try simp only [go_sem, fN, seval, eT, iR])
 (repeat with_reducible refine Ai ?_)
 refine hK _ ?_
 clear hK K
 refine W ?_
 refine W ?_
 refine Wo (fun K hK => ?_)
 (try simp only [go_sem, fN, seval, eT, iR])
 (repeat with_reducible refine Ai ?_)
 refine hK _ ?_
 clear hK K
 refine W ?_
 refine IWP.ghost (Aa.ownCell (id := 3) (r := 900) (e' := u8T) 1 1 (by rfl) (by rfl) (by rfl) (by decide)) ?_
 repeat' with_reducible first | refine W ?_ | refine Z0 ?_ | ((first | refine Wo fun K hK => ?_ | refine Wp ?_ | refine Wq ?_ | refine Wr ?_); (try simp only [go_sem, fN, seval, eT, iR, dT, dF, nL]); (repeat refine Ai ?_); (try (refine hK _ ?_; clear hK K)); try refine iC ?_)
 refine ⟨_, _, Us t (a0 := up1 3) (r := up1 900) (bs := ⟨#[]⟩) ⟨by decide, by decide, by decide, ⟨_, .inl rfl, by rw [Bv]; rfl⟩, by rw [Bv]; rfl⟩ (by show 0 + _ ≤ _; omega), ?_⟩
 repeat' with_reducible first | refine W ?_ | refine Z0 ?_ | ((first | refine Wo fun K hK => ?_ | refine Wp ?_ | refine Wq ?_ | refine Wr ?_); (try simp only [go_sem, fN, seval, eT, iR, HX, dT, dF, nL]); (repeat refine Ai ?_); (try (refine hK _ ?_; clear hK K)); try refine iC ?_)
 refine ⟨_, _, I6 (a0 := up1 3) (r := up1 900) (bs := ⟨#[]⟩ ++ t.text) ⟨by decide, by decide, by decide, ⟨_, .inr rfl, by rw [Bv]; (simp only [go_sem, fN, seval, eT, iR]; try rfl)⟩, by rw [Bv]; (simp only [go_sem, fN, seval, eT, iR]; try rfl)⟩ (by rw [hne]; omega) (by rw [hne]; omega), ?_⟩
 repeat' with_reducible first | refine W ?_ | refine Z0 ?_ | ((first | refine Wo fun K hK => ?_ | refine Wp ?_ | refine Wq ?_ | refine Wr ?_); (try simp only [go_sem, fN, seval, eT, iR, dT, dF, nL]); (repeat refine Ai ?_); (try (refine hK _ ?_; clear hK K)); try refine iC ?_)
 simp only [go_sem, fN, seval, AK, AS.result, AB, AD, AI]
 rw [hne]

set_option maxRecDepth 100000
def FD : IR :=
 (.seq (.ops [.i 2 (.box 22 (.t 0)), .i 3 (.box 25 (.t 1)), .i 4 (.alloc 23 [.full []]), .i 5 (.alloc 28 [.st (.int .i64 0)])]) (.seq (.ops [.i 6 (.alloc 23 [.full []])]) (.seq (.ops [.i 7 (.alloc 28 [.st (.int .i64 0)])]) (.seq (.seq (.ops [.L 14 2 3, .i 15 (.call 51 [.t 14, .c (.one (.fn 52 []))])]) (.block 0 (.rangeF (.t 15) [16, 17] (.seq (.ops [.i 8 (.alloc 25 [.st (.str (ByteArray.mk (#[]))), .full []]), .s 2 8 16]) (.ops [.m 9 17])) (.block 1 (.seq (.seq (.ops [.i 10 (.mov (.n 0))]) (.block 2 (.loop (.block 3 (.seq (.ops [.l 19 2, .L 20 2 8, .m 21 10, .i 22 (.call 53 [.t 19, .t 20, .t 21]), .m 18 22, .i 23 (.extract 0 (.t 18)), .i 24 (.extract 1 (.t 18)), .i 25 (.extract 2 (.t 18)), .i 11 (.alloc 25 [.st (.str (ByteArray.mk (#[]))), .full []]), .s 2 11 23, .m 12 24, .m 13 25]) (.seq (.seq (.ops [.m 26 12, .i 27 (.bin .lss (.t 26) (.n 0))]) (.cond (.t 27) (.exit 2) .skip)) (.seq (.seq (.ops [.m 28 13, .i 29 (.bin .eql (.t 28) (.n 0))]) (.cond (.t 29) (.seq (.ops [.m 30 9, .L 31 2 11, .i 32 (.callV (.t 30) [.t 31]), .s 2 11 32]) (.seq (.ops [.L 33 2 11, .i 34 (.call 54 [.t 33]), .i 35 (.bin .gtr (.t 34) (.n 2000))]) (.cond (.t 35) (.ops [.i 13 (.mov (.n 8))]) .skip))) .skip)) (.seq (.seq (.ops [.m 36 13, .i 37 (.bin .neq (.t 36) (.n 0))]) (.cond (.t 37) (.seq (.ops [.m 38 13, .s 1 7 38]) (.exit 2)) .skip)) (.seq (.ops [.l 39 6, .L 40 2 11, .i 41 (.call 55 [.t 40]), .i 42 (.len false (.t 39)), .i 43 (.buildSlice false 25 2 [.c (.agg [.st (.str (ByteArray.mk (#[]))), .full []])]), .i 44 (.append true 25 2 40 (.t 39) (.t 43)), .i 45 (.indexAddr 2 (.t 44) (.t 42)), .mk none none (.store 2 (.t 45) (.t 41)) (.onb 1500), .mk none none (.store 1 (.t 6) (.t 44)) (.onb 1006)]) (.ops [.m 46 12, .i 47 (.bin .add (.t 46) (.n 1)), .m 10 47])))))))))) (.seq (.ops [.l 48 7, .i 49 (.bin .neq (.t 48) (.n 0))]) (.cond (.t 49) (.seq (.ops [.mk (some 50) none (.load false 1 (.t 7)) (.onb 1007), .mk none none (.store 1 (.t 4) (.c (.one (.full [])))) (.onb 1004), .s 1 5 50]) .ret) .skip))))))) (.seq (.ops [.l 51 6, .s 1 4 51, .mk none none (.store 1 (.t 5) (.n 0)) .no]) .ret)))))
theorem I1 : OkF Tryz.prog 29 52 [44, 10451500, 10061006, 10071007, 10041004] FD [.cell 4 false 1, .cell 5 false 1] := .of Tryz.func29 rfl rfl (by kernel_rfl) rfl
def EQ : IR :=
 (.seq (.ops [.i 3 (.box 25 (.t 1)), .i 4 (.mov (.c (.one (.full [])))), .i 5 (.mov (.n 0))]) (.seq (.seq (.ops [.m 7 0, .L 8 2 3, .i 9 (.call 27 [.t 7, .t 8]), .m 6 9]) (.seq (.ops [.m 10 6, .i 11 (.bin .neq (.t 10) (.n 0))]) (.cond (.t 11) (.seq (.ops [.m 12 6, .i 4 (.mov (.c (.one (.full [])))), .m 5 12]) .ret) .skip))) (.seq (.ops [.m 13 0, .L 14 2 3, .i 15 (.call 29 [.t 13, .t 14]), .i 16 (.extract 0 (.t 15)), .i 17 (.extract 1 (.t 15)), .m 4 16, .m 5 17]) .ret)))
theorem Hq : OkF Tryz.prog 34 18 [] EQ [.t 4, .t 5] := .of Tryz.func34 rfl rfl (by kernel_rfl) rfl
def HK : IR :=
 (.seq (.ops [.i 3 (.box 25 (.t 1)), .i 4 (.mov (.c (.one (.full [])))), .i 5 (.mov (.n 0))]) (.seq (.ops [.L 15 2 3, .i 16 (.call 44 [.t 15]), .m 6 16]) (.seq (.ops [.i 7 (.mov (.c (.one (.full []))))]) (.seq (.seq (.ops [.i 8 (.mov (.n 0))]) (.block 0 (.loop (.seq (.seq (.ops [.m 17 8, .m 18 6, .i 19 (.len false (.t 18)), .i 20 (.bin .lss (.t 17) (.t 19))]) (.cond (.t 20) .skip (.exit 0))) (.seq (.block 1 (.seq (.ops [.L 24 2 3, .m 25 6, .m 26 8, .i 27 (.indexAddr 1 (.t 25) (.t 26)), .l 28 27, .i 29 (.call 45 [.t 24, .t 28]), .m 23 29, .i 30 (.extract 0 (.t 23)), .i 31 (.extract 1 (.t 23)), .i 9 (.alloc 25 [.st (.str (ByteArray.mk (#[]))), .full []]), .s 2 9 30, .m 10 31]) (.seq (.ops [.i 11 (.mov (.n 0))]) (.block 2 (.loop (.seq (.seq (.ops [.m 32 11, .m 33 0, .i 34 (.len false (.t 33)), .i 35 (.bin .lss (.t 32) (.t 34))]) (.cond (.t 35) .skip (.exit 2))) (.seq (.block 3 (.seq (.ops [.m 39 0, .m 40 11, .i 41 (.indexAddr 4 (.t 39) (.t 40)), .L 42 4 41, .L 43 2 9, .i 44 (.call 46 [.t 42, .t 43]), .m 38 44, .i 45 (.extract 0 (.t 38)), .i 46 (.extract 1 (.t 38)), .i 47 (.extract 2 (.t 38)), .i 12 (.alloc 25 [.st (.str (ByteArray.mk (#[]))), .full []]), .s 2 12 45, .m 13 46, .m 14 47]) (.seq (.seq (.ops [.m 48 13, .i 49 (.un .not (.t 48))]) (.cond (.t 49) (.exit 3) .skip)) (.seq (.seq (.ops [.m 50 14]) (.cond (.t 50) (.seq (.ops [.i 4 (.mov (.c (.one (.full [])))), .i 5 (.mov (.n 8))]) .ret) .skip)) (.seq (.ops [.L 51 2 3, .m 52 6, .m 53 8, .i 54 (.indexAddr 1 (.t 52) (.t 53)), .l 55 54, .L 56 2 12, .i 57 (.call 47 [.t 51, .t 55, .t 56]), .s 2 12 57]) (.seq (.seq (.ops [.L 58 2 12, .i 59 (.call 9 [.t 58, .n 2000]), .i 60 (.bin .gtr (.t 59) (.n 2000))]) (.cond (.t 60) (.seq (.ops [.i 4 (.mov (.c (.one (.full [])))), .i 5 (.mov (.n 8))]) .ret) .skip)) (.ops [.m 61 7, .L 62 2 12, .i 63 (.buildSlice false 25 2 [.t 62]), .i 64 (.append false 25 2 40 (.t 61) (.t 63)), .m 7 64]))))))) (.ops [.m 36 11, .i 37 (.bin .add (.t 36) (.n 1)), .m 11 37])))))))) (.ops [.m 21 8, .i 22 (.bin .add (.t 21) (.n 1)), .m 8 22])))))) (.seq (.ops [.m 65 7, .m 4 65, .i 5 (.mov (.n 0))]) .ret)))))
theorem Mn : OkF Tryz.prog 25 66 [] HK [.t 4, .t 5] := .of Tryz.func25 rfl rfl (by kernel_rfl) rfl
def BO : IR :=
 (.seq (.ops [.i 3 (.box 25 (.t 1)), .i 4 (.mov (.c (.one (.st (.bool false)))))]) (.seq (.seq (.ops [.m 11 0, .i 12 (.call 5 [.t 11]), .m 13 12, .mk (some 14) (some (13, false)) (.load true 2 (.t 3)) .no, .mk (some 15) (some (13, false)) (.call 6 [.t 14]) .no, .i 16 (.pick (.t 13) (.c (.one (.st (.bool true)))) (.t 15))]) (.cond (.t 16) (.seq (.ops [.i 4 (.mov (.c (.one (.st (.bool true)))))]) .ret) .skip)) (.seq (.ops [.m 17 0, .i 18 (.call 7 [.t 17]), .m 5 18]) (.seq (.ops [.m 19 5, .m 6 19]) (.seq (.seq (.ops [.m 20 5, .i 21 (.bin .eql (.t 20) (.n 0))]) (.cond (.t 21) (.ops [.L 22 2 3, .i 23 (.call 8 [.t 22]), .m 5 23]) .skip)) (.seq (.ops [.i 7 (.mov (.c (.one (.full []))))]) (.seq (.seq (.ops [.m 24 5, .i 25 (.bin .eql (.t 24) (.n 0))]) (.cond (.t 25) (.ops [.m 27 0, .L 28 2 3, .i 29 (.call 25 [.t 27, .t 28]), .m 26 29, .i 30 (.extract 0 (.t 26)), .i 31 (.extract 1 (.t 26)), .m 7 30, .m 5 31]) .skip)) (.seq (.ops [.m 33 0, .L 34 2 3, .i 35 (.call 34 [.t 33, .t 34]), .m 32 35, .i 36 (.extract 0 (.t 32)), .i 37 (.extract 1 (.t 32)), .m 8 36, .m 9 37]) (.seq (.seq (.ops [.m 38 0, .i 39 (.call 35 [.t 38]), .m 40 6, .i 41 (.bin .neq (.t 39) (.t 40)), .m 42 41, .mk (some 43) (some (42, false)) (.mov (.t 9)) .no, .mk (some 44) (some (42, false)) (.mov (.t 5)) .no, .mk (some 45) (some (42, false)) (.bin .neq (.t 43) (.t 44)) .no, .i 46 (.pick (.t 42) (.c (.one (.st (.bool true)))) (.t 45))]) (.cond (.t 46) (.seq (.ops [.i 4 (.mov (.c (.one (.st (.bool false)))))]) .ret) .skip)) (.seq (.seq (.ops [.m 47 5, .i 48 (.bin .neq (.t 47) (.n 0))]) (.cond (.t 48) (.seq (.ops [.m 49 8, .i 50 (.len false (.t 49)), .i 51 (.bin .eql (.t 50) (.n 0)), .m 4 51]) .ret) .skip)) (.seq (.seq (.ops [.m 52 8, .i 53 (.len false (.t 52)), .m 54 7, .i 55 (.len false (.t 54)), .i 56 (.bin .neq (.t 53) (.t 55))]) (.cond (.t 56) (.seq (.ops [.i 4 (.mov (.c (.one (.st (.bool false)))))]) .ret) .skip)) (.seq (.seq (.ops [.i 10 (.mov (.n 0))]) (.block 0 (.loop (.seq (.seq (.ops [.m 57 10, .m 58 8, .i 59 (.len false (.t 58)), .i 60 (.bin .lss (.t 57) (.t 59))]) (.cond (.t 60) .skip (.exit 0))) (.seq (.block 1 (.seq (.ops [.m 63 8, .m 64 10, .i 65 (.indexAddr 2 (.t 63) (.t 64)), .L 66 2 65, .m 67 7, .m 68 10, .i 69 (.indexAddr 2 (.t 67) (.t 68)), .L 70 2 69, .i 71 (.call 36 [.t 66, .t 70]), .i 72 (.un .not (.t 71))]) (.cond (.t 72) (.seq (.ops [.i 4 (.mov (.c (.one (.st (.bool false)))))]) .ret) .skip))) (.ops [.m 61 10, .i 62 (.bin .add (.t 61) (.n 1)), .m 10 62])))))) (.seq (.ops [.i 4 (.mov (.c (.one (.st (.bool true)))))]) .ret)))))))))))))
theorem Bb : OkF Tryz.prog 16 73 [] BO [.t 4] := .of Tryz.func16 rfl rfl (by kernel_rfl) rfl

def FF : IR :=
 (.seq (.ops [.i 2 (.box 25 (.t 0)), .i 3 (.box 86 (.t 1)), .i 4 (.mov (.c (.one (.st (.lit .nilFunc)))))]) (.seq (.ops [.i 5 (.makeFunc 78 [.t 2, .t 3]), .m 4 5]) .ret))
theorem I3 : OkF Tryz.prog 51 6 [] FF [.t 4] := .of Tryz.func51 rfl rfl (by kernel_rfl) rfl
def D6 : IR :=
 (.ops [.L 4 2 1, .l 5 2, .m 6 0, .i 7 (.callX 79 [.t 4, .t 5, .t 6])])
theorem Hd : OkF Tryz.prog 78 8 [80000007] D6 [] := .of Tryz.func78 rfl rfl (by kernel_rfl) rfl
def EN : IR :=
 (.seq (.ops [.i 3 (.box 25 (.t 0)), .i 4 (.box 86 (.t 1)), .i 6 (.mov (.c (.one (.st (.bool false)))))]) (.seq (.seq (.ops [.m 9 2, .L 10 2 3, .l 11 4, .i 12 (.callY (.t 9) [.t 10, .t 11]), .i 13 (.un .not (.t 12))]) (.cond (.t 13) (.seq (.ops [.i 6 (.mov (.c (.one (.st (.bool false)))))]) .ret) .skip)) (.seq (.seq (.ops [.f 14 1 3, .l 15 14, .i 16 (.len false (.t 15)), .i 17 (.mov (.n 0))]) (.block 0 (.loop (.seq (.ops [.i 18 (.bin .lss (.t 17) (.t 16))]) (.seq (.cond (.t 18) .skip (.exit 0)) (.seq (.block 1 (.seq (.ops [.m 19 17, .i 7 (.alloc 3 [.st (.int .i64 0)]), .s 1 7 19]) (.seq (.ops [.i 20 (.makeFunc 106 [.t 3, .t 7, .t 4]), .m 8 20]) (.seq (.ops [.f 21 1 3, .l 22 21, .l 23 7, .i 24 (.indexAddr 2 (.t 22) (.t 23)), .L 25 2 24, .m 26 8, .m 27 2, .i 28 (.callX 79 [.t 25, .t 26, .t 27]), .i 29 (.un .not (.t 28))]) (.cond (.t 29) (.seq (.ops [.i 6 (.mov (.c (.one (.st (.bool false)))))]) .ret) .skip))))) (.ops [.i 30 (.bin .add (.t 17) (.n 1)), .m 17 30]))))))) (.seq (.ops [.i 6 (.mov (.c (.one (.st (.bool true)))))]) .ret))))
theorem Hx : OkF Tryz.prog 79 31 [70000012, 80000028] EN [.t 6] := .of Tryz.func79 rfl rfl (by kernel_rfl) rfl
def Dj : IR :=
 (.seq (.ops [.i 4 (.box 25 (.t 0)), .i 5 (.alloc 25 [.st (.str (ByteArray.mk (#[]))), .full []])]) (.seq (.ops [.f 7 0 1, .l 8 7, .f 9 1 1, .l 10 9, .i 11 (.callN 98 [.t 10]), .i 12 (.build [.st (.str (ByteArray.mk (#[]))), .full []] [(0, 1, .t 8), (1, 1, .t 11)]), .i 6 (.alloc 25 [.st (.str (ByteArray.mk (#[]))), .full []]), .s 2 6 12]) (.seq (.ops [.f 13 1 6, .l 14 13, .l 15 2, .L 16 2 4, .i 17 (.indexAddr 2 (.t 14) (.t 15)), .s 2 17 16]) (.seq (.ops [.l 18 3, .L 19 2 6, .i 20 (.callV (.t 18) [.t 19]), .s 2 5 20]) .ret))))
theorem Gk : OkF Tryz.prog 106 21 [20000011] Dj [.cell 5 true 2] := .of Tryz.func106 rfl rfl (by kernel_rfl) rfl
def D3 : IR :=
 (.seq (.ops [.i 1 (.box 25 (.t 0)), .i 2 (.alloc 25 [.st (.str (ByteArray.mk (#[]))), .full []])]) (.seq (.ops [.L 3 2 1, .s 2 2 3]) .ret))
theorem G9 : OkF Tryz.prog 52 4 [] D3 [.cell 2 true 2] := .of Tryz.func52 rfl rfl (by kernel_rfl) rfl

theorem K7 {ts : List ByteArray} : ∀ x ∈ ts.map B7, x.length = 1 := by
 intro x hx
 obtain ⟨a, _, rfl⟩ := List.mem_map.1 hx
 rfl
theorem Of (t : Tm) (hz : t.size ≤ 1000000) : AN Tryz.prog 20 [aTm t] (B3 t.varsOf) := by
 have hl := Tm.knots_length t
 refine N3.ac fun C hC => ?_
 unfold Ih
 repeat' (first | (with_reducible first | refine W ?_ | refine Z0 ?_ | ((first | refine Wo fun K hK => ?_ | refine Wq ?_ | refine Wr ?_); (try simp only [go_sem, fN, seval, eT, iR]); (repeat refine Ai ?_); (try (refine hK _ ?_; clear hK K)))) | refine Cg _ (MT t hz) ?_)
 refine IWP.ghost (Aa.own 4 37 9 1 (xs := ([] : List ByteArray).map B7) rfl rfl K7 (by omega)) ?_
 refine IWP.loopD [] (fun m s => ∃ k, k ≤ t.knots.length ∧ m = t.knots.length - k ∧ s.env 3 = FH t.knots ∧ s.env 4 = .one (.row 37 (Av [] (t.knots.take k)).length) ∧ s.S 37 = some (.arow 9 1 ((Av [] (t.knots.take k)).map B7)) ∧ s.env 5 = AO k)
  t.knots.length ⟨0, Nat.zero_le _, rfl, rfl, rfl, rfl, rfl⟩ ?_
 rintro m ⟨env, S⟩ ⟨k, hk, rfl, e3, e4, s37, e5⟩
 simp only at e3 e4 s37 e5
 have hlen := Cv (t.knots.take k) []
 rw [List.length_take, List.length_nil] at hlen
 by_cases hlt : (k : Int) < t.knots.length
 ·obtain ⟨a, ha⟩ := Af (show k < t.knots.length by omega)
  repeat' with_reducible first | refine W ?_ | refine Z0 ?_ | ((first | refine Wo fun K hK => ?_ | refine Wq ?_ | refine Wr ?_); (try simp only [go_sem, fN, seval, eT, iR, e3, e4, s37, e5, hlt]); (repeat refine Ai ?_); (try (refine hK _ ?_; clear hK K)))
  with_reducible refine Wp ?_
  simp only [go_sem, fN, seval, true_implies, false_implies, implies_true, dT, dF, nL, hlt]
  (try with_reducible refine iC ?_)
  repeat' with_reducible first | refine W ?_ | refine Z0 ?_ | ((first | refine Wo fun K hK => ?_ | refine Wq ?_ | refine Wr ?_); (try simp only [go_sem, fN, seval, eT, iR, e3, e4, s37, e5, ha]); (repeat refine Ai ?_); (try (refine hK _ ?_; clear hK K)))
  refine ⟨_, E4 _, ?_⟩
  have hstep : Av [] (t.knots.take (k + 1)) = Bu (Av [] (t.knots.take k)) a.name := by rw [Ak ha, MJ]
  cases hv : A0 a.name with
  | false =>
   rw [L1 hv] at hstep
   repeat' with_reducible first | refine W ?_ | refine Z0 ?_ | ((first | refine Wo fun K hK => ?_ | refine Wq ?_ | refine Wr ?_); (try simp only [go_sem, fN, seval, eT, iR, e3, e4, s37, e5, ha]); (repeat refine Ai ?_); (try (refine hK _ ?_; clear hK K)))
   with_reducible refine Wp ?_
   simp only [go_sem, fN, seval, true_implies, false_implies, implies_true, dT, dF, nL]
   (try with_reducible refine iC ?_)
   repeat' with_reducible first | refine W ?_ | refine Z0 ?_ | ((first | refine Wo fun K hK => ?_ | refine Wq ?_ | refine Wr ?_); (try simp only [go_sem, fN, seval, eT, iR, e3, e4, s37, e5]); (repeat refine Ai ?_); (try (refine hK _ ?_; clear hK K)))
   refine AF ⟨t.knots.length - (k + 1), by omega, k + 1, by omega, rfl, ?_⟩
   simp only [go_sem, fN, seval, AS.drop, Ac, AC.clears, AC.clear, AC.highs, AC.high, Bool.not_false, Bool.true_and, Bool.and_self, AV.purge, AV.purges, AC.purge, AL.purge, List.contains_cons, List.contains_nil, Nat.reduceBEq, Bool.or_self, Bool.or_false, Bool.false_or, Bool.or_true, eT, iR, e3, e4, s37, e5, hstep]
   congr 3
  | true =>
   repeat' with_reducible first | refine W ?_ | refine Z0 ?_ | ((first | refine Wo fun K hK => ?_ | refine Wq ?_ | refine Wr ?_); (try simp only [go_sem, fN, seval, eT, iR, e3, e4, s37, e5, ha]); (repeat refine Ai ?_); (try (refine hK _ ?_; clear hK K)))
   refine ⟨_, Ue _ _, ?_⟩
   cases hi : CQ a.name (Av [] (t.knots.take k)) with
   | true =>
    rw [L9 hi] at hstep
    repeat' with_reducible first | refine W ?_ | refine Z0 ?_ | ((first | refine Wo fun K hK => ?_ | refine Wq ?_ | refine Wr ?_); (try simp only [go_sem, fN, seval, eT, iR, e3, e4, s37, e5]); (repeat refine Ai ?_); (try (refine hK _ ?_; clear hK K)))
    with_reducible refine Wp ?_
    simp only [go_sem, fN, seval, true_implies, false_implies, implies_true, dT, dF, nL]
    (try with_reducible refine iC ?_)
    repeat' with_reducible first | refine W ?_ | refine Z0 ?_ | ((first | refine Wo fun K hK => ?_ | refine Wq ?_ | refine Wr ?_); (try simp only [go_sem, fN, seval, eT, iR, e3, e4, s37, e5]); (repeat refine Ai ?_); (try (refine hK _ ?_; clear hK K)))
    refine AF ⟨t.knots.length - (k + 1), by omega, k + 1, by omega, rfl, ?_⟩
    simp only [go_sem, fN, seval, AS.drop, Ac, AC.clears, AC.clear, AC.highs, AC.high, Bool.not_false, Bool.true_and, Bool.and_self, AV.purge, AV.purges, AC.purge, AL.purge, List.contains_cons, List.contains_nil, Nat.reduceBEq, Bool.or_self, Bool.or_false, Bool.false_or, Bool.or_true, eT, iR, e3, e4, s37, e5, hstep]
    congr 3
   | false =>
    rw [KB hv hi] at hstep
    repeat' with_reducible first | refine W ?_ | refine Z0 ?_ | ((first | refine Wo fun K hK => ?_ | refine Wq ?_ | refine Wr ?_); (try simp only [go_sem, fN, seval, eT, iR, e3, e4, s37, e5]); (repeat refine Ai ?_); (try (refine hK _ ?_; clear hK K)))
    with_reducible refine Wp ?_
    simp only [go_sem, fN, seval, true_implies, false_implies, implies_true, dT, dF, nL]
    (try with_reducible refine iC ?_)
    repeat' with_reducible first | refine W ?_ | refine Z0 ?_ | ((first | refine Wo fun K hK => ?_ | refine Wq ?_ | refine Wr ?_); (try simp only [go_sem, fN, seval, eT, iR, e3, e4, s37, e5, ha]); (repeat refine Ai ?_); (try (refine hK _ ?_; clear hK K)))
    refine AF ⟨t.knots.length - (k + 1), by omega, k + 1, by omega, rfl, ?_⟩
    simp only [go_sem, fN, seval, AS.drop, Ac, AC.clears, AC.clear, AC.highs, AC.high, Bool.not_false, Bool.true_and, Bool.and_self, AV.purge, AV.purges, AC.purge, AL.purge, List.contains_cons, List.contains_nil, Nat.reduceBEq, Bool.or_self, Bool.or_false, Bool.false_or, Bool.or_true, eT, iR, e3, e4, s37, e5, hstep]
    exact ⟨by rw [List.map_append]; rfl, by congr 3⟩
 ·repeat' with_reducible first | refine W ?_ | refine Z0 ?_ | ((first | refine Wo fun K hK => ?_ | refine Wq ?_ | refine Wr ?_); (try simp only [go_sem, fN, seval, eT, iR, e3, e4, s37, e5, hlt]); (repeat refine Ai ?_); (try (refine hK _ ?_; clear hK K)))
  with_reducible refine Wp ?_
  simp only [go_sem, fN, seval, true_implies, false_implies, implies_true, dT, dF, nL, hlt]
  (try with_reducible refine iC ?_)
  repeat' with_reducible first | refine W ?_ | refine Z0 ?_ | ((first | refine Wo fun K hK => ?_ | refine Wq ?_ | refine Wr ?_); (try simp only [go_sem, fN, seval, eT, iR, e4, s37]); (repeat refine Ai ?_); (try (refine hK _ ?_; clear hK K)))
  simp only [go_sem, fN, seval, AK, AS.result, AB, AD, AI, e4, s37]
  rw [List.take_of_length_le (by omega)]
  rfl
theorem Gz {α : Type} (f : Nat → α) (i : Nat) (a b : α) : AG (AG f i a) i b = AG f i b := by
 funext k
 unfold AG
 split <;> rfl
theorem L5 {α : Type} (f : Nat → α) {i j : Nat} (h : ¬ i = j) (a b : α) : AG (AG f i a) j b = AG (AG f j b) i a := by
 funext k
 unfold AG
 split
 ·rename_i e
  subst e
  rw [if_neg (fun e => h e.symm)]
 ·rfl
theorem Lf (t : Tm) (hz : t.size ≤ 1000000)
  (ih : ∀ a ∈ t.args, ∀ (i : Nat) (l : List ByteArray) (S : AA), 1000 ≤ i → l.length + a.size ≤ 3000000 → S i = some (.arow 9 1 (l.map B7)) →
   As Tryz.prog 93 [aTm a, .one (.row i l.length)] S (.one (.row i (Av l a.knots).length)) (AG S i (some (.arow 9 1 ((Av l a.knots).map B7)))))
  (C : Ctx) (hC : C.n = 34) (i : Nat) (hi : 20 < i) (l : List ByteArray) (hlz : l.length + t.size ≤ 3000000) (S : AA) (hS : Ar S) (env : Nat → AV) (e0 : env 0 = aTm t) (e1 : env 1 = .one (.row i l.length))
  (Q : AX → AS → Prop) (hQ : ∀ env', env' 4 = .one (.row i (Av l t.knots).length) → Q .ret ⟨env', AG (AG S 2 (some (.box 25 [.st (.str t.name), .st (.list (t.args.map Al))]))) i (some (.arow 9 1 ((Av l t.knots).map B7)))⟩) :
  IWP Tryz.prog C [31] Ew Q ⟨env, AG S i (some (.arow 9 1 (l.map B7)))⟩ := by
 have hs := Tm.size_eq t
 have hk := Tm.knots_eq t
 have hc2 := Aj hS (i := 2) (by omega)
 have hc6 := Aj hS (i := 6) (by omega)
 have hi2 : ¬ 2 = i := by omega
 have hi6 : ¬ 6 = i := by omega
 have hi2' : ¬ i = 2 := by omega
 have hi6' : ¬ i = 6 := by omega
 unfold Ew
 have hlk : ∀ k, (Av (Bu l t.name) (Tm.knotsL (t.args.take k))).length ≤ l.length + 1 + Tm.sizes (t.args.take k) := fun k => by
  have h1 := Cv (Tm.knotsL (t.args.take k)) (Bu l t.name)
  have h2 := GN l t.name
  have h3 := Tm.knotsL_length (t.args.take k)
  omega
 repeat' with_reducible first | refine W ?_ | refine Z0 ?_ | ((first | refine Wo fun K hK => ?_ | refine Wq ?_ | refine Wr ?_); (try simp only [go_sem, fN, seval, eT, iR, e0, e1, hc2, hi2, hi6, hi2', hi6']); (repeat refine Ai ?_); (try (refine hK _ ?_; clear hK K)))
 refine ⟨_, D0 _, ?_⟩
 rcases (show A0 t.name = false ∨ (A0 t.name = true ∧ CQ t.name l = true) ∨ (A0 t.name = true ∧ CQ t.name l = false) by cases A0 t.name <;> cases CQ t.name l <;> simp) with hv | ⟨hv, hin⟩ | ⟨hv, hin⟩
 case' inl =>
  have hl1 := L1 (l := l) hv
  repeat' with_reducible first | refine W ?_ | refine Z0 ?_ | ((first | refine Wo fun K hK => ?_ | refine Wq ?_ | refine Wr ?_); (try simp only [go_sem, fN, seval, eT, iR, e0, e1, hv, hi2, hi2']); (repeat refine Ai ?_); (try (refine hK _ ?_; clear hK K)))
  with_reducible refine Wp ?_
  simp only [go_sem, fN, seval, true_implies, false_implies, implies_true, dT, dF, nL, hv]
  (try with_reducible refine iC ?_)
  repeat' with_reducible first | refine W ?_ | refine Z0 ?_ | ((first | refine Wo fun K hK => ?_ | refine Wq ?_ | refine Wr ?_); (try simp only [go_sem, fN, seval, eT, iR, e0, e1, hi2, hi2']); (repeat refine Ai ?_); (try (refine hK _ ?_; clear hK K)))
 case' inr.inl =>
  have hl1 := L9 (l := l) hin
  repeat' (first | (with_reducible first | refine W ?_ | refine Z0 ?_ | ((first | refine Wo fun K hK => ?_ | refine Wq ?_ | refine Wr ?_); (try simp only [go_sem, fN, seval, eT, iR, e0, e1, hv, hi2, hi2', hin]); (repeat refine Ai ?_); (try (refine hK _ ?_; clear hK K)))) | refine Cg _ (Gh _ _) ?_)
  with_reducible refine Wp ?_
  simp only [go_sem, fN, seval, true_implies, false_implies, implies_true, dT, dF, nL, hv]
  (try with_reducible refine iC ?_)
  repeat' with_reducible first | refine W ?_ | refine Z0 ?_ | ((first | refine Wo fun K hK => ?_ | refine Wq ?_ | refine Wr ?_); (try simp only [go_sem, fN, seval, eT, iR, e0, e1, hi2, hi2']); (repeat refine Ai ?_); (try (refine hK _ ?_; clear hK K)))
 case' inr.inr =>
  have hl1 := KB (l := l) hv hin
  repeat' (first | (with_reducible first | refine W ?_ | refine Z0 ?_ | ((first | refine Wo fun K hK => ?_ | refine Wq ?_ | refine Wr ?_); (try simp only [go_sem, fN, seval, eT, iR, e0, e1, hv, hi2, hi2', hin]); (repeat refine Ai ?_); (try (refine hK _ ?_; clear hK K)))) | refine Cg _ (Gh _ _) ?_)
  with_reducible refine Wp ?_
  simp only [go_sem, fN, seval, true_implies, false_implies, implies_true, dT, dF, nL, hv]
  (try with_reducible refine iC ?_)
  repeat' with_reducible first | refine W ?_ | refine Z0 ?_ | ((first | refine Wo fun K hK => ?_ | refine Wq ?_ | refine Wr ?_); (try simp only [go_sem, fN, seval, eT, iR, e0, e1, hi2, hi2']); (repeat refine Ai ?_); (try (refine hK _ ?_; clear hK K)))
 all_goals
  refine IWP.loopD [6] (fun m s => ∃ k, k ≤ t.args.length ∧ m = t.args.length - k ∧ s.env 1 = .one (.row i (Av (Bu l t.name) (Tm.knotsL (t.args.take k))).length) ∧ s.env 23 = .one (.st (.list (t.args.map Al))) ∧ s.env 24 = AO t.args.length ∧ s.env 25 = AO k ∧ s.S = AG (AG S 2 (some (.box 25 [.st (.str t.name), .st (.list (t.args.map Al))]))) i (some (.arow 9 1 ((Av (Bu l t.name) (Tm.knotsL (t.args.take k))).map B7)))) t.args.length ⟨0, Nat.zero_le _, rfl, ?_, rfl, rfl, rfl, ?_⟩ ?_
  ·show _ = AV.one (.row i (Bu l t.name).length)
   rw [hl1]
   simp only [go_sem, fN, seval, eT, iR, e1]
  ·show _ = AG (AG S 2 _) i (some (.arow 9 1 ((Bu l t.name).map B7)))
   rw [hl1]
   first
    | (simp only [Gz]; exact L5 _ hi2' _ _)
    | (simp only [L5 _ hi2', Gz, List.map_append]; rfl)
  rintro m ⟨env', S'⟩ ⟨k, hk', rfl, e1', e23, e24, e25, hS'⟩
  simp only at e1' e23 e24 e25 hS'
  have s6 : S' 6 = none := by rw [hS', AH _ hi6, AH _ (by omega), hc6]
  have si : S' i = some (.arow 9 1 ((Av (Bu l t.name) (Tm.knotsL (t.args.take k))).map B7)) := by rw [hS', AE]
  have hlk' := hlk k
  have z3 := Tm.length_le t.args
  by_cases hlt : (k : Int) < t.args.length
  ·obtain ⟨a, ha⟩ := Af (show k < t.args.length by omega)
   have z1 := Tm.sizes_take ha
   have z2 := Tm.sizes_take_le t.args (k + 1)
   repeat' with_reducible first | refine W ?_ | refine Z0 ?_ | ((first | refine Wo fun K hK => ?_ | refine Wq ?_ | refine Wr ?_); (try simp only [go_sem, fN, seval, eT, iR, e1', e23, e24, e25, s6, si, hlt]); (repeat refine Ai ?_); (try (refine hK _ ?_; clear hK K)))
   with_reducible refine Wp ?_
   simp only [go_sem, fN, seval, true_implies, false_implies, implies_true, dT, dF, nL, e1', e23, e24, e25, s6, si, hlt]
   (try with_reducible refine iC ?_)
   repeat' with_reducible first | refine W ?_ | refine Z0 ?_ | ((first | refine Wo fun K hK => ?_ | refine Wq ?_ | refine Wr ?_); (try simp only [go_sem, fN, seval, eT, iR, e1', e23, e24, e25, s6, si, ha]); (repeat refine Ai ?_); (try (refine hK _ ?_; clear hK K)))
   have hni : ([6] : List Nat).contains i = false := by simp; omega
   refine ⟨_, _, ih a (AP ha) (up1 i) _ _ (BL i) (by omega) (by rw [Bv, AH _ hi6', AH _ hi6', si]; rfl), ?_⟩
   repeat' with_reducible first | refine W ?_ | refine Z0 ?_ | ((first | refine Wo fun K hK => ?_ | refine Wq ?_ | refine Wr ?_); (try simp only [go_sem, fN, seval, eT, iR, e23, e24, e25]); (repeat refine Ai ?_); (try (refine hK _ ?_; clear hK K)))
   refine AF ⟨t.args.length - (k + 1), by omega, k + 1, by omega, rfl, ?_⟩
   have hib : (i == 6) = false := by simp; omega
   simp only [go_sem, fN, seval, AS.drop, AC.clears, AC.clear, AC.highs, AC.high, Bool.not_false, Bool.true_and, Bool.and_self, AV.purge, AV.purges, AC.purge, AL.purge, List.contains_cons, List.contains_nil, Nat.reduceBEq, Bool.or_self, Bool.or_false, Bool.false_or, Bool.or_true, eT, iR, e23, e24, hib]
   rw [Tm.knotsL_take ha, Ji]
   refine ⟨rfl, by congr 3, ?_⟩
   rw [IL hni, Oe rfl, Oe rfl, hS', IL hni, IL rfl, NI (by decide) hS, Gz]
   rfl
  ·repeat' with_reducible first | refine W ?_ | refine Z0 ?_ | ((first | refine Wo fun K hK => ?_ | refine Wq ?_ | refine Wr ?_); (try simp only [go_sem, fN, seval, eT, iR, e1', e23, e24, e25, hlt]); (repeat refine Ai ?_); (try (refine hK _ ?_; clear hK K)))
   with_reducible refine Wp ?_
   simp only [go_sem, fN, seval, true_implies, false_implies, implies_true, dT, dF, nL, e1', e23, e24, e25, hlt]
   (try with_reducible refine iC ?_)
   repeat' with_reducible first | refine W ?_ | refine Z0 ?_ | ((first | refine Wo fun K hK => ?_ | refine Wq ?_ | refine Wr ?_); (try simp only [go_sem, fN, seval, eT, iR, e1']); (repeat refine Ai ?_); (try (refine hK _ ?_; clear hK K)))
   rw [hS']
   have hfin : Av (Bu l t.name) (Tm.knotsL (t.args.take k)) = Av l t.knots := by rw [List.take_of_length_le (by omega), hk]; rfl
   rw [hfin]
   refine hQ _ ?_
   simp only [go_sem, fN, seval, eT, iR]
theorem LU {α : Type} {f : Nat → α} {i : Nat} {a : α} (h : f i = a) : AG f i a = f := by
 funext k
 unfold AG
 split
 ·rename_i e
  rw [e, h]
 ·rfl
theorem Sc (t : Tm) (hz : t.size ≤ 1000000) : ∀ (i : Nat) (l : List ByteArray) (S : AA), 1000 ≤ i → l.length + t.size ≤ 3000000 → S i = some (.arow 9 1 (l.map B7)) →
   As Tryz.prog 93 [aTm t, .one (.row i l.length)] S (.one (.row i (Av l t.knots).length)) (AG S i (some (.arow 9 1 ((Av l t.knots).map B7)))) := by
 induction h : SizeOf.sizeOf t using Nat.strongRecOn generalizing t with
 | _ N ih =>
 subst h
 have hs := Tm.size_eq t
 intro i l S hi hl hSi
 refine Hh.acS fun hS C hC => ?_
 have hcore := Lf t hz (fun a ha => ih _ (Tm.lt_of_arg ha) a (by have := Tm.size_mem ha; omega) rfl) C hC i (by omega) l hl S hS (fun j => ([aTm t, .one (.row i l.length)][j]?).getD (.tup [])) rfl rfl
  (Gc C [.t 4] (.one (.row i (Av l t.knots).length)) (AG S i (some (.arow 9 1 ((Av l t.knots).map B7))))) ?_
 ·rw [LU hSi] at hcore
  exact hcore
 ·intro env' e4
  have hc' : Ar (AG S i (some (.arow 9 1 ((Av l t.knots).map B7)))) := A9 hS hi rfl
  refine QP trivial ⟨_, Aa.low (Sh (IC (by omega) fun k c _ hk => (hS k c hk).2) rfl), ?_, ?_, hc'⟩
  ·simp only [AB, AD, AI, e4, AV.low, AV.high, AC.high, hi, decide_true, if_true, Option.map_some]
  ·show Bl _ = _
   rw [Re _ hi, KN _ (by omega), Gi hS]
theorem SR (t : Tm) (hz : t.size ≤ 1000000) (a0 : Nat) (S : AA) (ha : 1000 ≤ a0) (hSa : S a0 = none) :
   As Tryz.prog 93 [aTm t, .one (.full [])] S (.one (.row a0 (Av [] t.knots).length)) (AG S a0 (some (.arow 9 1 ((Av [] t.knots).map B7)))) := by
 have hs := Tm.size_eq t
 refine Hh.acS fun hS C hC => ?_
 refine IWP.ghost (Aa.own 1 21 9 1 (xs := ([] : List ByteArray).map B7) rfl (Aj hS (by omega)) K7 (by omega)) ?_
 refine Lf t hz (fun a ha => Sc a (by have := Tm.size_mem ha; omega)) C hC 21 (by omega) [] (by simp; omega) S hS _ rfl rfl _ ?_
 intro env' e4
 have hb : ∀ i b, 1000 ≤ i → AG (AG S 2 (some (.box 25 [.st (.str t.name), .st (.list (t.args.map Al))]))) 21 (some (.arow 9 1 ((Av [] t.knots).map B7))) i = some b → b.high = true := IC (by omega) (IC (by omega) fun k c _ hk => (hS k c hk).2)
 refine QP trivial ⟨_, Aa.hand 21 a0 (b0 := .arow 9 1 ((Av [] t.knots).map B7)) (by omega) ha (by show AG _ _ _ _ = _; rw [AH _ (by omega), AH _ (by omega), hSa]) (by simp only [AE]) rfl hb, ?_, ?_, A9 hS ha rfl⟩
 ·simp only [AB, AD, AI, e4, AV.hand, AV.ren, AC.ren, BS, if_true, AV.high, AC.high, ha, decide_true, Option.map_some]
 ·show AG (Bl _) _ _ = _
  rw [KN _ (by omega), KN _ (by omega), Gi hS]
theorem TV (t : Tm) (hz : t.size ≤ 1000000) : AN Tryz.prog 63 [aTm t] (B3 t.varsOf) := by
 refine Mo.ac fun C hC => ?_
 unfold Hf
 repeat' with_reducible first | refine W ?_ | refine Z0 ?_ | ((first | refine Wo fun K hK => ?_ | refine Wq ?_ | refine Wr ?_); (try simp only [go_sem, fN, seval, eT, iR]); (repeat refine Ai ?_); (try (refine hK _ ?_; clear hK K)))
 refine ⟨_, _, SR t hz (up1 10) _ (BL 10) (by rw [Bv]; rfl), ?_⟩
 repeat' with_reducible first | refine W ?_ | refine Z0 ?_ | ((first | refine Wo fun K hK => ?_ | refine Wq ?_ | refine Wr ?_); (try simp only [go_sem, fN, seval, eT, iR]); (repeat refine Ai ?_); (try (refine hK _ ?_; clear hK K)))
 simp only [go_sem, fN, seval, AK, AS.result, AB, AD, AI]
 rfl
theorem IJ (t : Tm) (hz : t.size ≤ 1000000) : AN Tryz.prog 55 [aTm t] (aTm t) := by
 induction h : SizeOf.sizeOf t using Nat.strongRecOn generalizing t with
 | _ N ih =>
 subst h
 have hs := Tm.size_eq t
 have hkn := Tm.length_le t.args
 refine MH.ac fun C hC => ?_
 unfold HZ
 repeat' with_reducible first | refine W ?_ | refine Z0 ?_ | ((first | refine Wo fun K hK => ?_ | refine Wq ?_ | refine Wr ?_); (try simp only [go_sem, fN, seval, eT, iR]); (repeat refine Ai ?_); (try (refine hK _ ?_; clear hK K)))
 refine IWP.ghost (Aa.ownC 3 1 21 25 2 (xs := ([] : List Tm).map Al) rfl rfl rfl C3) ?_
 refine IWP.loopD [5] (fun m s => ∃ k, k ≤ t.args.length ∧ m = t.args.length - k ∧ s.env 2 = .one (.ptr 2 1 0 0) ∧ s.env 3 = .one (.ptr 3 1 0 0) ∧ s.S 2 = some (.box 25 [.st (.str ⟨#[]⟩), .full []]) ∧ s.S 3 = some (.box 25 [.st (.str t.name), .row 21 k]) ∧ s.S 21 = some (.arow 25 2 ((t.args.take k).map Al)) ∧ s.env 10 = .one (.st (.list (t.args.map Al))) ∧ s.env 11 = AO t.args.length ∧ s.env 12 = AO k ∧ s.S 5 = none)
  t.args.length ⟨0, Nat.zero_le _, rfl, rfl, rfl, rfl, rfl, rfl, rfl, rfl, rfl, rfl⟩ ?_
 rintro m ⟨env, S⟩ ⟨k, hk, rfl, e2, e3, s2, s3, s21, e10, e11, e12, s5⟩
 simp only at e2 e3 s2 s3 s21 e10 e11 e12 s5
 have hlk : (t.args.take k).length = k := by rw [List.length_take]; omega
 by_cases hlt : (k : Int) < t.args.length
 ·obtain ⟨a, ha⟩ := Af (show k < t.args.length by omega)
  repeat' with_reducible first | refine W ?_ | refine Z0 ?_ | ((first | refine Wo fun K hK => ?_ | refine Wq ?_ | refine Wr ?_); (try simp only [go_sem, fN, seval, eT, iR, e2, e3, s2, s3, s21, e10, e11, e12, s5, hlt]); (repeat refine Ai ?_); (try (refine hK _ ?_; clear hK K)))
  with_reducible refine Wp ?_
  simp only [go_sem, fN, seval, true_implies, false_implies, implies_true, dT, dF, nL, e10, e11, e12, hlt]
  (try with_reducible refine iC ?_)
  repeat' (first | (with_reducible first | refine W ?_ | refine Z0 ?_ | ((first | refine Wo fun K hK => ?_ | refine Wq ?_ | refine Wr ?_); (try simp only [go_sem, fN, seval, eT, iR, e2, e3, s2, s3, s21, e10, e11, e12, s5, ha, hlk]); (repeat refine Ai ?_); (try (refine hK _ ?_; clear hK K)))) | refine Cg _ (ih _ (Tm.lt_of_arg (AP ha)) a (by have := Tm.size_mem (AP ha); omega) rfl) ?_)
  refine AF ⟨t.args.length - (k + 1), by omega, k + 1, by omega, rfl, ?_⟩
  simp only [go_sem, fN, seval, AS.drop, Ac, AC.clears, AC.clear, AC.highs, AC.high, Bool.not_false, Bool.true_and, Bool.and_self, AV.purge, AV.purges, AC.purge, AL.purge, List.contains_cons, List.contains_nil, Nat.reduceBEq, Bool.or_self, Bool.or_false, Bool.false_or, Bool.or_true, eT, iR, e2, e3, s2, s3, s21, e10, e11, e12, s5]
  exact ⟨by rw [Ak ha]; simp [BI], by congr 3⟩
 ·repeat' with_reducible first | refine W ?_ | refine Z0 ?_ | ((first | refine Wo fun K hK => ?_ | refine Wq ?_ | refine Wr ?_); (try simp only [go_sem, fN, seval, eT, iR, e2, e3, s2, s3, s21, e10, e11, e12, s5, hlt]); (repeat refine Ai ?_); (try (refine hK _ ?_; clear hK K)))
  with_reducible refine Wp ?_
  simp only [go_sem, fN, seval, true_implies, false_implies, implies_true, dT, dF, nL, e10, e11, e12, hlt]
  (try with_reducible refine iC ?_)
  repeat' with_reducible first | refine W ?_ | refine Z0 ?_ | ((first | refine Wo fun K hK => ?_ | refine Wq ?_ | refine Wr ?_); (try simp only [go_sem, fN, seval, eT, iR, e2, e3, s2, s3, s21, e10, e11, e12, s5]); (repeat refine Ai ?_); (try (refine hK _ ?_; clear hK K)))
  have hall : t.args.take k = t.args := List.take_of_length_le (by omega)
  rw [hall] at hlk s21
  simp only [go_sem, fN, seval, AK, AS.result, AB, AD, AI, e2, s2, s21, hlk]

mutual
def Tm.mt : Tm → Tm → List Bd → List Bd × Bool
 | .mk n xs, t, l => if A0 n = true then (match lookup l n with
   | some x => (l, x.beq t)
   | none => (l ++ [(n, t)], true))
  else if n = t.name ∧ xs.length = t.args.length then Tm.mtL xs t.args l else (l, false)
def Tm.mtL : List Tm → List Tm → List Bd → List Bd × Bool
 | x :: xs, y :: ys, l => if (x.mt y l).2 = true then Tm.mtL xs ys (x.mt y l).1 else ((x.mt y l).1, false)
 | _, _, l => (l, true)
end
section
variable {p t : Tm} {l : List Bd}
theorem Tm.mt_old (hv : A0 p.name = true) {x : Tm} (h : lookup l p.name = some x) : p.mt t l = (l, x.beq t) := by
 cases p with
 | mk n xs =>
  simp only [Tm.name_mk] at hv h
  rw [Tm.mt, if_pos hv, h]
theorem Tm.mt_new (hv : A0 p.name = true) (h : lookup l p.name = none) : p.mt t l = (l ++ [(p.name, t)], true) := by
 cases p with
 | mk n xs =>
  simp only [Tm.name_mk] at hv h
  rw [Tm.mt, if_pos hv, h]
  rfl
theorem Tm.mt_clash (hv : A0 p.name = false) (h : ¬ (p.name = t.name ∧ p.args.length = t.args.length)) : p.mt t l = (l, false) := by
 cases p with
 | mk n xs =>
  simp only [Tm.name_mk, Tm.args_mk] at hv h
  rw [Tm.mt, if_neg (by simp [hv]), if_neg h]
theorem Tm.mt_knot (hv : A0 p.name = false) (h1 : p.name = t.name) (h2 : p.args.length = t.args.length) : p.mt t l = Tm.mtL p.args t.args l := by
 cases p with
 | mk n xs =>
  simp only [Tm.name_mk, Tm.args_mk] at hv h1 h2
  rw [Tm.mt, if_neg (by simp [hv]), if_pos ⟨h1, h2⟩]
  rfl
end
theorem Tm.mtL_nil (ys : List Tm) (l : List Bd) : Tm.mtL [] ys l = (l, true) := by cases ys <;> simp [Tm.mtL]
theorem Tm.mtL_append : ∀ (xs ys xs' ys' : List Tm) (l : List Bd), xs.length = ys.length → Tm.mtL (xs ++ xs') (ys ++ ys') l = if (Tm.mtL xs ys l).2 = true then Tm.mtL xs' ys' (Tm.mtL xs ys l).1 else ((Tm.mtL xs ys l).1, false)
 | [], [], xs', ys', l, _ => by simp [Tm.mtL_nil]
 | x :: xs, y :: ys, xs', ys', l, h => by
  simp only [List.cons_append, Tm.mtL]
  by_cases hx : (x.mt y l).2 = true
  ·simp only [hx, if_true]
   exact Tm.mtL_append xs ys xs' ys' _ (by simpa using h)
  ·simp only [hx]
   simp
 | [], y :: ys, _, _, _, h => by simp at h
 | x :: xs, [], _, _, _, h => by simp at h
theorem Tm.mtL_take {xs ys : List Tm} {k : Nat} {x y : Tm} {l : List Bd} (hl : xs.length = ys.length) (hx : xs[k]? = some x) (hy : ys[k]? = some y) (h : (Tm.mtL (xs.take k) (ys.take k) l).2 = true) :
  Tm.mtL (xs.take (k + 1)) (ys.take (k + 1)) l = x.mt y (Tm.mtL (xs.take k) (ys.take k) l).1 := by
 rw [Ak hx, Ak hy, Tm.mtL_append _ _ _ _ _ (by simp [hl]), if_pos h]
 generalize Tm.mtL (xs.take k) (ys.take k) l = q
 simp only [Tm.mtL]
 split
 ·rename_i h1
  exact Prod.ext rfl h1.symm
 ·rename_i h1
  exact Prod.ext rfl (by simpa using h1)
theorem Tm.mtL_no {xs ys : List Tm} {k : Nat} {l : List Bd} (hl : xs.length = ys.length) (h : (Tm.mtL (xs.take k) (ys.take k) l).2 = false) : Tm.mtL xs ys l = ((Tm.mtL (xs.take k) (ys.take k) l).1, false) := by
 have e : Tm.mtL xs ys l = Tm.mtL (xs.take k ++ xs.drop k) (ys.take k ++ ys.drop k) l := by rw [List.take_append_drop, List.take_append_drop]
 rw [e, Tm.mtL_append _ _ _ _ _ (by simp [hl]), h]
 rfl
structure I0 (l l' : List Bd) (many most : Nat) : Prop where
 named : Ck l → Ck l'
 len : l'.length ≤ l.length + many
 size : ∀ b ∈ l', b ∈ l ∨ b.2.size ≤ most
theorem I0.refl (l : List Bd) (n m : Nat) : I0 l l n m := ⟨fun h => h, by omega, fun b hb => .inl hb⟩
theorem I0.trans {a b c : List Bd} {n m k n' m' : Nat} (h : I0 a b n m) (h' : I0 b c n' m') (hn : n + n' ≤ k) {M : Nat} (h1 : m ≤ M) (h2 : m' ≤ M) : I0 a c k M := by
 refine ⟨fun q => h'.named (h.named q), by have := h.len; have := h'.len; omega, fun x hx => ?_⟩
 rcases h'.size x hx with h3 | h3
 ·rcases h.size x h3 with h4 | h4
  ·exact .inl h4
  ·exact .inr (by omega)
 ·exact .inr (by omega)
theorem Ml {l : List Bd} {n : ByteArray} (h : lookup l n = none) : n ∉ l.map (·.1) := by
 intro hm
 obtain ⟨b, hb, rfl⟩ := List.mem_map.1 hm
 unfold lookup at h
 rw [Option.map_eq_none_iff, List.find?_eq_none] at h
 exact h b hb (by simp)
theorem Pk {l : List Bd} {b : Bd} (h : lookup l b.1 = none) (hn : Ck l) : Ck (l ++ [b]) := by
 unfold Ck at *
 rw [List.map_append, List.nodup_append]
 refine ⟨hn, by simp, fun x hx y hy e => ?_⟩
 simp only [List.map_cons, List.map_nil, List.mem_singleton] at hy
 subst hy
 subst e
 exact Ml h hx
mutual
theorem Tm.mt_ok : ∀ (p t : Tm) (l : List Bd), I0 l (p.mt t l).1 p.size t.size
 | .mk n xs, t, l => by
  rw [Tm.mt]
  split
  ·split
   ·exact I0.refl _ _ _
   ·rename_i h
    refine ⟨fun hn => Pk h hn, ?_, fun b hb => ?_⟩
    ·have := Tm.size_pos (.mk n xs)
     rw [List.length_append, List.length_singleton]
     omega
    ·rcases List.mem_append.1 hb with hb | hb
     ·exact .inl hb
     ·rw [List.mem_singleton] at hb
      subst hb
      exact .inr (Nat.le_refl _)
  ·split
   ·have := Tm.mtL_ok xs t.args l
    have h1 := Tm.size_eq t
    exact ⟨this.named, by have := this.len; rw [Tm.size]; omega, fun b hb => (this.size b hb).imp_right (by omega)⟩
   ·exact I0.refl _ _ _
theorem Tm.mtL_ok : ∀ (xs ys : List Tm) (l : List Bd), I0 l (Tm.mtL xs ys l).1 (Tm.sizes xs) (Tm.sizes ys)
 | [], ys, l => by rw [Tm.mtL_nil]; exact I0.refl _ _ _
 | x :: xs, [], l => by rw [Tm.mtL]; exact I0.refl _ _ _; simp
 | x :: xs, y :: ys, l => by
  rw [Tm.mtL]
  have h1 := Tm.mt_ok x y l
  split
  ·exact h1.trans (Tm.mtL_ok xs ys _) (by rw [Tm.sizes]; exact Nat.le_refl _) (by rw [Tm.sizes]; omega) (by rw [Tm.sizes]; omega)
  ·exact ⟨h1.named, by have := h1.len; rw [Tm.sizes]; show (x.mt y l).1.length ≤ _; omega, fun b hb => (h1.size b hb).imp_right (by rw [Tm.sizes]; omega)⟩
end
def A4 (p t : Tm) : List Bd := if (p.mt t []).2 = true then BR (p.mt t []).1 else []
def Bc (p t : Tm) : Bool := (p.mt t []).2
theorem Ro : Ck [] := List.nodup_nil
theorem J9 (p t : Tm) : Ck (p.mt t []).1 := (Tm.mt_ok p t []).named Ro
theorem PI (p t : Tm) : (p.mt t []).1.length ≤ p.size := by have := (Tm.mt_ok p t []).len; simpa using this
theorem Ts (p t : Tm) : ∀ b ∈ (p.mt t []).1, b.2.size ≤ t.size := fun b hb => ((Tm.mt_ok p t []).size b hb).resolve_left (by simp)

abbrev Pr := Tm × Tm
def CR (p : Pr) : List SV := [.str p.1.name, .list (p.1.args.map Al), .str p.2.name, .list (p.2.args.map Al)]
abbrev Bg (l : List Pr) : AV := .one (.st (.list (l.map CR)))
abbrev aPr (p : Pr) : AV := .agg [.st (.str p.1.name), .st (.list (p.1.args.map Al)), .st (.str p.2.name), .st (.list (p.2.args.map Al))]
instance : T8 CR 4 := ⟨fun _ => rfl⟩
theorem Qa {ts : List Pr} : ∀ x ∈ ts.map CR, x.length = 4 := by
 intro x hx
 obtain ⟨a, _, rfl⟩ := List.mem_map.1 hx
 rfl

def NT : IR :=
 (.seq (.ops [.i 4 (.alloc 25 [.st (.str (ByteArray.mk (#[]))), .full []]), .i 5 (.mov (.c (.one (.st (.bool false)))))]) (.seq (.seq (.ops [.i 6 (.mov (.n 0))]) (.block 0 (.loop (.seq (.seq (.ops [.m 7 6, .m 8 0, .i 9 (.len false (.t 8)), .i 10 (.bin .lss (.t 7) (.t 9))]) (.cond (.t 10) .skip (.exit 0))) (.seq (.block 1 (.seq (.ops [.m 13 0, .m 14 6, .i 15 (.indexAddr 3 (.t 13) (.t 14)), .f 16 0 15, .l 17 16, .m 18 1, .i 19 (.bin .eql (.t 17) (.t 18))]) (.cond (.t 19) (.seq (.ops [.m 20 0, .m 21 6, .i 22 (.indexAddr 3 (.t 20) (.t 21)), .f 23 1 22, .L 24 2 23, .s 2 4 24, .i 5 (.mov (.c (.one (.st (.bool true)))))]) .ret) .skip))) (.ops [.m 11 6, .i 12 (.bin .add (.t 11) (.n 1)), .m 6 12])))))) (.seq (.ops [.i 25 (.build [.st (.str (ByteArray.mk (#[]))), .full []] []), .s 2 4 25, .i 5 (.mov (.c (.one (.st (.bool false)))))]) .ret)))
theorem Rv : OkF Tryz.prog 117 26 [] NT [.cell 4 true 2, .t 5] := .of Tryz.func117 rfl rfl (by kernel_rfl) rfl
def Gm : IR :=
 (.seq (.ops [.i 4 (.box 25 (.t 1)), .i 6 (.mov (.n 0))]) (.seq (.ops [.m 12 0, .f 13 0 4, .l 14 13, .i 15 (.call 117 [.t 12, .t 14]), .m 11 15, .i 16 (.extract 0 (.t 11)), .i 17 (.extract 1 (.t 11)), .i 7 (.alloc 25 [.st (.str (ByteArray.mk (#[]))), .full []]), .s 2 7 16, .m 8 17]) (.seq (.seq (.ops [.m 18 8, .m 19 18, .mk (some 20) (some (19, true)) (.fieldAddr 1 (.t 4)) .no, .mk (some 21) (some (19, true)) (.load false 1 (.t 20)) .no, .mk (some 22) (some (19, true)) (.len false (.t 21)) .no, .mk (some 23) (some (19, true)) (.bin .eql (.t 22) (.n 0)) .no, .i 24 (.pick (.t 19) (.t 23) (.c (.one (.st (.bool false)))))]) (.cond (.t 24) (.seq (.ops [.L 25 2 7, .m 26 2, .i 27 (.call 9 [.t 25, .t 26]), .m 6 27]) .ret) .skip)) (.seq (.ops [.i 9 (.mov (.n 1))]) (.seq (.seq (.ops [.i 10 (.mov (.n 0))]) (.block 0 (.loop (.seq (.seq (.ops [.m 28 10, .f 29 1 4, .l 30 29, .i 31 (.len false (.t 30)), .i 32 (.bin .lss (.t 28) (.t 31)), .m 33 32, .mk (some 34) (some (33, true)) (.mov (.t 9)) .no, .mk (some 35) (some (33, true)) (.mov (.t 2)) .no, .mk (some 36) (some (33, true)) (.bin .leq (.t 34) (.t 35)) .no, .i 37 (.pick (.t 33) (.t 36) (.c (.one (.st (.bool false)))))]) (.cond (.t 37) .skip (.exit 0))) (.seq (.block 1 (.ops [.m 40 9, .m 41 0, .f 42 1 4, .l 43 42, .m 44 10, .i 45 (.indexAddr 2 (.t 43) (.t 44)), .L 46 2 45, .m 47 2, .m 48 9, .i 49 (.bin .sub (.t 47) (.t 48)), .i 50 (.call 102 [.t 41, .t 46, .t 49]), .i 51 (.bin .add (.t 40) (.t 50)), .m 9 51])) (.ops [.m 38 10, .i 39 (.bin .add (.t 38) (.n 1)), .m 10 39])))))) (.seq (.seq (.ops [.m 52 9, .m 53 2, .i 54 (.bin .gtr (.t 52) (.t 53))]) (.cond (.t 54) (.seq (.ops [.m 55 2, .i 56 (.bin .add (.t 55) (.n 1)), .m 6 56]) .ret) .skip)) (.seq (.ops [.m 57 9, .m 6 57]) .ret)))))))
theorem JT : OkF Tryz.prog 102 58 [] Gm [.t 6] := .of Tryz.func102 rfl rfl (by kernel_rfl) rfl
def Md : IR :=
 (.seq (.ops [.i 3 (.box 25 (.t 1)), .i 4 (.alloc 25 [.st (.str (ByteArray.mk (#[]))), .full []])]) (.seq (.ops [.m 10 0, .f 11 0 3, .l 12 11, .i 13 (.call 117 [.t 10, .t 12]), .m 9 13, .i 14 (.extract 0 (.t 9)), .i 15 (.extract 1 (.t 9)), .i 5 (.alloc 25 [.st (.str (ByteArray.mk (#[]))), .full []]), .s 2 5 14, .m 6 15]) (.seq (.seq (.ops [.m 16 6, .m 17 16, .mk (some 18) (some (17, true)) (.fieldAddr 1 (.t 3)) .no, .mk (some 19) (some (17, true)) (.load false 1 (.t 18)) .no, .mk (some 20) (some (17, true)) (.len false (.t 19)) .no, .mk (some 21) (some (17, true)) (.bin .eql (.t 20) (.n 0)) .no, .i 22 (.pick (.t 17) (.t 21) (.c (.one (.st (.bool false)))))]) (.cond (.t 22) (.seq (.ops [.L 23 2 5, .s 2 4 23]) .ret) .skip)) (.seq (.ops [.f 24 0 3, .l 25 24, .i 26 (.build [.st (.str (ByteArray.mk (#[]))), .full []] [(0, 1, .t 25)]), .i 7 (.alloc 25 [.st (.str (ByteArray.mk (#[]))), .full []]), .s 2 7 26]) (.seq (.seq (.ops [.i 8 (.mov (.n 0))]) (.block 0 (.loop (.seq (.seq (.ops [.m 27 8, .f 28 1 3, .l 29 28, .i 30 (.len false (.t 29)), .i 31 (.bin .lss (.t 27) (.t 30))]) (.cond (.t 31) .skip (.exit 0))) (.seq (.block 1 (.ops [.f 34 1 7, .l 35 34, .m 36 0, .f 37 1 3, .l 38 37, .m 39 8, .i 40 (.indexAddr 2 (.t 38) (.t 39)), .L 41 2 40, .i 42 (.call 103 [.t 36, .t 41]), .i 43 (.buildSlice false 25 2 [.t 42]), .i 44 (.append false 25 2 40 (.t 35) (.t 43)), .f 45 1 7, .s 1 45 44])) (.ops [.m 32 8, .i 33 (.bin .add (.t 32) (.n 1)), .m 8 33])))))) (.seq (.ops [.L 46 2 7, .s 2 4 46]) .ret))))))
theorem QQ : OkF Tryz.prog 103 47 [] Md [.cell 4 true 2] := .of Tryz.func103 rfl rfl (by kernel_rfl) rfl
def NB : IR :=
 (.seq (.ops [.i 3 (.box 25 (.t 1)), .i 4 (.alloc 25 [.st (.str (ByteArray.mk (#[]))), .full []]), .i 5 (.mov (.c (.one (.st (.bool false)))))]) (.seq (.seq (.ops [.m 6 0, .L 7 2 3, .i 8 (.call 102 [.t 6, .t 7, .n 2000]), .i 9 (.bin .gtr (.t 8) (.n 2000))]) (.cond (.t 9) (.seq (.ops [.i 10 (.build [.st (.str (ByteArray.mk (#[]))), .full []] []), .s 2 4 10, .i 5 (.mov (.c (.one (.st (.bool false)))))]) .ret) .skip)) (.seq (.ops [.m 11 0, .L 12 2 3, .i 13 (.call 103 [.t 11, .t 12]), .s 2 4 13, .i 5 (.mov (.c (.one (.st (.bool true)))))]) .ret)))
theorem QF : OkF Tryz.prog 73 14 [] NB [.cell 4 true 2, .t 5] := .of Tryz.func73 rfl rfl (by kernel_rfl) rfl
def DX : IR :=
 (.seq (.ops [.i 2 (.mov (.c (.one (.st (.bool false)))))]) (.seq (.ops [.m 3 0, .m 4 0, .i 5 (.bin .neq (.t 3) (.t 4)), .m 2 5]) .ret))
theorem GA : OkF Tryz.prog 115 6 [] DX [.t 2] := .of Tryz.func115 rfl rfl (by kernel_rfl) rfl
def C0 : IR :=
 (.seq (.ops [.i 4 (.mov (.n 0))]) (.seq (.ops [.m 7 0, .i 8 (.call 115 [.t 7]), .m 5 8]) (.seq (.ops [.m 9 1, .i 10 (.call 115 [.t 9]), .m 6 10]) (.seq (.seq (.ops [.m 11 5]) (.cond (.t 11) (.seq (.seq (.ops [.m 12 6]) (.cond (.t 12) (.seq (.ops [.i 4 (.mov (.n 0))]) .ret) .skip)) (.seq (.ops [.i 4 (.mov (.c (.one (.st (.int .i64 (-1))))))]) .ret)) .skip)) (.seq (.seq (.ops [.m 13 6]) (.cond (.t 13) (.seq (.ops [.i 4 (.mov (.n 1))]) .ret) .skip)) (.seq (.seq (.ops [.m 14 0, .m 15 1, .i 16 (.bin .lss (.t 14) (.t 15))]) (.cond (.t 16) (.seq (.ops [.i 4 (.mov (.c (.one (.st (.int .i64 (-1))))))]) .ret) .skip)) (.seq (.seq (.ops [.m 17 0, .m 18 1, .i 19 (.bin .gtr (.t 17) (.t 18))]) (.cond (.t 19) (.seq (.ops [.i 4 (.mov (.n 1))]) .ret) .skip)) (.seq (.ops [.i 4 (.mov (.n 0))]) .ret))))))))
theorem FG : OkF Tryz.prog 122 20 [] C0 [.t 4] := .of Tryz.func122 rfl rfl (by kernel_rfl) rfl
def E5 : IR :=
 (.seq (.ops [.i 2 (.box 138 (.t 0)), .i 4 (.mov (.n 0))]) (.seq (.ops [.f 5 0 2, .l 6 5, .m 7 1, .i 8 (.call 122 [.t 6, .t 7]), .m 4 8]) .ret))
theorem I4 : OkF Tryz.prog 127 9 [] E5 [.t 4] := .of Tryz.func127 rfl rfl (by kernel_rfl) rfl
def Aq : IR :=
 (.seq (.ops [.i 6 (.mov (.n 0)), .i 7 (.mov (.c (.one (.st (.bool false)))))]) (.seq (.ops [.m 12 0, .i 13 (.len false (.t 12)), .m 8 13]) (.seq (.ops [.m 14 8, .i 9 (.mov (.n 0)), .m 10 14]) (.seq (.block 0 (.loop (.seq (.seq (.ops [.m 15 9, .m 16 10, .i 17 (.bin .lss (.t 15) (.t 16))]) (.cond (.t 17) .skip (.exit 0))) (.block 1 (.seq (.ops [.m 18 9, .m 19 10, .i 20 (.bin .add (.t 18) (.t 19)), .i 21 (.conv .u64 (.t 20)), .i 22 (.bin .shr (.t 21) (.c (.one (.st (.int .u64 1))))), .i 23 (.conv .i64 (.t 22)), .m 11 23]) (.seq (.ops [.m 24 2, .m 25 0, .m 26 11, .i 27 (.indexAddr 3 (.t 25) (.t 26)), .L 28 3 27, .m 29 1, .i 30 (.callV (.t 24) [.t 28, .t 29]), .i 31 (.bin .lss (.t 30) (.n 0))]) (.cond (.t 31) (.ops [.m 32 11, .i 33 (.bin .add (.t 32) (.n 1)), .m 9 33]) (.ops [.m 34 11, .m 10 34])))))))) (.seq (.ops [.m 35 9, .m 36 9, .m 37 8, .i 38 (.bin .lss (.t 36) (.t 37)), .m 39 38, .mk (some 40) (some (39, true)) (.mov (.t 2)) .no, .mk (some 41) (some (39, true)) (.mov (.t 0)) .no, .mk (some 42) (some (39, true)) (.mov (.t 9)) .no, .mk (some 43) (some (39, true)) (.indexAddr 3 (.t 41) (.t 42)) .no, .mk (some 44) (some (39, true)) (.load true 3 (.t 43)) .no, .mk (some 45) (some (39, true)) (.mov (.t 1)) .no, .mk (some 46) (some (39, true)) (.callV (.t 40) [.t 44, .t 45]) .no, .mk (some 47) (some (39, true)) (.bin .eql (.t 46) (.n 0)) .no, .i 48 (.pick (.t 39) (.t 47) (.c (.one (.st (.bool false))))), .m 6 35, .m 7 48]) .ret)))))
theorem A7 : OkF Tryz.prog 126 49 [] Aq [.t 6, .t 7] := .of Tryz.func126 rfl rfl (by kernel_rfl) rfl
def GM : IR :=
 (.seq (.ops [.i 4 (.alloc 25 [.st (.str (ByteArray.mk (#[]))), .full []]), .i 5 (.mov (.c (.one (.st (.bool false)))))]) (.seq (.ops [.m 9 0, .m 10 1, .i 11 (.call 126 [.t 9, .t 10, .c (.one (.fn 127 []))]), .m 8 11, .i 12 (.extract 0 (.t 8)), .i 13 (.extract 1 (.t 8)), .m 6 12, .m 7 13]) (.seq (.seq (.ops [.m 14 7, .i 15 (.un .not (.t 14))]) (.cond (.t 15) (.seq (.ops [.i 16 (.build [.st (.str (ByteArray.mk (#[]))), .full []] []), .s 2 4 16, .i 5 (.mov (.c (.one (.st (.bool false)))))]) .ret) .skip)) (.seq (.ops [.m 17 0, .m 18 6, .i 19 (.indexAddr 3 (.t 17) (.t 18)), .f 20 1 19, .L 21 2 20, .s 2 4 21, .i 5 (.mov (.c (.one (.st (.bool true)))))]) .ret))))
theorem Ku : OkF Tryz.prog 123 22 [] GM [.cell 4 true 2, .t 5] := .of Tryz.func123 rfl rfl (by kernel_rfl) rfl
def BT : IR :=
 (.seq (.ops [.i 4 (.box 25 (.t 1)), .i 6 (.alloc 25 [.st (.str (ByteArray.mk (#[]))), .full []])]) (.seq (.seq (.ops [.m 12 2]) (.cond (.t 12) (.seq (.ops [.m 14 0, .i 15 (.nilCheck (.t 14)), .f 16 0 15, .l 17 16, .f 18 0 4, .l 19 18, .i 20 (.call 123 [.t 17, .t 19]), .m 13 20, .i 21 (.extract 0 (.t 13)), .i 22 (.extract 1 (.t 13)), .i 7 (.alloc 25 [.st (.str (ByteArray.mk (#[]))), .full []]), .s 2 7 21, .m 8 22]) (.seq (.ops [.m 23 8]) (.cond (.t 23) (.seq (.ops [.m 24 0, .L 25 2 7, .i 26 (.callS 109 [.t 24, .t 25, .c (.one (.st (.bool false)))]), .s 2 6 26]) .ret) .skip))) .skip)) (.seq (.seq (.ops [.m 27 0, .i 28 (.nilCheck (.t 27)), .f 29 1 28, .l 30 29, .i 31 (.bin .sub (.t 30) (.n 1)), .i 32 (.nilCheck (.t 27)), .f 33 1 32, .s 1 33 31]) (.seq (.ops [.m 34 0, .i 35 (.nilCheck (.t 34)), .f 36 1 35, .l 37 36, .i 38 (.bin .lss (.t 37) (.n 0))]) (.cond (.t 38) (.seq (.ops [.i 39 (.build [.st (.str (ByteArray.mk (#[]))), .full []] []), .s 2 6 39]) .ret) .skip))) (.seq (.ops [.f 40 0 4, .l 41 40, .i 42 (.build [.st (.str (ByteArray.mk (#[]))), .full []] [(0, 1, .t 41)]), .i 9 (.alloc 25 [.st (.str (ByteArray.mk (#[]))), .full []]), .s 2 9 42]) (.seq (.seq (.ops [.f 43 1 4, .l 44 43, .i 45 (.len false (.t 44)), .i 46 (.mov (.n 0))]) (.block 0 (.loop (.seq (.ops [.i 47 (.bin .lss (.t 46) (.t 45))]) (.seq (.cond (.t 47) .skip (.exit 0)) (.seq (.block 1 (.seq (.ops [.i 48 (.indexAddr 2 (.t 44) (.t 46)), .L 49 2 48, .i 11 (.alloc 25 [.st (.str (ByteArray.mk (#[]))), .full []]), .s 2 11 49]) (.seq (.ops [.mk (some 50) none (.fieldAddr 1 (.t 9)) (.onb 9), .mk (some 51) none (.load false 1 (.t 50)) (.onb 9), .m 52 0, .L 53 2 11, .m 54 2, .mk (some 55) none (.callS 109 [.t 52, .t 53, .t 54]) (.keeps [9, 9]), .i 56 (.buildSlice false 25 2 [.t 55]), .i 57 (.append false 25 2 40 (.t 51) (.t 56)), .f 58 1 9, .s 1 58 57]) (.seq (.ops [.m 59 0, .i 60 (.nilCheck (.t 59)), .f 61 1 60, .l 62 61, .i 63 (.bin .lss (.t 62) (.n 0))]) (.cond (.t 63) (.seq (.ops [.i 64 (.build [.st (.str (ByteArray.mk (#[]))), .full []] []), .s 2 6 64]) .ret) .skip))))) (.ops [.i 65 (.bin .add (.t 46) (.n 1)), .m 46 65]))))))) (.seq (.ops [.L 66 2 9, .s 2 6 66]) .ret))))))
theorem B5 : OkF Tryz.prog 109 67 [26, 55] BT [.cell 6 true 2] := .of Tryz.func109 rfl rfl (by kernel_rfl) rfl
def IZ : IR :=
 (.seq (.ops [.i 3 (.box 25 (.t 1)), .i 4 (.alloc 25 [.st (.str (ByteArray.mk (#[]))), .full []]), .i 5 (.mov (.c (.one (.st (.bool false)))))]) (.seq (.ops [.m 8 0, .i 9 (.build [.full [], .st (.int .i64 0)] [(0, 1, .t 8), (1, 1, .n 2000)]), .i 10 (.box 141 (.t 9)), .m 6 10]) (.seq (.ops [.m 11 6, .L 12 2 3, .i 13 (.callS 109 [.t 11, .t 12, .c (.one (.st (.bool true)))]), .i 7 (.alloc 25 [.st (.str (ByteArray.mk (#[]))), .full []]), .s 2 7 13]) (.seq (.ops [.L 14 2 7, .m 15 6, .mk (some 16) none (.nilCheck (.t 15)) (.onb 10), .mk (some 17) none (.fieldAddr 1 (.t 16)) (.onb 10), .mk (some 18) none (.load false 1 (.t 17)) (.onb 10), .i 19 (.bin .geq (.t 18) (.n 0)), .mk none none (.store 2 (.t 4) (.t 14)) (.onb 4), .m 5 19]) .ret))))
theorem NW : OkF Tryz.prog 81 20 [13, 10060010] IZ [.cell 4 true 2, .t 5] := .of Tryz.func81 rfl rfl (by kernel_rfl) rfl

theorem OC (l : List Bd) (n : ByteArray) : AN Tryz.prog 117 [Ft l, CP n] (.tup [aTm ((lookup l n).getD Tm.nil), Ad (lookup l n).isSome]) := by
 refine Rv.ac fun C hC => ?_
 unfold NT
 refine IWP.learn 0 (by omega) fun hkn => ?_
 have hkn := Dd hkn
 rw [List.length_map] at hkn
 repeat' with_reducible first | refine W ?_ | refine Z0 ?_ | ((first | refine Wo fun K hK => ?_ | refine Wq ?_ | refine Wr ?_); (try simp only [go_sem, fN, seval, eT, iR]); (repeat refine Ai ?_); (try (refine hK _ ?_; clear hK K)))
 refine IWP.loop (fun m s => ∃ k, k ≤ l.length ∧ m = l.length - k ∧ (∀ c ∈ l.take k, c.1 ≠ n) ∧ s.env 0 = Ft l ∧ s.env 1 = CP n ∧ s.env 4 = .one (.ptr 4 1 0 0) ∧ s.S 4 = some (.box 25 [.st (.str ⟨#[]⟩), .full []]) ∧ s.env 6 = AO k) l.length ⟨0, Nat.zero_le _, rfl, by simp, rfl, rfl, rfl, rfl, rfl⟩ ?_
 rintro m ⟨env, S⟩ ⟨k, hk, rfl, h0, e0, e1, e4, s4, e6⟩
 simp only at e0 e1 e4 s4 e6
 by_cases hlt : (k : Int) < l.length
 ·obtain ⟨b, hb⟩ := Af (show k < l.length by omega)
  repeat' with_reducible first | refine W ?_ | refine Z0 ?_ | ((first | refine Wo fun K hK => ?_ | refine Wq ?_ | refine Wr ?_); (try simp only [go_sem, fN, seval, eT, iR, e0, e1, e4, s4, e6, hlt]); (repeat refine Ai ?_); (try (refine hK _ ?_; clear hK K)))
  with_reducible refine Wp ?_
  simp only [go_sem, fN, seval, true_implies, false_implies, implies_true, dT, dF, nL, hlt]
  (try with_reducible refine iC ?_)
  repeat' with_reducible first | refine W ?_ | refine Z0 ?_ | ((first | refine Wo fun K hK => ?_ | refine Wq ?_ | refine Wr ?_); (try simp only [go_sem, fN, seval, eT, iR, e0, e1, e4, s4, e6, hb, CS]); (repeat refine Ai ?_); (try (refine hK _ ?_; clear hK K)))
  by_cases he : b.1 = n
  ·with_reducible refine Wp ?_
   simp only [go_sem, fN, seval, true_implies, false_implies, implies_true, dT, dF, nL, he]
   (try with_reducible refine iC ?_)
   repeat' with_reducible first | refine W ?_ | refine Z0 ?_ | ((first | refine Wo fun K hK => ?_ | refine Wq ?_ | refine Wr ?_); (try simp only [go_sem, fN, seval, eT, iR, e0, e1, e4, s4, e6, hb, CS]); (repeat refine Ai ?_); (try (refine hK _ ?_; clear hK K)))
   simp only [go_sem, fN, seval, AK, AS.result, AB, AD, AI, e4]
   rw [IT hb he h0]
   rfl
  ·with_reducible refine Wp ?_
   simp only [go_sem, fN, seval, true_implies, false_implies, implies_true, dT, dF, nL, he]
   (try with_reducible refine iC ?_)
   repeat' with_reducible first | refine W ?_ | refine Z0 ?_ | ((first | refine Wo fun K hK => ?_ | refine Wq ?_ | refine Wr ?_); (try simp only [go_sem, fN, seval, eT, iR, e0, e1, e4, s4, e6]); (repeat refine Ai ?_); (try (refine hK _ ?_; clear hK K)))
   refine AF ⟨l.length - (k + 1), by omega, k + 1, by omega, rfl, ?_, ?_⟩
   ·rw [Ak hb]
    intro c hc
    rcases List.mem_append.1 hc with hc | hc
    ·exact h0 c hc
    ·rw [List.mem_singleton.1 hc]; exact he
   ·simp only [go_sem, fN, seval, eT, iR, e0, e1, e4, s4, e6]
    congr 3
 ·repeat' with_reducible first | refine W ?_ | refine Z0 ?_ | ((first | refine Wo fun K hK => ?_ | refine Wq ?_ | refine Wr ?_); (try simp only [go_sem, fN, seval, eT, iR, e0, e1, e4, s4, e6, hlt]); (repeat refine Ai ?_); (try (refine hK _ ?_; clear hK K)))
  with_reducible refine Wp ?_
  simp only [go_sem, fN, seval, true_implies, false_implies, implies_true, dT, dF, nL, hlt]
  (try with_reducible refine iC ?_)
  repeat' with_reducible first | refine W ?_ | refine Z0 ?_ | ((first | refine Wo fun K hK => ?_ | refine Wq ?_ | refine Wr ?_); (try simp only [go_sem, fN, seval, eT, iR, e0, e1, e4, s4, e6]); (repeat refine Ai ?_); (try (refine hK _ ?_; clear hK K)))
  simp only [go_sem, fN, seval, AK, AS.result, AB, AD, AI, e4]
  rw [List.take_of_length_le (by omega)] at h0
  rw [FL h0]
  rfl
theorem Pz (a : ByteArray) : AN Tryz.prog 115 [CP a] (Ad false) := by
 refine GA.ac fun C hC => ?_
 unfold DX
 repeat' with_reducible first | refine W ?_ | refine Z0 ?_ | ((first | refine Wo fun K hK => ?_ | refine Wq ?_ | refine Wr ?_); (try simp only [go_sem, fN, seval, eT, iR]); (repeat refine Ai ?_); (try (refine hK _ ?_; clear hK K)))
 simp only [go_sem, fN, seval, AK, AS.result, AB, AD, AI]
theorem Qi (a b : ByteArray) : AN Tryz.prog 122 [CP a, CP b] (AO (Fh a b)) := by
 refine FG.ac fun C hC => ?_
 unfold C0
 repeat' (first | (with_reducible first | refine W ?_ | refine Z0 ?_ | ((first | refine Wo fun K hK => ?_ | refine Wq ?_ | refine Wr ?_); (try simp only [go_sem, fN, seval, eT, iR]); (repeat refine Ai ?_); (try (refine hK _ ?_; clear hK K)))) | refine Cg _ (Pz a) ?_ | refine Cg _ (Pz b) ?_)
 with_reducible refine Wp ?_
 simp only [go_sem, fN, seval, true_implies, false_implies, implies_true, dT, dF, nL]
 (try with_reducible refine iC ?_)
 repeat' with_reducible first | refine W ?_ | refine Z0 ?_ | ((first | refine Wo fun K hK => ?_ | refine Wq ?_ | refine Wr ?_); (try simp only [go_sem, fN, seval, eT, iR]); (repeat refine Ai ?_); (try (refine hK _ ?_; clear hK K)))
 with_reducible refine Wp ?_
 simp only [go_sem, fN, seval, true_implies, false_implies, implies_true, dT, dF, nL]
 (try with_reducible refine iC ?_)
 repeat' with_reducible first | refine W ?_ | refine Z0 ?_ | ((first | refine Wo fun K hK => ?_ | refine Wq ?_ | refine Wr ?_); (try simp only [go_sem, fN, seval, eT, iR]); (repeat refine Ai ?_); (try (refine hK _ ?_; clear hK K)))
 unfold Fh
 cases h : sLt a b with
 | true =>
  with_reducible refine Wp ?_
  simp only [go_sem, fN, seval, true_implies, false_implies, implies_true, dT, dF, nL]
  (try with_reducible refine iC ?_)
  repeat' with_reducible first | refine W ?_ | refine Z0 ?_ | ((first | refine Wo fun K hK => ?_ | refine Wq ?_ | refine Wr ?_); (try simp only [go_sem, fN, seval, eT, iR]); (repeat refine Ai ?_); (try (refine hK _ ?_; clear hK K)))
  simp only [go_sem, fN, seval, AK, AS.result, AB, AD, AI]
 | false =>
  with_reducible refine Wp ?_
  simp only [go_sem, fN, seval, true_implies, false_implies, implies_true, dT, dF, nL]
  (try with_reducible refine iC ?_)
  by_cases he : a = b
  ·repeat' with_reducible first | refine W ?_ | refine Z0 ?_ | ((first | refine Wo fun K hK => ?_ | refine Wq ?_ | refine Wr ?_); (try simp only [go_sem, fN, seval, eT, iR, h, he, Bool.or_true, Bool.or_false]); (repeat refine Ai ?_); (try (refine hK _ ?_; clear hK K)))
   with_reducible refine Wp ?_
   simp only [go_sem, fN, seval, true_implies, false_implies, implies_true, dT, dF, nL, h, he, Bool.or_true, Bool.or_false]
   (try with_reducible refine iC ?_)
   repeat' with_reducible first | refine W ?_ | refine Z0 ?_ | ((first | refine Wo fun K hK => ?_ | refine Wq ?_ | refine Wr ?_); (try simp only [go_sem, fN, seval, eT, iR]); (repeat refine Ai ?_); (try (refine hK _ ?_; clear hK K)))
   simp only [go_sem, fN, seval, AK, AS.result, AB, AD, AI, h, he]
  ·repeat' with_reducible first | refine W ?_ | refine Z0 ?_ | ((first | refine Wo fun K hK => ?_ | refine Wq ?_ | refine Wr ?_); (try simp only [go_sem, fN, seval, eT, iR, h, he, Bool.or_true, Bool.or_false]); (repeat refine Ai ?_); (try (refine hK _ ?_; clear hK K)))
   with_reducible refine Wp ?_
   simp only [go_sem, fN, seval, true_implies, false_implies, implies_true, dT, dF, nL, h, he, Bool.or_true, Bool.or_false]
   (try with_reducible refine iC ?_)
   repeat' with_reducible first | refine W ?_ | refine Z0 ?_ | ((first | refine Wo fun K hK => ?_ | refine Wq ?_ | refine Wr ?_); (try simp only [go_sem, fN, seval, eT, iR]); (repeat refine Ai ?_); (try (refine hK _ ?_; clear hK K)))
   simp only [go_sem, fN, seval, AK, AS.result, AB, AD, AI, h, he]
theorem UD (b : Bd) (n : ByteArray) : AN Tryz.prog 127 [aBd b, CP n] (AO (Fh b.1 n)) := by
 refine I4.ac fun C hC => ?_
 unfold E5
 repeat' (first | (with_reducible first | refine W ?_ | refine Z0 ?_ | ((first | refine Wo fun K hK => ?_ | refine Wq ?_ | refine Wr ?_); (try simp only [go_sem, fN, seval, eT, iR]); (repeat refine Ai ?_); (try (refine hK _ ?_; clear hK K)))) | refine Cg _ (Qi b.1 n) ?_)
 simp only [go_sem, fN, seval, AK, AS.result, AB, AD, AI]
theorem Cb {a b : ByteArray} : Fh a b < 0 ↔ sLt a b = true := by
 unfold Fh
 split
 ·rename_i h; simp [h]
 ·rename_i h
  split <;> simp [h]
theorem Qq {a b : ByteArray} : Fh a b = 0 ↔ a = b := by
 unfold Fh
 split
 ·rename_i h
  constructor
  ·intro h'; cases h'
  ·intro e; subst e; rw [Cf] at h; cases h
 ·split <;> simp_all
def EE (l : List Bd) (n : ByteArray) (i : Nat) : Bool := match l[i]? with
 | some b => decide (b.1 = n)
 | none => false
theorem P_ (b : Bd) (n : ByteArray) (S : AA) : As Tryz.prog 127 [aBd b, CP n] S (AO (Fh b.1 n)) S := (UD b n).toS rfl
theorem U7 {i j : Nat} (h : i < j) : (((i : Int) + j).fdiv 2) = (((i + j) / 2 : Nat) : Int) ∧ i ≤ (i + j) / 2 ∧ (i + j) / 2 < j := by
 refine ⟨?_, by omega, by omega⟩
 rw [Int.fdiv_eq_ediv_of_nonneg _ (by omega)]
 omega
theorem Tc (n : Int) : inR .u64 n ↔ 0 ≤ n ∧ n ≤ 18446744073709551615 := by
 simp [inR, IntKind.min, IntKind.max, IntKind.signed, IntKind.bits]
theorem TL (l : List Bd) (h40 : l.length ≤ 100000) (ho : Bh l) (n : ByteArray) :
  ∃ i : Nat, i ≤ l.length ∧ (∀ k b, l[k]? = some b → k < i → sLt b.1 n = true) ∧ (∀ k b, l[k]? = some b → i ≤ k → sLt b.1 n = false) ∧
   AN Tryz.prog 126 [Ft l, CP n, .one (.fn 127 [])] (.tup [AO i, Ad (EE l n i)]) := by
 obtain ⟨i0, hi0, hlo, hhi⟩ : ∃ i : Nat, i ≤ l.length ∧ (∀ k b, l[k]? = some b → k < i → sLt b.1 n = true) ∧ (∀ k b, l[k]? = some b → i ≤ k → sLt b.1 n = false) := by
  clear h40
  induction l with
  | nil => exact ⟨0, by simp, by simp, by simp⟩
  | cons c l ih =>
   obtain ⟨o1, o2⟩ := List.pairwise_cons.1 ho
   obtain ⟨i, q1, q2, q3⟩ := ih o2
   cases hc : sLt c.1 n with
   | true =>
    refine ⟨i + 1, by simp; omega, fun k b hk hki => ?_, fun k b hk hki => ?_⟩
    ·cases k with
     | zero => simp at hk; subst hk; exact hc
     | succ k => exact q2 k b (by simpa using hk) (by omega)
    ·cases k with
     | zero => omega
     | succ k => exact q3 k b (by simpa using hk) (by omega)
   | false =>
    refine ⟨0, by simp, fun k b hk hki => by omega, fun k b hk hki => ?_⟩
    cases k with
    | zero => simp at hk; subst hk; exact hc
    | succ k =>
     have hm := AP (show l[k]? = some b by simpa using hk)
     cases hb : sLt b.1 n with
     | false => rfl
     | true => have := CL (o1 b hm) hb; rw [hc] at this; cases this
 refine ⟨i0, hi0, hlo, hhi, ?_⟩
 have hplain : CJ Tryz.prog 127 = true := by kernel_rfl
 refine A7.ac fun C hC => ?_
 unfold Aq
 repeat' with_reducible first | refine W ?_ | refine Z0 ?_ | ((first | refine Wo fun K hK => ?_ | refine Wq ?_ | refine Wr ?_); (try simp only [go_sem, fN, seval, eT, iR]); (repeat refine Ai ?_); (try (refine hK _ ?_; clear hK K)))
 refine IWP.loop (fun m s => ∃ i j : Nat, i ≤ i0 ∧ i0 ≤ j ∧ j ≤ l.length ∧ m = j - i ∧ s.env 0 = Ft l ∧ s.env 1 = CP n ∧ s.env 2 = .one (.fn 127 []) ∧ s.env 8 = AO l.length ∧ s.env 9 = AO i ∧ s.env 10 = AO j) l.length ⟨0, l.length, Nat.zero_le _, hi0, Nat.le_refl _, rfl, rfl, rfl, rfl, rfl, rfl, rfl⟩ ?_
 rintro m ⟨env, S⟩ ⟨i, j, hi, hj, hjl, rfl, e0, e1, e2, e8, e9, e10⟩
 simp only at e0 e1 e2 e8 e9 e10
 by_cases hlt : (i : Int) < j
 ·obtain ⟨z1, z2, z3⟩ := U7 (show i < j by omega)
  obtain ⟨b, hb⟩ := Af (show (i + j) / 2 < l.length by omega)
  repeat' with_reducible first | refine W ?_ | refine Z0 ?_ | ((first | refine Wo fun K hK => ?_ | refine Wq ?_ | refine Wr ?_); (try simp only [go_sem, fN, seval, eT, iR, e0, e1, e2, e8, e9, e10, hlt]); (repeat refine Ai ?_); (try (refine hK _ ?_; clear hK K)))
  with_reducible refine Wp ?_
  simp only [go_sem, fN, seval, true_implies, false_implies, implies_true, dT, dF, nL, hlt]
  (try with_reducible refine iC ?_)
  have hbits : (1 : Nat) ≤ IntKind.u64.bits := by show 1 ≤ 64; omega
  repeat' with_reducible first | refine W ?_ | refine Z0 ?_ | ((first | refine Wo fun K hK => ?_ | refine Wq ?_ | refine Wr ?_); (try simp only [go_sem, fN, seval, eT, iR, e0, e1, e2, e8, e9, e10, hlt, z1, Tc, hbits, hb, CS, hplain]); (repeat refine Ai ?_); (try (refine hK _ ?_; clear hK K)))
  refine ⟨_, _, P_ b n _, ?_⟩
  cases hc : sLt b.1 n with
  | true =>
   have hneg : Fh b.1 n < 0 := Cb.2 hc
   repeat' with_reducible first | refine W ?_ | refine Z0 ?_ | ((first | refine Wo fun K hK => ?_ | refine Wq ?_ | refine Wr ?_); (try simp only [go_sem, fN, seval, eT, iR, hneg]); (repeat refine Ai ?_); (try (refine hK _ ?_; clear hK K)))
   with_reducible refine Wp ?_
   simp only [go_sem, fN, seval, true_implies, false_implies, implies_true, dT, dF, nL, hneg]
   (try with_reducible refine iC ?_)
   repeat' with_reducible first | refine W ?_ | refine Z0 ?_ | ((first | refine Wo fun K hK => ?_ | refine Wq ?_ | refine Wr ?_); (try simp only [go_sem, fN, seval, eT, iR, e0, e1, e2, e8, e9, e10]); (repeat refine Ai ?_); (try (refine hK _ ?_; clear hK K)))
   refine AF ⟨j - ((i + j) / 2 + 1), by omega, (i + j) / 2 + 1, j, ?_, hj, hjl, rfl, ?_⟩
   ·rcases Nat.lt_or_ge ((i + j) / 2) i0 with h | h
    ·omega
    ·rw [hhi _ b hb h] at hc; cases hc
   ·simp only [go_sem, fN, seval, eT, iR, e0, e1, e2, e8, e9, e10]
    congr 3
  | false =>
   have hneg : ¬ Fh b.1 n < 0 := fun h => by rw [Cb.1 h] at hc; cases hc
   repeat' with_reducible first | refine W ?_ | refine Z0 ?_ | ((first | refine Wo fun K hK => ?_ | refine Wq ?_ | refine Wr ?_); (try simp only [go_sem, fN, seval, eT, iR, hneg]); (repeat refine Ai ?_); (try (refine hK _ ?_; clear hK K)))
   with_reducible refine Wp ?_
   simp only [go_sem, fN, seval, true_implies, false_implies, implies_true, dT, dF, nL, hneg]
   (try with_reducible refine iC ?_)
   repeat' with_reducible first | refine W ?_ | refine Z0 ?_ | ((first | refine Wo fun K hK => ?_ | refine Wq ?_ | refine Wr ?_); (try simp only [go_sem, fN, seval, eT, iR, e0, e1, e2, e8, e9, e10]); (repeat refine Ai ?_); (try (refine hK _ ?_; clear hK K)))
   refine AF ⟨(i + j) / 2 - i, by omega, i, (i + j) / 2, hi, ?_, by omega, rfl, ?_⟩
   ·rcases Nat.lt_or_ge ((i + j) / 2) i0 with h | h
    ·rw [hlo _ b hb h] at hc; cases hc
    ·omega
   ·simp only [go_sem, fN, seval, eT, iR, e0, e1, e2, e8, e9, e10]
 ·have hii : i = i0 := by omega
  subst hii
  have hjj : j = i := by omega
  subst hjj
  repeat' with_reducible first | refine W ?_ | refine Z0 ?_ | ((first | refine Wo fun K hK => ?_ | refine Wq ?_ | refine Wr ?_); (try simp only [go_sem, fN, seval, eT, iR, e0, e1, e2, e8, e9, e10, hlt]); (repeat refine Ai ?_); (try (refine hK _ ?_; clear hK K)))
  with_reducible refine Wp ?_
  simp only [go_sem, fN, seval, true_implies, false_implies, implies_true, dT, dF, nL, hlt]
  (try with_reducible refine iC ?_)
  by_cases hil : (j : Int) < l.length
  ·obtain ⟨b, hb⟩ := Af (show j < l.length by omega)
   repeat' with_reducible first | refine W ?_ | refine Z0 ?_ | ((first | refine Wo fun K hK => ?_ | refine Wq ?_ | refine Wr ?_); (try simp only [go_sem, fN, seval, eT, iR, e0, e1, e2, e8, e9, e10, hil, hb, CS, hplain]); (repeat refine Ai ?_); (try (refine hK _ ?_; clear hK K)))
   refine ⟨_, _, P_ b n _, ?_⟩
   repeat' with_reducible first | refine W ?_ | refine Z0 ?_ | ((first | refine Wo fun K hK => ?_ | refine Wq ?_ | refine Wr ?_); (try simp only [go_sem, fN, seval, eT, iR]); (repeat refine Ai ?_); (try (refine hK _ ?_; clear hK K)))
   simp only [go_sem, fN, seval, AK, AS.result, AB, AD, AI]
   unfold EE
   rw [hb]
   simp only [Qq]
  ·repeat' with_reducible first | refine W ?_ | refine Z0 ?_ | ((first | refine Wo fun K hK => ?_ | refine Wq ?_ | refine Wr ?_); (try simp only [go_sem, fN, seval, eT, iR, e0, e1, e2, e8, e9, e10, hil]); (repeat refine Ai ?_); (try (refine hK _ ?_; clear hK K)))
   simp only [go_sem, fN, seval, AK, AS.result, AB, AD, AI]
   unfold EE
   rw [List.getElem?_eq_none (by omega)]
theorem M0 {l : List Bd} {n : ByteArray} {i : Nat} (hlo : ∀ k b, l[k]? = some b → k < i → sLt b.1 n = true) (hhi : ∀ k b, l[k]? = some b → i ≤ k → sLt b.1 n = false) (ho : Bh l) :
  (∃ b, l[i]? = some b ∧ b.1 = n ∧ lookup l n = some b.2) ∨ (EE l n i = false ∧ lookup l n = none) := by
 have hlow : ∀ c ∈ l.take i, c.1 ≠ n := fun c hc e => by
  obtain ⟨k, hk, rfl⟩ := List.getElem_of_mem hc
  rw [List.length_take] at hk
  have := hlo k l[k] (List.getElem?_eq_getElem (by omega)) (by omega)
  rw [List.getElem_take] at e
  rw [e, Cf] at this
  cases this
 by_cases hil : i < l.length
 ·obtain ⟨b, hb⟩ := Af hil
  by_cases he : b.1 = n
  ·exact .inl ⟨b, hb, he, IT hb he hlow⟩
  ·refine .inr ⟨by unfold EE; rw [hb]; exact decide_eq_false he, FL fun c hc e => ?_⟩
   obtain ⟨k, hk, rfl⟩ := List.getElem_of_mem hc
   have hck := List.getElem?_eq_getElem hk
   rcases Nat.lt_trichotomy k i with h | h | h
   ·have := hlo k _ hck h
    rw [e, Cf] at this
    cases this
   ·subst h
    rw [hb] at hck
    cases hck
    exact he e
   ·have h1 := IS ho hb hck h
    rw [e, hhi i b hb (Nat.le_refl _)] at h1
    cases h1
 ·refine .inr ⟨by unfold EE; rw [List.getElem?_eq_none (by omega)], FL fun c hc => hlow c ?_⟩
  rw [List.take_of_length_le (by omega)]
  exact hc
theorem SZ (l : List Bd) (h40 : l.length ≤ 100000) (ho : Bh l) (n : ByteArray) : AN Tryz.prog 123 [Ft l, CP n] (.tup [aTm ((lookup l n).getD Tm.nil), Ad (lookup l n).isSome]) := by
 obtain ⟨i, hi, hlo, hhi, hs⟩ := TL l h40 ho n
 refine Ku.ac fun C hC => ?_
 unfold GM
 repeat' with_reducible first | refine W ?_ | refine Z0 ?_ | ((first | refine Wo fun K hK => ?_ | refine Wq ?_ | refine Wr ?_); (try simp only [go_sem, fN, seval, eT, iR]); (repeat refine Ai ?_); (try (refine hK _ ?_; clear hK K)))
 refine ⟨_, hs, ?_⟩
 rcases M0 hlo hhi ho with ⟨b, hb, he, hl⟩ | ⟨hf, hl⟩
 ·have hf : EE l n i = true := by unfold EE; rw [hb]; exact decide_eq_true he
  repeat' with_reducible first | refine W ?_ | refine Z0 ?_ | ((first | refine Wo fun K hK => ?_ | refine Wq ?_ | refine Wr ?_); (try simp only [go_sem, fN, seval, eT, iR, hf]); (repeat refine Ai ?_); (try (refine hK _ ?_; clear hK K)))
  with_reducible refine Wp ?_
  simp only [go_sem, fN, seval, true_implies, false_implies, implies_true, dT, dF, nL, hf]
  (try with_reducible refine iC ?_)
  repeat' with_reducible first | refine W ?_ | refine Z0 ?_ | ((first | refine Wo fun K hK => ?_ | refine Wq ?_ | refine Wr ?_); (try simp only [go_sem, fN, seval, eT, iR, hb, CS]); (repeat refine Ai ?_); (try (refine hK _ ?_; clear hK K)))
  simp only [go_sem, fN, seval, AK, AS.result, AB, AD, AI]
  rw [hl]
  rfl
 ·repeat' with_reducible first | refine W ?_ | refine Z0 ?_ | ((first | refine Wo fun K hK => ?_ | refine Wq ?_ | refine Wr ?_); (try simp only [go_sem, fN, seval, eT, iR, hf]); (repeat refine Ai ?_); (try (refine hK _ ?_; clear hK K)))
  with_reducible refine Wp ?_
  simp only [go_sem, fN, seval, true_implies, false_implies, implies_true, dT, dF, nL, hf]
  (try with_reducible refine iC ?_)
  repeat' with_reducible first | refine W ?_ | refine Z0 ?_ | ((first | refine Wo fun K hK => ?_ | refine Wq ?_ | refine Wr ?_); (try simp only [go_sem, fN, seval, eT, iR]); (repeat refine Ai ?_); (try (refine hK _ ?_; clear hK K)))
  simp only [go_sem, fN, seval, AK, AS.result, AB, AD, AI]
  rw [hl]
  rfl

theorem U1 (s : List Bd) (t : Tm) (hz : t.size ≤ 1000000) : AN Tryz.prog 103 [Ft s, aTm t] (aTm (t.on s)) := by
 induction h : SizeOf.sizeOf t using Nat.strongRecOn generalizing t with
 | _ N ih =>
 subst h
 have hs := Tm.size_eq t
 have hkn := Tm.length_le t.args
 by_cases hleaf : (∃ x, lookup s t.name = some x) ∧ t.args = []
 ·obtain ⟨⟨x, hx⟩, h0⟩ := hleaf
  have h0' : (t.args.length : Int) = 0 := by rw [h0]; rfl
  rw [Tm.on_leaf hx h0]
  refine QQ.ac fun C hC => ?_
  unfold Md
  repeat' (first | (with_reducible first | refine W ?_ | refine Z0 ?_ | ((first | refine Wo fun K hK => ?_ | refine Wq ?_ | refine Wr ?_); (try simp only [go_sem, fN, seval, eT, iR, hx, h0', Option.isSome_some]); (repeat refine Ai ?_); (try (refine hK _ ?_; clear hK K)))) | refine Cg _ (OC s t.name) ?_)
  with_reducible refine Wp ?_
  simp only [go_sem, fN, seval, true_implies, false_implies, implies_true, dT, dF, nL]
  (try with_reducible refine iC ?_)
  repeat' with_reducible first | refine W ?_ | refine Z0 ?_ | ((first | refine Wo fun K hK => ?_ | refine Wq ?_ | refine Wr ?_); (try simp only [go_sem, fN, seval, eT, iR]); (repeat refine Ai ?_); (try (refine hK _ ?_; clear hK K)))
  simp only [go_sem, fN, seval, AK, AS.result, AB, AD, AI]
 ·have hon : t.on s = .mk t.name (t.args.map (Tm.on s)) := Tm.on_knot (by
   cases hl : lookup s t.name with
   | none => exact .inl rfl
   | some x => exact .inr fun h0 => hleaf ⟨⟨x, hl⟩, h0⟩)
  rw [hon]
  refine QQ.ac fun C hC => ?_
  unfold Md
  repeat' with_reducible first | refine W ?_ | refine Z0 ?_ | ((first | refine Wo fun K hK => ?_ | refine Wq ?_ | refine Wr ?_); (try simp only [go_sem, fN, seval, eT, iR]); (repeat refine Ai ?_); (try (refine hK _ ?_; clear hK K)))
  refine ⟨_, OC s t.name, ?_⟩
  cases hl : lookup s t.name
  case' none =>
   repeat' with_reducible first | refine W ?_ | refine Z0 ?_ | ((first | refine Wo fun K hK => ?_ | refine Wq ?_ | refine Wr ?_); (try simp only [go_sem, fN, seval, eT, iR, hl, Option.isSome_none]); (repeat refine Ai ?_); (try (refine hK _ ?_; clear hK K)))
   with_reducible refine Wp ?_
   simp only [go_sem, fN, seval, true_implies, false_implies, implies_true, dT, dF, nL]
   (try with_reducible refine iC ?_)
   repeat' with_reducible first | refine W ?_ | refine Z0 ?_ | ((first | refine Wo fun K hK => ?_ | refine Wq ?_ | refine Wr ?_); (try simp only [go_sem, fN, seval, eT, iR]); (repeat refine Ai ?_); (try (refine hK _ ?_; clear hK K)))
  case' some x =>
   have h0' : ¬ (t.args.length : Int) = 0 := fun h => hleaf ⟨⟨_, hl⟩, List.eq_nil_of_length_eq_zero (by omega)⟩
   repeat' with_reducible first | refine W ?_ | refine Z0 ?_ | ((first | refine Wo fun K hK => ?_ | refine Wq ?_ | refine Wr ?_); (try simp only [go_sem, fN, seval, eT, iR, hl, h0', Option.isSome_some]); (repeat refine Ai ?_); (try (refine hK _ ?_; clear hK K)))
   with_reducible refine Wp ?_
   simp only [go_sem, fN, seval, true_implies, false_implies, implies_true, dT, dF, nL]
   (try with_reducible refine iC ?_)
   repeat' with_reducible first | refine W ?_ | refine Z0 ?_ | ((first | refine Wo fun K hK => ?_ | refine Wq ?_ | refine Wr ?_); (try simp only [go_sem, fN, seval, eT, iR]); (repeat refine Ai ?_); (try (refine hK _ ?_; clear hK K)))
  all_goals
   refine IWP.ghost (Aa.ownC 7 1 44 25 2 (xs := ([] : List Tm).map Al) rfl rfl rfl C3) ?_
   refine IWP.loop (fun m x => ∃ k, k ≤ t.args.length ∧ m = t.args.length - k ∧ x.env 0 = Ft s ∧ x.env 3 = .one (.ptr 3 1 0 0) ∧ x.env 4 = .one (.ptr 4 1 0 0) ∧ x.env 7 = .one (.ptr 7 1 0 0) ∧ x.S 3 = some (.box 25 [.st (.str t.name), .st (.list (t.args.map Al))]) ∧ x.S 4 = some (.box 25 [.st (.str ⟨#[]⟩), .full []]) ∧ x.S 7 = some (.box 25 [.st (.str t.name), .row 44 k]) ∧ x.S 44 = some (.arow 25 2 (((t.args.take k).map (Tm.on s)).map Al)) ∧ x.env 8 = AO k)
    t.args.length ⟨0, Nat.zero_le _, rfl, rfl, rfl, rfl, rfl, rfl, rfl, rfl, rfl, rfl⟩ ?_
   rintro m ⟨env, S⟩ ⟨k, hk, rfl, e0, e3, e4, e7, s3, s4, s7, s44, e8⟩
   simp only at e0 e3 e4 e7 s3 s4 s7 s44 e8
   have hlk : (t.args.take k).length = k := by rw [List.length_take]; omega
   by_cases hlt : (k : Int) < t.args.length
   ·obtain ⟨a, ha⟩ := Af (show k < t.args.length by omega)
    repeat' with_reducible first | refine W ?_ | refine Z0 ?_ | ((first | refine Wo fun K hK => ?_ | refine Wq ?_ | refine Wr ?_); (try simp only [go_sem, fN, seval, eT, iR, e0, e3, e4, e7, s3, s4, s7, s44, e8, hlt]); (repeat refine Ai ?_); (try (refine hK _ ?_; clear hK K)))
    with_reducible refine Wp ?_
    simp only [go_sem, fN, seval, true_implies, false_implies, implies_true, dT, dF, nL, hlt]
    (try with_reducible refine iC ?_)
    repeat' (first | (with_reducible first | refine W ?_ | refine Z0 ?_ | ((first | refine Wo fun K hK => ?_ | refine Wq ?_ | refine Wr ?_); (try simp only [go_sem, fN, seval, eT, iR, e0, e3, e4, e7, s3, s4, s7, s44, e8, ha, hlk]); (repeat refine Ai ?_); (try (refine hK _ ?_; clear hK K)))) | refine Cg _ (ih _ (Tm.lt_of_arg (AP ha)) a (by have := Tm.size_mem (AP ha); omega) rfl) ?_)
    refine AF ⟨t.args.length - (k + 1), by omega, k + 1, by omega, rfl, ?_⟩
    simp only [go_sem, fN, seval, eT, iR, e0, e3, e4, e7, s3, s4, s7, s44, e8]
    exact ⟨by rw [Ak ha]; simp [BI], by congr 3⟩
   ·repeat' with_reducible first | refine W ?_ | refine Z0 ?_ | ((first | refine Wo fun K hK => ?_ | refine Wq ?_ | refine Wr ?_); (try simp only [go_sem, fN, seval, eT, iR, e0, e3, e4, e7, s3, s4, s7, s44, e8, hlt]); (repeat refine Ai ?_); (try (refine hK _ ?_; clear hK K)))
    with_reducible refine Wp ?_
    simp only [go_sem, fN, seval, true_implies, false_implies, implies_true, dT, dF, nL, hlt]
    (try with_reducible refine iC ?_)
    have hall : t.args.take k = t.args := List.take_of_length_le (by omega)
    rw [hall] at hlk s44
    repeat' with_reducible first | refine W ?_ | refine Z0 ?_ | ((first | refine Wo fun K hK => ?_ | refine Wq ?_ | refine Wr ?_); (try simp only [go_sem, fN, seval, eT, iR, e0, e3, e4, e7, s3, s4, s7, s44, e8, hlk]); (repeat refine Ai ?_); (try (refine hK _ ?_; clear hK K)))
    simp only [go_sem, fN, seval, AK, AS.result, AB, AD, AI, e4, s44, hlk]
    rfl
theorem QG (s : List Bd) (t : Tm) (m : Int) (h0 : 0 ≤ m) (h1 : m ≤ 9223372036854775806) : AN Tryz.prog 102 [Ft s, aTm t, AO m] (AO (Az (t.on s).size m)) := by
 induction h : SizeOf.sizeOf t using Nat.strongRecOn generalizing t m with
 | _ N ih =>
 subst h
 by_cases hleaf : (∃ x, lookup s t.name = some x) ∧ t.args = []
 ·obtain ⟨⟨x, hx⟩, ha0⟩ := hleaf
  have h0' : (t.args.length : Int) = 0 := by rw [ha0]; rfl
  rw [Tm.on_leaf hx ha0]
  refine JT.ac fun C hC => ?_
  unfold Gm
  repeat' (first | (with_reducible first | refine W ?_ | refine Z0 ?_ | ((first | refine Wo fun K hK => ?_ | refine Wq ?_ | refine Wr ?_); (try simp only [go_sem, fN, seval, eT, iR, hx, h0', Option.isSome_some]); (repeat refine Ai ?_); (try (refine hK _ ?_; clear hK K)))) | refine Cg _ (OC s t.name) ?_)
  with_reducible refine Wp ?_
  simp only [go_sem, fN, seval, true_implies, false_implies, implies_true, dT, dF, nL]
  (try with_reducible refine iC ?_)
  repeat' (first | (with_reducible first | refine W ?_ | refine Z0 ?_ | ((first | refine Wo fun K hK => ?_ | refine Wq ?_ | refine Wr ?_); (try simp only [go_sem, fN, seval, eT, iR]); (repeat refine Ai ?_); (try (refine hK _ ?_; clear hK K)))) | refine Cg _ (DF x m h0 h1) ?_)
  simp only [go_sem, fN, seval, AK, AS.result, AB, AD, AI]
 ·have hon : t.on s = .mk t.name (t.args.map (Tm.on s)) := Tm.on_knot (by
   cases hl : lookup s t.name with
   | none => exact .inl rfl
   | some x => exact .inr fun h0 => hleaf ⟨⟨x, hl⟩, h0⟩)
  have hs : (t.on s).size = 1 + Tm.sizes (t.args.map (Tm.on s)) := by rw [hon]; rfl
  refine JT.ac fun C hC => ?_
  unfold Gm
  refine IWP.learn 1 (by omega) fun hkn => ?_
  have hkn := Fm hkn
  repeat' with_reducible first | refine W ?_ | refine Z0 ?_ | ((first | refine Wo fun K hK => ?_ | refine Wq ?_ | refine Wr ?_); (try simp only [go_sem, fN, seval, eT, iR]); (repeat refine Ai ?_); (try (refine hK _ ?_; clear hK K)))
  refine ⟨_, OC s t.name, ?_⟩
  cases hl : lookup s t.name
  case' none =>
   repeat' with_reducible first | refine W ?_ | refine Z0 ?_ | ((first | refine Wo fun K hK => ?_ | refine Wq ?_ | refine Wr ?_); (try simp only [go_sem, fN, seval, eT, iR, hl, Option.isSome_none]); (repeat refine Ai ?_); (try (refine hK _ ?_; clear hK K)))
   with_reducible refine Wp ?_
   simp only [go_sem, fN, seval, true_implies, false_implies, implies_true, dT, dF, nL]
   (try with_reducible refine iC ?_)
   repeat' with_reducible first | refine W ?_ | refine Z0 ?_ | ((first | refine Wo fun K hK => ?_ | refine Wq ?_ | refine Wr ?_); (try simp only [go_sem, fN, seval, eT, iR]); (repeat refine Ai ?_); (try (refine hK _ ?_; clear hK K)))
  case' some x =>
   have h0' : ¬ (t.args.length : Int) = 0 := fun h => hleaf ⟨⟨_, hl⟩, List.eq_nil_of_length_eq_zero (by omega)⟩
   repeat' with_reducible first | refine W ?_ | refine Z0 ?_ | ((first | refine Wo fun K hK => ?_ | refine Wq ?_ | refine Wr ?_); (try simp only [go_sem, fN, seval, eT, iR, hl, h0', Option.isSome_some]); (repeat refine Ai ?_); (try (refine hK _ ?_; clear hK K)))
   with_reducible refine Wp ?_
   simp only [go_sem, fN, seval, true_implies, false_implies, implies_true, dT, dF, nL]
   (try with_reducible refine iC ?_)
   repeat' with_reducible first | refine W ?_ | refine Z0 ?_ | ((first | refine Wo fun K hK => ?_ | refine Wq ?_ | refine Wr ?_); (try simp only [go_sem, fN, seval, eT, iR]); (repeat refine Ai ?_); (try (refine hK _ ?_; clear hK K)))
  all_goals
   refine IWP.loop (fun n x => ∃ k, k ≤ t.args.length ∧ n = t.args.length - k ∧ x.env 9 = AO (Az (1 + Tm.sizes ((t.args.take k).map (Tm.on s))) m) ∧ x.env 0 = Ft s ∧ x.env 2 = AO m ∧ x.env 4 = .one (.ptr 4 1 0 0) ∧ x.env 10 = AO k ∧ x.S 4 = some (.box 25 [.st (.str t.name), .st (.list (t.args.map Al))])) t.args.length ⟨0, Nat.zero_le _, rfl, by
    simp only [go_sem, fN, seval, eT, iR]
    rw [Az]
    have z0 : Tm.sizes [] = 0 := rfl
    congr 3
    split <;> omega, rfl, rfl, rfl, rfl, rfl⟩ ?_
   rintro n ⟨env, S⟩ ⟨k, hk, rfl, e9, e0, e2, e4, e10, s4⟩
   simp only at e9 e0 e2 e4 e10 s4
   have z4 := Ha (1 + Tm.sizes ((t.args.take k).map (Tm.on s))) m h0
   have zle : 1 + Tm.sizes ((t.args.take k).map (Tm.on s)) ≤ (t.on s).size := by
    rw [hs, List.map_take]
    have := Tm.sizes_take_le (t.args.map (Tm.on s)) k
    omega
   by_cases hlt : (k : Int) < t.args.length
   ·obtain ⟨a, ha⟩ := Af (show k < t.args.length by omega)
    have ha' : (t.args.map (Tm.on s))[k]? = some (a.on s) := by rw [List.getElem?_map, ha]; rfl
    have z1 := Tm.sizes_take ha'
    rw [← List.map_take, ← List.map_take] at z1
    by_cases hb : m < Az (1 + Tm.sizes ((t.args.take k).map (Tm.on s))) m
    ·have hb' : ¬ Az (1 + Tm.sizes ((t.args.take k).map (Tm.on s))) m ≤ m := by omega
     repeat' with_reducible first | refine W ?_ | refine Z0 ?_ | ((first | refine Wo fun K hK => ?_ | refine Wq ?_ | refine Wr ?_); (try simp only [go_sem, fN, seval, eT, iR, e9, e0, e2, e4, e10, s4, hlt, hb']); (repeat refine Ai ?_); (try (refine hK _ ?_; clear hK K)))
     with_reducible refine Wp ?_
     simp only [go_sem, fN, seval, true_implies, false_implies, implies_true, dT, dF, nL, hb']
     (try with_reducible refine iC ?_)
     repeat' with_reducible first | refine W ?_ | refine Z0 ?_ | ((first | refine Wo fun K hK => ?_ | refine Wq ?_ | refine Wr ?_); (try simp only [go_sem, fN, seval, eT, iR, e9, e2]); (repeat refine Ai ?_); (try (refine hK _ ?_; clear hK K)))
     with_reducible refine Wp ?_
     simp only [go_sem, fN, seval, true_implies, false_implies, implies_true, dT, dF, nL, hb]
     (try with_reducible refine iC ?_)
     repeat' with_reducible first | refine W ?_ | refine Z0 ?_ | ((first | refine Wo fun K hK => ?_ | refine Wq ?_ | refine Wr ?_); (try simp only [go_sem, fN, seval, eT, iR, e2]); (repeat refine Ai ?_); (try (refine hK _ ?_; clear hK K)))
     simp only [go_sem, fN, seval, AK, AS.result, AB, AD, AI]
     rw [Eo hb zle]
    ·have hb' : Az (1 + Tm.sizes ((t.args.take k).map (Tm.on s))) m ≤ m := by omega
     obtain ⟨b1, b2⟩ := Hb hb
     repeat' with_reducible first | refine W ?_ | refine Z0 ?_ | ((first | refine Wo fun K hK => ?_ | refine Wq ?_ | refine Wr ?_); (try simp only [go_sem, fN, seval, eT, iR, e9, e0, e2, e4, e10, s4, hlt, hb']); (repeat refine Ai ?_); (try (refine hK _ ?_; clear hK K)))
     with_reducible refine Wp ?_
     simp only [go_sem, fN, seval, true_implies, false_implies, implies_true, dT, dF, nL, hb']
     (try with_reducible refine iC ?_)
     repeat' with_reducible first | refine W ?_ | refine Z0 ?_ | ((first | refine Wo fun K hK => ?_ | refine Wq ?_ | refine Wr ?_); (try simp only [go_sem, fN, seval, eT, iR, e9, e0, e2, e4, e10, s4, ha]); (repeat refine Ai ?_); (try (refine hK _ ?_; clear hK K)))
     refine ⟨_, ih _ (Tm.lt_of_arg (AP ha)) a (m - Az (1 + Tm.sizes ((t.args.take k).map (Tm.on s))) m) (by omega) (by omega) rfl, ?_⟩
     have z5 := Ha (a.on s).size (m - Az (1 + Tm.sizes ((t.args.take k).map (Tm.on s))) m) (by omega)
     repeat' with_reducible first | refine W ?_ | refine Z0 ?_ | ((first | refine Wo fun K hK => ?_ | refine Wq ?_ | refine Wr ?_); (try simp only [go_sem, fN, seval, eT, iR, e9, e0, e2, e4, e10, s4]); (repeat refine Ai ?_); (try (refine hK _ ?_; clear hK K)))
     refine AF ⟨t.args.length - (k + 1), by omega, k + 1, by omega, rfl, ?_⟩
     simp only [go_sem, fN, seval, eT, iR, e9, e0, e2, e4, e10, s4]
     exact ⟨by rw [b1, JQ b2, z1]; congr 4; omega, by congr 3⟩
   ·repeat' with_reducible first | refine W ?_ | refine Z0 ?_ | ((first | refine Wo fun K hK => ?_ | refine Wq ?_ | refine Wr ?_); (try simp only [go_sem, fN, seval, eT, iR, e9, e0, e2, e4, e10, s4, hlt]); (repeat refine Ai ?_); (try (refine hK _ ?_; clear hK K)))
    with_reducible refine Wp ?_
    simp only [go_sem, fN, seval, true_implies, false_implies, implies_true, dT, dF, nL]
    (try with_reducible refine iC ?_)
    have hfull : 1 + Tm.sizes ((t.args.take k).map (Tm.on s)) = (t.on s).size := by rw [List.take_of_length_le (by omega), hs]
    rw [hfull] at e9 z4
    repeat' with_reducible first | refine W ?_ | refine Z0 ?_ | ((first | refine Wo fun K hK => ?_ | refine Wq ?_ | refine Wr ?_); (try simp only [go_sem, fN, seval, eT, iR, e9, e2]); (repeat refine Ai ?_); (try (refine hK _ ?_; clear hK K)))
    by_cases hb : m < Az (t.on s).size m
    ·with_reducible refine Wp ?_
     simp only [go_sem, fN, seval, true_implies, false_implies, implies_true, dT, dF, nL, hb]
     (try with_reducible refine iC ?_)
     repeat' with_reducible first | refine W ?_ | refine Z0 ?_ | ((first | refine Wo fun K hK => ?_ | refine Wq ?_ | refine Wr ?_); (try simp only [go_sem, fN, seval, eT, iR, e2]); (repeat refine Ai ?_); (try (refine hK _ ?_; clear hK K)))
     simp only [go_sem, fN, seval, AK, AS.result, AB, AD, AI]
     rw [Eo hb (Nat.le_refl _)]
    ·with_reducible refine Wp ?_
     simp only [go_sem, fN, seval, true_implies, false_implies, implies_true, dT, dF, nL, hb]
     (try with_reducible refine iC ?_)
     repeat' with_reducible first | refine W ?_ | refine Z0 ?_ | ((first | refine Wo fun K hK => ?_ | refine Wq ?_ | refine Wr ?_); (try simp only [go_sem, fN, seval, eT, iR, e9]); (repeat refine Ai ?_); (try (refine hK _ ?_; clear hK K)))
     simp only [go_sem, fN, seval, AK, AS.result, AB, AD, AI, e9]
def Bw (s : List Bd) (t : Tm) : Tm × Bool := if (t.on s).size ≤ 2000 then (t.on s, true) else (Tm.nil, false)
theorem To (s : List Bd) (t : Tm) (hz : t.size ≤ 1000000) : AN Tryz.prog 73 [Ft s, aTm t] (.tup [aTm (Bw s t).1, Ad (Bw s t).2]) := by
 by_cases hb : (2000 : Int) < Az (t.on s).size 2000
 ·have e : Bw s t = (Tm.nil, false) := by
   unfold Bw
   rw [if_neg]
   intro h
   unfold Az at hb
   split at hb <;> omega
  rw [e]
  refine QF.ac fun C hC => ?_
  unfold NB
  repeat' (first | (with_reducible first | refine W ?_ | refine Z0 ?_ | ((first | refine Wo fun K hK => ?_ | refine Wq ?_ | refine Wr ?_); (try simp only [go_sem, fN, seval, eT, iR, hb]); (repeat refine Ai ?_); (try (refine hK _ ?_; clear hK K)))) | refine Cg _ (QG s t 2000 (by omega) (by omega)) ?_)
  with_reducible refine Wp ?_
  simp only [go_sem, fN, seval, true_implies, false_implies, implies_true, dT, dF, nL, hb]
  (try with_reducible refine iC ?_)
  repeat' with_reducible first | refine W ?_ | refine Z0 ?_ | ((first | refine Wo fun K hK => ?_ | refine Wq ?_ | refine Wr ?_); (try simp only [go_sem, fN, seval, eT, iR]); (repeat refine Ai ?_); (try (refine hK _ ?_; clear hK K)))
  simp only [go_sem, fN, seval, AK, AS.result, AB, AD, AI]
  rfl
 ·have e : Bw s t = (t.on s, true) := by
   unfold Bw
   rw [if_pos]
   have := (Hb hb).2
   omega
  rw [e]
  refine QF.ac fun C hC => ?_
  unfold NB
  repeat' (first | (with_reducible first | refine W ?_ | refine Z0 ?_ | ((first | refine Wo fun K hK => ?_ | refine Wq ?_ | refine Wr ?_); (try simp only [go_sem, fN, seval, eT, iR, hb]); (repeat refine Ai ?_); (try (refine hK _ ?_; clear hK K)))) | refine Cg _ (QG s t 2000 (by omega) (by omega)) ?_)
  with_reducible refine Wp ?_
  simp only [go_sem, fN, seval, true_implies, false_implies, implies_true, dT, dF, nL, hb]
  (try with_reducible refine iC ?_)
  repeat' (first | (with_reducible first | refine W ?_ | refine Z0 ?_ | ((first | refine Wo fun K hK => ?_ | refine Wq ?_ | refine Wr ?_); (try simp only [go_sem, fN, seval, eT, iR]); (repeat refine Ai ?_); (try (refine hK _ ?_; clear hK K)))) | refine Cg _ (U1 s t hz) ?_)
  simp only [go_sem, fN, seval, AK, AS.result, AB, AD, AI]

def Tm.atP : Tm → List Int → Option Tm
 | t, [] => some t
 | t, i :: p => if i < 0 then none else match t.args[i.toNat]? with
  | some a => a.atP p
  | none => none
def Tm.putP : Tm → List Int → Tm → Tm
 | t, [], x => x
 | t, i :: p, x => match t.args[i.toNat]? with
  | some a => .mk t.name (t.args.set i.toNat (a.putP p x))
  | none => t
theorem Tm.atP_nil (t : Tm) : t.atP [] = some t := by cases t; rfl
theorem Tm.putP_nil (t x : Tm) : t.putP [] x = x := by cases t; rfl
theorem Tm.atP_cons (t : Tm) (i : Int) (p : List Int) : t.atP (i :: p) = if i < 0 then none else match t.args[i.toNat]? with
  | some a => a.atP p
  | none => none := by cases t; rfl
theorem Tm.putP_cons (t : Tm) (i : Int) (p : List Int) (x : Tm) : t.putP (i :: p) x = match t.args[i.toNat]? with
  | some a => .mk t.name (t.args.set i.toNat (a.putP p x))
  | none => t := by cases t; rfl
theorem Tm.atP_at {t a : Tm} {k : Nat} (h : t.args[k]? = some a) (p : List Int) : t.atP ((k : Int) :: p) = a.atP p := by
 rw [Tm.atP_cons, if_neg (by omega), Int.toNat_natCast, h]
theorem Tm.putP_at {t a : Tm} {k : Nat} (h : t.args[k]? = some a) (p : List Int) (x : Tm) : t.putP ((k : Int) :: p) x = .mk t.name (t.args.set k (a.putP p x)) := by
 rw [Tm.putP_cons, Int.toNat_natCast, h]
def atT (T : Tm → Bool) (t : Tm) (p : List Int) : Bool := match t.atP p with
 | some x => T x
 | none => false
mutual
def Tm.findP (T : Tm → Bool) : Tm → Option (List Int)
 | .mk n xs => if T (.mk n xs) = true then some [] else Tm.findPL T 0 xs
def Tm.findPL (T : Tm → Bool) : Nat → List Tm → Option (List Int)
 | _, [] => none
 | k, x :: xs => match x.findP T with
  | some p => some ((k : Int) :: p)
  | none => Tm.findPL T (k + 1) xs
end
mutual
theorem Tm.places_find (T : Tm → Bool) : ∀ t : Tm, t.places.find? (atT T t) = t.findP T
 | .mk n xs => by
  rw [Tm.places, Tm.findP, List.find?_cons]
  by_cases h : T (.mk n xs) = true
  ·rw [show atT T (.mk n xs) [] = true from h, if_pos h]
  ·rw [show atT T (.mk n xs) [] = false by
    rw [← Bool.not_eq_true]
    exact h, if_neg h]
   exact Tm.placesFrom_find T n xs 0 xs (by simp)
theorem Tm.placesFrom_find (T : Tm → Bool) (n : ByteArray) (all : List Tm) : ∀ (k : Nat) (xs : List Tm), all.drop k = xs → (Tm.placesFrom k xs).find? (atT T (.mk n all)) = Tm.findPL T k xs
 | _, [], _ => rfl
 | k, x :: xs, h => by
  have hk : all[k]? = some x := by
   have := congrArg (fun l => l[0]?) h
   simpa using this
  rw [Tm.placesFrom, Tm.findPL, List.find?_append, List.find?_map]
  have e : (atT T (.mk n all) ∘ fun p => (k : Int) :: p) = atT T x := by
   funext p
   show atT T (.mk n all) ((k : Int) :: p) = atT T x p
   unfold atT
   rw [Tm.atP_at (t := .mk n all) hk]
  rw [e, Tm.places_find T x, Tm.placesFrom_find T n all (k + 1) xs (by rw [← List.tail_drop, h]; rfl)]
  cases x.findP T <;> rfl
end
mutual
theorem Tm.findP_at (T : Tm → Bool) : ∀ (t : Tm) (p : List Int), t.findP T = some p → ∃ x, t.atP p = some x ∧ T x = true ∧ x ∈ t.knots
 | .mk n xs, p, h => by
  rw [Tm.findP] at h
  split at h
  ·rename_i ht
   cases h
   exact ⟨_, rfl, ht, by rw [Tm.knots]; exact List.mem_cons_self⟩
  ·obtain ⟨x, h1, h2, h3⟩ := Tm.findPL_at T n xs 0 xs p (by simp) h
   exact ⟨x, h1, h2, by rw [Tm.knots]; exact List.mem_cons_of_mem _ h3⟩
theorem Tm.findPL_at (T : Tm → Bool) (n : ByteArray) (all : List Tm) : ∀ (k : Nat) (xs : List Tm) (p : List Int), all.drop k = xs → Tm.findPL T k xs = some p → ∃ x, (Tm.mk n all).atP p = some x ∧ T x = true ∧ x ∈ Tm.knotsL xs
 | _, [], p, _, h => by cases h
 | k, x :: xs, p, h, hf => by
  have hk : all[k]? = some x := by
   have := congrArg (fun l => l[0]?) h
   simpa using this
  rw [Tm.findPL] at hf
  split at hf
  ·rename_i q hq
   cases hf
   obtain ⟨y, h1, h2, h3⟩ := Tm.findP_at T x q hq
   exact ⟨y, by rw [Tm.atP_at (t := .mk n all) hk]; exact h1, h2, by rw [Tm.knotsL]; exact List.mem_append_left _ h3⟩
  ·obtain ⟨y, h1, h2, h3⟩ := Tm.findPL_at T n all (k + 1) xs p (by rw [← List.tail_drop, h]; rfl) hf
   exact ⟨y, h1, h2, by rw [Tm.knotsL]; exact List.mem_append_right _ h3⟩
end
def Fr (R : List Pr) (t : Tm) : Bool := R.any fun r => Bc r.1 t
def Bq (R : List Pr) (t : Tm) : List Pr → Option (Tm × Int)
 | [] => none
 | r :: l => if Bc r.1 t = true then (if (Bw (A4 r.1 t) r.2).2 = true then some ((Bw (A4 r.1 t) r.2).1, 0) else some (Tm.nil, 8)) else Bq R t l
def Cn (R : List Pr) (t : Tm) : Option (Tm × Int) := Bq R t R
theorem GU (R : List Pr) (t : Tm) : ∀ l : List Pr, Bq R t l = none ↔ l.any (fun r => Bc r.1 t) = false
 | [] => by simp [Bq]
 | r :: l => by
  rw [Bq, List.any_cons, Bool.or_eq_false_iff, ← GU R t l]
  by_cases h : Bc r.1 t = true
  ·rw [if_pos h, h]
   split <;> simp
  ·rw [if_neg h]
   simp only [Bool.not_eq_true] at h
   simp [h]
theorem Ch {R : List Pr} {t : Tm} : Cn R t = none ↔ Fr R t = false := GU R t R
theorem H7 {R : List Pr} {t x : Tm} {e : Int} : ∀ {l : List Pr}, Bq R t l = some (x, e) → (e = 0 ∨ e = 8) ∧ x.size ≤ 2000 ∧ (e = 8 → x = Tm.nil)
 | [], h => by cases h
 | r :: l, h => by
  rw [Bq] at h
  split at h
  ·split at h
   ·cases h
    refine ⟨.inl rfl, ?_, by simp⟩
    unfold Bw
    split
    ·assumption
    ·decide
   ·cases h
    exact ⟨.inr rfl, by decide, fun _ => rfl⟩
  ·exact H7 h
mutual
def Tm.inn (R : List Pr) : Tm → Option (Tm × Int)
 | .mk n xs => match Tm.innL R xs with
  | some (ys, e) => some (.mk n ys, e)
  | none => Cn R (.mk n xs)
def Tm.innL (R : List Pr) : List Tm → Option (List Tm × Int)
 | [] => none
 | x :: xs => match Tm.inn R x with
  | some (y, e) => some (y :: xs, e)
  | none => match Tm.innL R xs with
   | some (ys, e) => some (x :: ys, e)
   | none => none
end
mutual
def Tm.out (R : List Pr) : Tm → Option (Tm × Int)
 | .mk n xs => match Cn R (.mk n xs) with
  | some r => some r
  | none => match Tm.outL R xs with
   | some (ys, e) => some (.mk n ys, e)
   | none => none
def Tm.outL (R : List Pr) : List Tm → Option (List Tm × Int)
 | [] => none
 | x :: xs => match Tm.out R x with
  | some (y, e) => some (y :: xs, e)
  | none => match Tm.outL R xs with
   | some (ys, e) => some (x :: ys, e)
   | none => none
end
theorem Tm.inn_eq (R : List Pr) (t : Tm) : t.inn R = match Tm.innL R t.args with
  | some (ys, e) => some (.mk t.name ys, e)
  | none => Cn R t := by cases t; rfl
theorem Tm.out_eq (R : List Pr) (t : Tm) : t.out R = match Cn R t with
  | some r => some r
  | none => match Tm.outL R t.args with
   | some (ys, e) => some (.mk t.name ys, e)
   | none => none := by cases t; rfl
def Rb (R : List Pr) (xs : List Tm) : Bool := (Tm.knotsL xs).any (Fr R)
def Gu (R : List Pr) (x : Tm) : Bool := Fr R x && !Rb R x.args
mutual
theorem Tm.inn_none (R : List Pr) : ∀ t : Tm, t.inn R = none ↔ t.knots.any (Fr R) = false
 | .mk n xs => by
  rw [Tm.inn, Tm.knots, List.any_cons, Bool.or_eq_false_iff, ← Tm.innL_none R xs]
  cases Tm.innL R xs with
  | none => simp [Ch]
  | some r => simp
theorem Tm.innL_none (R : List Pr) : ∀ xs : List Tm, Tm.innL R xs = none ↔ (Tm.knotsL xs).any (Fr R) = false
 | [] => by simp [Tm.innL, Tm.knotsL]
 | x :: xs => by
  rw [Tm.innL, Tm.knotsL, List.any_append, Bool.or_eq_false_iff, ← Tm.innL_none R xs, ← Tm.inn_none R x]
  cases Tm.inn R x with
  | some r => simp
  | none => cases Tm.innL R xs <;> simp
end
def DQ (R : List Pr) (t : Tm) : Option (List Int) → Option (Tm × Int)
 | none => none
 | some p => match t.atP p with
  | none => none
  | some x => (Cn R x).map fun r => (t.putP p r.1, r.2)
mutual
theorem Tm.inn_find (R : List Pr) : ∀ t : Tm, t.inn R = DQ R t (t.findP (Gu R))
 | .mk n xs => by
  rw [Tm.inn, Tm.findP]
  by_cases h : Gu R (.mk n xs) = true
  ·rw [if_pos h]
   unfold Gu at h
   rw [Bool.and_eq_true, Bool.not_eq_true'] at h
   rw [(Tm.innL_none R xs).2 h.2]
   simp only [DQ, Tm.atP]
   cases Cn R (.mk n xs) <;> simp [Tm.putP]
  ·rw [if_neg h]
   have key := Tm.innL_find R n xs 0 xs (by simp)
   cases hi : Tm.innL R xs with
   | some r =>
    rw [← key, hi]
    simp
   | none =>
    rw [hi] at key
    rw [← key]
    have h1 := (Tm.innL_none R xs).1 hi
    show Cn R (.mk n xs) = none
    rw [Ch, ← Bool.not_eq_true]
    intro hf
    exact h (by unfold Gu; rw [hf, show Rb R (Tm.mk n xs).args = false from h1]; rfl)
theorem Tm.innL_find (R : List Pr) (n : ByteArray) (all : List Tm) : ∀ (k : Nat) (xs : List Tm), all.drop k = xs → (match Tm.innL R xs with
   | some r => some (Tm.mk n (all.take k ++ r.1), r.2)
   | none => none) = DQ R (.mk n all) (Tm.findPL (Gu R) k xs)
 | _, [], _ => rfl
 | k, x :: xs, h => by
  have hk : all[k]? = some x := by
   have := congrArg (fun l => l[0]?) h
   simpa using this
  have hlt : k < all.length := (List.getElem?_eq_some_iff.1 hk).1
  have hd : all.drop (k + 1) = xs := by rw [← List.tail_drop, h]; rfl
  rw [Tm.innL, Tm.findPL, Tm.inn_find R x]
  cases hp : x.findP (Gu R) with
  | some p =>
   simp only [DQ]
   rw [Tm.atP_at (t := .mk n all) hk]
   cases hx : x.atP p with
   | none =>
    obtain ⟨y, hy, _⟩ := Tm.findP_at _ x p hp
    rw [hx] at hy
    cases hy
   | some y =>
    cases hr : Cn R y with
    | none =>
     obtain ⟨y', hy, h1, _⟩ := Tm.findP_at _ x p hp
     rw [hx] at hy
     cases hy
     unfold Gu at h1
     rw [Bool.and_eq_true] at h1
     rw [Ch.1 hr] at h1
     exact absurd h1.1 (by simp)
    | some r =>
     simp only [Option.map_some, hr]
     rw [Tm.putP_at (t := .mk n all) hk]
     simp only [Tm.name_mk, Tm.args_mk]
     rw [List.set_eq_take_append_cons_drop, if_pos hlt, hd]
  | none =>
   have key := Tm.innL_find R n all (k + 1) xs hd
   simp only [DQ] at key ⊢
   rw [← key]
   cases Tm.innL R xs with
   | none => rfl
   | some r =>
    simp only
    rw [List.take_add_one, hk]
    simp
end
mutual
theorem Tm.out_find (R : List Pr) : ∀ t : Tm, t.out R = DQ R t (t.findP (Fr R))
 | .mk n xs => by
  rw [Tm.out, Tm.findP]
  by_cases h : Fr R (.mk n xs) = true
  ·rw [if_pos h]
   simp only [DQ, Tm.atP]
   cases hr : Cn R (.mk n xs) with
   | none =>
    rw [Ch.1 hr] at h
    cases h
   | some r => simp [Tm.putP]
  ·rw [if_neg h, ← Tm.outL_find R n xs 0 xs (by simp), Ch.2 (by simpa using h)]
   cases Tm.outL R xs <;> simp
theorem Tm.outL_find (R : List Pr) (n : ByteArray) (all : List Tm) : ∀ (k : Nat) (xs : List Tm), all.drop k = xs → (match Tm.outL R xs with
   | some r => some (Tm.mk n (all.take k ++ r.1), r.2)
   | none => none) = DQ R (.mk n all) (Tm.findPL (Fr R) k xs)
 | _, [], _ => rfl
 | k, x :: xs, h => by
  have hk : all[k]? = some x := by
   have := congrArg (fun l => l[0]?) h
   simpa using this
  have hlt : k < all.length := (List.getElem?_eq_some_iff.1 hk).1
  have hd : all.drop (k + 1) = xs := by rw [← List.tail_drop, h]; rfl
  rw [Tm.outL, Tm.findPL, Tm.out_find R x]
  cases hp : x.findP (Fr R) with
  | some p =>
   simp only [DQ]
   rw [Tm.atP_at (t := .mk n all) hk]
   cases hx : x.atP p with
   | none =>
    obtain ⟨y, hy, _⟩ := Tm.findP_at _ x p hp
    rw [hx] at hy
    cases hy
   | some y =>
    cases hr : Cn R y with
    | none =>
     obtain ⟨y', hy, h1, _⟩ := Tm.findP_at _ x p hp
     rw [hx] at hy
     cases hy
     rw [Ch.1 hr] at h1
     cases h1
    | some r =>
     simp only [Option.map_some, hr]
     rw [Tm.putP_at (t := .mk n all) hk]
     simp only [Tm.name_mk, Tm.args_mk]
     rw [List.set_eq_take_append_cons_drop, if_pos hlt, hd]
  | none =>
   have key := Tm.outL_find R n all (k + 1) xs hd
   simp only [DQ] at key ⊢
   rw [← key]
   cases Tm.outL R xs with
   | none => rfl
   | some r =>
    simp only
    rw [List.take_add_one, hk]
    simp
end
def BN (step : Tm → Option (Tm × Int)) : Nat → Int → Tm → Tm × Int × Int
 | 0, n, t => match step t with
  | none => (t, n, 0)
  | some _ => (Tm.nil, 0, 9)
 | k + 1, n, t => match step t with
  | none => (t, n, 0)
  | some (x, e) => if e ≠ 0 then (Tm.nil, 0, e) else if 2000 < x.size then (Tm.nil, 0, 8) else BN step k (n + 1) x


structure OkB (s : List Bd) : Prop where
 ord : Bh s
 var : ∀ b ∈ s, A0 b.1 = true
 nam : ∀ b ∈ s, A5 b.1 = true
 chk : ∀ b ∈ s, b.2.chk = 0
theorem MG {t : Tm} (h : t.chk = 0) : Ba t = 0 := by
 rw [Tm.chk_eq] at h
 by_cases h1 : Ba t = 0
 ·exact h1
 ·rw [if_neg h1] at h; exact h
theorem Oh {n : ByteArray} {xs ys : List Tm} (h : (Tm.mk n xs).chk = 0) (hl : ys.length = xs.length) (hy : ∀ y ∈ ys, y.chk = 0) : (Tm.mk n ys).chk = 0 := by
 have h1 : Ba (Tm.mk n ys) = 0 := by
  have := MG h
  unfold Ba at this ⊢
  rw [Tm.name_mk, Tm.args_mk] at this ⊢
  rw [hl]; exact this
 rw [Tm.chk_eq, if_pos h1, Tm.args_mk]
 clear h h1 hl
 induction ys with
 | nil => rfl
 | cons x ys ih =>
  simp only [Tm.chkL]
  rw [if_pos (hy x (by simp))]
  exact ih fun y h => hy y (by simp [h])
theorem P1 {s : List Bd} (hs : ∀ b ∈ s, b.2.chk = 0) {t : Tm} (hc : t.chk = 0) : (t.on s).chk = 0 := by
 induction hN : SizeOf.sizeOf t using Nat.strongRecOn generalizing t with
 | _ N ih =>
 subst hN
 obtain ⟨c1, c2⟩ := Tm.chk_args hc
 by_cases hleaf : (∃ x, lookup s t.name = some x) ∧ t.args = []
 ·obtain ⟨⟨x, hx⟩, h0⟩ := hleaf
  rw [Tm.on_leaf hx h0]
  obtain ⟨b, hb, _, rfl⟩ := J3 hx
  exact hs b hb
 ·have hon : t.on s = .mk t.name (t.args.map (Tm.on s)) := Tm.on_knot (by
   cases hl : lookup s t.name with
   | none => exact .inl rfl
   | some x => exact .inr fun h0 => hleaf ⟨⟨x, hl⟩, h0⟩)
  rw [hon]
  refine Oh (xs := t.args) (by cases t; exact hc) (by simp) fun y hy => ?_
  obtain ⟨c, hc', rfl⟩ := List.mem_map.1 hy
  exact ih _ (Tm.lt_of_arg hc') (c2 c hc') rfl

def Px (l m : List Bd) : Prop := ∀ n x, lookup l n = some x → lookup m n = some x
theorem Px.trans {a b c : List Bd} (h : Px a b) (k : Px b c) : Px a c := fun n x e => k n x (h n x e)
def QC (b : Bd) : Prop := A0 b.1 = true ∧ A5 b.1 = true ∧ b.2.chk = 0
theorem RN {t : Tm} (h : t.chk = 0) : A5 t.name = true := by
 have := MG h
 unfold Ba at this
 split at this
 ·assumption
 ·cases this
mutual
theorem P5 : ∀ (p : Tm), p.chk = 0 → ∀ (t : Tm), t.chk = 0 → ∀ (l : List Bd), (∀ b ∈ l, QC b) → ∀ b ∈ (p.mt t l).1, QC b
 | .mk n xs, hc, t, ht, l, hl => by
  obtain ⟨c1, c2⟩ := Tm.chk_args hc
  simp only [Tm.name_mk, Tm.args_mk] at c1 c2
  rw [Tm.mt]
  split
  ·rename_i hv
   split
   ·exact hl
   ·intro b hb
    rcases List.mem_append.1 hb with hb | hb
    ·exact hl b hb
    ·rw [List.mem_singleton] at hb
     subst hb
     exact ⟨hv, RN hc, ht⟩
  ·split
   ·exact Nj xs c2 t.args (Tm.chk_args ht).2 l hl
   ·exact hl
theorem Nj : ∀ (xs : List Tm), (∀ x ∈ xs, x.chk = 0) → ∀ (ys : List Tm), (∀ y ∈ ys, y.chk = 0) → ∀ (l : List Bd), (∀ b ∈ l, QC b) → ∀ b ∈ (Tm.mtL xs ys l).1, QC b
 | [], _, ys, _, l, hl => by rw [Tm.mtL_nil]; exact hl
 | x :: xs, _, [], _, l, hl => by rw [Tm.mtL]; exact hl; simp
 | x :: xs, hc, y :: ys, hy, l, hl => by
  rw [Tm.mtL]
  have h1 := P5 x (hc x (by simp)) y (hy y (by simp)) l hl
  split
  ·exact Nj xs (fun a ha => hc a (by simp [ha])) ys (fun a ha => hy a (by simp [ha])) _ h1
  ·exact h1
end
section
variable {p t : Tm}
theorem Mv (hp : p.chk = 0) (ht : t.chk = 0) : OkB (A4 p t) := by
 unfold A4
 have hg := P5 p hp t ht [] (by simp)
 split
 ·exact ⟨CZ (J9 p t), fun b hb => (hg b (IF.1 hb)).1, fun b hb => (hg b (IF.1 hb)).2.1, fun b hb => (hg b (IF.1 hb)).2.2⟩
 ·exact ⟨List.Pairwise.nil, by simp, by simp, by simp⟩
theorem N7 : (A4 p t).length ≤ p.size := by
 unfold A4
 split
 ·rw [Bo]; exact PI p t
 ·simp
end

def Dp {α : Type} (f : α → Int) : List α → Int
 | [] => 0
 | x :: xs => if f x = 0 then Dp f xs else f x
theorem Fd {α : Type} (f : α → Int) : ∀ xs ys : List α, Dp f (xs ++ ys) = if Dp f xs = 0 then Dp f ys else Dp f xs
 | [], ys => rfl
 | x :: xs, ys => by
  by_cases h : f x = 0
  ·have e1 : Dp f (x :: (xs ++ ys)) = Dp f (xs ++ ys) := if_pos h
   have e2 : Dp f (x :: xs) = Dp f xs := if_pos h
   rw [List.cons_append, e1, e2, Fd f xs ys]
  ·have e1 : Dp f (x :: (xs ++ ys)) = f x := if_neg h
   have e2 : Dp f (x :: xs) = f x := if_neg h
   rw [List.cons_append, e1, e2, if_neg h]
theorem Nu {α : Type} {f : α → Int} {xs : List α} {k : Nat} {a : α} (h : xs[k]? = some a) (h0 : Dp f (xs.take k) = 0) : (f a = 0 → Dp f (xs.take (k + 1)) = 0) ∧ (f a ≠ 0 → Dp f xs = f a) := by
 refine ⟨fun ha => ?_, fun ha => ?_⟩
 ·rw [Ak h, Fd, if_pos h0]
  simp [Dp, ha]
 ·have e : xs = xs.take k ++ a :: xs.drop (k + 1) := by
   rw [← Bf h, List.take_append_drop]
  rw [e, Fd, if_pos h0]
  simp [Dp, ha]
theorem LK {α : Type} {f : α → Int} : ∀ {xs : List α}, Dp f xs = 0 → ∀ x ∈ xs, f x = 0
 | [], _, x, h => by cases h
 | y :: ys, h0, x, hx => by
  rw [Dp] at h0
  by_cases hy : f y = 0
  ·rw [if_pos hy] at h0
   rcases List.mem_cons.1 hx with rfl | hx
   ·exact hy
   ·exact LK h0 x hx
  ·rw [if_neg hy] at h0
   exact absurd h0 hy
def GV (r : Pr) : Bool := r.2.varsOf.any fun v => !CQ v r.1.varsOf
def Da (r : Pr) : Int := if Bx r.1 r.2 = 0 then (if A0 r.1.name = true then 2 else if GV r = true then 15 else 0) else Bx r.1 r.2
def A3 (R : List Pr) : Int := if 40 < R.length then 3 else Dp Da R
structure A1 (R : List Pr) : Prop where
 len : R.length ≤ 40
 left : ∀ r ∈ R, r.1.may = 0
 right : ∀ r ∈ R, r.2.may = 0
 head : ∀ r ∈ R, A0 r.1.name = false
 vars : ∀ r ∈ R, ∀ v ∈ r.2.varsOf, v ∈ r.1.varsOf
theorem M_ {r : Pr} (h : Da r = 0) : r.1.may = 0 ∧ r.2.may = 0 ∧ A0 r.1.name = false ∧ GV r = false := by
 unfold Da at h
 by_cases h1 : Bx r.1 r.2 = 0
 ·rw [if_pos h1] at h
  by_cases h2 : A0 r.1.name = true
  ·rw [if_pos h2] at h; cases h
  ·rw [if_neg h2] at h
   by_cases h3 : GV r = true
   ·rw [if_pos h3] at h; cases h
   ·unfold Bx at h1
    by_cases h4 : r.1.may = 0
    ·rw [if_pos h4] at h1
     exact ⟨h4, h1, by simpa using h2, by simpa using h3⟩
    ·rw [if_neg h4] at h1
     exact absurd h1 h4
 ·rw [if_neg h1] at h
  exact absurd h h1
theorem F4 {R : List Pr} (h : A3 R = 0) : A1 R := by
 unfold A3 at h
 by_cases h0 : 40 < R.length
 ·rw [if_pos h0] at h; cases h
 ·rw [if_neg h0] at h
  have key := fun r hr => M_ (LK h r hr)
  refine ⟨by omega, fun r hr => (key r hr).1, fun r hr => (key r hr).2.1, fun r hr => (key r hr).2.2.1, fun r hr v hv => ?_⟩
  have := (key r hr).2.2.2
  unfold GV at this
  rw [List.any_eq_false] at this
  have := this v hv
  simp only [Bool.not_eq_true', Bool.not_eq_false] at this
  exact HC.1 this
def CA (R : List Pr) (t : Tm) : Int := if A3 R = 0 then t.may else A3 R
def D4 (t : Tm) : Nat → List Pr → Tm × Int × Int
 | _, [] => (Tm.nil, -1, 0)
 | k, r :: l => if Bc r.1 t = true then ((Bw (A4 r.1 t) r.2).1, (k : Int), if (Bw (A4 r.1 t) r.2).2 = true then 0 else 8) else D4 t (k + 1) l
theorem Mw {s : List Bd} {t : Tm} (h : ¬ (Bw s t).2 = true) : (Bw s t).1 = Tm.nil := by
 unfold Bw at *
 split
 ·rename_i h1
  rw [if_pos h1] at h
  exact absurd rfl h
 ·rfl
theorem J0 (R : List Pr) (t : Tm) : ∀ (l : List Pr) (k : Nat), match Bq R t l with
  | none => D4 t k l = (Tm.nil, -1, 0)
  | some (x, e) => ∃ i : Nat, D4 t k l = (x, (i : Int), e)
 | [], k => rfl
 | r :: l, k => by
  rw [Bq, D4]
  by_cases h : Bc r.1 t = true
  ·rw [if_pos h, if_pos h]
   by_cases h2 : (Bw (A4 r.1 t) r.2).2 = true
   ·rw [if_pos h2, if_pos h2]
    exact ⟨k, rfl⟩
   ·rw [if_neg h2, if_neg h2]
    exact ⟨k, by rw [Mw h2]⟩
  ·rw [if_neg h, if_neg h]
   exact J0 R t l (k + 1)
theorem QJ {R : List Pr} : ∀ {xs : List Tm} {k : Nat} {a y : Tm} {e : Int}, xs[k]? = some a → (∀ b ∈ xs.take k, b.inn R = none) → a.inn R = some (y, e) → Tm.innL R xs = some (xs.set k y, e)
 | [], k, a, y, e, h, _, _ => by simp at h
 | x :: xs, 0, a, y, e, h, _, hy => by
  simp at h
  subst h
  rw [Tm.innL, hy]
  rfl
 | x :: xs, k + 1, a, y, e, h, hn, hy => by
  rw [Tm.innL, hn x (by simp), QJ (xs := xs) (k := k) (by simpa using h) (fun b hb => hn b (by rw [List.take_succ_cons]; exact List.mem_cons_of_mem _ hb)) hy]
  rfl
theorem OR {R : List Pr} : ∀ {xs : List Tm}, (∀ b ∈ xs, b.inn R = none) → Tm.innL R xs = none
 | [], _ => rfl
 | x :: xs, h => by rw [Tm.innL, h x (by simp), OR (fun b hb => h b (List.mem_cons_of_mem _ hb))]
theorem QD {R : List Pr} : ∀ {xs : List Tm} {k : Nat} {a y : Tm} {e : Int}, xs[k]? = some a → (∀ b ∈ xs.take k, b.out R = none) → a.out R = some (y, e) → Tm.outL R xs = some (xs.set k y, e)
 | [], k, a, y, e, h, _, _ => by simp at h
 | x :: xs, 0, a, y, e, h, _, hy => by
  simp at h
  subst h
  rw [Tm.outL, hy]
  rfl
 | x :: xs, k + 1, a, y, e, h, hn, hy => by
  rw [Tm.outL, hn x (by simp), QD (xs := xs) (k := k) (by simpa using h) (fun b hb => hn b (by rw [List.take_succ_cons]; exact List.mem_cons_of_mem _ hb)) hy]
  rfl
theorem N8 {R : List Pr} : ∀ {xs : List Tm}, (∀ b ∈ xs, b.out R = none) → Tm.outL R xs = none
 | [], _ => rfl
 | x :: xs, h => by rw [Tm.outL, h x (by simp), N8 (fun b hb => h b (List.mem_cons_of_mem _ hb))]
theorem Hw {R : List Pr} (hR : A1 R) {t x : Tm} {e : Int} (ht : t.chk = 0) : ∀ {l : List Pr}, (∀ r ∈ l, r ∈ R) → Bq R t l = some (x, e) → x.chk = 0 ∨ e = 8
 | [], _, h => by cases h
 | r :: l, hl, h => by
  rw [Bq] at h
  have hr := hl r (by simp)
  split at h
  ·rename_i hc
   split at h
   ·rename_i h2
    cases h
    left
    have e1 : (Bw (A4 r.1 t) r.2).1 = r.2.on (A4 r.1 t) := by
     unfold Bw at h2 ⊢
     split
     ·rfl
     ·rename_i h3
      rw [if_neg h3] at h2
      cases h2
    rw [e1]
    exact P1 (Mv (Tm.may_chk (hR.left r hr)).1 ht).chk (Tm.may_chk (hR.right r hr)).1
   ·cases h
    exact .inr rfl
  ·exact Hw hR ht (fun r hr => hl r (List.mem_cons_of_mem _ hr)) h
theorem NA {n : ByteArray} {xs : List Tm} {k : Nat} {y : Tm} (h : (Tm.mk n xs).chk = 0) (hk : k < xs.length) (hy : y.chk = 0) : (Tm.mk n (xs.set k y)).chk = 0 := by
 refine Oh h (by simp) fun z hz => ?_
 rcases List.mem_or_eq_of_mem_set hz with hz | rfl
 ·exact (Tm.chk_args h).2 z hz
 ·exact hy
theorem ET : ∀ {xs : List Tm} {k : Nat} {a : Tm} (y : Tm), xs[k]? = some a → Tm.sizes (xs.set k y) + a.size = Tm.sizes xs + y.size
 | [], k, a, y, h => by simp at h
 | x :: xs, 0, a, y, h => by
  simp at h
  subst h
  simp only [List.set_cons_zero, Tm.sizes]
  omega
 | x :: xs, k + 1, a, y, h => by
  have := ET (xs := xs) (k := k) y (by simpa using h)
  simp only [List.set_cons_succ, Tm.sizes]
  omega
mutual
theorem J6 {R : List Pr} (hR : A1 R) : ∀ {t x : Tm} {e : Int}, t.chk = 0 → t.inn R = some (x, e) → (e = 0 ∨ e = 8) ∧ (e = 0 → x.chk = 0) ∧ x.size ≤ t.size + 2000
 | .mk n xs, x, e, hc, h => by
  rw [Tm.inn] at h
  split at h
  ·rename_i ys e' hy
   cases h
   obtain ⟨k, a, y, h1, h2, h3, h4, h5, h6⟩ := Lc (xs := xs) hR (fun b hb => (Tm.chk_args hc).2 b hb) hy
   subst h2
   have h7 := ET y h1
   have hk := Bn h1
   refine ⟨h4, fun he => NA hc hk (h5 he), ?_⟩
   have z1 : (Tm.mk n (xs.set k y)).size = 1 + Tm.sizes (xs.set k y) := rfl
   have z2 : (Tm.mk n xs).size = 1 + Tm.sizes xs := rfl
   omega
  ·obtain ⟨h1, h2, h3⟩ := H7 h
   refine ⟨h1, fun he => (Hw hR hc (fun r hr => hr) h).resolve_right (by omega), by omega⟩
theorem Lc {R : List Pr} (hR : A1 R) : ∀ {xs ys : List Tm} {e : Int}, (∀ b ∈ xs, b.chk = 0) → Tm.innL R xs = some (ys, e) → ∃ k a y, xs[k]? = some a ∧ ys = xs.set k y ∧ a.inn R = some (y, e) ∧ (e = 0 ∨ e = 8) ∧ (e = 0 → y.chk = 0) ∧ y.size ≤ a.size + 2000
 | [], ys, e, _, h => by cases h
 | x :: xs, ys, e, hc, h => by
  rw [Tm.innL] at h
  split at h
  ·rename_i y e' hy
   cases h
   obtain ⟨q1, q2, q3⟩ := J6 hR (hc x (by simp)) hy
   exact ⟨0, x, y, rfl, rfl, hy, q1, q2, q3⟩
  ·split at h
   ·rename_i ys' e' hy
    cases h
    obtain ⟨k, a, y, h1, h2, h3, h4⟩ := Lc hR (fun b hb => hc b (List.mem_cons_of_mem _ hb)) hy
    exact ⟨k + 1, a, y, by simpa using h1, by rw [h2]; rfl, h3, h4⟩
   ·cases h
end
mutual
theorem JM {R : List Pr} (hR : A1 R) : ∀ {t x : Tm} {e : Int}, t.chk = 0 → t.out R = some (x, e) → (e = 0 ∨ e = 8) ∧ (e = 0 → x.chk = 0) ∧ x.size ≤ t.size + 2000
 | .mk n xs, x, e, hc, h => by
  rw [Tm.out] at h
  split at h
  ·rename_i r hr
   obtain ⟨x', e'⟩ := r
   cases h
   obtain ⟨h1, h2, h3⟩ := H7 hr
   refine ⟨h1, fun he => (Hw hR hc (fun r hr => hr) hr).resolve_right (by omega), by omega⟩
  ·split at h
   ·rename_i ys e' hy
    cases h
    obtain ⟨k, a, y, h1, h2, h3, h4, h5, h6⟩ := LZ (xs := xs) hR (fun b hb => (Tm.chk_args hc).2 b hb) hy
    subst h2
    have h7 := ET y h1
    have hk := Bn h1
    refine ⟨h4, fun he => NA hc hk (h5 he), ?_⟩
    have z1 : (Tm.mk n (xs.set k y)).size = 1 + Tm.sizes (xs.set k y) := rfl
    have z2 : (Tm.mk n xs).size = 1 + Tm.sizes xs := rfl
    omega
   ·cases h
theorem LZ {R : List Pr} (hR : A1 R) : ∀ {xs ys : List Tm} {e : Int}, (∀ b ∈ xs, b.chk = 0) → Tm.outL R xs = some (ys, e) → ∃ k a y, xs[k]? = some a ∧ ys = xs.set k y ∧ a.out R = some (y, e) ∧ (e = 0 ∨ e = 8) ∧ (e = 0 → y.chk = 0) ∧ y.size ≤ a.size + 2000
 | [], ys, e, _, h => by cases h
 | x :: xs, ys, e, hc, h => by
  rw [Tm.outL] at h
  split at h
  ·rename_i y e' hy
   cases h
   obtain ⟨q1, q2, q3⟩ := JM hR (hc x (by simp)) hy
   exact ⟨0, x, y, rfl, rfl, hy, q1, q2, q3⟩
  ·split at h
   ·rename_i ys' e' hy
    cases h
    obtain ⟨k, a, y, h1, h2, h3, h4⟩ := LZ hR (fun b hb => hc b (List.mem_cons_of_mem _ hb)) hy
    exact ⟨k + 1, a, y, by simpa using h1, by rw [h2]; rfl, h3, h4⟩
   ·cases h
end

mutual
theorem F2 : ∀ (t : Tm) (p : List Int), p ∈ t.places → ∃ x, t.atP p = some x ∧ x ∈ t.knots
 | .mk n xs, p, h => by
  rw [Tm.places] at h
  rcases List.mem_cons.1 h with rfl | h
  ·exact ⟨_, rfl, by rw [Tm.knots]; exact List.mem_cons_self⟩
  ·obtain ⟨x, h1, h2⟩ := GR n xs 0 xs p (by simp) h
   exact ⟨x, h1, by rw [Tm.knots]; exact List.mem_cons_of_mem _ h2⟩
theorem GR (n : ByteArray) (all : List Tm) : ∀ (k : Nat) (xs : List Tm) (p : List Int), all.drop k = xs → p ∈ Tm.placesFrom k xs → ∃ x, (Tm.mk n all).atP p = some x ∧ x ∈ Tm.knotsL xs
 | _, [], p, _, h => by simp [Tm.placesFrom] at h
 | k, x :: xs, p, hd, h => by
  have hk : all[k]? = some x := by
   have := congrArg (fun l => l[0]?) hd
   simpa using this
  rw [Tm.placesFrom] at h
  rcases List.mem_append.1 h with h | h
  ·obtain ⟨q, hq, rfl⟩ := List.mem_map.1 h
   obtain ⟨y, h1, h2⟩ := F2 x q hq
   exact ⟨y, by rw [Tm.atP_at (t := .mk n all) hk]; exact h1, by rw [Tm.knotsL]; exact List.mem_append_left _ h2⟩
  ·obtain ⟨y, h1, h2⟩ := GR n all (k + 1) xs p (by rw [← List.tail_drop, hd]; rfl) h
   exact ⟨y, h1, by rw [Tm.knotsL]; exact List.mem_append_right _ h2⟩
end
mutual
theorem JO : ∀ (t x : Tm), t.chk = 0 → x ∈ t.knots → x.chk = 0
 | .mk n xs, x, hc, h => by
  rw [Tm.knots] at h
  rcases List.mem_cons.1 h with rfl | h
  ·exact hc
  ·exact L4 xs x (fun b hb => (Tm.chk_args hc).2 b hb) h
theorem L4 : ∀ (xs : List Tm) (x : Tm), (∀ b ∈ xs, b.chk = 0) → x ∈ Tm.knotsL xs → x.chk = 0
 | [], x, _, h => by simp [Tm.knotsL] at h
 | y :: ys, x, hc, h => by
  rw [Tm.knotsL] at h
  rcases List.mem_append.1 h with h | h
  ·exact JO y x (hc y (by simp)) h
  ·exact L4 ys x (fun b hb => hc b (List.mem_cons_of_mem _ hb)) h
end
mutual
theorem De : ∀ (t x : Tm), x ∈ t.knots → x.size ≤ t.size
 | .mk n xs, x, h => by
  rw [Tm.knots] at h
  rcases List.mem_cons.1 h with rfl | h
  ·exact Nat.le_refl _
  ·have := KM xs x h
   simp only [Tm.size]
   omega
theorem KM : ∀ (xs : List Tm) (x : Tm), x ∈ Tm.knotsL xs → x.size ≤ Tm.sizes xs
 | [], x, h => by simp [Tm.knotsL] at h
 | y :: ys, x, h => by
  rw [Tm.knotsL] at h
  simp only [Tm.sizes]
  rcases List.mem_append.1 h with h | h
  ·have := De y x h; omega
  ·have := KM ys x h; omega
end
def GE (inner : Bool) (R : List Pr) (t : Tm) : Option (Tm × Int) := if inner = true then t.inn R else t.out R
def EG (inner : Bool) (R : List Pr) : Tm → Bool := if inner = true then Gu R else Fr R
theorem Po (inner : Bool) (R : List Pr) (t : Tm) : GE inner R t = DQ R t (t.findP (EG inner R)) := by
 cases inner with
 | true => exact Tm.inn_find R t
 | false => exact Tm.out_find R t
theorem O1 {inner : Bool} {R : List Pr} (hR : A1 R) {t x : Tm} {e : Int} (hc : t.chk = 0) (h : GE inner R t = some (x, e)) : (e = 0 ∨ e = 8) ∧ (e = 0 → x.chk = 0) ∧ x.size ≤ t.size + 2000 := by
 cases inner with
 | true => exact J6 hR hc h
 | false => exact JM hR hc h
theorem MC {inner : Bool} {R : List Pr} {x : Tm} (h : EG inner R x = true) : Fr R x = true := by
 cases inner with
 | true =>
  unfold EG Gu at h
  simp only [if_true, Bool.and_eq_true] at h
  exact h.1
 | false => exact h
theorem HF {step : Tm → Option (Tm × Int)} : ∀ (k : Nat) (n : Int) (t : Tm), (BN step k n t).2.2 ≠ 0 → BN step k n t = (Tm.nil, 0, (BN step k n t).2.2)
 | 0, n, t, h => by
  unfold BN at h ⊢
  split at h
  ·exact absurd rfl h
  ·rfl
 | k + 1, n, t, h => by
  rw [BN] at h ⊢
  split at h
  ·exact absurd rfl h
  ·rename_i x e hs
   by_cases he : e ≠ 0
   ·rw [if_pos he] at h ⊢
   ·rw [if_neg he] at h ⊢
    by_cases hz : 2000 < x.size
    ·rw [if_pos hz] at h ⊢
    ·rw [if_neg hz] at h ⊢
     exact HF k (n + 1) x h
def HQ (R : List Pr) (most : Nat) (a b : Tm) : Bool × Int :=
 let x := BN (Tm.inn R) most 0 a
 let y := BN (Tm.inn R) most 0 b
 if x.2.2 ≠ 0 then (false, x.2.2) else if y.2.2 ≠ 0 then (false, y.2.2) else (x.1.beq y.1, 0)

end Go.Proofs.YtgcddcaachpbnaaGreat
