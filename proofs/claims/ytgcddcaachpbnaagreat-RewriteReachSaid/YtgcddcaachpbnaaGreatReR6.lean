/-
  Part 6 of the texts. Conditions: none.
-/
import Derived.Test.YtgcddcaachpbnaaGreatReR5
import Derived.Lib.FrozenHead2
import Derived.Lib.OthersKept
import Derived.Shelf.Strings.BuilderK
namespace Go.Proofs.YtgcddcaachpbnaaGreat
open Go Go.RowKit
set_option maxHeartbeats 400000
set_option linter.unusedVariables false
def sep (k : Nat) : ByteArray := if k = 0 then ⟨#[40]⟩ else ⟨#[44]⟩
mutual
def Tm.text : Tm → ByteArray
 | .mk n xs => n ++ Tm.textsFrom 0 xs ++ (if xs.length = 0 then ⟨#[]⟩ else ⟨#[41]⟩)
def Tm.textsFrom : Nat → List Tm → ByteArray
 | _, [] => ⟨#[]⟩
 | k, t :: ts => sep k ++ t.text ++ Tm.textsFrom (k+1) ts
end
theorem empty_append (b : ByteArray) : (⟨#[]⟩ : ByteArray) ++ b = b := ByteArray.empty_append
theorem append_empty (b : ByteArray) : b ++ (⟨#[]⟩ : ByteArray) = b := ByteArray.append_empty
theorem Tm.text_eq (t : Tm) : t.text = t.name ++ Tm.textsFrom 0 t.args ++ (if t.args.length = 0 then ⟨#[]⟩ else ⟨#[41]⟩) := by cases t; rfl
theorem Tm.textsFrom_snoc (a : Tm) : ∀ (k : Nat) (xs : List Tm), Tm.textsFrom k (xs ++ [a]) = Tm.textsFrom k xs ++ (sep (k + xs.length) ++ a.text)
 | k, [] => by simp [Tm.textsFrom, empty_append, append_empty]
 | k, t :: ts => by
  rw [List.cons_append, Tm.textsFrom, Tm.textsFrom_snoc a (k+1) ts, Tm.textsFrom, List.length_cons, show k + 1 + ts.length = k + (ts.length + 1) by omega]
  simp only [ByteArray.append_assoc]
theorem Tm.textsFrom_append : ∀ (k : Nat) (xs ys : List Tm), Tm.textsFrom k (xs ++ ys) = Tm.textsFrom k xs ++ Tm.textsFrom (k + xs.length) ys
 | k, [], ys => by simp [Tm.textsFrom, empty_append]
 | k, t :: ts, ys => by
  rw [List.cons_append, Tm.textsFrom, Tm.textsFrom_append (k+1) ts, Tm.textsFrom, List.length_cons, show k + 1 + ts.length = k + (ts.length + 1) by omega]
  simp only [ByteArray.append_assoc]
theorem Fw (k : Nat) : (sep k).size = 1 := by unfold sep; split <;> rfl
def Tm.ahead (t : Tm) (k : Nat) : ByteArray := t.name ++ Tm.textsFrom 0 (t.args.take k)
theorem Tm.ahead_zero (t : Tm) : t.ahead 0 = t.name := by simp [Tm.ahead, Tm.textsFrom, append_empty]
theorem Tm.ahead_succ {t : Tm} {k : Nat} {a : Tm} (h : t.args[k]? = some a) : t.ahead (k+1) = t.ahead k ++ sep k ++ a.text := by
 have hl := Bo h
 unfold Tm.ahead
 rw [Am h, Tm.textsFrom_snoc, List.length_take, Nat.min_eq_left (by omega), Nat.zero_add]
 simp only [ByteArray.append_assoc]
theorem Tm.ahead_all {t : Tm} {k : Nat} (h : k = t.args.length) : t.text = t.ahead k ++ (if k = 0 then ⟨#[]⟩ else ⟨#[41]⟩) := by
 subst h
 rw [Tm.text_eq, Tm.ahead, List.take_length]
theorem Tm.ahead_le (t : Tm) (k : Nat) : (t.ahead k).size ≤ t.text.size := by
 rw [Tm.text_eq, Tm.ahead]
 have : t.args = t.args.take k ++ t.args.drop k := (List.take_append_drop k t.args).symm
 conv => rhs; rw [this]
 rw [Tm.textsFrom_append]
 simp only [ByteArray.size_append]
 omega
theorem HS {t : Tm} (h : BY t = 0) : 1 ≤ t.name.size ∧ t.name.size ≤ 8 := by
 unfold BY at h
 split at h
 ·split at h
  ·rename_i h1 _
   simp [BC] at h1
   omega
  ·rename_i h1 _
   simp [BC] at h1
   omega
 ·omega
mutual
theorem Tm.text_le : ∀ t : Tm, t.chk = 0 → t.text.size + 1 ≤ 10 * t.size
 | .mk n xs, h => by
  rw [Tm.chk_eq] at h
  split at h
  ·rename_i h0
   have h1 := HS h0
   have h2 := Tm.textsFrom_le 0 xs h
   have h3 : (if xs.length = 0 then (⟨#[]⟩ : ByteArray) else ⟨#[41]⟩).size ≤ 1 := by split <;> simp [ByteArray.size]
   simp only [Tm.name] at h1
   simp only [Tm.text, Tm.size, ByteArray.size_append]
   omega
  ·omega
theorem Tm.textsFrom_le : ∀ (k : Nat) (xs : List Tm), Tm.chkL xs = 0 → (Tm.textsFrom k xs).size ≤ 10 * Tm.sizes xs
 | _, [], _ => by simp [Tm.textsFrom, Tm.sizes, ByteArray.size]
 | k, t :: ts, h => by
  rw [Tm.chkL] at h
  split at h
  ·rename_i h0
   have h1 := Tm.text_le t h0
   have h2 := Tm.textsFrom_le (k+1) ts h
   simp only [Tm.textsFrom, Tm.sizes, ByteArray.size_append, Fw]
   omega
  ·omega
end

set_option maxRecDepth 100000
def ER : IR :=
 (.seq (.ops [.i 2 (.mov (.c (.one (.st (.bool false)))))]) (.seq (.ops [.m 3 0, .i 4 (.bin .geq (.t 3) (.c (.one (.st (.int .u8 97))))), .m 5 4, .mk (some 6) (some (5, true)) (.mov (.t 0)) .no, .mk (some 7) (some (5, true)) (.bin .leq (.t 6) (.c (.one (.st (.int .u8 122))))) .no, .i 8 (.pick (.t 5) (.t 7) (.c (.one (.st (.bool false))))), .m 9 8, .mk (some 10) (some (9, false)) (.mov (.t 0)) .no, .mk (some 11) (some (9, false)) (.bin .geq (.t 10) (.c (.one (.st (.int .u8 65))))) .no, .mk (some 12) (some (9, false)) (.mov (.t 11)) .no, .mk (some 13) (some (12, true)) (.mov (.t 0)) .no, .mk (some 14) (some (12, true)) (.bin .leq (.t 13) (.c (.one (.st (.int .u8 90))))) .no, .mk (some 15) (some (9, false)) (.pick (.t 12) (.t 14) (.c (.one (.st (.bool false))))) .no, .i 16 (.pick (.t 9) (.c (.one (.st (.bool true)))) (.t 15)), .m 17 16, .mk (some 18) (some (17, false)) (.mov (.t 0)) .no, .mk (some 19) (some (17, false)) (.bin .geq (.t 18) (.c (.one (.st (.int .u8 48))))) .no, .mk (some 20) (some (17, false)) (.mov (.t 19)) .no, .mk (some 21) (some (20, true)) (.mov (.t 0)) .no, .mk (some 22) (some (20, true)) (.bin .leq (.t 21) (.c (.one (.st (.int .u8 57))))) .no, .mk (some 23) (some (17, false)) (.pick (.t 20) (.t 22) (.c (.one (.st (.bool false))))) .no, .i 24 (.pick (.t 17) (.c (.one (.st (.bool true)))) (.t 23)), .m 2 24]) .ret))
theorem Hr : OkF Tryz.prog 118 25 [] ER [.t 2] := .of Tryz.func118 rfl rfl (by kernel_rfl) rfl
def FJ : IR :=
 (.seq (.ops [.i 2 (.mov (.c (.one (.st (.bool false)))))]) (.seq (.ops [.m 3 0, .i 4 (.bin .geq (.t 3) (.c (.one (.st (.int .u8 97))))), .m 5 4, .mk (some 6) (some (5, true)) (.mov (.t 0)) .no, .mk (some 7) (some (5, true)) (.bin .leq (.t 6) (.c (.one (.st (.int .u8 122))))) .no, .i 8 (.pick (.t 5) (.t 7) (.c (.one (.st (.bool false))))), .m 9 8, .mk (some 10) (some (9, false)) (.mov (.t 0)) .no, .mk (some 11) (some (9, false)) (.bin .geq (.t 10) (.c (.one (.st (.int .u8 65))))) .no, .mk (some 12) (some (9, false)) (.mov (.t 11)) .no, .mk (some 13) (some (12, true)) (.mov (.t 0)) .no, .mk (some 14) (some (12, true)) (.bin .leq (.t 13) (.c (.one (.st (.int .u8 90))))) .no, .mk (some 15) (some (9, false)) (.pick (.t 12) (.t 14) (.c (.one (.st (.bool false))))) .no, .i 16 (.pick (.t 9) (.c (.one (.st (.bool true)))) (.t 15)), .m 17 16, .mk (some 18) (some (17, false)) (.mov (.t 0)) .no, .mk (some 19) (some (17, false)) (.bin .geq (.t 18) (.c (.one (.st (.int .u8 48))))) .no, .mk (some 20) (some (17, false)) (.mov (.t 19)) .no, .mk (some 21) (some (20, true)) (.mov (.t 0)) .no, .mk (some 22) (some (20, true)) (.bin .leq (.t 21) (.c (.one (.st (.int .u8 57))))) .no, .mk (some 23) (some (17, false)) (.pick (.t 20) (.t 22) (.c (.one (.st (.bool false))))) .no, .i 24 (.pick (.t 17) (.c (.one (.st (.bool true)))) (.t 23)), .m 2 24]) .ret))
theorem I5 : OkF Tryz.prog 43 25 [] FJ [.t 2] := .of Tryz.func43 rfl rfl (by kernel_rfl) rfl
def CQ : IR :=
 (.seq (.ops [.i 2 (.mov (.c (.one (.st (.bool false)))))]) (.seq (.seq (.ops [.m 4 0, .i 5 (.len true (.t 4)), .i 6 (.bin .lss (.t 5) (.n 1)), .m 7 6, .mk (some 8) (some (7, false)) (.mov (.t 0)) .no, .mk (some 9) (some (7, false)) (.len true (.t 8)) .no, .mk (some 10) (some (7, false)) (.bin .gtr (.t 9) (.n 8)) .no, .i 11 (.pick (.t 7) (.c (.one (.st (.bool true)))) (.t 10)), .m 12 11, .mk (some 13) (some (12, false)) (.mov (.t 0)) .no, .mk (some 14) (some (12, false)) (.indexStr (.t 13) (.n 0)) .no, .mk (some 15) (some (12, false)) (.bin .geq (.t 14) (.c (.one (.st (.int .u8 48))))) .no, .mk (some 16) (some (12, false)) (.mov (.t 15)) .no, .mk (some 17) (some (16, true)) (.mov (.t 0)) .no, .mk (some 18) (some (16, true)) (.indexStr (.t 17) (.n 0)) .no, .mk (some 19) (some (16, true)) (.bin .leq (.t 18) (.c (.one (.st (.int .u8 57))))) .no, .mk (some 20) (some (12, false)) (.pick (.t 16) (.t 19) (.c (.one (.st (.bool false))))) .no, .i 21 (.pick (.t 12) (.c (.one (.st (.bool true)))) (.t 20))]) (.cond (.t 21) (.seq (.ops [.i 2 (.mov (.c (.one (.st (.bool false)))))]) .ret) .skip)) (.seq (.seq (.ops [.m 22 0, .i 23 (.len true (.t 22)), .i 24 (.mov (.n 0))]) (.block 0 (.loop (.seq (.ops [.i 25 (.bin .lss (.t 24) (.t 23))]) (.seq (.cond (.t 25) .skip (.exit 0)) (.seq (.block 1 (.seq (.ops [.m 26 24, .m 3 26]) (.seq (.ops [.m 27 0, .m 28 3, .i 29 (.indexStr (.t 27) (.t 28)), .i 30 (.call 118 [.t 29]), .i 31 (.un .not (.t 30))]) (.cond (.t 31) (.seq (.ops [.i 2 (.mov (.c (.one (.st (.bool false)))))]) .ret) .skip)))) (.ops [.i 32 (.bin .add (.t 24) (.n 1)), .m 24 32]))))))) (.seq (.ops [.i 2 (.mov (.c (.one (.st (.bool true)))))]) .ret))))
theorem C0 : OkF Tryz.prog 104 33 [] CQ [.t 2] := .of Tryz.func104 rfl rfl (by kernel_rfl) rfl
def Cm : IR :=
 (.seq (.ops [.i 2 (.mov (.c (.one (.st (.bool false)))))]) (.seq (.seq (.ops [.m 4 0, .i 5 (.bin .eql (.t 4) (.c (.one (.st (.str (ByteArray.mk (#[]))))))), .m 6 5, .mk (some 7) (some (6, false)) (.mov (.t 0)) .no, .mk (some 8) (some (6, false)) (.len true (.t 7)) .no, .mk (some 9) (some (6, false)) (.bin .gtr (.t 8) (.n 8)) .no, .i 10 (.pick (.t 6) (.c (.one (.st (.bool true)))) (.t 9)), .m 11 10, .mk (some 12) (some (11, false)) (.mov (.t 0)) .no, .mk (some 13) (some (11, false)) (.indexStr (.t 12) (.n 0)) .no, .mk (some 14) (some (11, false)) (.bin .geq (.t 13) (.c (.one (.st (.int .u8 48))))) .no, .mk (some 15) (some (11, false)) (.mov (.t 14)) .no, .mk (some 16) (some (15, true)) (.mov (.t 0)) .no, .mk (some 17) (some (15, true)) (.indexStr (.t 16) (.n 0)) .no, .mk (some 18) (some (15, true)) (.bin .leq (.t 17) (.c (.one (.st (.int .u8 57))))) .no, .mk (some 19) (some (11, false)) (.pick (.t 15) (.t 18) (.c (.one (.st (.bool false))))) .no, .i 20 (.pick (.t 11) (.c (.one (.st (.bool true)))) (.t 19))]) (.cond (.t 20) (.seq (.ops [.i 2 (.mov (.c (.one (.st (.bool false)))))]) .ret) .skip)) (.seq (.seq (.ops [.i 3 (.mov (.n 0))]) (.block 0 (.loop (.seq (.seq (.ops [.m 21 3, .m 22 0, .i 23 (.len true (.t 22)), .i 24 (.bin .lss (.t 21) (.t 23))]) (.cond (.t 24) .skip (.exit 0))) (.seq (.block 1 (.seq (.ops [.m 27 0, .m 28 3, .i 29 (.indexStr (.t 27) (.t 28)), .i 30 (.call 43 [.t 29]), .i 31 (.un .not (.t 30))]) (.cond (.t 31) (.seq (.ops [.i 2 (.mov (.c (.one (.st (.bool false)))))]) .ret) .skip))) (.ops [.m 25 3, .i 26 (.bin .add (.t 25) (.n 1)), .m 3 26])))))) (.seq (.ops [.i 2 (.mov (.c (.one (.st (.bool true)))))]) .ret))))
theorem DR : OkF Tryz.prog 23 32 [] Cm [.t 2] := .of Tryz.func23 rfl rfl (by kernel_rfl) rfl
def Ch : IR :=
 (.seq (.ops [.i 2 (.mov (.c (.one (.st (.bool false)))))]) (.seq (.ops [.m 3 0, .i 4 (.bin .neq (.t 3) (.c (.one (.st (.str (ByteArray.mk (#[]))))))), .m 5 4, .mk (some 6) (some (5, true)) (.mov (.t 0)) .no, .mk (some 7) (some (5, true)) (.indexStr (.t 6) (.n 0)) .no, .mk (some 8) (some (5, true)) (.bin .geq (.t 7) (.c (.one (.st (.int .u8 65))))) .no, .i 9 (.pick (.t 5) (.t 8) (.c (.one (.st (.bool false))))), .m 10 9, .mk (some 11) (some (10, true)) (.mov (.t 0)) .no, .mk (some 12) (some (10, true)) (.indexStr (.t 11) (.n 0)) .no, .mk (some 13) (some (10, true)) (.bin .leq (.t 12) (.c (.one (.st (.int .u8 90))))) .no, .i 14 (.pick (.t 10) (.t 13) (.c (.one (.st (.bool false))))), .m 2 14]) .ret))
theorem Dp : OkF Tryz.prog 62 15 [] Ch [.t 2] := .of Tryz.func62 rfl rfl (by kernel_rfl) rfl
def FS : IR :=
 (.seq (.ops [.i 2 (.mov (.c (.one (.st (.bool false)))))]) (.seq (.ops [.m 3 0, .i 4 (.bin .neq (.t 3) (.c (.one (.st (.str (ByteArray.mk (#[]))))))), .m 5 4, .mk (some 6) (some (5, true)) (.mov (.t 0)) .no, .mk (some 7) (some (5, true)) (.indexStr (.t 6) (.n 0)) .no, .mk (some 8) (some (5, true)) (.bin .geq (.t 7) (.c (.one (.st (.int .u8 65))))) .no, .i 9 (.pick (.t 5) (.t 8) (.c (.one (.st (.bool false))))), .m 10 9, .mk (some 11) (some (10, true)) (.mov (.t 0)) .no, .mk (some 12) (some (10, true)) (.indexStr (.t 11) (.n 0)) .no, .mk (some 13) (some (10, true)) (.bin .leq (.t 12) (.c (.one (.st (.int .u8 90))))) .no, .i 14 (.pick (.t 10) (.t 13) (.c (.one (.st (.bool false))))), .m 2 14]) .ret))
theorem Ic : OkF Tryz.prog 19 15 [] FS [.t 2] := .of Tryz.func19 rfl rfl (by kernel_rfl) rfl
def EL : IR :=
 (.seq (.ops [.i 2 (.box 25 (.t 0)), .i 4 (.mov (.n 0))]) (.seq (.ops [.m 7 1, .i 8 (.bin .sub (.t 7) (.n 1)), .m 1 8]) (.seq (.seq (.ops [.f 9 1 2, .l 10 9, .i 11 (.len false (.t 10)), .i 12 (.mov (.n 0))]) (.block 0 (.loop (.seq (.ops [.i 13 (.bin .lss (.t 12) (.t 11))]) (.seq (.cond (.t 13) .skip (.exit 0)) (.seq (.block 1 (.seq (.ops [.i 14 (.indexAddr 2 (.t 10) (.t 12)), .L 15 2 14, .i 6 (.alloc 25 [.st (.str (ByteArray.mk (#[]))), .full []]), .s 2 6 15]) (.seq (.seq (.ops [.m 16 1, .i 17 (.bin .lss (.t 16) (.n 0))]) (.cond (.t 17) (.exit 0) .skip)) (.ops [.L 18 2 6, .m 19 1, .i 20 (.call 74 [.t 18, .t 19]), .m 1 20])))) (.ops [.i 21 (.bin .add (.t 12) (.n 1)), .m 12 21]))))))) (.seq (.ops [.m 22 1, .m 4 22]) .ret))))
theorem H4 : OkF Tryz.prog 74 23 [] EL [.t 4] := .of Tryz.func74 rfl rfl (by kernel_rfl) rfl
def Ju : IR :=
 (.seq (.ops [.i 2 (.box 25 (.t 0)), .i 4 (.mov (.n 0))]) (.seq (.ops [.i 5 (.mov (.n 1))]) (.seq (.seq (.ops [.i 6 (.mov (.n 0))]) (.block 0 (.loop (.seq (.seq (.ops [.m 7 6, .f 8 1 2, .l 9 8, .i 10 (.len false (.t 9)), .i 11 (.bin .lss (.t 7) (.t 10)), .m 12 11, .mk (some 13) (some (12, true)) (.mov (.t 5)) .no, .mk (some 14) (some (12, true)) (.mov (.t 1)) .no, .mk (some 15) (some (12, true)) (.bin .leq (.t 13) (.t 14)) .no, .i 16 (.pick (.t 12) (.t 15) (.c (.one (.st (.bool false)))))]) (.cond (.t 16) .skip (.exit 0))) (.seq (.block 1 (.ops [.m 19 5, .f 20 1 2, .l 21 20, .m 22 6, .i 23 (.indexAddr 2 (.t 21) (.t 22)), .L 24 2 23, .m 25 1, .m 26 5, .i 27 (.bin .sub (.t 25) (.t 26)), .i 28 (.call 9 [.t 24, .t 27]), .i 29 (.bin .add (.t 19) (.t 28)), .m 5 29])) (.ops [.m 17 6, .i 18 (.bin .add (.t 17) (.n 1)), .m 6 18])))))) (.seq (.seq (.ops [.m 30 5, .m 31 1, .i 32 (.bin .gtr (.t 30) (.t 31))]) (.cond (.t 32) (.seq (.ops [.m 33 1, .i 34 (.bin .add (.t 33) (.n 1)), .m 4 34]) .ret) .skip)) (.seq (.ops [.m 35 5, .m 4 35]) .ret)))))
theorem OX : OkF Tryz.prog 9 36 [] Ju [.t 4] := .of Tryz.func9 rfl rfl (by kernel_rfl) rfl
def E9 : IR :=
 (.seq (.ops [.i 1 (.box 25 (.t 0)), .i 2 (.mov (.n 0))]) (.seq (.seq (.ops [.f 6 0 1, .l 7 6, .i 8 (.call 104 [.t 7]), .i 9 (.un .not (.t 8))]) (.cond (.t 9) (.seq (.ops [.i 2 (.mov (.n 1))]) .ret) .skip)) (.seq (.seq (.ops [.f 10 0 1, .l 11 10, .i 12 (.call 62 [.t 11]), .m 13 12, .mk (some 14) (some (13, true)) (.fieldAddr 1 (.t 1)) .no, .mk (some 15) (some (13, true)) (.load false 1 (.t 14)) .no, .mk (some 16) (some (13, true)) (.len false (.t 15)) .no, .mk (some 17) (some (13, true)) (.bin .gtr (.t 16) (.n 0)) .no, .i 18 (.pick (.t 13) (.t 17) (.c (.one (.st (.bool false)))))]) (.cond (.t 18) (.seq (.ops [.i 2 (.mov (.n 2))]) .ret) .skip)) (.seq (.seq (.ops [.f 19 1 1, .l 20 19, .i 21 (.len false (.t 20)), .i 22 (.mov (.n 0))]) (.block 0 (.loop (.seq (.ops [.i 23 (.bin .lss (.t 22) (.t 21))]) (.seq (.cond (.t 23) .skip (.exit 0)) (.seq (.block 1 (.seq (.ops [.i 24 (.indexAddr 2 (.t 20) (.t 22)), .L 25 2 24, .i 4 (.alloc 25 [.st (.str (ByteArray.mk (#[]))), .full []]), .s 2 4 25]) (.seq (.ops [.L 26 2 4, .i 27 (.call 75 [.t 26]), .m 5 27]) (.seq (.ops [.m 28 5, .i 29 (.bin .neq (.t 28) (.n 0))]) (.cond (.t 29) (.seq (.ops [.m 30 5, .m 2 30]) .ret) .skip))))) (.ops [.i 31 (.bin .add (.t 22) (.n 1)), .m 22 31]))))))) (.seq (.ops [.i 2 (.mov (.n 0))]) .ret)))))
theorem JI : OkF Tryz.prog 75 32 [] E9 [.t 2] := .of Tryz.func75 rfl rfl (by kernel_rfl) rfl
def E8 : IR :=
 (.seq (.ops [.i 1 (.box 25 (.t 0)), .i 2 (.mov (.n 0))]) (.seq (.seq (.ops [.L 3 2 1, .i 4 (.call 74 [.t 3, .n 200]), .i 5 (.bin .lss (.t 4) (.n 0))]) (.cond (.t 5) (.seq (.ops [.i 2 (.mov (.n 3))]) .ret) .skip)) (.seq (.ops [.L 6 2 1, .i 7 (.call 75 [.t 6]), .m 2 7]) .ret)))
theorem JB : OkF Tryz.prog 48 8 [] E8 [.t 2] := .of Tryz.func48 rfl rfl (by kernel_rfl) rfl
def Ix : IR :=
 (.seq (.ops [.i 1 (.box 25 (.t 0)), .i 2 (.mov (.c (.one (.full []))))]) (.seq (.ops [.L 5 2 1, .i 6 (.buildSlice false 25 2 [.t 5]), .m 3 6]) (.seq (.seq (.ops [.i 4 (.mov (.n 0))]) (.block 0 (.loop (.seq (.seq (.ops [.m 7 4, .f 8 1 1, .l 9 8, .i 10 (.len false (.t 9)), .i 11 (.bin .lss (.t 7) (.t 10))]) (.cond (.t 11) .skip (.exit 0))) (.seq (.block 1 (.ops [.m 14 3, .f 15 1 1, .l 16 15, .m 17 4, .i 18 (.indexAddr 2 (.t 16) (.t 17)), .L 19 2 18, .i 20 (.call 22 [.t 19]), .i 21 (.append false 25 2 40 (.t 14) (.t 20)), .m 3 21])) (.ops [.m 12 4, .i 13 (.bin .add (.t 12) (.n 1)), .m 4 13])))))) (.seq (.ops [.m 22 3, .m 2 22]) .ret))))
theorem NU : OkF Tryz.prog 22 23 [] Ix [.t 2] := .of Tryz.func22 rfl rfl (by kernel_rfl) rfl
def Fh : IR :=
 (.seq (.ops [.i 1 (.box 25 (.t 0)), .i 2 (.mov (.n 0))]) (.seq (.seq (.ops [.L 5 2 1, .i 6 (.call 9 [.t 5, .n 200]), .i 7 (.bin .gtr (.t 6) (.n 200))]) (.cond (.t 7) (.seq (.ops [.i 2 (.mov (.n 3))]) .ret) .skip)) (.seq (.ops [.L 8 2 1, .i 9 (.call 22 [.t 8]), .m 3 9]) (.seq (.seq (.ops [.i 4 (.mov (.n 0))]) (.block 0 (.loop (.seq (.seq (.ops [.m 10 4, .m 11 3, .i 12 (.len false (.t 11)), .i 13 (.bin .lss (.t 10) (.t 12))]) (.cond (.t 13) .skip (.exit 0))) (.seq (.block 1 (.seq (.seq (.ops [.m 16 3, .m 17 4, .i 18 (.indexAddr 2 (.t 16) (.t 17)), .f 19 0 18, .l 20 19, .i 21 (.call 23 [.t 20]), .i 22 (.un .not (.t 21))]) (.cond (.t 22) (.seq (.ops [.i 2 (.mov (.n 1))]) .ret) .skip)) (.seq (.ops [.m 23 3, .m 24 4, .i 25 (.indexAddr 2 (.t 23) (.t 24)), .f 26 0 25, .l 27 26, .i 28 (.call 19 [.t 27]), .m 29 28, .mk (some 30) (some (29, true)) (.mov (.t 3)) .no, .mk (some 31) (some (29, true)) (.mov (.t 4)) .no, .mk (some 32) (some (29, true)) (.indexAddr 2 (.t 30) (.t 31)) .no, .mk (some 33) (some (29, true)) (.fieldAddr 1 (.t 32)) .no, .mk (some 34) (some (29, true)) (.load false 1 (.t 33)) .no, .mk (some 35) (some (29, true)) (.len false (.t 34)) .no, .mk (some 36) (some (29, true)) (.bin .gtr (.t 35) (.n 0)) .no, .i 37 (.pick (.t 29) (.t 36) (.c (.one (.st (.bool false)))))]) (.cond (.t 37) (.seq (.ops [.i 2 (.mov (.n 2))]) .ret) .skip)))) (.ops [.m 14 4, .i 15 (.bin .add (.t 14) (.n 1)), .m 4 15])))))) (.seq (.ops [.i 2 (.mov (.n 0))]) .ret)))))
theorem Ka : OkF Tryz.prog 8 38 [] Fh [.t 2] := .of Tryz.func8 rfl rfl (by kernel_rfl) rfl
def HR : IR :=
 (.seq (.ops [.i 2 (.box 25 (.t 0)), .i 3 (.box 25 (.t 1)), .i 4 (.mov (.n 0))]) (.seq (.ops [.L 6 2 2, .i 7 (.call 8 [.t 6]), .m 5 7]) (.seq (.seq (.ops [.m 8 5, .i 9 (.bin .eql (.t 8) (.n 0))]) (.cond (.t 9) (.ops [.L 10 2 3, .i 11 (.call 8 [.t 10]), .m 5 11]) .skip)) (.seq (.ops [.m 12 5, .m 4 12]) .ret))))
theorem LZ : OkF Tryz.prog 18 13 [] HR [.t 4] := .of Tryz.func18 rfl rfl (by kernel_rfl) rfl
def Jg : IR :=
 (.seq (.ops [.i 2 (.box 25 (.t 0)), .i 3 (.box 25 (.t 1)), .i 4 (.mov (.c (.one (.st (.bool false)))))]) (.seq (.seq (.ops [.f 6 0 2, .l 7 6, .f 8 0 3, .l 9 8, .i 10 (.bin .neq (.t 7) (.t 9)), .m 11 10, .mk (some 12) (some (11, false)) (.fieldAddr 1 (.t 2)) .no, .mk (some 13) (some (11, false)) (.load false 1 (.t 12)) .no, .mk (some 14) (some (11, false)) (.len false (.t 13)) .no, .mk (some 15) (some (11, false)) (.fieldAddr 1 (.t 3)) .no, .mk (some 16) (some (11, false)) (.load false 1 (.t 15)) .no, .mk (some 17) (some (11, false)) (.len false (.t 16)) .no, .mk (some 18) (some (11, false)) (.bin .neq (.t 14) (.t 17)) .no, .i 19 (.pick (.t 11) (.c (.one (.st (.bool true)))) (.t 18))]) (.cond (.t 19) (.seq (.ops [.i 4 (.mov (.c (.one (.st (.bool false)))))]) .ret) .skip)) (.seq (.seq (.ops [.i 5 (.mov (.n 0))]) (.block 0 (.loop (.seq (.seq (.ops [.m 20 5, .f 21 1 2, .l 22 21, .i 23 (.len false (.t 22)), .i 24 (.bin .lss (.t 20) (.t 23))]) (.cond (.t 24) .skip (.exit 0))) (.seq (.block 1 (.seq (.ops [.f 27 1 2, .l 28 27, .m 29 5, .i 30 (.indexAddr 2 (.t 28) (.t 29)), .L 31 2 30, .f 32 1 3, .l 33 32, .m 34 5, .i 35 (.indexAddr 2 (.t 33) (.t 34)), .L 36 2 35, .i 37 (.call 36 [.t 31, .t 36]), .i 38 (.un .not (.t 37))]) (.cond (.t 38) (.seq (.ops [.i 4 (.mov (.c (.one (.st (.bool false)))))]) .ret) .skip))) (.ops [.m 25 5, .i 26 (.bin .add (.t 25) (.n 1)), .m 5 26])))))) (.seq (.ops [.i 4 (.mov (.c (.one (.st (.bool true)))))]) .ret))))
theorem OY : OkF Tryz.prog 36 39 [] Jg [.t 4] := .of Tryz.func36 rfl rfl (by kernel_rfl) rfl
def N0 : IR :=
 (.seq (.ops [.i 4 (.mov (.c (.one (.st (.bool false)))))]) (.seq (.seq (.ops [.i 5 (.mov (.n 0))]) (.block 0 (.loop (.seq (.seq (.ops [.m 6 5, .m 7 1, .i 8 (.len false (.t 7)), .i 9 (.bin .lss (.t 6) (.t 8))]) (.cond (.t 9) .skip (.exit 0))) (.seq (.block 1 (.seq (.ops [.m 12 1, .m 13 5, .i 14 (.indexAddr 1 (.t 12) (.t 13)), .l 15 14, .m 16 0, .i 17 (.bin .eql (.t 15) (.t 16))]) (.cond (.t 17) (.seq (.ops [.i 4 (.mov (.c (.one (.st (.bool true)))))]) .ret) .skip))) (.ops [.m 10 5, .i 11 (.bin .add (.t 10) (.n 1)), .m 5 11])))))) (.seq (.ops [.i 4 (.mov (.c (.one (.st (.bool false)))))]) .ret)))
theorem Qr : OkF Tryz.prog 21 18 [] N0 [.t 4] := .of Tryz.func21 rfl rfl (by kernel_rfl) rfl
def G_ : IR :=
 (.seq (.ops [.i 1 (.box 25 (.t 0)), .i 2 (.mov (.c (.one (.full []))))]) (.seq (.ops [.L 6 2 1, .i 7 (.call 22 [.t 6]), .m 3 7]) (.seq (.ops [.i 4 (.mov (.c (.one (.full []))))]) (.seq (.seq (.ops [.i 5 (.mov (.n 0))]) (.block 0 (.loop (.seq (.seq (.ops [.m 8 5, .m 9 3, .i 10 (.len false (.t 9)), .i 11 (.bin .lss (.t 8) (.t 10))]) (.cond (.t 11) .skip (.exit 0))) (.seq (.block 1 (.seq (.ops [.m 14 3, .m 15 5, .i 16 (.indexAddr 2 (.t 14) (.t 15)), .f 17 0 16, .l 18 17, .i 19 (.call 19 [.t 18]), .m 20 19, .mk (some 21) (some (20, true)) (.mov (.t 3)) .no, .mk (some 22) (some (20, true)) (.mov (.t 5)) .no, .mk (some 23) (some (20, true)) (.indexAddr 2 (.t 21) (.t 22)) .no, .mk (some 24) (some (20, true)) (.fieldAddr 0 (.t 23)) .no, .mk (some 25) (some (20, true)) (.load false 1 (.t 24)) .no, .mk (some 26) (some (20, true)) (.mov (.t 4)) .no, .mk (some 27) (some (20, true)) (.call 21 [.t 25, .t 26]) .no, .mk (some 28) (some (20, true)) (.un .not (.t 27)) .no, .i 29 (.pick (.t 20) (.t 28) (.c (.one (.st (.bool false)))))]) (.cond (.t 29) (.ops [.m 30 4, .m 31 3, .m 32 5, .i 33 (.indexAddr 2 (.t 31) (.t 32)), .f 34 0 33, .l 35 34, .i 36 (.buildFlat [.t 35]), .i 37 (.append false 9 1 16 (.t 30) (.t 36)), .m 4 37]) .skip))) (.ops [.m 12 5, .i 13 (.bin .add (.t 12) (.n 1)), .m 5 13])))))) (.seq (.ops [.m 38 4, .m 2 38]) .ret)))))
theorem MM : OkF Tryz.prog 20 39 [] G_ [.t 2] := .of Tryz.func20 rfl rfl (by kernel_rfl) rfl
def J9 : IR :=
 (.seq (.ops [.i 1 (.box 25 (.t 0)), .i 2 (.mov (.c (.one (.st (.bool false)))))]) (.seq (.ops [.L 3 2 1, .i 4 (.call 9 [.t 3, .n 3000]), .i 5 (.bin .gtr (.t 4) (.n 3000)), .m 2 5]) .ret))
theorem O_ : OkF Tryz.prog 6 6 [] J9 [.t 2] := .of Tryz.func6 rfl rfl (by kernel_rfl) rfl
def F1 : IR :=
 (.seq (.ops [.i 1 (.box 25 (.t 0)), .i 2 (.alloc 25 [.st (.str (ByteArray.mk (#[]))), .full []])]) (.seq (.ops [.f 6 0 1, .l 7 6, .i 8 (.build [.st (.str (ByteArray.mk (#[]))), .full []] [(0, 1, .t 7)]), .i 3 (.alloc 25 [.st (.str (ByteArray.mk (#[]))), .full []]), .s 2 3 8]) (.seq (.seq (.ops [.f 9 1 1, .l 10 9, .i 11 (.len false (.t 10)), .i 12 (.mov (.n 0))]) (.block 0 (.loop (.seq (.ops [.i 13 (.bin .lss (.t 12) (.t 11))]) (.seq (.cond (.t 13) .skip (.exit 0)) (.seq (.block 1 (.seq (.ops [.i 14 (.indexAddr 2 (.t 10) (.t 12)), .L 15 2 14, .i 5 (.alloc 25 [.st (.str (ByteArray.mk (#[]))), .full []]), .s 2 5 15]) (.ops [.f 16 1 3, .l 17 16, .L 18 2 5, .i 19 (.call 55 [.t 18]), .i 20 (.buildSlice false 25 2 [.t 19]), .i 21 (.append false 25 2 40 (.t 17) (.t 20)), .f 22 1 3, .s 1 22 21]))) (.ops [.i 23 (.bin .add (.t 12) (.n 1)), .m 12 23]))))))) (.seq (.ops [.L 24 2 3, .s 2 2 24]) .ret))))
theorem Kq : OkF Tryz.prog 55 25 [] F1 [.cell 2 true 2] := .of Tryz.func55 rfl rfl (by kernel_rfl) rfl
def BE : IR :=
 (.seq (.ops [.i 4 (.mov (.n 0))]) (.seq (.seq (.ops [.m 6 0, .i 7 (.len false (.t 6)), .i 8 (.mov (.n 0))]) (.block 0 (.loop (.seq (.ops [.i 9 (.bin .lss (.t 8) (.t 7))]) (.seq (.cond (.t 9) .skip (.exit 0)) (.seq (.block 1 (.seq (.ops [.m 10 8, .m 5 10]) (.seq (.ops [.m 11 1, .m 12 0, .m 13 5, .i 14 (.indexAddr 1 (.t 12) (.t 13)), .l 15 14, .i 16 (.bin .eql (.t 11) (.t 15))]) (.cond (.t 16) (.seq (.ops [.m 17 5, .m 4 17]) .ret) .skip)))) (.ops [.i 18 (.bin .add (.t 8) (.n 1)), .m 8 18]))))))) (.seq (.ops [.i 4 (.mov (.c (.one (.st (.int .i64 (-1))))))]) .ret)))
theorem Bf : OkF Tryz.prog 95 19 [] BE [.t 4] := .of Tryz.func95 rfl rfl (by kernel_rfl) rfl
def BU : IR :=
 (.seq (.ops [.i 4 (.mov (.c (.one (.st (.bool false)))))]) (.seq (.ops [.m 5 0, .m 6 1, .i 7 (.call 95 [.t 5, .t 6]), .i 8 (.bin .geq (.t 7) (.n 0)), .m 4 8]) .ret))
theorem CM : OkF Tryz.prog 66 9 [] BU [.t 4] := .of Tryz.func66 rfl rfl (by kernel_rfl) rfl
def D_ : IR :=
 (.seq (.ops [.i 2 (.box 25 (.t 0)), .i 4 (.mov (.c (.one (.full []))))]) (.seq (.seq (.ops [.f 7 0 2, .l 8 7, .i 9 (.call 62 [.t 8]), .m 10 9, .mk (some 11) (some (10, true)) (.mov (.t 1)) .no, .mk (some 12) (some (10, true)) (.fieldAddr 0 (.t 2)) .no, .mk (some 13) (some (10, true)) (.load false 1 (.t 12)) .no, .mk (some 14) (some (10, true)) (.call 66 [.t 11, .t 13]) .no, .mk (some 15) (some (10, true)) (.un .not (.t 14)) .no, .i 16 (.pick (.t 10) (.t 15) (.c (.one (.st (.bool false)))))]) (.cond (.t 16) (.ops [.m 17 1, .f 18 0 2, .l 19 18, .i 20 (.buildFlat [.t 19]), .i 21 (.append false 9 1 16 (.t 17) (.t 20)), .m 1 21]) .skip)) (.seq (.seq (.ops [.f 22 1 2, .l 23 22, .i 24 (.len false (.t 23)), .i 25 (.mov (.n 0))]) (.block 0 (.loop (.seq (.ops [.i 26 (.bin .lss (.t 25) (.t 24))]) (.seq (.cond (.t 26) .skip (.exit 0)) (.seq (.block 1 (.seq (.ops [.i 27 (.indexAddr 2 (.t 23) (.t 25)), .L 28 2 27, .i 6 (.alloc 25 [.st (.str (ByteArray.mk (#[]))), .full []]), .s 2 6 28]) (.ops [.L 29 2 6, .m 30 1, .i 31 (.callS 93 [.t 29, .t 30]), .m 1 31]))) (.ops [.i 32 (.bin .add (.t 25) (.n 1)), .m 25 32]))))))) (.seq (.ops [.m 33 1, .m 4 33]) .ret))))
theorem GS : OkF Tryz.prog 93 34 [31] D_ [.t 4] := .of Tryz.func93 rfl rfl (by kernel_rfl) rfl
def Fu : IR :=
 (.seq (.ops [.i 1 (.box 25 (.t 0)), .i 2 (.mov (.c (.one (.full []))))]) (.seq (.ops [.L 3 2 1, .i 4 (.callS 93 [.t 3, .c (.one (.full []))]), .m 2 4]) .ret))
theorem Ki : OkF Tryz.prog 63 5 [4] Fu [.t 2] := .of Tryz.func63 rfl rfl (by kernel_rfl) rfl

set_option linter.unusedSimpArgs false
theorem Cp (s : ByteArray) (k : Nat) : HQ s k = Au s k := rfl
theorem K4 {s : ByteArray} (h : ¬ s.size = 0) : ¬ s = ⟨#[]⟩ := fun e => h (by rw [e]; rfl)
theorem It {s : ByteArray} (h : s.size = 0) : s = ⟨#[]⟩ := by
 have := ByteArray.size_eq_zero_iff.1 h
 exact this
theorem P1 (n : Int) (h0 : 0 ≤ n) : AT Tryz.prog 118 [.one (.st (.int .u8 n))] (Ah (BL n)) := by
 refine Hr.ac fun C hC => ?_
 unfold ER
 have hc : (97 ≤ n ∧ n ≤ 122) ∨ (122 < n) ∨ (n < 97 ∧ 65 ≤ n ∧ n ≤ 90) ∨ (n < 97 ∧ 90 < n) ∨ (n < 65 ∧ 48 ≤ n ∧ n ≤ 57) ∨ (n < 65 ∧ 57 < n) ∨ (n < 48) := by omega
 rcases hc with h | h | h | h | h | h | h
 ·have h1 : 97 ≤ n := h.1
  have h2 : n ≤ 122 := h.2
  repeat' with_reducible first | refine W ?_ | refine Z0 ?_ | ((first | refine Wo fun K hK => ?_ | refine Wq ?_ | refine Wr ?_); (try simp only [go_sem, fN, seval, eT, iR, h1, h2]); (repeat refine Ai ?_); (try (refine hK _ ?_; clear hK K)))
  simp only [go_sem, fN, seval, AQ, AS.result, AD, AE, AL, BL, h1, h2]
  try simp
 ·have h1 : 97 ≤ n := by omega
  have h2 : ¬ n ≤ 122 := by omega
  have h3 : 65 ≤ n := by omega
  have h4 : ¬ n ≤ 90 := by omega
  have h5 : 48 ≤ n := by omega
  have h6 : ¬ n ≤ 57 := by omega
  repeat' with_reducible first | refine W ?_ | refine Z0 ?_ | ((first | refine Wo fun K hK => ?_ | refine Wq ?_ | refine Wr ?_); (try simp only [go_sem, fN, seval, eT, iR, h1, h2, h3, h4, h5, h6]); (repeat refine Ai ?_); (try (refine hK _ ?_; clear hK K)))
  simp only [go_sem, fN, seval, AQ, AS.result, AD, AE, AL, BL, h1, h2, h3, h4, h5, h6]
  try simp
 ·have h1 : ¬ 97 ≤ n := by omega
  have h3 : 65 ≤ n := by omega
  have h4 : n ≤ 90 := by omega
  repeat' with_reducible first | refine W ?_ | refine Z0 ?_ | ((first | refine Wo fun K hK => ?_ | refine Wq ?_ | refine Wr ?_); (try simp only [go_sem, fN, seval, eT, iR, h1, h3, h4]); (repeat refine Ai ?_); (try (refine hK _ ?_; clear hK K)))
  simp only [go_sem, fN, seval, AQ, AS.result, AD, AE, AL, BL, h1, h3, h4]
  try simp
 ·have h1 : ¬ 97 ≤ n := by omega
  have h3 : 65 ≤ n := by omega
  have h4 : ¬ n ≤ 90 := by omega
  have h5 : 48 ≤ n := by omega
  have h6 : ¬ n ≤ 57 := by omega
  repeat' with_reducible first | refine W ?_ | refine Z0 ?_ | ((first | refine Wo fun K hK => ?_ | refine Wq ?_ | refine Wr ?_); (try simp only [go_sem, fN, seval, eT, iR, h1, h3, h4, h5, h6]); (repeat refine Ai ?_); (try (refine hK _ ?_; clear hK K)))
  simp only [go_sem, fN, seval, AQ, AS.result, AD, AE, AL, BL, h1, h3, h4, h5, h6]
  try simp
 ·have h1 : ¬ 97 ≤ n := by omega
  have h3 : ¬ 65 ≤ n := by omega
  have h5 : 48 ≤ n := by omega
  have h6 : n ≤ 57 := by omega
  repeat' with_reducible first | refine W ?_ | refine Z0 ?_ | ((first | refine Wo fun K hK => ?_ | refine Wq ?_ | refine Wr ?_); (try simp only [go_sem, fN, seval, eT, iR, h1, h3, h5, h6]); (repeat refine Ai ?_); (try (refine hK _ ?_; clear hK K)))
  simp only [go_sem, fN, seval, AQ, AS.result, AD, AE, AL, BL, h1, h3, h5, h6]
  try simp
 ·have h1 : ¬ 97 ≤ n := by omega
  have h3 : ¬ 65 ≤ n := by omega
  have h5 : 48 ≤ n := by omega
  have h6 : ¬ n ≤ 57 := by omega
  repeat' with_reducible first | refine W ?_ | refine Z0 ?_ | ((first | refine Wo fun K hK => ?_ | refine Wq ?_ | refine Wr ?_); (try simp only [go_sem, fN, seval, eT, iR, h1, h3, h5, h6]); (repeat refine Ai ?_); (try (refine hK _ ?_; clear hK K)))
  simp only [go_sem, fN, seval, AQ, AS.result, AD, AE, AL, BL, h1, h3, h5, h6]
  try simp
 ·have h1 : ¬ 97 ≤ n := by omega
  have h3 : ¬ 65 ≤ n := by omega
  have h5 : ¬ 48 ≤ n := by omega
  repeat' with_reducible first | refine W ?_ | refine Z0 ?_ | ((first | refine Wo fun K hK => ?_ | refine Wq ?_ | refine Wr ?_); (try simp only [go_sem, fN, seval, eT, iR, h1, h3, h5]); (repeat refine Ai ?_); (try (refine hK _ ?_; clear hK K)))
  simp only [go_sem, fN, seval, AQ, AS.result, AD, AE, AL, BL, h1, h3, h5]
  try simp
theorem Mp (n : Int) (h0 : 0 ≤ n) : AT Tryz.prog 43 [.one (.st (.int .u8 n))] (Ah (BL n)) := by
 refine I5.ac fun C hC => ?_
 unfold FJ
 have hc : (97 ≤ n ∧ n ≤ 122) ∨ (122 < n) ∨ (n < 97 ∧ 65 ≤ n ∧ n ≤ 90) ∨ (n < 97 ∧ 90 < n) ∨ (n < 65 ∧ 48 ≤ n ∧ n ≤ 57) ∨ (n < 65 ∧ 57 < n) ∨ (n < 48) := by omega
 rcases hc with h | h | h | h | h | h | h
 ·have h1 : 97 ≤ n := h.1
  have h2 : n ≤ 122 := h.2
  repeat' with_reducible first | refine W ?_ | refine Z0 ?_ | ((first | refine Wo fun K hK => ?_ | refine Wq ?_ | refine Wr ?_); (try simp only [go_sem, fN, seval, eT, iR, h1, h2]); (repeat refine Ai ?_); (try (refine hK _ ?_; clear hK K)))
  simp only [go_sem, fN, seval, AQ, AS.result, AD, AE, AL, BL, h1, h2]
  try simp
 ·have h1 : 97 ≤ n := by omega
  have h2 : ¬ n ≤ 122 := by omega
  have h3 : 65 ≤ n := by omega
  have h4 : ¬ n ≤ 90 := by omega
  have h5 : 48 ≤ n := by omega
  have h6 : ¬ n ≤ 57 := by omega
  repeat' with_reducible first | refine W ?_ | refine Z0 ?_ | ((first | refine Wo fun K hK => ?_ | refine Wq ?_ | refine Wr ?_); (try simp only [go_sem, fN, seval, eT, iR, h1, h2, h3, h4, h5, h6]); (repeat refine Ai ?_); (try (refine hK _ ?_; clear hK K)))
  simp only [go_sem, fN, seval, AQ, AS.result, AD, AE, AL, BL, h1, h2, h3, h4, h5, h6]
  try simp
 ·have h1 : ¬ 97 ≤ n := by omega
  have h3 : 65 ≤ n := by omega
  have h4 : n ≤ 90 := by omega
  repeat' with_reducible first | refine W ?_ | refine Z0 ?_ | ((first | refine Wo fun K hK => ?_ | refine Wq ?_ | refine Wr ?_); (try simp only [go_sem, fN, seval, eT, iR, h1, h3, h4]); (repeat refine Ai ?_); (try (refine hK _ ?_; clear hK K)))
  simp only [go_sem, fN, seval, AQ, AS.result, AD, AE, AL, BL, h1, h3, h4]
  try simp
 ·have h1 : ¬ 97 ≤ n := by omega
  have h3 : 65 ≤ n := by omega
  have h4 : ¬ n ≤ 90 := by omega
  have h5 : 48 ≤ n := by omega
  have h6 : ¬ n ≤ 57 := by omega
  repeat' with_reducible first | refine W ?_ | refine Z0 ?_ | ((first | refine Wo fun K hK => ?_ | refine Wq ?_ | refine Wr ?_); (try simp only [go_sem, fN, seval, eT, iR, h1, h3, h4, h5, h6]); (repeat refine Ai ?_); (try (refine hK _ ?_; clear hK K)))
  simp only [go_sem, fN, seval, AQ, AS.result, AD, AE, AL, BL, h1, h3, h4, h5, h6]
  try simp
 ·have h1 : ¬ 97 ≤ n := by omega
  have h3 : ¬ 65 ≤ n := by omega
  have h5 : 48 ≤ n := by omega
  have h6 : n ≤ 57 := by omega
  repeat' with_reducible first | refine W ?_ | refine Z0 ?_ | ((first | refine Wo fun K hK => ?_ | refine Wq ?_ | refine Wr ?_); (try simp only [go_sem, fN, seval, eT, iR, h1, h3, h5, h6]); (repeat refine Ai ?_); (try (refine hK _ ?_; clear hK K)))
  simp only [go_sem, fN, seval, AQ, AS.result, AD, AE, AL, BL, h1, h3, h5, h6]
  try simp
 ·have h1 : ¬ 97 ≤ n := by omega
  have h3 : ¬ 65 ≤ n := by omega
  have h5 : 48 ≤ n := by omega
  have h6 : ¬ n ≤ 57 := by omega
  repeat' with_reducible first | refine W ?_ | refine Z0 ?_ | ((first | refine Wo fun K hK => ?_ | refine Wq ?_ | refine Wr ?_); (try simp only [go_sem, fN, seval, eT, iR, h1, h3, h5, h6]); (repeat refine Ai ?_); (try (refine hK _ ?_; clear hK K)))
  simp only [go_sem, fN, seval, AQ, AS.result, AD, AE, AL, BL, h1, h3, h5, h6]
  try simp
 ·have h1 : ¬ 97 ≤ n := by omega
  have h3 : ¬ 65 ≤ n := by omega
  have h5 : ¬ 48 ≤ n := by omega
  repeat' with_reducible first | refine W ?_ | refine Z0 ?_ | ((first | refine Wo fun K hK => ?_ | refine Wq ?_ | refine Wr ?_); (try simp only [go_sem, fN, seval, eT, iR, h1, h3, h5]); (repeat refine Ai ?_); (try (refine hK _ ?_; clear hK K)))
  simp only [go_sem, fN, seval, AQ, AS.result, AD, AE, AL, BL, h1, h3, h5]
  try simp
theorem DC (s : ByteArray) : AT Tryz.prog 62 [CV s] (Ah (Aw s)) := by
 by_cases h0 : s.size = 0
 ·have := It h0
  subst this
  refine Dp.ac fun C hC => ?_
  unfold Ch
  repeat' with_reducible first | refine W ?_ | refine Z0 ?_ | ((first | refine Wo fun K hK => ?_ | refine Wq ?_ | refine Wr ?_); (try simp only [go_sem, fN, seval, eT, iR]); (repeat refine Ai ?_); (try (refine hK _ ?_; clear hK K)))
  simp only [go_sem, fN, seval, AQ, AS.result, AD, AE, AL]
  rfl
 ·have h1 := K4 h0
  have h2 : 0 < s.size := by omega
  refine Dp.ac fun C hC => ?_
  unfold Ch
  by_cases h3 : 65 ≤ Au s 0 <;> by_cases h4 : Au s 0 ≤ 90
  all_goals
   repeat' with_reducible first | refine W ?_ | refine Z0 ?_ | ((first | refine Wo fun K hK => ?_ | refine Wq ?_ | refine Wr ?_); (try simp only [go_sem, fN, seval, eT, iR, h1, h2, Cp, h3, h4]); (repeat refine Ai ?_); (try (refine hK _ ?_; clear hK K)))
   simp only [go_sem, fN, seval, AQ, AS.result, AD, AE, AL, Aw, h3, h4, h2]
   try simp
theorem GC (s : ByteArray) : AT Tryz.prog 19 [CV s] (Ah (Aw s)) := by
 by_cases h0 : s.size = 0
 ·have := It h0
  subst this
  refine Ic.ac fun C hC => ?_
  unfold FS
  repeat' with_reducible first | refine W ?_ | refine Z0 ?_ | ((first | refine Wo fun K hK => ?_ | refine Wq ?_ | refine Wr ?_); (try simp only [go_sem, fN, seval, eT, iR]); (repeat refine Ai ?_); (try (refine hK _ ?_; clear hK K)))
  simp only [go_sem, fN, seval, AQ, AS.result, AD, AE, AL]
  rfl
 ·have h1 := K4 h0
  have h2 : 0 < s.size := by omega
  refine Ic.ac fun C hC => ?_
  unfold FS
  by_cases h3 : 65 ≤ Au s 0 <;> by_cases h4 : Au s 0 ≤ 90
  all_goals
   repeat' with_reducible first | refine W ?_ | refine Z0 ?_ | ((first | refine Wo fun K hK => ?_ | refine Wq ?_ | refine Wr ?_); (try simp only [go_sem, fN, seval, eT, iR, h1, h2, Cp, h3, h4]); (repeat refine Ai ?_); (try (refine hK _ ?_; clear hK K)))
   simp only [go_sem, fN, seval, AQ, AS.result, AD, AE, AL, Aw, h3, h4, h2]
   try simp
theorem J2 (s : ByteArray) (h1 : 1 ≤ s.size) (h8 : s.size ≤ 8) (hd : ¬ (48 ≤ Au s 0 ∧ Au s 0 ≤ 57)) : BC s = B4 s s.size := by
 unfold BC
 have : (decide (48 ≤ Au s 0) && decide (Au s 0 ≤ 57)) = false := by
  rw [Bool.and_eq_false_iff]
  simp
  omega
 rw [this]
 simp [h1, h8]
theorem Rb (s : ByteArray) : AT Tryz.prog 104 [CV s] (Ah (BC s)) := by
 by_cases h0 : s.size < 1
 ·have e : BC s = false := by simp [BC]; omega
  rw [e]
  have h0' : (s.size : Int) < 1 := by omega
  refine C0.ac fun C hC => ?_
  unfold CQ
  repeat' with_reducible first | refine W ?_ | refine Z0 ?_ | ((first | refine Wo fun K hK => ?_ | refine Wq ?_ | refine Wr ?_); (try simp only [go_sem, fN, seval, eT, iR, h0']); (repeat refine Ai ?_); (try (refine hK _ ?_; clear hK K)))
  with_reducible refine Wp ?_
  simp only [go_sem, fN, seval, true_implies, false_implies, implies_true, dT, dF, nL, h0']
  (try with_reducible refine iC ?_)
  repeat' with_reducible first | refine W ?_ | refine Z0 ?_ | ((first | refine Wo fun K hK => ?_ | refine Wq ?_ | refine Wr ?_); (try simp only [go_sem, fN, seval, eT, iR]); (repeat refine Ai ?_); (try (refine hK _ ?_; clear hK K)))
  simp only [go_sem, fN, seval, AQ, AS.result, AD, AE, AL]
 have h0' : ¬ (s.size : Int) < 1 := by omega
 by_cases h8 : 8 < s.size
 ·have e : BC s = false := by simp [BC]; omega
  rw [e]
  have h8' : (8 : Int) < s.size := by omega
  refine C0.ac fun C hC => ?_
  unfold CQ
  repeat' with_reducible first | refine W ?_ | refine Z0 ?_ | ((first | refine Wo fun K hK => ?_ | refine Wq ?_ | refine Wr ?_); (try simp only [go_sem, fN, seval, eT, iR, h0', h8']); (repeat refine Ai ?_); (try (refine hK _ ?_; clear hK K)))
  with_reducible refine Wp ?_
  simp only [go_sem, fN, seval, true_implies, false_implies, implies_true, dT, dF, nL, h0']
  (try with_reducible refine iC ?_)
  repeat' with_reducible first | refine W ?_ | refine Z0 ?_ | ((first | refine Wo fun K hK => ?_ | refine Wq ?_ | refine Wr ?_); (try simp only [go_sem, fN, seval, eT, iR]); (repeat refine Ai ?_); (try (refine hK _ ?_; clear hK K)))
  simp only [go_sem, fN, seval, AQ, AS.result, AD, AE, AL]
 have h8' : ¬ (8 : Int) < s.size := by omega
 have hpos : 0 < s.size := by omega
 by_cases hd : 48 ≤ Au s 0 ∧ Au s 0 ≤ 57
 ·have e : BC s = false := by simp [BC, hd.1, hd.2]
  rw [e]
  refine C0.ac fun C hC => ?_
  unfold CQ
  repeat' with_reducible first | refine W ?_ | refine Z0 ?_ | ((first | refine Wo fun K hK => ?_ | refine Wq ?_ | refine Wr ?_); (try simp only [go_sem, fN, seval, eT, iR, h0', h8', hpos, Cp, hd.1, hd.2]); (repeat refine Ai ?_); (try (refine hK _ ?_; clear hK K)))
  with_reducible refine Wp ?_
  simp only [go_sem, fN, seval, true_implies, false_implies, implies_true, dT, dF, nL, h0']
  (try with_reducible refine iC ?_)
  repeat' with_reducible first | refine W ?_ | refine Z0 ?_ | ((first | refine Wo fun K hK => ?_ | refine Wq ?_ | refine Wr ?_); (try simp only [go_sem, fN, seval, eT, iR]); (repeat refine Ai ?_); (try (refine hK _ ?_; clear hK K)))
  simp only [go_sem, fN, seval, AQ, AS.result, AD, AE, AL]
 rw [J2 s (by omega) (by omega) hd]
 have hd2 : (48 ≤ Au s 0 ∧ ¬ Au s 0 ≤ 57) ∨ (¬ 48 ≤ Au s 0) := by omega
 refine C0.ac fun C hC => ?_
 unfold CQ
 have h57 : 48 ≤ Au s 0 → ¬ Au s 0 ≤ 57 := fun h h' => hd ⟨h, h'⟩
 by_cases h48 : 48 ≤ Au s 0
 all_goals
  simp only [h48, true_implies, false_implies] at h57
  repeat' with_reducible first | refine W ?_ | refine Z0 ?_ | ((first | refine Wo fun K hK => ?_ | refine Wq ?_ | refine Wr ?_); (try simp only [go_sem, fN, seval, eT, iR, h0', h8', hpos, Cp, h48, h57]); (repeat refine Ai ?_); (try (refine hK _ ?_; clear hK K)))
  with_reducible refine Wp ?_
  simp only [go_sem, fN, seval, true_implies, false_implies, implies_true, dT, dF, nL, h0']
  (try with_reducible refine iC ?_)
  repeat' with_reducible first | refine W ?_ | refine Z0 ?_ | ((first | refine Wo fun K hK => ?_ | refine Wq ?_ | refine Wr ?_); (try simp only [go_sem, fN, seval, eT, iR]); (repeat refine Ai ?_); (try (refine hK _ ?_; clear hK K)))
  refine IWP.loop (fun m x => ∃ k, k ≤ s.size ∧ m = s.size - k ∧ B4 s k = true ∧ x.env 0 = CV s ∧ x.env 23 = Ab s.size ∧ x.env 24 = Ab k) s.size ⟨0, Nat.zero_le _, rfl, rfl, rfl, rfl, rfl⟩ ?_
  rintro m ⟨env, S⟩ ⟨k, hk, rfl, hl, e0, e23, e24⟩
  simp only at e0 e23 e24
  repeat' with_reducible first | refine W ?_ | refine Z0 ?_ | ((first | refine Wo fun K hK => ?_ | refine Wq ?_ | refine Wr ?_); (try simp only [go_sem, fN, seval, eT, iR, e0, e23, e24]); (repeat refine Ai ?_); (try (refine hK _ ?_; clear hK K)))
  with_reducible refine Wp ?_
  simp only [go_sem, fN, seval, true_implies, false_implies, implies_true, dT, dF, nL, e0, e23, e24]
  (try with_reducible refine iC ?_)
  refine ⟨fun hlt => ?_, fun hge => ?_⟩
  ·have hlt' : k < s.size := by omega
   repeat' (first | (with_reducible first | refine W ?_ | refine Z0 ?_ | ((first | refine Wo fun K hK => ?_ | refine Wq ?_ | refine Wr ?_); (try simp only [go_sem, fN, seval, eT, iR, e0, e23, e24, hlt', Cp]); (repeat refine Ai ?_); (try (refine hK _ ?_; clear hK K)))) | refine Cg _ (P1 _ (F_ s k).1) ?_)
   with_reducible refine Wp ?_
   simp only [go_sem, fN, seval, true_implies, false_implies, implies_true, dT, dF, nL]
   (try with_reducible refine iC ?_)
   refine ⟨fun hn => ?_, fun hn => ?_⟩
   ·repeat' with_reducible first | refine W ?_ | refine Z0 ?_ | ((first | refine Wo fun K hK => ?_ | refine Wq ?_ | refine Wr ?_); (try simp only [go_sem, fN, seval, eT, iR]); (repeat refine Ai ?_); (try (refine hK _ ?_; clear hK K)))
    simp only [go_sem, fN, seval, AQ, AS.result, AD, AE, AL]
    rw [GO s k hlt' (by simpa using hn)]
   ·repeat' with_reducible first | refine W ?_ | refine Z0 ?_ | ((first | refine Wo fun K hK => ?_ | refine Wq ?_ | refine Wr ?_); (try simp only [go_sem, fN, seval, eT, iR, e0, e23, e24]); (repeat refine Ai ?_); (try (refine hK _ ?_; clear hK K)))
    refine AI ⟨s.size - (k + 1), by omega, k + 1, by omega, rfl, ?_, ?_⟩
    ·rw [Eg s k hlt', hl]
     simpa using hn
    ·simp only [go_sem, fN, seval, eT, iR, e0, e23, e24]
     congr 3
  ·repeat' with_reducible first | refine W ?_ | refine Z0 ?_ | ((first | refine Wo fun K hK => ?_ | refine Wq ?_ | refine Wr ?_); (try simp only [go_sem, fN, seval, eT, iR]); (repeat refine Ai ?_); (try (refine hK _ ?_; clear hK K)))
   simp only [go_sem, fN, seval, AQ, AS.result, AD, AE, AL]
   rw [show s.size = k by omega, hl]
theorem PG (s : ByteArray) : AT Tryz.prog 23 [CV s] (Ah (BC s)) := by
 by_cases h0 : s.size < 1
 ·have e : BC s = false := by simp [BC]; omega
  rw [e]
  have h0' : s = ⟨#[]⟩ := It (by omega)
  subst h0'
  refine DR.ac fun C hC => ?_
  unfold Cm
  repeat' with_reducible first | refine W ?_ | refine Z0 ?_ | ((first | refine Wo fun K hK => ?_ | refine Wq ?_ | refine Wr ?_); (try simp only [go_sem, fN, seval, eT, iR]); (repeat refine Ai ?_); (try (refine hK _ ?_; clear hK K)))
  with_reducible refine Wp ?_
  simp only [go_sem, fN, seval, true_implies, false_implies, implies_true, dT, dF, nL]
  (try with_reducible refine iC ?_)
  repeat' with_reducible first | refine W ?_ | refine Z0 ?_ | ((first | refine Wo fun K hK => ?_ | refine Wq ?_ | refine Wr ?_); (try simp only [go_sem, fN, seval, eT, iR]); (repeat refine Ai ?_); (try (refine hK _ ?_; clear hK K)))
  simp only [go_sem, fN, seval, AQ, AS.result, AD, AE, AL]
 have h0' : ¬ s = ⟨#[]⟩ := K4 (by omega)
 by_cases h8 : 8 < s.size
 ·have e : BC s = false := by simp [BC]; omega
  rw [e]
  have h8' : (8 : Int) < s.size := by omega
  refine DR.ac fun C hC => ?_
  unfold Cm
  repeat' with_reducible first | refine W ?_ | refine Z0 ?_ | ((first | refine Wo fun K hK => ?_ | refine Wq ?_ | refine Wr ?_); (try simp only [go_sem, fN, seval, eT, iR, h0', h8']); (repeat refine Ai ?_); (try (refine hK _ ?_; clear hK K)))
  with_reducible refine Wp ?_
  simp only [go_sem, fN, seval, true_implies, false_implies, implies_true, dT, dF, nL, h0']
  (try with_reducible refine iC ?_)
  repeat' with_reducible first | refine W ?_ | refine Z0 ?_ | ((first | refine Wo fun K hK => ?_ | refine Wq ?_ | refine Wr ?_); (try simp only [go_sem, fN, seval, eT, iR]); (repeat refine Ai ?_); (try (refine hK _ ?_; clear hK K)))
  simp only [go_sem, fN, seval, AQ, AS.result, AD, AE, AL]
 have h8' : ¬ (8 : Int) < s.size := by omega
 have hpos : 0 < s.size := by omega
 by_cases hd : 48 ≤ Au s 0 ∧ Au s 0 ≤ 57
 ·have e : BC s = false := by simp [BC, hd.1, hd.2]
  rw [e]
  refine DR.ac fun C hC => ?_
  unfold Cm
  repeat' with_reducible first | refine W ?_ | refine Z0 ?_ | ((first | refine Wo fun K hK => ?_ | refine Wq ?_ | refine Wr ?_); (try simp only [go_sem, fN, seval, eT, iR, h0', h8', hpos, Cp, hd.1, hd.2]); (repeat refine Ai ?_); (try (refine hK _ ?_; clear hK K)))
  with_reducible refine Wp ?_
  simp only [go_sem, fN, seval, true_implies, false_implies, implies_true, dT, dF, nL, h0']
  (try with_reducible refine iC ?_)
  repeat' with_reducible first | refine W ?_ | refine Z0 ?_ | ((first | refine Wo fun K hK => ?_ | refine Wq ?_ | refine Wr ?_); (try simp only [go_sem, fN, seval, eT, iR]); (repeat refine Ai ?_); (try (refine hK _ ?_; clear hK K)))
  simp only [go_sem, fN, seval, AQ, AS.result, AD, AE, AL]
 rw [J2 s (by omega) (by omega) hd]
 refine DR.ac fun C hC => ?_
 unfold Cm
 have h57 : 48 ≤ Au s 0 → ¬ Au s 0 ≤ 57 := fun h h' => hd ⟨h, h'⟩
 by_cases h48 : 48 ≤ Au s 0
 all_goals
  simp only [h48, true_implies, false_implies] at h57
  repeat' with_reducible first | refine W ?_ | refine Z0 ?_ | ((first | refine Wo fun K hK => ?_ | refine Wq ?_ | refine Wr ?_); (try simp only [go_sem, fN, seval, eT, iR, h0', h8', hpos, Cp, h48, h57]); (repeat refine Ai ?_); (try (refine hK _ ?_; clear hK K)))
  with_reducible refine Wp ?_
  simp only [go_sem, fN, seval, true_implies, false_implies, implies_true, dT, dF, nL, h0']
  (try with_reducible refine iC ?_)
  repeat' with_reducible first | refine W ?_ | refine Z0 ?_ | ((first | refine Wo fun K hK => ?_ | refine Wq ?_ | refine Wr ?_); (try simp only [go_sem, fN, seval, eT, iR]); (repeat refine Ai ?_); (try (refine hK _ ?_; clear hK K)))
  refine IWP.loop (fun m x => ∃ k, k ≤ s.size ∧ m = s.size - k ∧ B4 s k = true ∧ x.env 0 = CV s ∧ x.env 3 = Ab k) s.size ⟨0, Nat.zero_le _, rfl, rfl, rfl, rfl⟩ ?_
  rintro m ⟨env, S⟩ ⟨k, hk, rfl, hl, e0, e3⟩
  simp only at e0 e3
  repeat' with_reducible first | refine W ?_ | refine Z0 ?_ | ((first | refine Wo fun K hK => ?_ | refine Wq ?_ | refine Wr ?_); (try simp only [go_sem, fN, seval, eT, iR, e0, e3]); (repeat refine Ai ?_); (try (refine hK _ ?_; clear hK K)))
  with_reducible refine Wp ?_
  simp only [go_sem, fN, seval, true_implies, false_implies, implies_true, dT, dF, nL, e0, e3]
  (try with_reducible refine iC ?_)
  refine ⟨fun hlt => ?_, fun hge => ?_⟩
  ·have hlt' : k < s.size := by omega
   repeat' (first | (with_reducible first | refine W ?_ | refine Z0 ?_ | ((first | refine Wo fun K hK => ?_ | refine Wq ?_ | refine Wr ?_); (try simp only [go_sem, fN, seval, eT, iR, e0, e3, hlt', Cp]); (repeat refine Ai ?_); (try (refine hK _ ?_; clear hK K)))) | refine Cg _ (Mp _ (F_ s k).1) ?_)
   with_reducible refine Wp ?_
   simp only [go_sem, fN, seval, true_implies, false_implies, implies_true, dT, dF, nL]
   (try with_reducible refine iC ?_)
   refine ⟨fun hn => ?_, fun hn => ?_⟩
   ·repeat' with_reducible first | refine W ?_ | refine Z0 ?_ | ((first | refine Wo fun K hK => ?_ | refine Wq ?_ | refine Wr ?_); (try simp only [go_sem, fN, seval, eT, iR]); (repeat refine Ai ?_); (try (refine hK _ ?_; clear hK K)))
    simp only [go_sem, fN, seval, AQ, AS.result, AD, AE, AL]
    rw [GO s k hlt' (by simpa using hn)]
   ·repeat' with_reducible first | refine W ?_ | refine Z0 ?_ | ((first | refine Wo fun K hK => ?_ | refine Wq ?_ | refine Wr ?_); (try simp only [go_sem, fN, seval, eT, iR, e0, e3]); (repeat refine Ai ?_); (try (refine hK _ ?_; clear hK K)))
    refine AI ⟨s.size - (k + 1), by omega, k + 1, by omega, rfl, ?_, ?_⟩
    ·rw [Eg s k hlt', hl]
     simpa using hn
    ·simp only [go_sem, fN, seval, eT, iR, e0, e3]
     congr 3
  ·repeat' with_reducible first | refine W ?_ | refine Z0 ?_ | ((first | refine Wo fun K hK => ?_ | refine Wq ?_ | refine Wr ?_); (try simp only [go_sem, fN, seval, eT, iR]); (repeat refine Ai ?_); (try (refine hK _ ?_; clear hK K)))
   simp only [go_sem, fN, seval, AQ, AS.result, AD, AE, AL]
   rw [show s.size = k by omega, hl]
theorem Pa (t : Tm) (m : Int) (h0 : 0 ≤ m) (h1 : m ≤ 9223372036854775807) : AT Tryz.prog 74 [aTm t, Ab m] (Ab (Bp t.size m)) := by
 induction h : SizeOf.sizeOf t using Nat.strongRecOn generalizing t m with
 | _ N ih =>
 subst h
 have hs := Tm.size_eq t
 refine H4.ac fun C hC => ?_
 unfold EL
 refine IWP.learn 0 (by omega) fun hkn => ?_
 have hkn := Ee hkn
 repeat' with_reducible first | refine W ?_ | refine Z0 ?_ | ((first | refine Wo fun K hK => ?_ | refine Wq ?_ | refine Wr ?_); (try simp only [go_sem, fN, seval, eT, iR]); (repeat refine Ai ?_); (try (refine hK _ ?_; clear hK K)))
 refine IWP.loopD [6] (fun n s => ∃ k, k ≤ t.args.length ∧ n = t.args.length - k ∧ s.env 1 = Ab (Bp (1 + Tm.sizes (t.args.take k)) m) ∧ s.env 10 = .one (.st (.list (t.args.map Ae))) ∧ s.env 11 = Ab t.args.length ∧ s.env 12 = Ab k ∧ s.S 6 = none) t.args.length ⟨0, Nat.zero_le _, rfl, by
  simp only [go_sem, fN, seval, eT, iR]
  rw [Bp]
  have z0 : Tm.sizes [] = 0 := rfl
  congr 3
  split <;> omega, rfl, rfl, rfl, rfl⟩ ?_
 rintro n ⟨env, S⟩ ⟨k, hk, rfl, e1, e10, e11, e12, s6⟩
 simp only at e1 e10 e11 e12 s6
 repeat' with_reducible first | refine W ?_ | refine Z0 ?_ | ((first | refine Wo fun K hK => ?_ | refine Wq ?_ | refine Wr ?_); (try simp only [go_sem, fN, seval, eT, iR, e1, e10, e11, e12, s6]); (repeat refine Ai ?_); (try (refine hK _ ?_; clear hK K)))
 with_reducible refine Wp ?_
 simp only [go_sem, fN, seval, true_implies, false_implies, implies_true, dT, dF, nL, e1, e10, e11, e12, s6]
 (try with_reducible refine iC ?_)
 refine ⟨fun hlt => ?_, fun hge => ?_⟩
 ·obtain ⟨a, ha⟩ := Ac (show k < t.args.length by omega)
  have z1 := Tm.sizes_take ha
  have z2 := Tm.sizes_take_le t.args (k + 1)
  have z3 := Tm.length_le t.args
  have z4 := O2 (1 + Tm.sizes (t.args.take k)) m h0
  repeat' with_reducible first | refine W ?_ | refine Z0 ?_ | ((first | refine Wo fun K hK => ?_ | refine Wq ?_ | refine Wr ?_); (try simp only [go_sem, fN, seval, eT, iR, e1, e10, e11, e12, s6, ha]); (repeat refine Ai ?_); (try (refine hK _ ?_; clear hK K)))
  with_reducible refine Wp ?_
  simp only [go_sem, fN, seval, true_implies, false_implies, implies_true, dT, dF, nL, e1]
  (try with_reducible refine iC ?_)
  refine ⟨fun hb => ?_, fun hb => ?_⟩
  ·repeat' with_reducible first | refine W ?_ | refine Z0 ?_ | ((first | refine Wo fun K hK => ?_ | refine Wq ?_ | refine Wr ?_); (try simp only [go_sem, fN, seval, eT, iR, e1]); (repeat refine Ai ?_); (try (refine hK _ ?_; clear hK K)))
   simp only [go_sem, fN, seval, AQ, AS.result, AD, AE, AL, e1]
   rw [Mt hb (show _ ≤ t.size by rw [hs]; omega)]
  ·repeat' (first | (with_reducible first | refine W ?_ | refine Z0 ?_ | ((first | refine Wo fun K hK => ?_ | refine Wq ?_ | refine Wr ?_); (try simp only [go_sem, fN, seval, eT, iR, e1, e10, e11, e12, s6, ha]); (repeat refine Ai ?_); (try (refine hK _ ?_; clear hK K)))) | refine Cg _ (ih _ (Tm.lt_of_arg (AO ha)) a _ (by omega) (by omega) rfl) ?_)
   refine AI ⟨t.args.length - (k + 1), by omega, k + 1, by omega, rfl, ?_⟩
   simp only [go_sem, fN, seval, AS.drop, Aa, AC.clears, AC.clear, AC.highs, AC.high, Bool.not_false, Bool.true_and, Bool.and_self, AV.purge, AV.purges, AC.purge, AJ.purge, List.contains_cons, List.contains_nil, Nat.reduceBEq, Bool.or_self, Bool.or_false, Bool.false_or, Bool.or_true, eT, iR, e1, e10, e11, e12, s6]
   exact ⟨by rw [MO (by omega), z1]; congr 4; omega, by congr 3⟩
 ·repeat' with_reducible first | refine W ?_ | refine Z0 ?_ | ((first | refine Wo fun K hK => ?_ | refine Wq ?_ | refine Wr ?_); (try simp only [go_sem, fN, seval, eT, iR, e1]); (repeat refine Ai ?_); (try (refine hK _ ?_; clear hK K)))
  simp only [go_sem, fN, seval, AQ, AS.result, AD, AE, AL, e1]
  rw [List.take_of_length_le (by omega), hs]
theorem Ep (t : Tm) (m : Int) (h0 : 0 ≤ m) (h1 : m ≤ 9223372036854775806) : AT Tryz.prog 9 [aTm t, Ab m] (Ab (Az t.size m)) := by
 induction h : SizeOf.sizeOf t using Nat.strongRecOn generalizing t m with
 | _ N ih =>
 subst h
 have hs := Tm.size_eq t
 refine OX.ac fun C hC => ?_
 unfold Ju
 refine IWP.learn 0 (by omega) fun hkn => ?_
 have hkn := Ee hkn
 repeat' with_reducible first | refine W ?_ | refine Z0 ?_ | ((first | refine Wo fun K hK => ?_ | refine Wq ?_ | refine Wr ?_); (try simp only [go_sem, fN, seval, eT, iR]); (repeat refine Ai ?_); (try (refine hK _ ?_; clear hK K)))
 refine IWP.loop (fun n s => ∃ k, k ≤ t.args.length ∧ n = t.args.length - k ∧ s.env 5 = Ab (Az (1 + Tm.sizes (t.args.take k)) m) ∧ s.env 1 = Ab m ∧ s.env 2 = .one (.ptr 2 1 0 0) ∧ s.env 6 = Ab k ∧ s.S 2 = some (.box 25 [.st (.str t.name), .st (.list (t.args.map Ae))])) t.args.length ⟨0, Nat.zero_le _, rfl, by
  simp only [go_sem, fN, seval, eT, iR]
  rw [Az]
  have z0 : Tm.sizes [] = 0 := rfl
  congr 3
  split <;> omega, rfl, rfl, rfl, rfl⟩ ?_
 rintro n ⟨env, S⟩ ⟨k, hk, rfl, e5, e1, e2, e6, s2⟩
 simp only at e5 e1 e2 e6 s2
 have z4 := F7 (1 + Tm.sizes (t.args.take k)) m h0
 by_cases hlt : (k : Int) < t.args.length
 ·obtain ⟨a, ha⟩ := Ac (show k < t.args.length by omega)
  have z1 := Tm.sizes_take ha
  have z2 := Tm.sizes_take_le t.args (k + 1)
  by_cases hb : m < Az (1 + Tm.sizes (t.args.take k)) m
  ·have hb' : ¬ Az (1 + Tm.sizes (t.args.take k)) m ≤ m := by omega
   repeat' with_reducible first | refine W ?_ | refine Z0 ?_ | ((first | refine Wo fun K hK => ?_ | refine Wq ?_ | refine Wr ?_); (try simp only [go_sem, fN, seval, eT, iR, e5, e1, e2, e6, s2, hlt, hb']); (repeat refine Ai ?_); (try (refine hK _ ?_; clear hK K)))
   with_reducible refine Wp ?_
   simp only [go_sem, fN, seval, true_implies, false_implies, implies_true, dT, dF, nL, hb']
   (try with_reducible refine iC ?_)
   repeat' with_reducible first | refine W ?_ | refine Z0 ?_ | ((first | refine Wo fun K hK => ?_ | refine Wq ?_ | refine Wr ?_); (try simp only [go_sem, fN, seval, eT, iR, e5, e1, e2, e6, s2]); (repeat refine Ai ?_); (try (refine hK _ ?_; clear hK K)))
   with_reducible refine Wp ?_
   simp only [go_sem, fN, seval, true_implies, false_implies, implies_true, dT, dF, nL, hb]
   (try with_reducible refine iC ?_)
   repeat' with_reducible first | refine W ?_ | refine Z0 ?_ | ((first | refine Wo fun K hK => ?_ | refine Wq ?_ | refine Wr ?_); (try simp only [go_sem, fN, seval, eT, iR, e1]); (repeat refine Ai ?_); (try (refine hK _ ?_; clear hK K)))
   simp only [go_sem, fN, seval, AQ, AS.result, AD, AE, AL]
   rw [D2 hb (show _ ≤ t.size by rw [hs]; omega)]
  ·have hb' : Az (1 + Tm.sizes (t.args.take k)) m ≤ m := by omega
   obtain ⟨b1, b2⟩ := GR hb
   repeat' with_reducible first | refine W ?_ | refine Z0 ?_ | ((first | refine Wo fun K hK => ?_ | refine Wq ?_ | refine Wr ?_); (try simp only [go_sem, fN, seval, eT, iR, e5, e1, e2, e6, s2, hlt, hb']); (repeat refine Ai ?_); (try (refine hK _ ?_; clear hK K)))
   with_reducible refine Wp ?_
   simp only [go_sem, fN, seval, true_implies, false_implies, implies_true, dT, dF, nL, hb']
   (try with_reducible refine iC ?_)
   repeat' with_reducible first | refine W ?_ | refine Z0 ?_ | ((first | refine Wo fun K hK => ?_ | refine Wq ?_ | refine Wr ?_); (try simp only [go_sem, fN, seval, eT, iR, e5, e1, e2, e6, s2, ha]); (repeat refine Ai ?_); (try (refine hK _ ?_; clear hK K)))
   refine ⟨_, ih _ (Tm.lt_of_arg (AO ha)) a (m - Az (1 + Tm.sizes (t.args.take k)) m) (by omega) (by omega) rfl, ?_⟩
   have z5 := F7 a.size (m - Az (1 + Tm.sizes (t.args.take k)) m) (by omega)
   repeat' with_reducible first | refine W ?_ | refine Z0 ?_ | ((first | refine Wo fun K hK => ?_ | refine Wq ?_ | refine Wr ?_); (try simp only [go_sem, fN, seval, eT, iR, e5, e1, e2, e6, s2]); (repeat refine Ai ?_); (try (refine hK _ ?_; clear hK K)))
   refine AI ⟨t.args.length - (k + 1), by omega, k + 1, by omega, rfl, ?_⟩
   simp only [go_sem, fN, seval, eT, iR, e5, e1, e2, e6, s2]
   exact ⟨by rw [b1, IY b2, z1]; congr 4; omega, by congr 3⟩
 ·repeat' with_reducible first | refine W ?_ | refine Z0 ?_ | ((first | refine Wo fun K hK => ?_ | refine Wq ?_ | refine Wr ?_); (try simp only [go_sem, fN, seval, eT, iR, e5, e1, e2, e6, s2, hlt]); (repeat refine Ai ?_); (try (refine hK _ ?_; clear hK K)))
  with_reducible refine Wp ?_
  simp only [go_sem, fN, seval, true_implies, false_implies, implies_true, dT, dF, nL]
  (try with_reducible refine iC ?_)
  have hfull : 1 + Tm.sizes (t.args.take k) = t.size := by rw [List.take_of_length_le (by omega), hs]
  rw [hfull] at e5 z4
  repeat' with_reducible first | refine W ?_ | refine Z0 ?_ | ((first | refine Wo fun K hK => ?_ | refine Wq ?_ | refine Wr ?_); (try simp only [go_sem, fN, seval, eT, iR, e5, e1]); (repeat refine Ai ?_); (try (refine hK _ ?_; clear hK K)))
  by_cases hb : m < Az t.size m
  ·with_reducible refine Wp ?_
   simp only [go_sem, fN, seval, true_implies, false_implies, implies_true, dT, dF, nL, hb]
   (try with_reducible refine iC ?_)
   repeat' with_reducible first | refine W ?_ | refine Z0 ?_ | ((first | refine Wo fun K hK => ?_ | refine Wq ?_ | refine Wr ?_); (try simp only [go_sem, fN, seval, eT, iR, e1]); (repeat refine Ai ?_); (try (refine hK _ ?_; clear hK K)))
   simp only [go_sem, fN, seval, AQ, AS.result, AD, AE, AL]
   rw [D2 hb (Nat.le_refl _)]
  ·with_reducible refine Wp ?_
   simp only [go_sem, fN, seval, true_implies, false_implies, implies_true, dT, dF, nL, hb]
   (try with_reducible refine iC ?_)
   repeat' with_reducible first | refine W ?_ | refine Z0 ?_ | ((first | refine Wo fun K hK => ?_ | refine Wq ?_ | refine Wr ?_); (try simp only [go_sem, fN, seval, eT, iR, e5]); (repeat refine Ai ?_); (try (refine hK _ ?_; clear hK K)))
   simp only [go_sem, fN, seval, AQ, AS.result, AD, AE, AL, e5]
theorem Qk (t : Tm) : AT Tryz.prog 75 [aTm t] (Ab t.chk) := by
 induction h : SizeOf.sizeOf t using Nat.strongRecOn generalizing t with
 | _ N ih =>
 subst h
 have hc := Tm.chk_eq t
 have hc1 : BY t = if BC t.name = true then (if Aw t.name = true ∧ 0 < t.args.length then 2 else 0) else 1 := rfl
 refine JI.ac fun C hC => ?_
 unfold E9
 refine IWP.learn 0 (by omega) fun hkn => ?_
 have hkn := Ee hkn
 repeat' with_reducible first | refine W ?_ | refine Z0 ?_ | ((first | refine Wo fun K hK => ?_ | refine Wq ?_ | refine Wr ?_); (try simp only [go_sem, fN, seval, eT, iR]); (repeat refine Ai ?_); (try (refine hK _ ?_; clear hK K)))
 refine ⟨_, Rb _, ?_⟩
 cases hn : BC t.name with
 | false =>
  rw [hn, if_neg (by simp)] at hc1
  repeat' with_reducible first | refine W ?_ | refine Z0 ?_ | ((first | refine Wo fun K hK => ?_ | refine Wq ?_ | refine Wr ?_); (try simp only [go_sem, fN, seval, eT, iR]); (repeat refine Ai ?_); (try (refine hK _ ?_; clear hK K)))
  with_reducible refine Wp ?_
  simp only [go_sem, fN, seval, true_implies, false_implies, implies_true, dT, dF, nL]
  (try with_reducible refine iC ?_)
  repeat' with_reducible first | refine W ?_ | refine Z0 ?_ | ((first | refine Wo fun K hK => ?_ | refine Wq ?_ | refine Wr ?_); (try simp only [go_sem, fN, seval, eT, iR]); (repeat refine Ai ?_); (try (refine hK _ ?_; clear hK K)))
  simp only [go_sem, fN, seval, AQ, AS.result, AD, AE, AL]
  rw [hc, hc1]
  rfl
 | true =>
  rw [hn, if_pos rfl] at hc1
  repeat' with_reducible first | refine W ?_ | refine Z0 ?_ | ((first | refine Wo fun K hK => ?_ | refine Wq ?_ | refine Wr ?_); (try simp only [go_sem, fN, seval, eT, iR]); (repeat refine Ai ?_); (try (refine hK _ ?_; clear hK K)))
  with_reducible refine Wp ?_
  simp only [go_sem, fN, seval, true_implies, false_implies, implies_true, dT, dF, nL]
  (try with_reducible refine iC ?_)
  repeat' with_reducible first | refine W ?_ | refine Z0 ?_ | ((first | refine Wo fun K hK => ?_ | refine Wq ?_ | refine Wr ?_); (try simp only [go_sem, fN, seval, eT, iR]); (repeat refine Ai ?_); (try (refine hK _ ?_; clear hK K)))
  refine ⟨_, DC _, ?_⟩
  by_cases hv : Aw t.name = true ∧ 0 < t.args.length
  ·obtain ⟨hv1, hv2⟩ := hv
   have hv2' : (0 : Int) < t.args.length := by omega
   rw [if_pos ⟨hv1, hv2⟩] at hc1
   rw [hv1]
   repeat' with_reducible first | refine W ?_ | refine Z0 ?_ | ((first | refine Wo fun K hK => ?_ | refine Wq ?_ | refine Wr ?_); (try simp only [go_sem, fN, seval, eT, iR, hv2']); (repeat refine Ai ?_); (try (refine hK _ ?_; clear hK K)))
   with_reducible refine Wp ?_
   simp only [go_sem, fN, seval, true_implies, false_implies, implies_true, dT, dF, nL, hv2']
   (try with_reducible refine iC ?_)
   repeat' with_reducible first | refine W ?_ | refine Z0 ?_ | ((first | refine Wo fun K hK => ?_ | refine Wq ?_ | refine Wr ?_); (try simp only [go_sem, fN, seval, eT, iR]); (repeat refine Ai ?_); (try (refine hK _ ?_; clear hK K)))
   simp only [go_sem, fN, seval, AQ, AS.result, AD, AE, AL]
   rw [hc, hc1]
   rfl
  ·rw [if_neg hv] at hc1
   rw [if_pos hc1] at hc
   have hv2 : Aw t.name = true → ¬ (0 : Int) < t.args.length := fun h h' => hv ⟨h, by omega⟩
   cases hvv : Aw t.name
   all_goals
    simp only [hvv, true_implies, false_implies, Bool.false_eq_true] at hv2
    repeat' with_reducible first | refine W ?_ | refine Z0 ?_ | ((first | refine Wo fun K hK => ?_ | refine Wq ?_ | refine Wr ?_); (try simp only [go_sem, fN, seval, eT, iR, hv2]); (repeat refine Ai ?_); (try (refine hK _ ?_; clear hK K)))
    with_reducible refine Wp ?_
    simp only [go_sem, fN, seval, true_implies, false_implies, implies_true, dT, dF, nL, hv2]
    (try with_reducible refine iC ?_)
    repeat' with_reducible first | refine W ?_ | refine Z0 ?_ | ((first | refine Wo fun K hK => ?_ | refine Wq ?_ | refine Wr ?_); (try simp only [go_sem, fN, seval, eT, iR]); (repeat refine Ai ?_); (try (refine hK _ ?_; clear hK K)))
    refine IWP.loopD [4] (fun n s => ∃ k, k ≤ t.args.length ∧ n = t.args.length - k ∧ Tm.chkL (t.args.take k) = 0 ∧ s.env 20 = .one (.st (.list (t.args.map Ae))) ∧ s.env 21 = Ab t.args.length ∧ s.env 22 = Ab k ∧ s.S 4 = none) t.args.length ⟨0, Nat.zero_le _, rfl, rfl, rfl, rfl, rfl, rfl⟩ ?_
    rintro n ⟨env, S⟩ ⟨k, hk, rfl, h0, e20, e21, e22, s4⟩
    simp only at e20 e21 e22 s4
    repeat' with_reducible first | refine W ?_ | refine Z0 ?_ | ((first | refine Wo fun K hK => ?_ | refine Wq ?_ | refine Wr ?_); (try simp only [go_sem, fN, seval, eT, iR, e20, e21, e22, s4]); (repeat refine Ai ?_); (try (refine hK _ ?_; clear hK K)))
    with_reducible refine Wp ?_
    simp only [go_sem, fN, seval, true_implies, false_implies, implies_true, dT, dF, nL, e20, e21, e22, s4]
    (try with_reducible refine iC ?_)
    refine ⟨fun hlt => ?_, fun hge => ?_⟩
    ·obtain ⟨a, ha⟩ := Ac (show k < t.args.length by omega)
     obtain ⟨g1, g2⟩ := Tm.chkL_get ha h0
     repeat' (first | (with_reducible first | refine W ?_ | refine Z0 ?_ | ((first | refine Wo fun K hK => ?_ | refine Wq ?_ | refine Wr ?_); (try simp only [go_sem, fN, seval, eT, iR, e20, e21, e22, s4, ha]); (repeat refine Ai ?_); (try (refine hK _ ?_; clear hK K)))) | refine Cg _ (ih _ (Tm.lt_of_arg (AO ha)) a rfl) ?_)
     with_reducible refine Wp ?_
     simp only [go_sem, fN, seval, true_implies, false_implies, implies_true, dT, dF, nL]
     (try with_reducible refine iC ?_)
     refine ⟨fun hb => ?_, fun hb => ?_⟩
     ·repeat' with_reducible first | refine W ?_ | refine Z0 ?_ | ((first | refine Wo fun K hK => ?_ | refine Wq ?_ | refine Wr ?_); (try simp only [go_sem, fN, seval, eT, iR]); (repeat refine Ai ?_); (try (refine hK _ ?_; clear hK K)))
      simp only [go_sem, fN, seval, AQ, AS.result, AD, AE, AL]
      rw [hc, g2 hb]
     ·repeat' with_reducible first | refine W ?_ | refine Z0 ?_ | ((first | refine Wo fun K hK => ?_ | refine Wq ?_ | refine Wr ?_); (try simp only [go_sem, fN, seval, eT, iR, e20, e21, e22, s4]); (repeat refine Ai ?_); (try (refine hK _ ?_; clear hK K)))
      refine AI ⟨t.args.length - (k + 1), by omega, k + 1, by omega, rfl, g1 (by omega), ?_⟩
      simp only [go_sem, fN, seval, AS.drop, Aa, AC.clears, AC.clear, AC.highs, AC.high, Bool.not_false, Bool.true_and, Bool.and_self, AV.purge, AV.purges, AC.purge, AJ.purge, List.contains_cons, List.contains_nil, Nat.reduceBEq, Bool.or_self, Bool.or_false, Bool.false_or, Bool.or_true, eT, iR, e20, e21, e22, s4]
      congr 3
    ·repeat' with_reducible first | refine W ?_ | refine Z0 ?_ | ((first | refine Wo fun K hK => ?_ | refine Wq ?_ | refine Wr ?_); (try simp only [go_sem, fN, seval, eT, iR]); (repeat refine Ai ?_); (try (refine hK _ ?_; clear hK K)))
     simp only [go_sem, fN, seval, AQ, AS.result, AD, AE, AL]
     rw [List.take_of_length_le (by omega)] at h0
     rw [hc, h0]
theorem GJ (t : Tm) : AT Tryz.prog 48 [aTm t] (Ab t.may) := by
 have hm : t.may = if 200 < t.size then 3 else t.chk := rfl
 refine JB.ac fun C hC => ?_
 unfold E8
 repeat' with_reducible first | refine W ?_ | refine Z0 ?_ | ((first | refine Wo fun K hK => ?_ | refine Wq ?_ | refine Wr ?_); (try simp only [go_sem, fN, seval, eT, iR]); (repeat refine Ai ?_); (try (refine hK _ ?_; clear hK K)))
 refine ⟨_, Pa t 200 (by omega) (by omega), ?_⟩
 by_cases h : Bp t.size 200 < 0
 ·repeat' with_reducible first | refine W ?_ | refine Z0 ?_ | ((first | refine Wo fun K hK => ?_ | refine Wq ?_ | refine Wr ?_); (try simp only [go_sem, fN, seval, eT, iR, h]); (repeat refine Ai ?_); (try (refine hK _ ?_; clear hK K)))
  with_reducible refine Wp ?_
  simp only [go_sem, fN, seval, true_implies, false_implies, implies_true, dT, dF, nL, h]
  (try with_reducible refine iC ?_)
  repeat' with_reducible first | refine W ?_ | refine Z0 ?_ | ((first | refine Wo fun K hK => ?_ | refine Wq ?_ | refine Wr ?_); (try simp only [go_sem, fN, seval, eT, iR]); (repeat refine Ai ?_); (try (refine hK _ ?_; clear hK K)))
  simp only [go_sem, fN, seval, AQ, AS.result, AD, AE, AL]
  unfold Bp at h
  rw [hm, if_pos (by split at h <;> omega)]
 ·repeat' with_reducible first | refine W ?_ | refine Z0 ?_ | ((first | refine Wo fun K hK => ?_ | refine Wq ?_ | refine Wr ?_); (try simp only [go_sem, fN, seval, eT, iR, h]); (repeat refine Ai ?_); (try (refine hK _ ?_; clear hK K)))
  with_reducible refine Wp ?_
  simp only [go_sem, fN, seval, true_implies, false_implies, implies_true, dT, dF, nL, h]
  (try with_reducible refine iC ?_)
  repeat' (first | (with_reducible first | refine W ?_ | refine Z0 ?_ | ((first | refine Wo fun K hK => ?_ | refine Wq ?_ | refine Wr ?_); (try simp only [go_sem, fN, seval, eT, iR]); (repeat refine Ai ?_); (try (refine hK _ ?_; clear hK K)))) | refine Cg _ (Qk t) ?_)
  simp only [go_sem, fN, seval, AQ, AS.result, AD, AE, AL]
  unfold Bp at h
  rw [hm, if_neg (by split at h <;> omega)]
theorem NY (t : Tm) (hz : t.size ≤ 1000000) : AT Tryz.prog 22 [aTm t] (GY t.knots) := by
 induction h : SizeOf.sizeOf t using Nat.strongRecOn generalizing t with
 | _ N ih =>
 subst h
 have hs := Tm.size_eq t
 refine NU.ac fun C hC => ?_
 unfold Ix
 repeat' with_reducible first | refine W ?_ | refine Z0 ?_ | ((first | refine Wo fun K hK => ?_ | refine Wq ?_ | refine Wr ?_); (try simp only [go_sem, fN, seval, eT, iR]); (repeat refine Ai ?_); (try (refine hK _ ?_; clear hK K)))
 refine IWP.ghost (AW.own 3 21 25 2 (xs := ([t].map Ae)) (by simp only [go_sem, fN, seval, eT, iR]) rfl C1 (by omega)) ?_
 have hlen := Tm.length_le t.args
 refine IWP.loopD [] (fun m s => ∃ k, k ≤ t.args.length ∧ m = t.args.length - k ∧ s.env 1 = .one (.ptr 1 1 0 0) ∧ s.S 1 = some (.box 25 [.st (.str t.name), .st (.list (t.args.map Ae))]) ∧ s.env 3 = .one (.row 21 (t :: Tm.knotsL (t.args.take k)).length) ∧ s.S 21 = some (.arow 25 2 ((t :: Tm.knotsL (t.args.take k)).map Ae)) ∧ s.env 4 = Ab k)
  t.args.length ⟨0, Nat.zero_le _, rfl, rfl, rfl, rfl, rfl, rfl⟩ ?_
 rintro m ⟨env, S⟩ ⟨k, hk, rfl, e1, s1, e3, s21, e4⟩
 simp only at e1 s1 e3 s21 e4
 repeat' with_reducible first | refine W ?_ | refine Z0 ?_ | ((first | refine Wo fun K hK => ?_ | refine Wq ?_ | refine Wr ?_); (try simp only [go_sem, fN, seval, eT, iR, e1, s1, e3, s21, e4]); (repeat refine Ai ?_); (try (refine hK _ ?_; clear hK K)))
 with_reducible refine Wp ?_
 simp only [go_sem, fN, seval, true_implies, false_implies, implies_true, dT, dF, nL]
 (try with_reducible refine iC ?_)
 refine ⟨fun hlt => ?_, fun hge => ?_⟩
 ·obtain ⟨a, ha⟩ := Ac (show k < t.args.length by omega)
  have z1 := Tm.sizes_take ha
  have z2 := Tm.sizes_take_le t.args (k + 1)
  have z3 := Tm.knots_length a
  have z4 := Tm.knotsL_length (t.args.take k)
  repeat' (first | (with_reducible first | refine W ?_ | refine Z0 ?_ | ((first | refine Wo fun K hK => ?_ | refine Wq ?_ | refine Wr ?_); (try simp only [go_sem, fN, seval, eT, iR, e1, s1, e3, s21, e4, ha]); (repeat refine Ai ?_); (try (refine hK _ ?_; clear hK K)))) | refine Cg _ (ih _ (Tm.lt_of_arg (AO ha)) a (by omega) rfl) ?_)
  refine AI ⟨t.args.length - (k + 1), by omega, k + 1, by omega, rfl, ?_⟩
  simp only [go_sem, fN, seval, AS.drop, Aa, AC.clears, AC.clear, AC.highs, AC.high, Bool.not_false, Bool.true_and, Bool.and_self, AV.purge, AV.purges, AC.purge, AJ.purge, List.contains_cons, List.contains_nil, Nat.reduceBEq, Bool.or_self, Bool.or_false, Bool.false_or, Bool.or_true, eT, iR, e1, s1, e3, s21, e4]
  rw [Tm.knotsL_take ha]
  exact ⟨by simp <;> omega, by simp [Ba], rfl⟩
 ·repeat' with_reducible first | refine W ?_ | refine Z0 ?_ | ((first | refine Wo fun K hK => ?_ | refine Wq ?_ | refine Wr ?_); (try simp only [go_sem, fN, seval, eT, iR, e1, s1, e3, s21, e4]); (repeat refine Ai ?_); (try (refine hK _ ?_; clear hK K)))
  simp only [go_sem, fN, seval, AQ, AS.result, AD, AE, AL, e3, s21]
  rw [List.take_of_length_le (by omega), Tm.knots_eq]
  rfl
theorem C5 (t : Tm) : AT Tryz.prog 8 [aTm t] (Ab t.may) := by
 have hm : t.may = if 200 < t.size then 3 else t.chk := rfl
 refine Ka.ac fun C hC => ?_
 unfold Fh
 repeat' with_reducible first | refine W ?_ | refine Z0 ?_ | ((first | refine Wo fun K hK => ?_ | refine Wq ?_ | refine Wr ?_); (try simp only [go_sem, fN, seval, eT, iR]); (repeat refine Ai ?_); (try (refine hK _ ?_; clear hK K)))
 refine ⟨_, Ep t 200 (by omega) (by omega), ?_⟩
 by_cases h : (200 : Int) < Az t.size 200
 ·repeat' with_reducible first | refine W ?_ | refine Z0 ?_ | ((first | refine Wo fun K hK => ?_ | refine Wq ?_ | refine Wr ?_); (try simp only [go_sem, fN, seval, eT, iR, h]); (repeat refine Ai ?_); (try (refine hK _ ?_; clear hK K)))
  with_reducible refine Wp ?_
  simp only [go_sem, fN, seval, true_implies, false_implies, implies_true, dT, dF, nL, h]
  (try with_reducible refine iC ?_)
  repeat' with_reducible first | refine W ?_ | refine Z0 ?_ | ((first | refine Wo fun K hK => ?_ | refine Wq ?_ | refine Wr ?_); (try simp only [go_sem, fN, seval, eT, iR]); (repeat refine Ai ?_); (try (refine hK _ ?_; clear hK K)))
  simp only [go_sem, fN, seval, AQ, AS.result, AD, AE, AL]
  unfold Az at h
  rw [hm, if_pos (by split at h <;> omega)]
 have hz := (GR h).2
 rw [if_neg (by omega)] at hm
 repeat' with_reducible first | refine W ?_ | refine Z0 ?_ | ((first | refine Wo fun K hK => ?_ | refine Wq ?_ | refine Wr ?_); (try simp only [go_sem, fN, seval, eT, iR, h]); (repeat refine Ai ?_); (try (refine hK _ ?_; clear hK K)))
 with_reducible refine Wp ?_
 simp only [go_sem, fN, seval, true_implies, false_implies, implies_true, dT, dF, nL, h]
 (try with_reducible refine iC ?_)
 repeat' (first | (with_reducible first | refine W ?_ | refine Z0 ?_ | ((first | refine Wo fun K hK => ?_ | refine Wq ?_ | refine Wr ?_); (try simp only [go_sem, fN, seval, eT, iR]); (repeat refine Ai ?_); (try (refine hK _ ?_; clear hK K)))) | refine Cg _ (NY t (by omega)) ?_)
 have hl := Tm.knots_length t
 have hc := Tm.firstErr_knots t
 refine IWP.loop (fun n s => ∃ k, k ≤ t.knots.length ∧ n = t.knots.length - k ∧ BJ (t.knots.take k) = 0 ∧ s.env 3 = GY t.knots ∧ s.env 4 = Ab k) t.knots.length ⟨0, Nat.zero_le _, rfl, rfl, rfl, rfl⟩ ?_
 rintro n ⟨env, S⟩ ⟨k, hk, rfl, h0, e3, e4⟩
 simp only at e3 e4
 repeat' with_reducible first | refine W ?_ | refine Z0 ?_ | ((first | refine Wo fun K hK => ?_ | refine Wq ?_ | refine Wr ?_); (try simp only [go_sem, fN, seval, eT, iR, e3, e4]); (repeat refine Ai ?_); (try (refine hK _ ?_; clear hK K)))
 with_reducible refine Wp ?_
 simp only [go_sem, fN, seval, true_implies, false_implies, implies_true, dT, dF, nL]
 (try with_reducible refine iC ?_)
 refine ⟨fun hlt => ?_, fun hge => ?_⟩
 ·obtain ⟨a, ha⟩ := Ac (show k < t.knots.length by omega)
  obtain ⟨g1, g2⟩ := LE ha h0
  have hc1 : BY a = if BC a.name = true then (if Aw a.name = true ∧ 0 < a.args.length then 2 else 0) else 1 := rfl
  repeat' with_reducible first | refine W ?_ | refine Z0 ?_ | ((first | refine Wo fun K hK => ?_ | refine Wq ?_ | refine Wr ?_); (try simp only [go_sem, fN, seval, eT, iR, e3, e4, ha]); (repeat refine Ai ?_); (try (refine hK _ ?_; clear hK K)))
  refine ⟨_, PG _, ?_⟩
  cases hn : BC a.name with
  | false =>
   rw [hn, if_neg (by simp)] at hc1
   repeat' with_reducible first | refine W ?_ | refine Z0 ?_ | ((first | refine Wo fun K hK => ?_ | refine Wq ?_ | refine Wr ?_); (try simp only [go_sem, fN, seval, eT, iR]); (repeat refine Ai ?_); (try (refine hK _ ?_; clear hK K)))
   with_reducible refine Wp ?_
   simp only [go_sem, fN, seval, true_implies, false_implies, implies_true, dT, dF, nL]
   (try with_reducible refine iC ?_)
   repeat' with_reducible first | refine W ?_ | refine Z0 ?_ | ((first | refine Wo fun K hK => ?_ | refine Wq ?_ | refine Wr ?_); (try simp only [go_sem, fN, seval, eT, iR]); (repeat refine Ai ?_); (try (refine hK _ ?_; clear hK K)))
   simp only [go_sem, fN, seval, AQ, AS.result, AD, AE, AL]
   rw [hm, ← hc, g2 (by omega), hc1]
  | true =>
   rw [hn, if_pos rfl] at hc1
   repeat' with_reducible first | refine W ?_ | refine Z0 ?_ | ((first | refine Wo fun K hK => ?_ | refine Wq ?_ | refine Wr ?_); (try simp only [go_sem, fN, seval, eT, iR]); (repeat refine Ai ?_); (try (refine hK _ ?_; clear hK K)))
   with_reducible refine Wp ?_
   simp only [go_sem, fN, seval, true_implies, false_implies, implies_true, dT, dF, nL]
   (try with_reducible refine iC ?_)
   repeat' with_reducible first | refine W ?_ | refine Z0 ?_ | ((first | refine Wo fun K hK => ?_ | refine Wq ?_ | refine Wr ?_); (try simp only [go_sem, fN, seval, eT, iR, e3, e4, ha]); (repeat refine Ai ?_); (try (refine hK _ ?_; clear hK K)))
   refine ⟨_, GC _, ?_⟩
   by_cases hv : Aw a.name = true ∧ 0 < a.args.length
   ·obtain ⟨hv1, hv2⟩ := hv
    have hv2' : (0 : Int) < a.args.length := by omega
    rw [if_pos ⟨hv1, hv2⟩] at hc1
    rw [hv1]
    repeat' with_reducible first | refine W ?_ | refine Z0 ?_ | ((first | refine Wo fun K hK => ?_ | refine Wq ?_ | refine Wr ?_); (try simp only [go_sem, fN, seval, eT, iR, e3, e4, ha, hv2']); (repeat refine Ai ?_); (try (refine hK _ ?_; clear hK K)))
    with_reducible refine Wp ?_
    simp only [go_sem, fN, seval, true_implies, false_implies, implies_true, dT, dF, nL, hv2']
    (try with_reducible refine iC ?_)
    repeat' with_reducible first | refine W ?_ | refine Z0 ?_ | ((first | refine Wo fun K hK => ?_ | refine Wq ?_ | refine Wr ?_); (try simp only [go_sem, fN, seval, eT, iR]); (repeat refine Ai ?_); (try (refine hK _ ?_; clear hK K)))
    simp only [go_sem, fN, seval, AQ, AS.result, AD, AE, AL]
    rw [hm, ← hc, g2 (by omega), hc1]
   ·rw [if_neg hv] at hc1
    have hv2 : Aw a.name = true → ¬ (0 : Int) < a.args.length := fun h h' => hv ⟨h, by omega⟩
    cases hvv : Aw a.name
    all_goals
     simp only [hvv, true_implies, false_implies, Bool.false_eq_true] at hv2
     repeat' with_reducible first | refine W ?_ | refine Z0 ?_ | ((first | refine Wo fun K hK => ?_ | refine Wq ?_ | refine Wr ?_); (try simp only [go_sem, fN, seval, eT, iR, e3, e4, ha, hv2]); (repeat refine Ai ?_); (try (refine hK _ ?_; clear hK K)))
     with_reducible refine Wp ?_
     simp only [go_sem, fN, seval, true_implies, false_implies, implies_true, dT, dF, nL, hv2]
     (try with_reducible refine iC ?_)
     repeat' with_reducible first | refine W ?_ | refine Z0 ?_ | ((first | refine Wo fun K hK => ?_ | refine Wq ?_ | refine Wr ?_); (try simp only [go_sem, fN, seval, eT, iR, e3, e4]); (repeat refine Ai ?_); (try (refine hK _ ?_; clear hK K)))
     refine AI ⟨t.knots.length - (k + 1), by omega, k + 1, by omega, rfl, g1 hc1, ?_⟩
     simp only [go_sem, fN, seval, eT, iR, e3, e4]
     congr 3
 ·repeat' with_reducible first | refine W ?_ | refine Z0 ?_ | ((first | refine Wo fun K hK => ?_ | refine Wq ?_ | refine Wr ?_); (try simp only [go_sem, fN, seval, eT, iR]); (repeat refine Ai ?_); (try (refine hK _ ?_; clear hK K)))
  simp only [go_sem, fN, seval, AQ, AS.result, AD, AE, AL]
  rw [List.take_of_length_le (by omega)] at h0
  rw [hm, ← hc, h0]
def Bq (a b : Tm) : Int := if a.may = 0 then b.may else a.may
theorem In (t u : Tm) : AT Tryz.prog 18 [aTm t, aTm u] (Ab (Bq t u)) := by
 refine LZ.ac fun C hC => ?_
 unfold HR
 repeat' with_reducible first | refine W ?_ | refine Z0 ?_ | ((first | refine Wo fun K hK => ?_ | refine Wq ?_ | refine Wr ?_); (try simp only [go_sem, fN, seval, eT, iR]); (repeat refine Ai ?_); (try (refine hK _ ?_; clear hK K)))
 refine ⟨_, C5 t, ?_⟩
 by_cases h : t.may = 0
 ·repeat' with_reducible first | refine W ?_ | refine Z0 ?_ | ((first | refine Wo fun K hK => ?_ | refine Wq ?_ | refine Wr ?_); (try simp only [go_sem, fN, seval, eT, iR, h]); (repeat refine Ai ?_); (try (refine hK _ ?_; clear hK K)))
  with_reducible refine Wp ?_
  simp only [go_sem, fN, seval, true_implies, false_implies, implies_true, dT, dF, nL, h]
  (try with_reducible refine iC ?_)
  repeat' (first | (with_reducible first | refine W ?_ | refine Z0 ?_ | ((first | refine Wo fun K hK => ?_ | refine Wq ?_ | refine Wr ?_); (try simp only [go_sem, fN, seval, eT, iR]); (repeat refine Ai ?_); (try (refine hK _ ?_; clear hK K)))) | refine Cg _ (C5 u) ?_)
  simp only [go_sem, fN, seval, AQ, AS.result, AD, AE, AL]
  rw [Bq, if_pos h]
 ·repeat' with_reducible first | refine W ?_ | refine Z0 ?_ | ((first | refine Wo fun K hK => ?_ | refine Wq ?_ | refine Wr ?_); (try simp only [go_sem, fN, seval, eT, iR, h]); (repeat refine Ai ?_); (try (refine hK _ ?_; clear hK K)))
  with_reducible refine Wp ?_
  simp only [go_sem, fN, seval, true_implies, false_implies, implies_true, dT, dF, nL, h]
  (try with_reducible refine iC ?_)
  repeat' with_reducible first | refine W ?_ | refine Z0 ?_ | ((first | refine Wo fun K hK => ?_ | refine Wq ?_ | refine Wr ?_); (try simp only [go_sem, fN, seval, eT, iR]); (repeat refine Ai ?_); (try (refine hK _ ?_; clear hK K)))
  simp only [go_sem, fN, seval, AQ, AS.result, AD, AE, AL]
  rw [Bq, if_neg h]
theorem Ea (t : Tm) : AT Tryz.prog 6 [aTm t] (Ah (decide (3000 < t.size))) := by
 have hc : ((3000 : Int) < Az t.size 3000) = (3000 < t.size) := by
  unfold Az
  by_cases h : (3000 : Int) < t.size
  ·rw [if_pos h]; simp; omega
  ·rw [if_neg h]; simp; omega
 refine O_.ac fun C hC => ?_
 unfold J9
 repeat' (first | (with_reducible first | refine W ?_ | refine Z0 ?_ | ((first | refine Wo fun K hK => ?_ | refine Wq ?_ | refine Wr ?_); (try simp only [go_sem, fN, seval, eT, iR]); (repeat refine Ai ?_); (try (refine hK _ ?_; clear hK K)))) | refine Cg _ (Ep t 3000 (by omega) (by omega)) ?_)
 simp only [go_sem, fN, seval, AQ, AS.result, AD, AE, AL, hc]
theorem Rc (x : ByteArray) (l : List ByteArray) : AT Tryz.prog 21 [CV x, Bm l] (Ah (B5 x l)) := by
 refine Qr.ac fun C hC => ?_
 unfold N0
 refine IWP.learn 1 (by omega) fun hkn => ?_
 have hkn := C2 hkn
 rw [List.length_map] at hkn
 repeat' with_reducible first | refine W ?_ | refine Z0 ?_ | ((first | refine Wo fun K hK => ?_ | refine Wq ?_ | refine Wr ?_); (try simp only [go_sem, fN, seval, eT, iR]); (repeat refine Ai ?_); (try (refine hK _ ?_; clear hK K)))
 refine IWP.loop (fun n s => ∃ k, k ≤ l.length ∧ n = l.length - k ∧ B5 x (l.take k) = false ∧ s.env 0 = CV x ∧ s.env 1 = Bm l ∧ s.env 5 = Ab k) l.length ⟨0, Nat.zero_le _, rfl, rfl, rfl, rfl, rfl⟩ ?_
 rintro n ⟨env, S⟩ ⟨k, hk, rfl, h0, e0, e1, e5⟩
 simp only at e0 e1 e5
 repeat' with_reducible first | refine W ?_ | refine Z0 ?_ | ((first | refine Wo fun K hK => ?_ | refine Wq ?_ | refine Wr ?_); (try simp only [go_sem, fN, seval, eT, iR, e0, e1, e5]); (repeat refine Ai ?_); (try (refine hK _ ?_; clear hK K)))
 with_reducible refine Wp ?_
 simp only [go_sem, fN, seval, true_implies, false_implies, implies_true, dT, dF, nL]
 (try with_reducible refine iC ?_)
 refine ⟨fun hlt => ?_, fun hge => ?_⟩
 ·obtain ⟨a, ha⟩ := Ac (show k < l.length by omega)
  repeat' with_reducible first | refine W ?_ | refine Z0 ?_ | ((first | refine Wo fun K hK => ?_ | refine Wq ?_ | refine Wr ?_); (try simp only [go_sem, fN, seval, eT, iR, e0, e1, e5, ha]); (repeat refine Ai ?_); (try (refine hK _ ?_; clear hK K)))
  with_reducible refine Wp ?_
  simp only [go_sem, fN, seval, true_implies, false_implies, implies_true, dT, dF, nL]
  (try with_reducible refine iC ?_)
  refine ⟨fun hb => ?_, fun hb => ?_⟩
  ·repeat' with_reducible first | refine W ?_ | refine Z0 ?_ | ((first | refine Wo fun K hK => ?_ | refine Wq ?_ | refine Wr ?_); (try simp only [go_sem, fN, seval, eT, iR]); (repeat refine Ai ?_); (try (refine hK _ ?_; clear hK K)))
   simp only [go_sem, fN, seval, AQ, AS.result, AD, AE, AL]
   rw [F5.2 (by rw [← hb]; exact AO ha)]
  ·repeat' with_reducible first | refine W ?_ | refine Z0 ?_ | ((first | refine Wo fun K hK => ?_ | refine Wq ?_ | refine Wr ?_); (try simp only [go_sem, fN, seval, eT, iR, e0, e1, e5]); (repeat refine Ai ?_); (try (refine hK _ ?_; clear hK K)))
   refine AI ⟨l.length - (k + 1), by omega, k + 1, by omega, rfl, ?_, ?_⟩
   ·rw [Am ha, Kf]
    rw [Kf] at h0
    simp only [List.mem_append, List.mem_singleton, not_or]
    exact ⟨h0, fun e => hb e.symm⟩
   ·simp only [go_sem, fN, seval, eT, iR, e0, e1, e5]
    congr 3
 ·repeat' with_reducible first | refine W ?_ | refine Z0 ?_ | ((first | refine Wo fun K hK => ?_ | refine Wq ?_ | refine Wr ?_); (try simp only [go_sem, fN, seval, eT, iR]); (repeat refine Ai ?_); (try (refine hK _ ?_; clear hK K)))
  simp only [go_sem, fN, seval, AQ, AS.result, AD, AE, AL]
  rw [List.take_of_length_le (by omega)] at h0
  rw [h0]
theorem Q6 (l : List ByteArray) (x : ByteArray) : ∃ i : Int, AT Tryz.prog 95 [Bm l, CV x] (Ab i) ∧ (0 ≤ i ↔ B5 x l = true) := by
 by_cases hin : B5 x l = true
 ·obtain ⟨k0, hk0, hmin⟩ : ∃ k, l[k]? = some x ∧ ∀ j, j < k → l[j]? ≠ some x := by
   have hx := F5.1 hin
   have ⟨k, hk⟩ := List.getElem?_of_mem hx
   induction k using Nat.strongRecOn with
   | _ k ih =>
    by_cases h : ∃ j, j < k ∧ l[j]? = some x
    ·obtain ⟨j, hj, hjx⟩ := h
     exact ih j hj hjx
    ·exact ⟨k, hk, fun j hj hjx => h ⟨j, hj, hjx⟩⟩
  have hlt0 := Bo hk0
  refine ⟨k0, ?_, by simp [hin]⟩
  refine Bf.ac fun C hC => ?_
  unfold BE
  refine IWP.learn 0 (by omega) fun hkn => ?_
  have hkn := C2 hkn
  rw [List.length_map] at hkn
  repeat' with_reducible first | refine W ?_ | refine Z0 ?_ | ((first | refine Wo fun K hK => ?_ | refine Wq ?_ | refine Wr ?_); (try simp only [go_sem, fN, seval, eT, iR]); (repeat refine Ai ?_); (try (refine hK _ ?_; clear hK K)))
  refine IWP.loop (fun n s => ∃ k, k ≤ k0 ∧ n = k0 - k ∧ s.env 0 = Bm l ∧ s.env 1 = CV x ∧ s.env 7 = Ab l.length ∧ s.env 8 = Ab k) k0 ⟨0, Nat.zero_le _, rfl, rfl, rfl, rfl, rfl⟩ ?_
  rintro n ⟨env, S⟩ ⟨k, hk, rfl, e0, e1, e7, e8⟩
  simp only at e0 e1 e7 e8
  have hlt : (k : Int) < l.length := by omega
  repeat' with_reducible first | refine W ?_ | refine Z0 ?_ | ((first | refine Wo fun K hK => ?_ | refine Wq ?_ | refine Wr ?_); (try simp only [go_sem, fN, seval, eT, iR, e0, e1, e7, e8, hlt]); (repeat refine Ai ?_); (try (refine hK _ ?_; clear hK K)))
  with_reducible refine Wp ?_
  simp only [go_sem, fN, seval, true_implies, false_implies, implies_true, dT, dF, nL, e0, e1, e7, e8, hlt]
  (try with_reducible refine iC ?_)
  obtain ⟨a, ha⟩ := Ac (show k < l.length by omega)
  repeat' with_reducible first | refine W ?_ | refine Z0 ?_ | ((first | refine Wo fun K hK => ?_ | refine Wq ?_ | refine Wr ?_); (try simp only [go_sem, fN, seval, eT, iR, e0, e1, e7, e8, ha]); (repeat refine Ai ?_); (try (refine hK _ ?_; clear hK K)))
  by_cases he : k = k0
  ·subst he
   rw [hk0] at ha
   cases ha
   with_reducible refine Wp ?_
   simp only [go_sem, fN, seval, true_implies, false_implies, implies_true, dT, dF, nL]
   (try with_reducible refine iC ?_)
   repeat' with_reducible first | refine W ?_ | refine Z0 ?_ | ((first | refine Wo fun K hK => ?_ | refine Wq ?_ | refine Wr ?_); (try simp only [go_sem, fN, seval, eT, iR, e0, e1, e7, e8]); (repeat refine Ai ?_); (try (refine hK _ ?_; clear hK K)))
   simp only [go_sem, fN, seval, AQ, AS.result, AD, AE, AL]
  ·have hne : ¬ x = a := fun e => hmin k (by omega) (by rw [ha, e])
   with_reducible refine Wp ?_
   simp only [go_sem, fN, seval, true_implies, false_implies, implies_true, dT, dF, nL, hne]
   (try with_reducible refine iC ?_)
   repeat' with_reducible first | refine W ?_ | refine Z0 ?_ | ((first | refine Wo fun K hK => ?_ | refine Wq ?_ | refine Wr ?_); (try simp only [go_sem, fN, seval, eT, iR, e0, e1, e7, e8]); (repeat refine Ai ?_); (try (refine hK _ ?_; clear hK K)))
   refine AI ⟨k0 - (k + 1), by omega, k + 1, by omega, rfl, ?_⟩
   simp only [go_sem, fN, seval, eT, iR, e0, e1, e7, e8]
   congr 3
 ·rw [Bool.not_eq_true] at hin
  refine ⟨-1, ?_, by simp [hin]⟩
  refine Bf.ac fun C hC => ?_
  unfold BE
  refine IWP.learn 0 (by omega) fun hkn => ?_
  have hkn := C2 hkn
  rw [List.length_map] at hkn
  repeat' with_reducible first | refine W ?_ | refine Z0 ?_ | ((first | refine Wo fun K hK => ?_ | refine Wq ?_ | refine Wr ?_); (try simp only [go_sem, fN, seval, eT, iR]); (repeat refine Ai ?_); (try (refine hK _ ?_; clear hK K)))
  refine IWP.loop (fun n s => ∃ k, k ≤ l.length ∧ n = l.length - k ∧ s.env 0 = Bm l ∧ s.env 1 = CV x ∧ s.env 7 = Ab l.length ∧ s.env 8 = Ab k) l.length ⟨0, Nat.zero_le _, rfl, rfl, rfl, rfl, rfl⟩ ?_
  rintro n ⟨env, S⟩ ⟨k, hk, rfl, e0, e1, e7, e8⟩
  simp only at e0 e1 e7 e8
  by_cases hlt : (k : Int) < l.length
  ·repeat' with_reducible first | refine W ?_ | refine Z0 ?_ | ((first | refine Wo fun K hK => ?_ | refine Wq ?_ | refine Wr ?_); (try simp only [go_sem, fN, seval, eT, iR, e0, e1, e7, e8, hlt]); (repeat refine Ai ?_); (try (refine hK _ ?_; clear hK K)))
   with_reducible refine Wp ?_
   simp only [go_sem, fN, seval, true_implies, false_implies, implies_true, dT, dF, nL, e0, e1, e7, e8, hlt]
   (try with_reducible refine iC ?_)
   obtain ⟨a, ha⟩ := Ac (show k < l.length by omega)
   have hne : ¬ x = a := fun e => by
    rw [Kf] at hin
    exact hin (by rw [e]; exact AO ha)
   repeat' with_reducible first | refine W ?_ | refine Z0 ?_ | ((first | refine Wo fun K hK => ?_ | refine Wq ?_ | refine Wr ?_); (try simp only [go_sem, fN, seval, eT, iR, e0, e1, e7, e8, ha]); (repeat refine Ai ?_); (try (refine hK _ ?_; clear hK K)))
   with_reducible refine Wp ?_
   simp only [go_sem, fN, seval, true_implies, false_implies, implies_true, dT, dF, nL, hne]
   (try with_reducible refine iC ?_)
   repeat' with_reducible first | refine W ?_ | refine Z0 ?_ | ((first | refine Wo fun K hK => ?_ | refine Wq ?_ | refine Wr ?_); (try simp only [go_sem, fN, seval, eT, iR, e0, e1, e7, e8]); (repeat refine Ai ?_); (try (refine hK _ ?_; clear hK K)))
   refine AI ⟨l.length - (k + 1), by omega, k + 1, by omega, rfl, ?_⟩
   simp only [go_sem, fN, seval, eT, iR, e0, e1, e7, e8]
   congr 3
  ·repeat' with_reducible first | refine W ?_ | refine Z0 ?_ | ((first | refine Wo fun K hK => ?_ | refine Wq ?_ | refine Wr ?_); (try simp only [go_sem, fN, seval, eT, iR, e0, e1, e7, e8, hlt]); (repeat refine Ai ?_); (try (refine hK _ ?_; clear hK K)))
   with_reducible refine Wp ?_
   simp only [go_sem, fN, seval, true_implies, false_implies, implies_true, dT, dF, nL, e0, e1, e7, e8, hlt]
   (try with_reducible refine iC ?_)
   repeat' with_reducible first | refine W ?_ | refine Z0 ?_ | ((first | refine Wo fun K hK => ?_ | refine Wq ?_ | refine Wr ?_); (try simp only [go_sem, fN, seval, eT, iR]); (repeat refine Ai ?_); (try (refine hK _ ?_; clear hK K)))
   simp only [go_sem, fN, seval, AQ, AS.result, AD, AE, AL]
theorem Fb (l : List ByteArray) (x : ByteArray) : AT Tryz.prog 66 [Bm l, CV x] (Ah (B5 x l)) := by
 obtain ⟨i, h1, h2⟩ := Q6 l x
 refine CM.ac fun C hC => ?_
 unfold BU
 repeat' (first | (with_reducible first | refine W ?_ | refine Z0 ?_ | ((first | refine Wo fun K hK => ?_ | refine Wq ?_ | refine Wr ?_); (try simp only [go_sem, fN, seval, eT, iR]); (repeat refine Ai ?_); (try (refine hK _ ?_; clear hK K)))) | refine Cg _ (h1) ?_)
 simp only [go_sem, fN, seval, AQ, AS.result, AD, AE, AL]
 congr 4
 cases hi : B5 x l with
 | true => exact decide_eq_true (h2.2 hi)
 | false =>
  refine decide_eq_false fun h => ?_
  rw [h2.1 h] at hi
  cases hi
mutual
def Tm.beq : Tm → Tm → Bool
 | .mk n xs, .mk m ys => decide (n = m) && Tm.beqL xs ys
def Tm.beqL : List Tm → List Tm → Bool
 | [], [] => true
 | x :: xs, y :: ys => x.beq y && Tm.beqL xs ys
 | _, _ => false
end
mutual
theorem Tm.beq_iff : ∀ a b : Tm, a.beq b = true ↔ a = b
 | .mk n xs, .mk m ys => by
  rw [Tm.beq, Bool.and_eq_true, Tm.beqL_iff xs ys, decide_eq_true_eq, Tm.mk.injEq]
theorem Tm.beqL_iff : ∀ xs ys : List Tm, Tm.beqL xs ys = true ↔ xs = ys
 | [], [] => by simp [Tm.beqL]
 | x :: xs, y :: ys => by rw [Tm.beqL, Bool.and_eq_true, Tm.beq_iff x y, Tm.beqL_iff xs ys, List.cons.injEq]
 | [], y :: ys => by simp [Tm.beqL]
 | x :: xs, [] => by simp [Tm.beqL]
end
theorem Tm.beq_refl (a : Tm) : a.beq a = true := (Tm.beq_iff a a).2 rfl
theorem Tm.eq_of {a b : Tm} (h1 : a.name = b.name) (h2 : a.args = b.args) : a = b := by
 cases a; cases b
 simp only [Tm.name_mk, Tm.args_mk] at h1 h2
 rw [h1, h2]
theorem Q3 (a b : Tm) : AT Tryz.prog 36 [aTm a, aTm b] (Ah (a.beq b)) := by
 induction h : SizeOf.sizeOf a using Nat.strongRecOn generalizing a b with
 | _ N ih =>
 subst h
 have hno : a ≠ b → a.beq b = false := fun h => by
  rw [← Bool.not_eq_true, Tm.beq_iff]
  exact h
 refine OY.ac fun C hC => ?_
 unfold Jg
 refine IWP.learn 0 (by omega) fun hkn => ?_
 have hkn := Ee hkn
 by_cases hn : a.name = b.name
 ·by_cases hl : a.args.length = b.args.length
  ·have hl' : (a.args.length : Int) = b.args.length := by omega
   repeat' with_reducible first | refine W ?_ | refine Z0 ?_ | ((first | refine Wo fun K hK => ?_ | refine Wq ?_ | refine Wr ?_); (try simp only [go_sem, fN, seval, eT, iR, hn, hl']); (repeat refine Ai ?_); (try (refine hK _ ?_; clear hK K)))
   with_reducible refine Wp ?_
   simp only [go_sem, fN, seval, true_implies, false_implies, implies_true, dT, dF, nL, hn, hl']
   (try with_reducible refine iC ?_)
   repeat' with_reducible first | refine W ?_ | refine Z0 ?_ | ((first | refine Wo fun K hK => ?_ | refine Wq ?_ | refine Wr ?_); (try simp only [go_sem, fN, seval, eT, iR]); (repeat refine Ai ?_); (try (refine hK _ ?_; clear hK K)))
   refine IWP.loop (fun n s => ∃ k, k ≤ a.args.length ∧ n = a.args.length - k ∧ a.args.take k = b.args.take k ∧ s.env 2 = .one (.ptr 2 1 0 0) ∧ s.env 3 = .one (.ptr 3 1 0 0) ∧ s.S 2 = some (.box 25 [.st (.str b.name), .st (.list (a.args.map Ae))]) ∧ s.S 3 = some (.box 25 [.st (.str b.name), .st (.list (b.args.map Ae))]) ∧ s.env 5 = Ab k) a.args.length ⟨0, Nat.zero_le _, rfl, rfl, rfl, rfl, rfl, rfl, rfl⟩ ?_
   rintro n ⟨env, S⟩ ⟨k, hk, rfl, h0, e2, e3, s2, s3, e5⟩
   simp only at e2 e3 s2 s3 e5
   repeat' with_reducible first | refine W ?_ | refine Z0 ?_ | ((first | refine Wo fun K hK => ?_ | refine Wq ?_ | refine Wr ?_); (try simp only [go_sem, fN, seval, eT, iR, e2, e3, s2, s3, e5]); (repeat refine Ai ?_); (try (refine hK _ ?_; clear hK K)))
   with_reducible refine Wp ?_
   simp only [go_sem, fN, seval, true_implies, false_implies, implies_true, dT, dF, nL]
   (try with_reducible refine iC ?_)
   refine ⟨fun hlt => ?_, fun hge => ?_⟩
   ·obtain ⟨x, hx⟩ := Ac (show k < a.args.length by omega)
    obtain ⟨y, hy⟩ := Ac (show k < b.args.length by omega)
    repeat' (first | (with_reducible first | refine W ?_ | refine Z0 ?_ | ((first | refine Wo fun K hK => ?_ | refine Wq ?_ | refine Wr ?_); (try simp only [go_sem, fN, seval, eT, iR, e2, e3, s2, s3, e5, hx, hy]); (repeat refine Ai ?_); (try (refine hK _ ?_; clear hK K)))) | refine Cg _ (ih _ (Tm.lt_of_arg (AO hx)) x y rfl) ?_)
    cases hxy : x.beq y with
    | false =>
     with_reducible refine Wp ?_
     simp only [go_sem, fN, seval, true_implies, false_implies, implies_true, dT, dF, nL]
     (try with_reducible refine iC ?_)
     repeat' with_reducible first | refine W ?_ | refine Z0 ?_ | ((first | refine Wo fun K hK => ?_ | refine Wq ?_ | refine Wr ?_); (try simp only [go_sem, fN, seval, eT, iR]); (repeat refine Ai ?_); (try (refine hK _ ?_; clear hK K)))
     simp only [go_sem, fN, seval, AQ, AS.result, AD, AE, AL]
     rw [hno fun e => by
      subst e
      rw [hx] at hy
      cases hy
      rw [Tm.beq_refl] at hxy
      cases hxy]
    | true =>
     have hxy := (Tm.beq_iff x y).1 hxy
     with_reducible refine Wp ?_
     simp only [go_sem, fN, seval, true_implies, false_implies, implies_true, dT, dF, nL]
     (try with_reducible refine iC ?_)
     repeat' with_reducible first | refine W ?_ | refine Z0 ?_ | ((first | refine Wo fun K hK => ?_ | refine Wq ?_ | refine Wr ?_); (try simp only [go_sem, fN, seval, eT, iR, e2, e3, s2, s3, e5]); (repeat refine Ai ?_); (try (refine hK _ ?_; clear hK K)))
     refine AI ⟨a.args.length - (k + 1), by omega, k + 1, by omega, rfl, ?_, ?_⟩
     ·rw [Am hx, Am hy, h0, hxy]
     ·simp only [go_sem, fN, seval, eT, iR, e2, e3, s2, s3, e5]
      congr 3
   ·repeat' with_reducible first | refine W ?_ | refine Z0 ?_ | ((first | refine Wo fun K hK => ?_ | refine Wq ?_ | refine Wr ?_); (try simp only [go_sem, fN, seval, eT, iR]); (repeat refine Ai ?_); (try (refine hK _ ?_; clear hK K)))
    simp only [go_sem, fN, seval, AQ, AS.result, AD, AE, AL]
    rw [List.take_of_length_le (by omega), List.take_of_length_le (by omega)] at h0
    rw [Tm.eq_of hn h0, Tm.beq_refl]
  ·have hl' : ¬ (a.args.length : Int) = b.args.length := by omega
   repeat' with_reducible first | refine W ?_ | refine Z0 ?_ | ((first | refine Wo fun K hK => ?_ | refine Wq ?_ | refine Wr ?_); (try simp only [go_sem, fN, seval, eT, iR, hn, hl']); (repeat refine Ai ?_); (try (refine hK _ ?_; clear hK K)))
   with_reducible refine Wp ?_
   simp only [go_sem, fN, seval, true_implies, false_implies, implies_true, dT, dF, nL, hn, hl']
   (try with_reducible refine iC ?_)
   repeat' with_reducible first | refine W ?_ | refine Z0 ?_ | ((first | refine Wo fun K hK => ?_ | refine Wq ?_ | refine Wr ?_); (try simp only [go_sem, fN, seval, eT, iR]); (repeat refine Ai ?_); (try (refine hK _ ?_; clear hK K)))
   simp only [go_sem, fN, seval, AQ, AS.result, AD, AE, AL]
   rw [hno fun e => hl (by rw [e])]
 ·repeat' with_reducible first | refine W ?_ | refine Z0 ?_ | ((first | refine Wo fun K hK => ?_ | refine Wq ?_ | refine Wr ?_); (try simp only [go_sem, fN, seval, eT, iR, hn]); (repeat refine Ai ?_); (try (refine hK _ ?_; clear hK K)))
  with_reducible refine Wp ?_
  simp only [go_sem, fN, seval, true_implies, false_implies, implies_true, dT, dF, nL, hn]
  (try with_reducible refine iC ?_)
  repeat' with_reducible first | refine W ?_ | refine Z0 ?_ | ((first | refine Wo fun K hK => ?_ | refine Wq ?_ | refine Wr ?_); (try simp only [go_sem, fN, seval, eT, iR]); (repeat refine Ai ?_); (try (refine hK _ ?_; clear hK K)))
  simp only [go_sem, fN, seval, AQ, AS.result, AD, AE, AL]
  rw [hno fun e => hn (by rw [e])]
def Tm.nil : Tm := .mk ⟨#[]⟩ []

def Ji : IR :=
 (.seq (.ops [.i 1 (.box 25 (.t 0)), .i 2 (.mov (.c (.one (.st (.str (ByteArray.mk (#[])))))))]) (.seq (.ops [.f 5 0 1, .l 6 5, .m 3 6]) (.seq (.seq (.ops [.i 4 (.mov (.n 0))]) (.block 0 (.loop (.seq (.seq (.ops [.m 7 4, .f 8 1 1, .l 9 8, .i 10 (.len false (.t 9)), .i 11 (.bin .lss (.t 7) (.t 10))]) (.cond (.t 11) .skip (.exit 0))) (.seq (.block 1 (.seq (.seq (.ops [.m 14 4, .i 15 (.bin .eql (.t 14) (.n 0))]) (.cond (.t 15) (.ops [.m 16 3, .i 17 (.bin .add (.t 16) (.c (.one (.st (.str (ByteArray.mk (#[40]))))))), .m 3 17]) (.ops [.m 18 3, .i 19 (.bin .add (.t 18) (.c (.one (.st (.str (ByteArray.mk (#[44]))))))), .m 3 19]))) (.ops [.m 20 3, .f 21 1 1, .l 22 21, .m 23 4, .i 24 (.indexAddr 2 (.t 22) (.t 23)), .L 25 2 24, .i 26 (.call 24 [.t 25]), .i 27 (.bin .add (.t 20) (.t 26)), .m 3 27]))) (.ops [.m 12 4, .i 13 (.bin .add (.t 12) (.n 1)), .m 4 13])))))) (.seq (.seq (.ops [.f 28 1 1, .l 29 28, .i 30 (.len false (.t 29)), .i 31 (.bin .gtr (.t 30) (.n 0))]) (.cond (.t 31) (.ops [.m 32 3, .i 33 (.bin .add (.t 32) (.c (.one (.st (.str (ByteArray.mk (#[41]))))))), .m 3 33]) .skip)) (.seq (.ops [.m 34 3, .m 2 34]) .ret)))))
theorem OO : OkF Tryz.prog 24 35 [] Ji [.t 2] := .of Tryz.func24 rfl rfl (by kernel_rfl) rfl

set_option maxHeartbeats 1000000
theorem LW : sep 0 = ⟨#[40]⟩ := rfl
theorem Lc {k : Nat} (h : k ≠ 0) : sep k = ⟨#[44]⟩ := if_neg h
theorem Tm.text_lt {t x : Tm} (h : x ∈ t.args) : x.text.size ≤ t.text.size := by
 obtain ⟨k, hk⟩ := List.getElem?_of_mem h
 have h1 := t.ahead_le (k + 1)
 rw [Tm.ahead_succ hk, ByteArray.size_append] at h1
 omega
theorem Tm.textsFrom_ge : ∀ (k : Nat) (xs : List Tm), xs.length ≤ (Tm.textsFrom k xs).size
 | _, [] => Nat.zero_le _
 | k, t :: ts => by
  have := Tm.textsFrom_ge (k + 1) ts
  simp only [Tm.textsFrom, ByteArray.size_append, Fw, List.length_cons]
  omega
theorem Tm.args_text (t : Tm) : t.args.length ≤ t.text.size := by
 have := Tm.textsFrom_ge 0 t.args
 rw [Tm.text_eq, ByteArray.size_append, ByteArray.size_append]
 omega
theorem Hh (t : Tm) : t.text.size ≤ 1000000 → AT Tryz.prog 24 [aTm t] (CV t.text) := by
 obtain ⟨N, hN⟩ : ∃ N, SizeOf.sizeOf t < N := ⟨_, Nat.lt_succ_self _⟩
 induction N generalizing t with
 | zero => omega
 | succ N ih =>
 intro hz
 have hal0 := t.args_text
 refine OO.ac fun C hC => ?_
 unfold Ji
 repeat' with_reducible first | refine W ?_ | refine Z0 ?_ | ((first | refine Wo fun K hK => ?_ | refine Wp ?_ | refine Wq ?_ | refine Wr ?_); (try simp only [go_sem, fN, seval, eT, iR, dT, dF, nL]); (repeat refine Ai ?_); (try (refine hK _ ?_; clear hK K)); try refine iC ?_)
 refine IWP.loop (fun m s => ∃ k, k ≤ t.args.length ∧ m = t.args.length - k ∧ s.env 3 = CV (t.ahead k) ∧ s.env 4 = Ab k ∧ s.env 1 = .one (.ptr 1 1 0 0) ∧ s.S 1 = some (.box 25 [.st (.str t.name), .st (.list (t.args.map Ae))])) t.args.length ⟨0, Nat.zero_le _, rfl, by rw [Tm.ahead_zero]; rfl, rfl, rfl, rfl⟩ ?_
 rintro m ⟨env, S⟩ ⟨k, hk, rfl, e3, e4, e1, s1⟩
 simp only at e3 e4 e1 s1
 have hah := t.ahead_le k
 by_cases hlt : k < t.args.length
 ·have hlt' : (k : Int) < t.args.length := by omega
  obtain ⟨a, ha⟩ := Ac hlt
  have hm := AO ha
  have hta := Tm.text_lt hm
  have hs := ih a (by have := Tm.lt_of_arg hm; omega) (by omega)
  have hnx := Tm.ahead_succ ha
  have h1 := t.ahead_le (k + 1)
  rw [hnx, ByteArray.size_append, ByteArray.size_append, Fw] at h1
  have z1 : (⟨#[40]⟩ : ByteArray).size = 1 := rfl
  have z2 : (⟨#[44]⟩ : ByteArray).size = 1 := rfl
  by_cases h0 : k = 0
  ·subst h0
   rw [LW] at hnx
   have hl0 : (0 : Int) < t.args.length := by omega
   repeat' (first | (with_reducible first | refine W ?_ | refine Z0 ?_ | ((first | refine Wo fun K hK => ?_ | refine Wp ?_ | refine Wq ?_ | refine Wr ?_); (try simp only [go_sem, fN, seval, eT, iR, e3, e4, e1, s1, hl0, ha, dT, dF, nL]); (repeat refine Ai ?_); (try (refine hK _ ?_; clear hK K)); try refine iC ?_)) | refine Cg _ (hs) ?_)
   refine AI ⟨t.args.length - (0 + 1), by omega, 0 + 1, by omega, rfl, ?_⟩
   simp only [go_sem, fN, seval, eT, iR, e3, e4, e1, s1, hnx]
   try rfl
  ·rw [Lc h0] at hnx
   have h0' : ¬ (k : Int) = 0 := by omega
   repeat' (first | (with_reducible first | refine W ?_ | refine Z0 ?_ | ((first | refine Wo fun K hK => ?_ | refine Wp ?_ | refine Wq ?_ | refine Wr ?_); (try simp only [go_sem, fN, seval, eT, iR, e3, e4, e1, s1, hlt', h0', ha, dT, dF, nL]); (repeat refine Ai ?_); (try (refine hK _ ?_; clear hK K)); try refine iC ?_)) | refine Cg _ (hs) ?_)
   refine AI ⟨t.args.length - (k + 1), by omega, k + 1, by omega, rfl, ?_⟩
   simp only [go_sem, fN, seval, eT, iR, e3, e4, e1, s1, hnx]
   try (congr 3)
 ·have hlt' : ¬ (k : Int) < t.args.length := by omega
  have hal := Tm.ahead_all (t := t) (k := k) (by omega)
  by_cases h0 : k = 0
  ·rw [if_pos h0, append_empty] at hal
   have hl0 : ¬ (0 : Int) < t.args.length := by omega
   repeat' with_reducible first | refine W ?_ | refine Z0 ?_ | ((first | refine Wo fun K hK => ?_ | refine Wp ?_ | refine Wq ?_ | refine Wr ?_); (try simp only [go_sem, fN, seval, eT, iR, e3, e4, e1, s1, hlt', hl0, dT, dF, nL]); (repeat refine Ai ?_); (try (refine hK _ ?_; clear hK K)); try refine iC ?_)
   simp only [go_sem, fN, seval, AQ, AS.result, AD, AE, AL]
   rw [hal]
  ·rw [if_neg h0] at hal
   have z1 : (⟨#[41]⟩ : ByteArray).size = 1 := rfl
   rw [hal, ByteArray.size_append] at hz
   have hl0 : (0 : Int) < t.args.length := by omega
   repeat' with_reducible first | refine W ?_ | refine Z0 ?_ | ((first | refine Wo fun K hK => ?_ | refine Wp ?_ | refine Wq ?_ | refine Wr ?_); (try simp only [go_sem, fN, seval, eT, iR, e3, e4, e1, s1, hlt', hl0, dT, dF, nL]); (repeat refine Ai ?_); (try (refine hK _ ?_; clear hK K)); try refine iC ?_)
   simp only [go_sem, fN, seval, AQ, AS.result, AD, AE, AL]
   rw [hal]

theorem F8 {P : Program} {f : FuncId} {xs : List AV} {S : AA} {r : AV} {S' : AA} (hS' : Aj S → Aj S')
  (h : Aj S → ∀ (C : Ctx) (σ : Sto) (ι : Aq) (vs : List Value) (w : World), C.n = xs.length → AM C σ ι (AS.startS xs S) { tmps := vs.toArray, defers := [] } w → AY (AN σ S ι) vs xs → Calls P f vs.toArray w fun e w' => ∃ v σ' ι' env', e = .returned v ∧ AM C σ' ι' ⟨env', S'⟩ { tmps := vs.toArray, defers := [] } w' ∧ AN σ' S' ι' v r) : Ak P f xs S r S' := by
 intro hclean σ w vs ι hglob hfit hown hvs
 have hl := hvs.len
 let C : Ctx := ⟨xs.length, w.heap.size, fun g => ¬ BZ S ι g, σ, w, S, ι, hclean, hglob, [], none, false⟩
 have R : AM C σ ι (AS.startS xs S) { tmps := vs.toArray, defers := [] } w := by
  refine ⟨by simp [C, hl], fun i hi => ?_, Dk, hfit, hown.1, hown.2, fun id b g h hg => .inr (fun hno => hno id b h hg), fun _ _ h => h, fun _ _ _ => rfl, ⟨rfl, rfl, rfl⟩, ⟨Nat.le_refl _, Nat.le_refl _⟩, fun _ _ _ => rfl, Upd.refl _ _⟩
  show AN σ S ι _ ((xs[i]?).getD (.tup []))
  have hi : i < xs.length := hi
  have hi2 : i < vs.length := by omega
  obtain ⟨b, hb1, hb2⟩ := hvs.get' (List.getElem?_eq_getElem hi2)
  rw [Array.getD_eq_getD_getElem?, hb1]
  simpa [hi2] using hb2
 refine (h hclean C σ ι vs w rfl R hvs).mono fun e w' ⟨v, σ', ι', env', he, R', hv⟩ => ?_
 exact ⟨v, σ', ι', he, hS' hclean, R'.upd, ⟨R'.blk, R'.inj⟩, hv, R'.fit, R'.ext, fun p h1 h2 => R'.old p h1 (fun h => h h2), R'.os, R'.grown.2, fun g h1 h2 => R'.same g h1 (fun h => h h2), fun id b g h1 h2 => R'.base id b g h1 h2⟩
theorem AW.ownCell {C : Ctx} {s : AS} {id r : Nat} {e e' : TypeId} {cs : List AC} (j wd : Nat) (hS : s.S id = some (.box e cs)) (hj : cs[j]? = some (.full [])) (hr : s.S r = none) (hne : id ≠ r) :
  AW C s ((s.set r (.mrow e' wd [])).set id (.box e (cs.set j (.row r 0)))) := fun a w ⟨σ, ι, R⟩ => by
 have hb := R.blk _ _ hS
 cases hb with
 | @box _ _ g vs k1 k2 k3 k4 k5 =>
  obtain ⟨v, hv, hvr⟩ := k4.get hj
  cases hvr with
  | @full p len xs hs =>
   have hl : len = 0 := by
    obtain ⟨p', cap', e1, _⟩ := Bi hs
    cases e1
    rfl
   subst hl
   obtain ⟨hu, R'⟩ := R.fresh (w' := w) hr (.mrow e' wd []) ⟨p, 0, none⟩ (Ext.refl _ _) R.fit (Below.refl _ _) (by simp) (fun S' ι' hu => .mnil rfl rfl)
   have hS' : (s.set r (.mrow e' wd [])).S id = some (.box e cs) := by simp [AS.set, AG _ hne, hS]
   have hι : AF ι r ⟨p, 0, none⟩ id = ι id := AG _ hne _
   have hrr : (s.set r (.mrow e' wd [])).S r = some (.mrow e' wd []) := by simp [AS.set, AB]
   obtain ⟨hu2, R2⟩ := R'.turn (w' := w) hS' (.box e (cs.set j (.row r 0))) (AF ι r ⟨p, 0, none⟩ id) (σ' := σ) (fun _ _ h => h) (fun _ _ _ => rfl) R.fit (by simp [AJ.len]) (fun _ => ⟨rfl, rfl⟩) ⟨rfl, rfl, rfl⟩ (Nat.le_refl _) (fun _ _ _ => rfl) (fun g h => .inl h)
    (fun hu2 => by
     rw [hι] at hu2 ⊢
     refine .box k1 k2 k3 (AY.of_get (by rw [List.length_set]; exact k4.len) fun q u c hu3 hc => ?_) k5
     by_cases e2 : q = j
     ·subst e2
      rw [hv] at hu3
      cases hu3
      rw [List.getElem?_set_self (List.getElem?_eq_some_iff.1 hj).1] at hc
      cases hc
      refine .row (b := .mrow e' wd []) (by simp [AS.set, AF, Ne.symm hne]) (Nat.le_refl _) rfl fun _ => ?_
      simp [AF, Ne.symm hne]
     ·rw [List.getElem?_set_ne (fun e => e2 e.symm)] at hc
      obtain ⟨u', hu', hr'⟩ := k4.get hc
      rw [hu3] at hu'
      cases hu'
      exact (hr'.mono (fun _ _ h => h) hu).mono (fun _ _ h => h) hu2)
   exact ⟨σ, _, R2⟩

def Bc : IR :=
 (.seq (.ops [.i 4 (.mov (.n 0)), .i 5 (.mov (.c (.one (.st (.lit .nilIface)))))]) (.seq (.ops [.m 6 0, .i 7 (.callS 105 [.t 6])]) (.seq (.ops [.m 8 0, .m 9 0, .i 10 (.nilCheck (.t 9)), .f 11 1 10, .l 12 11, .m 13 1, .i 14 (.appS 5 (.t 12) (.t 13)), .i 15 (.nilCheck (.t 8)), .f 16 1 15, .s 1 16 14]) (.seq (.ops [.m 17 1, .i 18 (.len true (.t 17)), .m 4 18, .i 5 (.mov (.c (.one (.st (.lit .nilIface)))))]) .ret))))
theorem CZ : OkF Tryz.prog 76 19 [7] Bc [.t 4, .t 5] := .of Tryz.func76 rfl rfl (by kernel_rfl) rfl
def Bn : IR :=
 (.seq (.ops [.i 4 (.mov (.c (.one (.st (.lit .nilIface)))))]) (.seq (.ops [.m 5 0, .i 6 (.callS 105 [.t 5])]) (.seq (.ops [.m 7 0, .m 8 0, .i 9 (.nilCheck (.t 8)), .f 10 1 9, .l 11 10, .m 12 1, .i 13 (.buildFlat [.t 12]), .i 14 (.append true 5 1 1 (.t 11) (.t 13)), .i 15 (.nilCheck (.t 7)), .f 16 1 15, .s 1 16 14]) (.seq (.ops [.i 4 (.mov (.c (.one (.st (.lit .nilIface)))))]) .ret))))
theorem Cq : OkF Tryz.prog 77 17 [6, 14] Bn [.t 4] := .of Tryz.func77 rfl rfl (by kernel_rfl) rfl

theorem GQ : (Tryz.prog.info? 81).map (fun i => i.size) = some 2 := by kernel_rfl
set_option maxRecDepth 100000 in
theorem He (b : Nat) (w : World) (h0 : w.cell? ⟨b, 0, none⟩ = some (.pointer (some ⟨b, 0, none⟩))) :
  Calls Tryz.prog 105 #[.pointer (some ⟨b, 0, none⟩)] w fun e w' => e = .returned (.tuple #[]) ∧ w' = w := by
 obtain ⟨j, hj, _⟩ := Option.map_eq_some_iff.1 GQ
 go_enter Tryz.func105, Tryz.ntmps105
 go_wp2
 rw [Lib.run_neq_ptr_same w _ Tryz.underlying78 hj]
 go_wp2
 go_end0
 exact ⟨rfl, rfl⟩
set_option maxRecDepth 100000 in
theorem Gi (b : Nat) (w : World) (h0 : w.cell? ⟨b, 0, none⟩ = some (.pointer none)) (hsh : w.shape? b = some (81, 2)) (hfz : w.frozen? ⟨b, 0, none⟩ = false) :
  Calls Tryz.prog 105 #[.pointer (some ⟨b, 0, none⟩)] w fun e w' => e = .returned (.tuple #[]) ∧ w' = w.setCell ⟨b, 0, none⟩ (.pointer (some ⟨b, 0, none⟩)) := by
 obtain ⟨j, hj, hjs⟩ := Option.map_eq_some_iff.1 GQ
 go_enter Tryz.func105, Tryz.ntmps105
 go_wp2
 rw [Lib.run_to_unsafe w ⟨b, 0, none⟩ Tryz.underlying78 Tryz.underlying151 hj (by rw [hjs]; decide) hsh (Nat.zero_lt_succ 1)]
 simp only [Result.andThen]
 rw [Oper.upon_value]
 go_wp2
 rw [run_callFunc_extern Tryz.func119 (by kernel_rfl) (by kernel_rfl) (by kernel_rfl) (e := Extern.AbiNoEscape.same) (by kernel_rfl)]
 rw [Lib.run_noEscape]
 simp only [Result.andThen]
 rw [Oper.upon_value]
 go_wp2
 rw [Lib.run_from_unsafe w ⟨b, 0, none⟩ Tryz.underlying151 Tryz.underlying78 hj hsh (by kernel_rfl)]
 simp only [Result.andThen]
 rw [Oper.upon_value]
 go_wp2
 go_end0
 exact ⟨rfl, rfl⟩
def Frz (w w' : World) (g : Nat) : Prop := w'.heap.size = w.heap.size ∧ (∀ k, k ≠ g → w'.heap[k]? = w.heap[k]?) ∧ w'.os = w.os ∧ w'.tape = w.tape ∧ w'.output = w.output ∧ ∀ cs e f, w.heap[g]? = some (.cells cs e f) → ∃ f', w'.heap[g]? = some (.cells cs e f')
theorem M6 (w : World) (g n : Nat) : Frz w (w.drew.freeze ⟨g, 0, none⟩ n) g := by
 unfold World.freeze
 split
 ·exact ⟨rfl, fun _ _ => rfl, rfl, rfl, rfl, fun cs e f h => ⟨f, h⟩⟩
 ·refine ⟨by simp, fun k hk => ?_, rfl, rfl, rfl, fun cs e f h => ?_⟩
  ·simp only [Array.getElem?_modify]
   rw [if_neg (fun e => hk e.symm)]
   rfl
  ·obtain ⟨lo, hi⟩ := f
   have h' : w.drew.heap[g]? = some (.cells cs e (lo, hi)) := h
   refine ⟨if lo == hi then (0, 0 + n) else (min lo 0, max hi (0 + n)), ?_⟩
   simp only [Array.getElem?_modify, if_true, h', Option.map_some]
set_option maxRecDepth 100000 in
theorem Gx (b g cap : Nat) (p : Value) (cur : Array Value) (l : List UInt8) (w : World) (h0 : l ≠ []) (hbk : w.heap[b]? = some (.cells #[p, .slice (some ⟨g, 0, none⟩) l.length cap] 81 (0, 0))) (hbg : w.heap[g]? = some (.cells cur 5 (0, 0)))
  (hcm : cap ≤ maxLen) (hnc : l.length ≤ cap) (hsz : l.length ≤ cur.size) (hcur : ∀ (j : Nat) (x : UInt8), l[j]? = some x → cur[j]? = some (Value.int .u8 (x.toNat : Int))) :
  Calls Tryz.prog 50 #[.pointer (some ⟨b, 0, none⟩)] w fun e w' => e = .returned (.string ⟨l.toArray⟩) ∧ Frz w w' g := by
 have hl0 : l.length ≠ 0 := by simpa using h0
 have c1 : w.drew.cell? ⟨b, 1, none⟩ = some (.slice (some ⟨g, 0, none⟩) l.length cap) := by
  have : w.drew.heap[b]? = some (.cells #[p, .slice (some ⟨g, 0, none⟩) l.length cap] 81 (0, 0)) := hbk
  rw [Lib.cell_of_heap this]; rfl
 have hSD : (Builtin.unsafeSliceData_ #[79] 111 #[.slice (some ⟨g, 0, none⟩) l.length cap]).run Tryz.prog w.drew = .ok (.pointer (some ⟨g, 0, none⟩)) w.drew :=
  Lib.run_unsafeSliceData_row _ _ _ _ _ _ (by omega)
 have hUS : (Builtin.unsafeString_ #[111, 3] 9 #[.pointer (some ⟨g, 0, none⟩), .int .i64 l.length]).run Tryz.prog w.drew = .ok (.string ⟨l.toArray⟩) (w.drew.freeze ⟨g, 0, none⟩ l.length) := by
  refine Lib.run_unsafeString_row w.drew 111 3 9 5 Tryz.underlying111 (by kernel_rfl) g cur.size (by have hg' : w.drew.heap[g]? = some (.cells cur 5 (0, 0)) := hbg; simp [World.shape?, hg']) l h0 (by omega) (by unfold maxLen at hcm; omega) ?_
  intro j x hx
  have hg' : w.drew.heap[g]? = some (.cells cur 5 (0, 0)) := hbg
  rw [A8, Nat.zero_add, cell_of_row w.drew g _ _ _ _ hg']
  exact hcur j x hx
 go_enter Tryz.func50, Tryz.ntmps50
 go_wp2
 have mixed : Tryz.prog.follows Departure.mixedOrders = true := by kernel_rfl
 go_region_o
 all_goals (go_wp2; go_ret; exact ⟨rfl, M6 w g l.length⟩)
abbrev bT : TypeId := 81
abbrev u8T : TypeId := 5
structure Bld (S : AA) (a0 r : Nat) (bs : ByteArray) : Prop where
 ha : 1000 ≤ a0
 hr : 1000 ≤ r
 ne : a0 ≠ r
 box : ∃ p, (p = .st (.lit (.pointer none)) ∨ p = .ptr a0 1 0 0) ∧ S a0 = some (.box bT [p, .row r bs.size])
 row : S r = some (.mrow u8T 1 (Al bs))
def GG (S : AA) (a0 r : Nat) (bs : ByteArray) : AA := AF (AF S a0 (some (.box bT [.ptr a0 1 0 0, .row r bs.size]))) r (some (.mrow u8T 1 (Al bs)))
theorem Bld.next {S : AA} {a0 r : Nat} {bs cs : ByteArray} (h : Bld S a0 r bs) : Bld (GG S a0 r cs) a0 r cs :=
 ⟨h.ha, h.hr, h.ne, ⟨_, .inr rfl, by unfold GG; rw [AG _ h.ne, AB]⟩, by unfold GG; rw [AB]⟩
theorem Kz {σ : Sto} {S : AA} {ι : Aq} {v : Value} {a0 : Nat} {e : TypeId} {cs : List AC} (h : AN σ S ι v (.one (.ptr a0 1 0 0))) (hS : S a0 = some (.box e cs)) : ∃ g, (ι a0).g = some g ∧ v = .pointer (some ⟨g, 0, none⟩) := by
 have h := AP h
 cases h with
 | @ptr _ _ _ _ _ b h1 h2 h3 h4 =>
  rw [hS] at h1
  cases h1
  obtain ⟨g, g1, g2⟩ := h4 rfl
  exact ⟨g, g1, by rw [g2]; rfl⟩
theorem QG {σ : Sto} {S : AA} {ι : Aq} {v : Value} {a0 : Nat} {e : TypeId} {cs : List AC} (h : Af σ S ι v (.ptr a0 1 0 0)) (hS : S a0 = some (.box e cs)) : ∃ g, (ι a0).g = some g ∧ v = .pointer (some ⟨g, 0, none⟩) := Kz (.one h) hS
theorem MZ {α : Type} {l : List α} (h : l.length = 2) : ∃ a b, l = [a, b] := by
 match l, h with
 | [a, b], _ => exact ⟨a, b, rfl⟩
theorem HB {a0 r : Nat} {bs : ByteArray} {S : AA} (h : Bld S a0 r bs) : Ak Tryz.prog 105 [.one (.ptr a0 1 0 0)] S (.tup []) (AF S a0 (some (.box bT [.ptr a0 1 0 0, .row r bs.size]))) := by
 obtain ⟨p, hp, hSa⟩ := h.box
 refine F8 (fun hc => Ax hc h.ha (by simp only [AJ.high, AC.highs, AC.high, decide_eq_true h.ha, decide_eq_true h.hr, Bool.and_self])) fun hclean C σ ι vs w hn R hvs => ?_
 obtain ⟨v, rfl⟩ : ∃ v, vs = [v] := by
  have := hvs.len
  match vs, this with
  | [v], _ => exact ⟨v, rfl⟩
 have hv : AN σ S ι v (.one (.ptr a0 1 0 0)) := by cases hvs with | cons h _ => exact h
 obtain ⟨g, hg, rfl⟩ := Kz hv hSa
 have hb := R.blk a0 _ hSa
 cases hb with
 | @box _ _ g' vs k1 k2 k3 k4 k5 =>
 rw [hg] at k1
 cases k1
 obtain ⟨v0, v1, hvs2⟩ := MZ (show vs.toList.length = 2 by rw [k4.len]; rfl)
 obtain rfl : vs = #[v0, v1] := Array.ext' hvs2
 have r0 : Af σ S ι v0 p := by cases k4 with | cons h _ => exact h
 have r1 : Af σ S ι v1 (.row r bs.size) := by cases k4 with | cons _ h => cases h with | cons h _ => exact h
 have c0 : w.cell? ⟨g, 0, none⟩ = some v0 := by rw [Lib.cell_of_heap k3]; rfl
 have key : ∀ w', w' = w.setRow g #[.pointer (some ⟨g, 0, none⟩), v1] → ∃ σ' ι' env', AM C σ' ι' ⟨env', AF S a0 (some (.box bT [.ptr a0 1 0 0, .row r bs.size]))⟩ { tmps := #[.pointer (some ⟨g, 0, none⟩)], defers := [] } w' ∧ AN σ' (AF S a0 (some (.box bT [.ptr a0 1 0 0, .row r bs.size]))) ι' (.tuple #[]) (.tup []) := fun w' hw' => by
  subst hw'
  obtain ⟨hu, R'⟩ := R.turn (w' := w.setRow g #[.pointer (some ⟨g, 0, none⟩), v1]) hSa (.box bT [.ptr a0 1 0 0, .row r bs.size]) (ι a0) (σ' := σ) (fun _ _ h => h) (fun _ _ _ => rfl) (R.fit.row k5 fun k hk => setRow_other _ _ _ _ hk) (by simp [AJ.len]) (fun _ => ⟨rfl, rfl⟩) (BM _ _) (by simp)
   (fun k hk hne => setRow_other _ _ _ _ (fun e => hne (by rw [e]; exact hg))) (fun g h => .inl h) (fun hu => .box hg k2 (setRow_heap w _ _ _ _ _ k3) (.cons (.ptr (b := .box bT [.ptr a0 1 0 0, .row r bs.size]) (by simp [AS.set, AB]) (by simp [AJ.len]) rfl fun _ => ⟨g, by rw [AB]; exact hg, by simp [AJ.wid]⟩) (.cons (r1.mono (fun _ _ h => h) hu) .nil)) k5)
  exact ⟨σ, _, _, R', .tup (fun _ => undef) rfl (by simp) (by simp)⟩
 rcases hp with rfl | rfl
 ·have e0 : v0 = .pointer none := by cases r0 with | st h => cases h with | lit _ => rfl
  subst e0
  refine (Gi g w c0 (by simp [World.shape?, k3]) (Lib.frozen_of_heap k3 0)).mono ?_
  rintro e w' ⟨rfl, rfl⟩
  obtain ⟨σ', ι', env', R', hv'⟩ := key _ (setCell_eq_setRow w g 0 _ _ _ _ k3)
  exact ⟨_, σ', ι', env', rfl, R', hv'⟩
 ·obtain ⟨g2, hg2, e0⟩ := QG r0 hSa
  rw [hg] at hg2
  cases hg2
  subst e0
  refine (He g w c0).mono ?_
  rintro e w' ⟨rfl, rfl⟩
  obtain ⟨σ', ι', env', R', hv'⟩ := key _ (setRow_self w' g _ _ _ k3).symm
  exact ⟨_, σ', ι', env', rfl, R', hv'⟩
theorem HT (a b : ByteArray) : Al (a ++ b) = Al a ++ Al b := by unfold Al; simp
theorem KZ {a0 r : Nat} {bs : ByteArray} {S : AA} (h : Bld S a0 r bs) : Bld (upS S) (up1 a0) (up1 r) bs := by
 obtain ⟨p, hp, hSa⟩ := h.box
 refine ⟨A9 _, A9 _, fun e => h.ne (Nat.add_right_cancel e), ?_, by rw [Bw h.row]; rfl⟩
 rcases hp with rfl | rfl
 ·exact ⟨_, .inl rfl, by rw [Bw hSa]; rfl⟩
 ·exact ⟨_, .inr rfl, by rw [Bw hSa]; rfl⟩
theorem H3 {a0 r n : Nat} (ha : 1000 ≤ a0) (hr : 1000 ≤ r) : (AJ.box bT [.ptr a0 1 0 0, .row r n]).high = true := by simp only [AJ.high, AC.highs, AC.high, decide_eq_true ha, decide_eq_true hr, Bool.and_self]
theorem JK {a0 r : Nat} {bs : ByteArray} {S : AA} (h : Bld S a0 r bs) (s : ByteArray) (hz : bs.size + s.size ≤ 140737488355328) : Ak Tryz.prog 76 [.one (.ptr a0 1 0 0), CV s] S (.tup [Ab s.size, .one (.st (.lit .nilIface))]) (GG S a0 r (bs ++ s)) := by
 obtain ⟨p, hp, hSa⟩ := h.box
 have hSr := h.row
 have ha := h.ha
 have hr := h.hr
 have hne := h.ne
 have hne2 : ¬ r = a0 := fun e => hne e.symm
 have hbl := DV bs
 refine CZ.acS fun hS C hC => ?_
 unfold Bc
 repeat' with_reducible first | refine W ?_ | refine Z0 ?_ | ((first | refine Wo fun K hK => ?_ | refine Wp ?_ | refine Wq ?_ | refine Wr ?_); (try simp only [go_sem, fN, seval, eT, iR, hSa, dT, dF, nL]); (repeat refine Ai ?_); (try (refine hK _ ?_; clear hK K)); try refine iC ?_)
 refine ⟨_, _, HB (KZ h), ?_⟩
 repeat' with_reducible first | refine W ?_ | refine Z0 ?_ | ((first | refine Wo fun K hK => ?_ | refine Wp ?_ | refine Wq ?_ | refine Wr ?_); (try simp only [go_sem, fN, seval, eT, iR, hSa, hSr, hne, hne2, hbl, dT, dF, nL]); (repeat refine Ai ?_); (try (refine hK _ ?_; clear hK K)); try refine iC ?_)
 refine IL (.tup [Ab s.size, .one (.st (.lit .nilIface))]) hS ha hr hne2 (H3 ha hr) rfl trivial ?_ ?_ ?_ ?_ fun i hi i1 i2 => ?_
 ·simp only [go_sem, fN, seval, eT, iR, AD, AE, AL]
 ·simp only [go_sem, fN, seval, eT, iR]
  try rfl
 ·simp only [go_sem, fN, seval, eT, iR, hne, hne2]
  try (rw [ByteArray.size_append])
 ·simp only [go_sem, fN, seval, eT, iR, hne, hne2, HT]
 ·simp only [go_sem, fN, seval, eT, iR, i1, i2]
theorem LV (c : UInt8) : Al ⟨#[c]⟩ = [[.int .u8 (c.toNat : Int)]] := rfl
theorem EW {a0 r : Nat} {bs : ByteArray} {S : AA} (h : Bld S a0 r bs) (c : UInt8) (hz : bs.size + 1 ≤ 140737488355328) : Ak Tryz.prog 77 [.one (.ptr a0 1 0 0), .one (.st (.int .u8 (c.toNat : Int)))] S (.one (.st (.lit .nilIface))) (GG S a0 r (bs ++ ⟨#[c]⟩)) := by
 obtain ⟨p, hp, hSa⟩ := h.box
 have hSr := h.row
 have ha := h.ha
 have hr := h.hr
 have hne := h.ne
 have hne2 : ¬ r = a0 := fun e => hne e.symm
 have hbl := DV bs
 have hsz : (bs ++ ⟨#[c]⟩).size = bs.size + 1 := by rw [ByteArray.size_append]; rfl
 refine Cq.acS fun hS C hC => ?_
 unfold Bn
 repeat' with_reducible first | refine W ?_ | refine Z0 ?_ | ((first | refine Wo fun K hK => ?_ | refine Wp ?_ | refine Wq ?_ | refine Wr ?_); (try simp only [go_sem, fN, seval, eT, iR, hSa, dT, dF, nL]); (repeat refine Ai ?_); (try (refine hK _ ?_; clear hK K)); try refine iC ?_)
 refine ⟨_, _, HB (KZ h), ?_⟩
 have h63 : bs.size + 1 ≤ maxLen := by rw [Di]; omega
 repeat' with_reducible first | refine W ?_ | refine Z0 ?_ | ((first | refine Wo fun K hK => ?_ | refine Wp ?_ | refine Wq ?_ | refine Wr ?_); (try simp only [go_sem, fN, seval, eT, iR, hSa, hSr, hne, hne2, hbl, h63, dT, dF, nL]); (repeat refine Ai ?_); (try (refine hK _ ?_; clear hK K)); try refine iC ?_)
 refine IL (.one (.st (.lit .nilIface))) hS ha hr hne2 (H3 ha hr) rfl trivial ?_ ?_ ?_ ?_ fun i hi i1 i2 => ?_
 ·simp only [go_sem, fN, seval, eT, iR, AD, AE, AL]
 ·simp only [go_sem, fN, seval, eT, iR]
  try rfl
 ·simp only [go_sem, fN, seval, eT, iR, hne, hne2, hbl, hsz]
 ·simp only [go_sem, fN, seval, eT, iR, hne, hne2, HT, LV]
 ·simp only [go_sem, fN, seval, eT, iR, i1, i2]
theorem Hf {a0 r : Nat} {bs : ByteArray} {S : AA} (h : Bld S a0 r bs) (h0 : 0 < bs.size) (hmx : bs.size ≤ 140737488355328) : Ak Tryz.prog 50 [.one (.ptr a0 1 0 0)] S (CV bs) (AF S r (some (.dead bs.size 1))) := by
 obtain ⟨p, hp, hSa⟩ := h.box
 refine F8 (fun hc => Ax hc h.hr rfl) fun hclean C σ ι vs w hn R hvs => ?_
 obtain ⟨v, rfl⟩ : ∃ v, vs = [v] := by
  have := hvs.len
  match vs, this with
  | [v], _ => exact ⟨v, rfl⟩
 have hv : AN σ S ι v (.one (.ptr a0 1 0 0)) := by cases hvs with | cons h _ => exact h
 obtain ⟨g, hg, rfl⟩ := Kz hv hSa
 have hb := R.blk a0 _ hSa
 have hbr := R.blk r _ h.row
 have hlen : (Al bs).length = bs.size := DV bs
 cases hb with
 | @box _ _ g' vs k1 k2 k3 k4 k5 =>
 rw [hg] at k1
 cases k1
 obtain ⟨v0, v1, hvs2⟩ := MZ (show vs.toList.length = 2 by rw [k4.len]; rfl)
 obtain rfl : vs = #[v0, v1] := Array.ext' hvs2
 have r1 : Af σ S ι v1 (.row r bs.size) := by cases k4 with | cons _ h => cases h with | cons h _ => exact h
 generalize hrow : Al bs = row at hbr hlen
 cases hbr with
 | mnil m1 m2 => simp at hlen; omega
 | @mrow _ _ _ gr cur m1 m2 m3 m4 m5 m6 m7 m8 m9 =>
 subst hrow
 have e1 : v1 = .slice (some ⟨gr, 0, none⟩) bs.size (ι r).cap := by
  cases r1 with
  | row q1 q2 q3 q4 =>
   rw [h.row] at q1
   cases q1
   rw [q4 hlen.symm, m2]
 subst e1
 have hl : bs.data.toList.length = bs.size := by rw [Array.length_toList]; rfl
 refine (Gx g gr (ι r).cap v0 cur bs.data.toList w (fun e => by rw [e] at hl; simp at hl; omega) (by rw [hl]; exact k3) m3 m5 (by omega) (by rw [m6, hl]; omega) fun j x hx => ?_).mono ?_
 ·have hx' : (Al bs)[j]? = some [SV.int .u8 (x.toNat : Int)] := by
   unfold Al
   rw [List.getElem?_map, hx]
   rfl
  obtain ⟨u, u1, u2⟩ := m8 j _ 0 _ hx' rfl
  rw [Nat.mul_one, Nat.add_zero] at u1
  rw [u1]
  cases u2
  rfl
 ·rintro e w' ⟨rfl, f1, f2, f3, f4, f5, f6⟩
  obtain ⟨hu, R'⟩ := R.turn (w' := w') h.row (.dead bs.size 1) (ι r) (σ' := σ) (fun _ _ h => h) (fun _ _ _ => rfl) (R.fit.row m9 f2) (by simp [AJ.len, hlen]) (fun _ => ⟨rfl, rfl⟩) ⟨f3, f4, f5⟩ (by omega)
   (fun k hk hne => f2 k (fun e => hne (by rw [e]; exact m1))) (fun g h => .inl h) (fun hu => .dead fun g hg => by
    rw [m1] at hg
    cases hg
    obtain ⟨f', h'⟩ := f6 _ _ _ m3
    exact ⟨_, h', rfl⟩)
  refine ⟨_, σ, _, _, rfl, R', .one (.st (.str ?_))⟩
  show bs.size ≤ maxLen
  rw [Di]
  omega

def GH : IR :=
 (.seq (.ops [.i 1 (.box 25 (.t 0)), .i 2 (.mov (.c (.one (.st (.str (ByteArray.mk (#[])))))))]) (.seq (.ops [.i 3 (.alloc 81 [.st (.lit (.pointer none)), .full []])]) (.seq (.ops [.L 4 2 1, .i 5 (.callS 49 [.t 3, .t 4])]) (.seq (.ops [.i 6 (.callS 50 [.t 3]), .m 2 6]) .ret))))
theorem Kc : OkF Tryz.prog 28 7 [5, 6] GH [.t 2] := .of Tryz.func28 rfl rfl (by kernel_rfl) rfl
def GN : IR :=
 (.seq (.ops [.i 3 (.box 25 (.t 1))]) (.seq (.ops [.m 6 0, .f 7 0 3, .l 8 7, .i 9 (.callS 76 [.t 6, .t 8])]) (.seq (.seq (.ops [.f 10 1 3, .l 11 10, .i 12 (.len false (.t 11)), .i 13 (.mov (.n 0))]) (.block 0 (.loop (.seq (.ops [.i 14 (.bin .lss (.t 13) (.t 12))]) (.seq (.cond (.t 14) .skip (.exit 0)) (.seq (.block 1 (.seq (.ops [.m 15 13, .i 16 (.indexAddr 2 (.t 11) (.t 13)), .L 17 2 16, .i 5 (.alloc 25 [.st (.str (ByteArray.mk (#[]))), .full []]), .m 4 15, .s 2 5 17]) (.seq (.ops [.m 18 0, .m 19 4, .i 20 (.mm false (.t 19) (.n 1)), .i 21 (.indexStr (.c (.one (.st (.str (ByteArray.mk (#[40, 44])))))) (.t 20)), .i 22 (.callS 77 [.t 18, .t 21])]) (.ops [.m 23 0, .L 24 2 5, .i 25 (.callS 49 [.t 23, .t 24])])))) (.ops [.i 26 (.bin .add (.t 13) (.n 1)), .m 13 26]))))))) (.seq (.ops [.f 27 1 3, .l 28 27, .i 29 (.len false (.t 28)), .i 30 (.bin .gtr (.t 29) (.n 0))]) (.cond (.t 30) (.ops [.m 31 0, .i 32 (.callS 77 [.t 31, .c (.one (.st (.int .u8 41)))])]) .skip)))))
theorem Km : OkF Tryz.prog 49 33 [9, 22, 25, 32] GN [] := .of Tryz.func49 rfl rfl (by kernel_rfl) rfl

set_option maxHeartbeats 2000000
theorem Hp {S : AA} {a0 r : Nat} {bs : ByteArray} (ha : 1000 ≤ a0) (hr : 1000 ≤ r) (hne : a0 ≠ r) (h1 : S a0 = some (.box bT [.ptr a0 1 0 0, .row r bs.size])) (h2 : S r = some (.mrow u8T 1 (Al bs))) : Bld (upS S) (up1 a0) (up1 r) bs :=
 KZ ⟨ha, hr, hne, ⟨_, .inr rfl, h1⟩, h2⟩
theorem RA {S S' : AA} {a0 r : Nat} {bs : ByteArray} (h : Bld S a0 r bs) (h1 : S' a0 = S a0) (h2 : S' r = S r) : Bld (upS S') (up1 a0) (up1 r) bs := by
 obtain ⟨p, hp, hb⟩ := h.box
 exact KZ ⟨h.ha, h.hr, h.ne, ⟨p, hp, h1.trans hb⟩, h2.trans h.row⟩
theorem Ld {C : Ctx} {rs : List RV} {r : AV} {e : AX} {s : AS} {S : AA} {a0 r0 : Nat} {bs : ByteArray} (h : Bld S a0 r0 bs) {cs : ByteArray} (rv : AV) (hS : Aj S) (he : match e with | .normal => True | .ret => True | _ => False)
  (h1 : (AD s rs).map AL = some rv) (h2 : outV s.S rv = some r) (h3 : s.S a0 = some (.box bT [.ptr a0 1 0 0, .row r0 cs.size])) (h3' : s.S r0 = some (.mrow u8T 1 (Al cs))) (h4 : ∀ i, 1000 ≤ i → i ≠ a0 → i ≠ r0 → s.S i = S i) : FP C rs r (GG S a0 r0 cs) e s :=
 IL rv hS h.ha h.hr (fun e => h.ne e.symm) (H3 h.ha h.hr) rfl he h1 h2 h3 h3' h4
theorem Rl (t : Tm) : ∀ {a0 r : Nat} {bs : ByteArray} {S : AA}, Bld S a0 r bs → bs.size + t.text.size ≤ 1000000000 → Ak Tryz.prog 49 [.one (.ptr a0 1 0 0), aTm t] S (.tup []) (GG S a0 r (bs ++ t.text)) := by
 obtain ⟨N, hN⟩ : ∃ N, SizeOf.sizeOf t < N := ⟨_, Nat.lt_succ_self _⟩
 induction N generalizing t with
 | zero => omega
 | succ N ih =>
 intro a0 r bs S h hz
 have ha := h.ha
 have hr := h.hr
 have hne := h.ne
 have hne2 : ¬ r = a0 := fun e => hne e.symm
 have a3 : ¬ a0 = 3 := by omega
 have r3 : ¬ r = 3 := by omega
 have q3 : ¬ 3 = a0 := by omega
 have s3 : ¬ 3 = r := by omega
 have a5 : ¬ a0 = 5 := by omega
 have r5 : ¬ r = 5 := by omega
 have q5 : ¬ 5 = a0 := by omega
 have s5 : ¬ 5 = r := by omega
 have hn0 := t.ahead_le 0
 rw [Tm.ahead_zero] at hn0
 refine Km.acS fun hS C hC => ?_
 have k3 : S 3 = none := AZ hS (by omega)
 have k5 : S 5 = none := AZ hS (by omega)
 unfold GN
 repeat' with_reducible first | refine W ?_ | refine Z0 ?_ | ((first | refine Wo fun K hK => ?_ | refine Wp ?_ | refine Wq ?_ | refine Wr ?_); (try simp only [go_sem, fN, seval, eT, iR, k3, k5, dT, dF, nL]); (repeat refine Ai ?_); (try (refine hK _ ?_; clear hK K)); try refine iC ?_)
 refine ⟨_, _, JK (RA h (by simp only [go_sem, fN, seval, eT, iR, a3]) (by simp only [go_sem, fN, seval, eT, iR, r3])) t.name (by omega), ?_⟩
 repeat' with_reducible first | refine W ?_ | refine Z0 ?_ | ((first | refine Wo fun K hK => ?_ | refine Wp ?_ | refine Wq ?_ | refine Wr ?_); (try simp only [go_sem, fN, seval, eT, iR, GG, q3, s3, hne, hne2, k5, dT, dF, nL]); (repeat refine Ai ?_); (try (refine hK _ ?_; clear hK K)); try refine iC ?_)
 refine IWP.loopD [5] (fun m s => ∃ k, k ≤ t.args.length ∧ m = t.args.length - k ∧ s.env 0 = .one (.ptr a0 1 0 0) ∧ s.env 3 = .one (.ptr 3 1 0 0) ∧ s.env 11 = .one (.st (.list (t.args.map Ae))) ∧ s.env 12 = Ab t.args.length ∧ s.env 13 = Ab k ∧ s.S 3 = some (.box 25 [.st (.str t.name), .st (.list (t.args.map Ae))]) ∧ s.S 5 = none ∧ s.S a0 = some (.box bT [.ptr a0 1 0 0, .row r (bs ++ t.ahead k).size]) ∧ s.S r = some (.mrow u8T 1 (Al (bs ++ t.ahead k))) ∧ ∀ i, 1000 ≤ i → i ≠ a0 → i ≠ r → s.S i = S i) t.args.length ⟨0, Nat.zero_le _, rfl, rfl, rfl, rfl, rfl, rfl, ?_, ?_, ?_, ?_, fun i hi i1 i2 => ?_⟩ ?_
 ·simp only [go_sem, fN, seval, eT, iR, q3, s3]
 ·simp only [go_sem, fN, seval, eT, iR, q5, s5, k5]
 ·rw [Tm.ahead_zero]
  simp only [go_sem, fN, seval, eT, iR, hne, hne2]
 ·rw [Tm.ahead_zero]
  simp only [go_sem, fN, seval, eT, iR, hne, hne2]
 ·have i3 : ¬ i = 3 := by omega
  simp only [go_sem, fN, seval, eT, iR, i1, i2, i3]
 rintro m ⟨env, T⟩ ⟨k, hk, rfl, e0, e3, e11, e12, e13, t3, t5, ta, tr, th⟩
 simp only at e0 e3 e11 e12 e13 t3 t5 ta tr th
 have hah := t.ahead_le k
 have hal0 := t.args_text
 have hg := Hp ha hr hne ta tr
 by_cases hlt : k < t.args.length
 case neg =>
  have hlt' : ¬ (k : Int) < t.args.length := by omega
  have hal := Tm.ahead_all (t := t) (k := k) (by omega)
  by_cases h0 : k = 0
  ·rw [if_pos h0, append_empty] at hal
   have hl0 : ¬ (0 : Int) < t.args.length := by omega
   repeat' with_reducible first | refine W ?_ | refine Z0 ?_ | ((first | refine Wo fun K hK => ?_ | refine Wp ?_ | refine Wq ?_ | refine Wr ?_); (try simp only [go_sem, fN, seval, eT, iR, e0, e3, e11, e12, e13, t3, t5, ta, tr, hlt', hl0, dT, dF, nL]); (repeat refine Ai ?_); (try (refine hK _ ?_; clear hK K)); try refine iC ?_)
   refine Ld h (.tup []) hS trivial rfl rfl ?_ ?_ fun i hi i1 i2 => ?_
   ·rw [hal]
    simp only [go_sem, fN, seval, eT, iR, ta]
   ·rw [hal]
    simp only [go_sem, fN, seval, eT, iR, tr]
   ·exact th i hi i1 i2
  ·rw [if_neg h0] at hal
   have hl0 : (0 : Int) < t.args.length := by omega
   rw [hal, ByteArray.size_append] at hz
   have z1 : (⟨#[41]⟩ : ByteArray).size = 1 := rfl
   repeat' with_reducible first | refine W ?_ | refine Z0 ?_ | ((first | refine Wo fun K hK => ?_ | refine Wp ?_ | refine Wq ?_ | refine Wr ?_); (try simp only [go_sem, fN, seval, eT, iR, e0, e3, e11, e12, e13, t3, t5, ta, tr, hlt', hl0, dT, dF, nL]); (repeat refine Ai ?_); (try (refine hK _ ?_; clear hK K)); try refine iC ?_)
   refine ⟨_, _, (EW hg 41 (by rw [ByteArray.size_append]; omega) : Ak _ _ [_, .one (.st (.int .u8 41))] _ _ _), ?_⟩
   repeat' with_reducible first | refine W ?_ | refine Z0 ?_ | ((first | refine Wo fun K hK => ?_ | refine Wp ?_ | refine Wq ?_ | refine Wr ?_); (try simp only [go_sem, fN, seval, eT, iR, GG, q3, s3, hne, hne2, dT, dF, nL]); (repeat refine Ai ?_); (try (refine hK _ ?_; clear hK K)); try refine iC ?_)
   rw [hal, ← ByteArray.append_assoc]
   refine Ld h (.tup []) hS trivial rfl rfl ?_ ?_ fun i hi i1 i2 => ?_
   ·simp only [go_sem, fN, seval, eT, iR, hne, hne2]
    try rfl
   ·simp only [go_sem, fN, seval, eT, iR, hne, hne2]
    try rfl
   ·simp only [go_sem, fN, seval, eT, iR, i1, i2]
    exact th i hi i1 i2
 have hlt' : (k : Int) < t.args.length := by omega
 obtain ⟨a, haa⟩ := Ac hlt
 have hm := AO haa
 have hta := Tm.text_lt hm
 have hs := @ih a (by have := Tm.lt_of_arg hm; omega)
 have hnx := Tm.ahead_succ haa
 have h1 := t.ahead_le (k + 1)
 rw [hnx, ByteArray.size_append, ByteArray.size_append, Fw] at h1
 have z1 : (⟨#[40]⟩ : ByteArray).size = 1 := rfl
 have z2 : (⟨#[44]⟩ : ByteArray).size = 1 := rfl
 have ab5 : (a0 == 5) = false := beq_false_of_ne (by omega)
 have rb5 : (r == 5) = false := beq_false_of_ne (by omega)
 have b0 : HQ (⟨#[40, 44]⟩ : ByteArray) 0 = 40 := by decide
 have b1 : HQ (⟨#[40, 44]⟩ : ByteArray) 1 = 44 := by decide
 have hg0 : ∀ B C : AJ, Bld (upS (AF (AF T 5 (some B)) 5 (some C))) (up1 a0) (up1 r) (bs ++ t.ahead k) := fun B C => Hp ha hr hne (by simp only [go_sem, fN, seval, eT, iR, a5, ta]) (by simp only [go_sem, fN, seval, eT, iR, r5, tr])
 by_cases h0 : k = 0
 ·subst h0
  rw [LW] at hnx
  have hl0 : (0 : Int) < t.args.length := by omega
  repeat' with_reducible first | refine W ?_ | refine Z0 ?_ | ((first | refine Wo fun K hK => ?_ | refine Wp ?_ | refine Wq ?_ | refine Wr ?_); (try simp only [go_sem, fN, seval, eT, iR, e0, e3, e11, e12, e13, t3, t5, ta, tr, hl0, haa, b0, dT, dF, nL]); (repeat refine Ai ?_); (try (refine hK _ ?_; clear hK K)); try refine iC ?_)
  refine ⟨_, _, (EW (hg0 _ _) 40 (by rw [ByteArray.size_append]; omega) : Ak _ _ [_, .one (.st (.int .u8 40))] _ _ _), ?_⟩
  repeat' with_reducible first | refine W ?_ | refine Z0 ?_ | ((first | refine Wo fun K hK => ?_ | refine Wp ?_ | refine Wq ?_ | refine Wr ?_); (try simp only [go_sem, fN, seval, eT, iR, e0, e3, e11, e12, e13, t3, GG, q3, s3, q5, s5, hne, hne2, dT, dF, nL]); (repeat refine Ai ?_); (try (refine hK _ ?_; clear hK K)); try refine iC ?_)
  refine ⟨_, _, hs (Hp (bs := bs ++ t.ahead 0 ++ ⟨#[40]⟩) ha hr hne (by simp only [go_sem, fN, seval, eT, iR, hne, hne2]) (by simp only [go_sem, fN, seval, eT, iR, hne, hne2])) (by rw [ByteArray.size_append, ByteArray.size_append]; omega), ?_⟩
  repeat' with_reducible first | refine W ?_ | refine Z0 ?_ | ((first | refine Wo fun K hK => ?_ | refine Wp ?_ | refine Wq ?_ | refine Wr ?_); (try simp only [go_sem, fN, seval, eT, iR, e0, e3, e11, e12, e13, t3, GG, q3, s3, q5, s5, hne, hne2, dT, dF, nL]); (repeat refine Ai ?_); (try (refine hK _ ?_; clear hK K)); try refine iC ?_)
  refine AI ⟨t.args.length - (0 + 1), by omega, 0 + 1, by omega, rfl, ?_⟩
  simp only [go_sem, fN, seval, AS.drop, Aa, AC.clears, AC.clear, AC.highs, AC.high, Bool.not_false, Bool.true_and, Bool.and_self, AV.purge, AV.purges, AC.purge, AJ.purge, List.contains_cons, List.contains_nil, Nat.reduceBEq, Bool.or_self, Bool.or_false, Bool.false_or, Bool.or_true, eT, iR, e0, e3, e11, e12, e13, t3, hne, hne2, hnx, q3, s3, q5, s5, ab5, rb5]
  refine ⟨by simp only [Nat.add_assoc], by simp only [ByteArray.append_assoc], fun i hi i1 i2 => ?_⟩
  have i5 : ¬ i = 5 := by omega
  have i5b : (i == 5) = false := beq_false_of_ne i5
  simp only [i5b, i5, i1, i2, if_false, Bool.false_eq_true]
  rw [th i hi i1 i2]
  exact NL (by decide) fun b hb => (hS i b hb).2
 ·rw [Lc h0] at hnx
  have h0' : (if (1 : Int) < (k : Int) then (1 : Int) else (k : Int)) = 1 := by split <;> omega
  repeat' with_reducible first | refine W ?_ | refine Z0 ?_ | ((first | refine Wo fun K hK => ?_ | refine Wp ?_ | refine Wq ?_ | refine Wr ?_); (try simp only [go_sem, fN, seval, eT, iR, e0, e3, e11, e12, e13, t3, t5, ta, tr, hlt', h0', haa, b1, dT, dF, nL]); (repeat refine Ai ?_); (try (refine hK _ ?_; clear hK K)); try refine iC ?_)
  refine ⟨_, _, (EW (hg0 _ _) 44 (by rw [ByteArray.size_append]; omega) : Ak _ _ [_, .one (.st (.int .u8 44))] _ _ _), ?_⟩
  repeat' with_reducible first | refine W ?_ | refine Z0 ?_ | ((first | refine Wo fun K hK => ?_ | refine Wp ?_ | refine Wq ?_ | refine Wr ?_); (try simp only [go_sem, fN, seval, eT, iR, e0, e3, e11, e12, e13, t3, GG, q3, s3, q5, s5, hne, hne2, dT, dF, nL]); (repeat refine Ai ?_); (try (refine hK _ ?_; clear hK K)); try refine iC ?_)
  refine ⟨_, _, hs (Hp (bs := bs ++ t.ahead k ++ ⟨#[44]⟩) ha hr hne (by simp only [go_sem, fN, seval, eT, iR, hne, hne2]) (by simp only [go_sem, fN, seval, eT, iR, hne, hne2])) (by rw [ByteArray.size_append, ByteArray.size_append]; omega), ?_⟩
  repeat' with_reducible first | refine W ?_ | refine Z0 ?_ | ((first | refine Wo fun K hK => ?_ | refine Wp ?_ | refine Wq ?_ | refine Wr ?_); (try simp only [go_sem, fN, seval, eT, iR, e0, e3, e11, e12, e13, t3, GG, q3, s3, q5, s5, hne, hne2, dT, dF, nL]); (repeat refine Ai ?_); (try (refine hK _ ?_; clear hK K)); try refine iC ?_)
  refine AI ⟨t.args.length - (k + 1), by omega, k + 1, by omega, rfl, ?_⟩
  simp only [go_sem, fN, seval, AS.drop, Aa, AC.clears, AC.clear, AC.highs, AC.high, Bool.not_false, Bool.true_and, Bool.and_self, AV.purge, AV.purges, AC.purge, AJ.purge, List.contains_cons, List.contains_nil, Nat.reduceBEq, Bool.or_self, Bool.or_false, Bool.false_or, Bool.or_true, eT, iR, e0, e3, e11, e12, e13, t3, hne, hne2, hnx, q3, s3, q5, s5, ab5, rb5]
  refine ⟨by congr 3, by simp only [Nat.add_assoc], by simp only [ByteArray.append_assoc], fun i hi i1 i2 => ?_⟩
  have i5 : ¬ i = 5 := by omega
  have i5b : (i == 5) = false := beq_false_of_ne i5
  simp only [i5b, i5, i1, i2, if_false, Bool.false_eq_true]
  rw [th i hi i1 i2]
  exact NL (by decide) fun b hb => (hS i b hb).2
theorem K8 (t : Tm) (h0 : 0 < t.name.size) (hz : t.text.size ≤ 100000000) : AT Tryz.prog 28 [aTm t] (CV t.text) := by
 have hn0 := t.ahead_le 0
 rw [Tm.ahead_zero] at hn0
 have hne : ∀ b : ByteArray, (⟨#[]⟩ : ByteArray) ++ b = b := empty_append
 refine Kc.ac fun C hC => ?_
 unfold GH
 refine W ?_
 refine Wo (fun K hK => ?_)
 (try simp only [go_sem, fN, seval, eT, iR])
 (repeat with_reducible refine Ai ?_)
 refine hK _ ?_
 clear hK K
 refine W ?_
 refine W ?_
 refine Wo (fun K hK => ?_)
 (try simp only [go_sem, fN, seval, eT, iR])
 (repeat with_reducible refine Ai ?_)
 refine hK _ ?_
 clear hK K
 refine W ?_
 refine IWP.ghost (AW.ownCell (id := 3) (r := 900) (e' := u8T) 1 1 (by rfl) (by rfl) (by rfl) (by decide)) ?_
 repeat' with_reducible first | refine W ?_ | refine Z0 ?_ | ((first | refine Wo fun K hK => ?_ | refine Wp ?_ | refine Wq ?_ | refine Wr ?_); (try simp only [go_sem, fN, seval, eT, iR, dT, dF, nL]); (repeat refine Ai ?_); (try (refine hK _ ?_; clear hK K)); try refine iC ?_)
 refine ⟨_, _, Rl t (a0 := up1 3) (r := up1 900) (bs := ⟨#[]⟩) ⟨by decide, by decide, by decide, ⟨_, .inl rfl, by rw [BW]; rfl⟩, by rw [BW]; rfl⟩ (by show 0 + _ ≤ _; omega), ?_⟩
 repeat' with_reducible first | refine W ?_ | refine Z0 ?_ | ((first | refine Wo fun K hK => ?_ | refine Wp ?_ | refine Wq ?_ | refine Wr ?_); (try simp only [go_sem, fN, seval, eT, iR, GG, dT, dF, nL]); (repeat refine Ai ?_); (try (refine hK _ ?_; clear hK K)); try refine iC ?_)
 refine ⟨_, _, Hf (a0 := up1 3) (r := up1 900) (bs := ⟨#[]⟩ ++ t.text) ⟨by decide, by decide, by decide, ⟨_, .inr rfl, by rw [BW]; (simp only [go_sem, fN, seval, eT, iR]; try rfl)⟩, by rw [BW]; (simp only [go_sem, fN, seval, eT, iR]; try rfl)⟩ (by rw [hne]; omega) (by rw [hne]; omega), ?_⟩
 repeat' with_reducible first | refine W ?_ | refine Z0 ?_ | ((first | refine Wo fun K hK => ?_ | refine Wp ?_ | refine Wq ?_ | refine Wr ?_); (try simp only [go_sem, fN, seval, eT, iR, dT, dF, nL]); (repeat refine Ai ?_); (try (refine hK _ ?_; clear hK K)); try refine iC ?_)
 simp only [go_sem, fN, seval, AQ, AS.result, AD, AE, AL]
 rw [hne]

end Go.Proofs.YtgcddcaachpbnaaGreat
