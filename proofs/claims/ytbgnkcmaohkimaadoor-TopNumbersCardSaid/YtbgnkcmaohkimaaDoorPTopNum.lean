/-
  Numerals added, multiplied, raised: worked out by the kernel, for the numbers that the law takes.
  Conditions: none.
-/
import Derived.Test.YtbgnkcmaohkimaaDoorBLong
namespace Go.Proofs.YtbgnkcmaohkimaaDoor
open Go Go.RowKit
set_option linter.unusedVariables false
def plusT (m n : Nat) : Lm := Lm.l (Lm.l (Lm.a (Lm.a (Lm.mv 2 0 (Lm.num m)) (Lm.v 1)) (Lm.a (Lm.a (Lm.mv 2 0 (Lm.num n)) (Lm.v 1)) (Lm.v 0))))
def timesT (m n : Nat) : Lm := Lm.l (Lm.a (Lm.mv 1 0 (Lm.num m)) (Lm.a (Lm.mv 1 0 (Lm.num n)) (Lm.v 0)))
def powT (m n : Nat) : Lm := Lm.a (Lm.num n) (Lm.num m)
def pw (m : Nat) : Nat → Nat
  | 0 => 1
  | n + 1 => pw m n * m
def okPlus (m n : Nat) : Bool := decide (valR (plusT m n) 400 = (((m + n : Nat) : Int), 0))
def okTimes (m n : Nat) : Bool := decide (valR (timesT m n) 400 = (((m * n : Nat) : Int), 0))
def okPow (m n : Nat) : Bool := decide ((valR (powT m n) 400).2 = 9) || decide (valR (powT m n) 400 = (((pw m n : Nat) : Int), 0))
def okAll : Bool := (List.range 5).all fun m => (List.range 4).all fun n => okPlus m n && okTimes m n && okPow m n
set_option maxRecDepth 100000 in
theorem okAll_true : okAll = true := by decide +kernel
end Go.Proofs.YtbgnkcmaohkimaaDoor
