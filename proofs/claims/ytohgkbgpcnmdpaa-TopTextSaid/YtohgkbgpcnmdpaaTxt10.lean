/-
  Part 10 of the texts: IrParse; PParse; BEnds; BRead; BEndsP; BParse. Conditions: none.
-/
import Derived.Test.YtohgkbgpcnmdpaaTxt9
namespace Go.Proofs.Ytohgkbgpcnmdpaa
open Go Go.RowKit
set_option maxRecDepth 100000

def ir_metaprune_term_reader_term : IR :=
  (.seq
  (.ops
  [.mk (some 2) none
  (.alloc 24 [.st (.str (ByteArray.mk (#[]))), .full []]) .no])
  (.seq
  (.ops
  [.mk (some 3) none (.mov (.c (.one (.st (.int .i64 0)))))
  .no])
  (.seq
  (.block 0
  (.loop
  (.seq
  (.seq
  (.ops
  [.mk (some 6) none (.mov (.t 3)) .no, .mk (some 7) none (.mov (.t 0)) .no, .mk (some 8) none (.nilCheck (.t 7)) .no, .mk (some 9) none (.fieldAddr 0 (.t 8)) .no, .mk (some 10) none (.load false 1 (.t 9)) .no, .mk (some 11) none (.len true (.t 10)) .no, .mk (some 12) none (.bin .lss (.t 6) (.t 11))
  .no, .mk (some 13) none (.mov (.t 12)) .no, .mk (some 14) (some (13, true)) (.mov (.t 0)) .no, .mk (some 15) (some (13, true)) (.nilCheck (.t 14)) .no, .mk (some 16) (some (13, true)) (.fieldAddr 0 (.t 15)) .no, .mk (some 17) (some (13, true)) (.load false 1 (.t 16)) .no, .mk (some 18) (some (13, true)) (.mov (.t 3)) .no, .mk (some 19) (some (13, true)) (.indexStr (.t 17) (.t 18))
  .no, .mk (some 20) (some (13, true)) (.call 47 [.t 19]) .no, .mk (some 21) none
  (.pick (.t 13) (.t 20) (.c (.one (.st (.bool false)))))
  .no])
  (.cond (.t 21) .skip (.exit 0)))
  (.block 1
  (.ops
  [.mk (some 22) none (.mov (.t 3)) .no, .mk (some 23) none (.bin .add (.t 22) (.c (.one (.st (.int .i64 1)))))
  .no, .mk (some 3) none (.mov (.t 23)) .no])))))
  (.seq
  (.seq
  (.ops
  [.mk (some 24) none (.mov (.t 3)) .no, .mk (some 25) none (.bin .eql (.t 24) (.c (.one (.st (.int .i64 0)))))
  .no])
  (.cond (.t 25)
  (.seq
  (.seq
  (.ops
  [.mk (some 26) none (.mov (.t 0)) .no, .mk (some 27) none (.nilCheck (.t 26)) .no, .mk (some 28) none (.fieldAddr 0 (.t 27)) .no, .mk (some 29) none (.load false 1 (.t 28)) .no, .mk (some 30) none (.bin .eql (.t 29) (.c (.one (.st (.str (ByteArray.mk (#[])))))))
  .no])
  (.cond (.t 30)
  (.ops
  [.mk (some 31) none
  (.iface 62 (.c (.one (.st (.int .i64 13)))))
  .no, .mk none none (.pan (.t 31)) .no])
  .skip))
  (.ops
  [.mk (some 32) none
  (.iface 62 (.c (.one (.st (.int .i64 12)))))
  .no, .mk none none (.pan (.t 32)) .no]))
  .skip))
  (.seq
  (.ops
  [.mk (some 33) none (.mov (.t 0)) .no, .mk (some 34) none (.nilCheck (.t 33)) .no, .mk (some 35) none (.fieldAddr 0 (.t 34)) .no, .mk (some 36) none (.load false 1 (.t 35)) .no, .mk (some 37) none (.mov (.t 3)) .no, .mk (some 38) none (.sliceS (.t 36) none (some (.t 37)))
  .no, .mk (some 39) none
  (.build [.st (.str (ByteArray.mk (#[]))), .full []]
  [(0, 1, .t 38)])
  .no, .mk (some 4) none
  (.alloc 24 [.st (.str (ByteArray.mk (#[]))), .full []])
  .no, .mk none none (.store 2 (.t 4) (.t 39)) .no])
  (.seq
  (.seq
  (.ops
  [.mk (some 40) none (.fieldAddr 0 (.t 4)) .no, .mk (some 41) none (.load false 1 (.t 40)) .no, .mk (some 42) none (.call 48 [.t 41]) .no, .mk (some 43) none (.un .not (.t 42)) .no])
  (.cond (.t 43)
  (.ops
  [.mk (some 44) none
  (.iface 62 (.c (.one (.st (.int .i64 1)))))
  .no, .mk none none (.pan (.t 44)) .no])
  .skip))
  (.seq
  (.seq
  (.ops
  [.mk (some 45) none (.mov (.t 0)) .no, .mk (some 46) none (.nilCheck (.t 45)) .no, .mk (some 47) none (.fieldAddr 1 (.t 46)) .no, .mk (some 48) none (.load false 1 (.t 47)) .no, .mk (some 49) none (.bin .sub (.t 48) (.c (.one (.st (.int .i64 1)))))
  .no, .mk (some 50) none (.nilCheck (.t 45)) .no, .mk (some 51) none (.fieldAddr 1 (.t 50)) .no, .mk none none (.store 1 (.t 51) (.t 49))
  .no])
  (.seq
  (.ops
  [.mk (some 52) none (.mov (.t 0)) .no, .mk (some 53) none (.nilCheck (.t 52)) .no, .mk (some 54) none (.fieldAddr 1 (.t 53)) .no, .mk (some 55) none (.load false 1 (.t 54)) .no, .mk (some 56) none (.bin .lss (.t 55) (.c (.one (.st (.int .i64 0)))))
  .no])
  (.cond (.t 56)
  (.ops
  [.mk (some 57) none
  (.iface 62 (.c (.one (.st (.int .i64 3)))))
  .no, .mk none none (.pan (.t 57)) .no])
  .skip)))
  (.seq
  (.ops
  [.mk (some 58) none (.mov (.t 0)) .no, .mk (some 59) none (.mov (.t 0)) .no, .mk (some 60) none (.nilCheck (.t 59)) .no, .mk (some 61) none (.fieldAddr 0 (.t 60)) .no, .mk (some 62) none (.load false 1 (.t 61)) .no, .mk (some 63) none (.mov (.t 3)) .no, .mk (some 64) none (.sliceS (.t 62) (some (.t 63)) none)
  .no, .mk (some 65) none (.nilCheck (.t 58)) .no, .mk (some 66) none (.fieldAddr 0 (.t 65)) .no, .mk none none (.store 1 (.t 66) (.t 64))
  .no])
  (.seq
  (.seq
  (.ops
  [.mk (some 67) none (.mov (.t 0)) .no, .mk (some 68) none (.nilCheck (.t 67)) .no, .mk (some 69) none (.fieldAddr 0 (.t 68)) .no, .mk (some 70) none (.load false 1 (.t 69)) .no, .mk (some 71) none (.call 49
  [.t 70, .c (.one (.st (.str (ByteArray.mk (#[40])))))])
  .no, .mk (some 72) none (.un .not (.t 71)) .no])
  (.cond (.t 72)
  (.seq
  (.ops
  [.mk (some 73) none (.load true 2 (.t 4)) .no, .mk none none (.store 2 (.t 2) (.t 73))
  .no])
  .ret)
  .skip))
  (.seq
  (.seq
  (.ops
  [.mk (some 74) none (.fieldAddr 0 (.t 4)) .no, .mk (some 75) none (.load false 1 (.t 74)) .no, .mk (some 76) none (.call 44 [.t 75]) .no])
  (.cond (.t 76)
  (.ops
  [.mk (some 77) none
  (.iface 62 (.c (.one (.st (.int .i64 2)))))
  .no, .mk none none (.pan (.t 77)) .no])
  .skip))
  (.seq
  (.seq
  (.ops
  [.mk (some 5) none (.mov (.c (.one (.st (.bool true)))))
  .no])
  (.block 2
  (.loop
  (.seq
  (.seq
  (.ops
  [.mk (some 78) none (.mov (.t 5)) .no])
  (.cond (.t 78) .skip (.exit 2)))
  (.block 3
  (.seq
  (.ops
  [.mk (some 79) none (.mov (.t 0)) .no, .mk (some 80) none (.mov (.t 0)) .no, .mk (some 81) none (.nilCheck (.t 80)) .no, .mk (some 82) none (.fieldAddr 0 (.t 81)) .no, .mk (some 83) none (.load false 1 (.t 82)) .no, .mk (some 84) none
  (.sliceS (.t 83)
  (some (.c (.one (.st (.int .i64 1))))) none)
  .no, .mk (some 85) none (.nilCheck (.t 79)) .no, .mk (some 86) none (.fieldAddr 0 (.t 85)) .no, .mk none none (.store 1 (.t 86) (.t 84))
  .no])
  (.seq
  (.ops
  [.mk (some 87) none (.fieldAddr 1 (.t 4)) (.onb 4), .mk (some 88) none (.load false 1 (.t 87))
  (.onb 4), .mk (some 89) none (.mov (.t 0)) .no, .mk (some 90) none (.callS 27 [.t 89]) (.keeps [4, 4]), .mk (some 91) none (.buildSlice false 24 2 [.t 90])
  .no, .mk (some 92) none
  (.append false 24 2 40 (.t 88) (.t 91)) .no, .mk (some 93) none (.fieldAddr 1 (.t 4)) .no, .mk none none (.store 1 (.t 93) (.t 92))
  .no])
  (.block 4
  (.seq
  (.ops
  [.mk (some 95) none (.mov (.t 0)) .no, .mk (some 96) none (.nilCheck (.t 95)) .no, .mk (some 97) none (.fieldAddr 0 (.t 96)) .no, .mk (some 98) none (.load false 1 (.t 97))
  .no, .mk (some 99) none (.bin .eql (.t 98) (.c (.one (.st (.str (ByteArray.mk (#[])))))))
  .no, .mk (some 94) none (.mov (.t 99)) .no])
  (.cond (.t 94)
  (.ops
  [.mk (some 100) none
  (.iface 62 (.c (.one (.st (.int .i64 13)))))
  .no, .mk none none (.pan (.t 100)) .no])
  (.seq
  (.ops
  [.mk (some 102) none (.mov (.t 0)) .no, .mk (some 103) none (.nilCheck (.t 102)) .no, .mk (some 104) none (.fieldAddr 0 (.t 103))
  .no, .mk (some 105) none (.load false 1 (.t 104))
  .no, .mk (some 106) none
  (.indexStr (.t 105) (.c (.one (.st (.int .i64 0)))))
  .no, .mk (some 107) none (.bin .eql (.t 106) (.c (.one (.st (.int .u8 41)))))
  .no, .mk (some 101) none (.mov (.t 107)) .no])
  (.cond (.t 101)
  (.ops
  [.mk (some 5) none (.mov (.c (.one (.st (.bool false)))))
  .no])
  (.seq
  (.ops
  [.mk (some 109) none (.mov (.t 0)) .no, .mk (some 110) none (.nilCheck (.t 109))
  .no, .mk (some 111) none (.fieldAddr 0 (.t 110))
  .no, .mk (some 112) none (.load false 1 (.t 111))
  .no, .mk (some 113) none
  (.indexStr (.t 112) (.c (.one (.st (.int .i64 0)))))
  .no, .mk (some 114) none (.bin .neq (.t 113) (.c (.one (.st (.int .u8 44)))))
  .no, .mk (some 108) none (.mov (.t 114)) .no])
  (.cond (.t 108)
  (.ops
  [.mk (some 115) none
  (.iface 62 (.c (.one (.st (.int .i64 12)))))
  .no, .mk none none (.pan (.t 115)) .no])
  .skip))))))))))))))
  (.seq
  (.ops
  [.mk (some 116) none (.mov (.t 0)) .no, .mk (some 117) none (.mov (.t 0)) .no, .mk (some 118) none (.nilCheck (.t 117)) .no, .mk (some 119) none (.fieldAddr 0 (.t 118)) .no, .mk (some 120) none (.load false 1 (.t 119)) .no, .mk (some 121) none
  (.sliceS (.t 120)
  (some (.c (.one (.st (.int .i64 1))))) none)
  .no, .mk (some 122) none (.nilCheck (.t 116)) .no, .mk (some 123) none (.fieldAddr 0 (.t 122)) .no, .mk none none (.store 1 (.t 123) (.t 121))
  .no])
  (.seq
  (.ops
  [.mk (some 124) none (.load true 2 (.t 4)) .no, .mk none none (.store 2 (.t 2) (.t 124))
  .no])
  .ret)))))))))))))
theorem tr_metaprune_term_reader_term : trCode Try.prog 125 [90] (Try.f27.body.getD .skip) = some ir_metaprune_term_reader_term := by kernel_rfl
theorem acS_metaprune_term_reader_term {xs : List AV} {S S' : AStore} {r : AV} (hn : xs.length ≤ 125) (h : Clean S → ∀ C : Ctx, C.n = 125 → IWP Try.prog C [90] ir_metaprune_term_reader_term (FinS C [.cell 2 true 2] r S') (AS.startS xs S)) : ACallsS Try.prog 27 xs S r S' :=
  acallsS_of Try.func27 rfl tr_metaprune_term_reader_term rfl hn h

theorem acP_metaprune_term_reader_term {xs : List AV} {S S' : AStore} {v : Value} (hn : xs.length ≤ 125) (h : Clean S → ∀ C : Ctx, C.n = 125 → IWP Try.prog C [90] ir_metaprune_term_reader_term (FinP C v S') (AS.startS xs S)) : APan Try.prog 27 xs S v S' :=
  apan_of Try.func27 rfl tr_metaprune_term_reader_term hn h

def ir_strings_HasPrefix : IR :=
  (.seq
  (.ops
  [.mk (some 4) none (.mov (.c (.one (.st (.bool false)))))
  .no])
  (.seq
  (.ops
  [.mk (some 5) none (.mov (.t 0)) .no, .mk (some 6) none (.mov (.t 1)) .no, .mk (some 7) none (.call 66 [.t 5, .t 6]) .no, .mk (some 4) none (.mov (.t 7)) .no])
  .ret))
theorem tr_strings_HasPrefix : trCode Try.prog 8 [] (Try.f49.body.getD .skip) = some ir_strings_HasPrefix := by kernel_rfl
theorem ac_strings_HasPrefix {xs : List AV} {r : AV} (hn : xs.length ≤ 8) (h : ∀ C : Ctx, C.n = 8 → IWP Try.prog C [] ir_strings_HasPrefix (FinQ [.t 4] r) (AS.start xs)) : ACalls Try.prog 49 xs r :=
  acalls_of Try.func49 rfl tr_strings_HasPrefix rfl hn h
def ir_internal_stringslite_HasPrefix : IR :=
  (.seq
  (.ops
  [.mk (some 4) none (.mov (.c (.one (.st (.bool false)))))
  .no])
  (.seq
  (.ops
  [.mk (some 5) none (.mov (.t 0)) .no, .mk (some 6) none (.len true (.t 5)) .no, .mk (some 7) none (.mov (.t 1)) .no, .mk (some 8) none (.len true (.t 7)) .no, .mk (some 9) none (.bin .geq (.t 6) (.t 8)) .no, .mk (some 10) none (.mov (.t 9)) .no, .mk (some 11) (some (10, true)) (.mov (.t 0)) .no, .mk (some 12) (some (10, true)) (.mov (.t 1)) .no, .mk (some 13) (some (10, true)) (.len true (.t 12)) .no, .mk (some 14) (some (10, true))
  (.sliceS (.t 11) none (some (.t 13))) .no, .mk (some 15) (some (10, true)) (.mov (.t 1)) .no, .mk (some 16) (some (10, true)) (.bin .eql (.t 14) (.t 15))
  .no, .mk (some 17) none
  (.pick (.t 10) (.t 16) (.c (.one (.st (.bool false)))))
  .no, .mk (some 4) none (.mov (.t 17)) .no])
  .ret))
theorem tr_internal_stringslite_HasPrefix : trCode Try.prog 18 [] (Try.f66.body.getD .skip) = some ir_internal_stringslite_HasPrefix := by kernel_rfl
theorem ac_internal_stringslite_HasPrefix {xs : List AV} {r : AV} (hn : xs.length ≤ 18) (h : ∀ C : Ctx, C.n = 18 → IWP Try.prog C [] ir_internal_stringslite_HasPrefix (FinQ [.t 4] r) (AS.start xs)) : ACalls Try.prog 66 xs r :=
  acalls_of Try.func66 rfl tr_internal_stringslite_HasPrefix rfl hn h
def ir_term_Parse_1 : IR :=
  (.seq
  (.ops
  [.mk (some 5) none .never .no, .mk (some 6) none .never .no, .mk (some 4) none (.mov (.t 6)) .no, .mk (some 7) none (.extract 0 (.t 4)) .no, .mk (some 8) none (.extract 1 (.t 4)) .no, .mk (some 2) none (.mov (.t 7)) .no, .mk (some 3) none (.mov (.t 8)) .no])
  (.seq
  (.ops [.mk (some 9) none (.mov (.t 3)) .no])
  (.cond (.t 9)
  (.ops
  [.mk (some 10) none
  (.build [.st (.str (ByteArray.mk (#[]))), .full []] []) .no, .mk (some 11) none (.mov (.t 2)) .no, .mk none none (.store 2 (.t 0) (.t 10)) .no, .mk none none (.store 1 (.t 1) (.t 11)) .no])
  .skip)))
theorem tr_term_Parse_1 : trCode Try.prog 12 [] (Try.f26.body.getD .skip) = some ir_term_Parse_1 := by kernel_rfl
def ir_term_Parse : IR :=
  (.seq
  (.ops
  [.mk (some 2) none
  (.alloc 24 [.st (.str (ByteArray.mk (#[]))), .full []]) .no, .mk (some 3) none (.alloc 25 [.st (.int .i64 0)])
  .no])
  (.seq
  (.seq
  (.ops
  [.mk (some 5) none (.mov (.t 0)) .no, .mk (some 6) none (.len true (.t 5)) .no, .mk (some 7) none (.bin .gtr (.t 6) (.c (.one (.st (.int .i64 4000)))))
  .no])
  (.cond (.t 7)
  (.seq
  (.ops
  [.mk (some 8) none
  (.build [.st (.str (ByteArray.mk (#[]))), .full []] [])
  .no, .mk none none (.store 2 (.t 2) (.t 8)) .no, .mk none none (.store 1 (.t 3) (.c (.one (.st (.int .i64 3)))))
  .no])
  .ret)
  .skip))
  (.seq
  (.ops
  [.mk (some 9) none (.makeFunc 26 [.t 2, .t 3]) .no, .mk none none .never .no])
  (.seq
  (.ops
  [.mk (some 10) none (.mov (.t 0)) .no, .mk (some 11) none
  (.build
  [.st (.str (ByteArray.mk (#[]))), .st (.int .i64 0)]
  [(0, 1, .t 10),
  (1, 1, .c (.one (.st (.int .i64 200))))])
  .no, .mk (some 12) none (.box 66 (.t 11)) .no, .mk (some 4) none (.mov (.t 12)) .no])
  (.seq
  (.ops
  [.mk (some 13) none (.mov (.t 4)) .no, .mk (some 14) none (.callS 27 [.t 13]) .no, .mk none none (.store 2 (.t 2) (.t 14)) .no])
  (.seq
  (.seq
  (.ops
  [.mk (some 15) none (.mov (.t 4)) .no, .mk (some 16) none (.nilCheck (.t 15)) .no, .mk (some 17) none (.fieldAddr 0 (.t 16)) .no, .mk (some 18) none (.load false 1 (.t 17)) .no, .mk (some 19) none (.bin .neq (.t 18) (.c (.one (.st (.str (ByteArray.mk (#[])))))))
  .no])
  (.cond (.t 19)
  (.ops
  [.mk (some 20) none
  (.iface 62 (.c (.one (.st (.int .i64 12)))))
  .no, .mk none none (.pan (.t 20)) .no])
  .skip))
  (.seq
  (.ops
  [.mk (some 21) none (.load true 2 (.t 2)) .no, .mk none none (.store 2 (.t 2) (.t 21)) .no, .mk none none (.store 1 (.t 3) (.c (.one (.st (.int .i64 0)))))
  .no])
  .ret)))))))
theorem tr_term_Parse : trCode Try.prog 22 [14] (Try.f7.body.getD .skip) = some ir_term_Parse := by kernel_rfl
end Go.Proofs.Ytohgkbgpcnmdpaa

namespace Go.Proofs.Ytohgkbgpcnmdpaa
open Go
set_option linter.unusedVariables false

/-- What is left of a text. -/
def tailS (s : ByteArray) (i : Nat) : ByteArray := s.extract i s.size
theorem tail_size (s : ByteArray) (i : Nat) : (tailS s i).size = s.size - i := by
  unfold tailS
  rw [ByteArray.size_extract]
  omega
theorem tail_zero (s : ByteArray) : tailS s 0 = s := by
  unfold tailS
  rw [ByteArray.extract_zero_size]
theorem byteN_tail {s : ByteArray} {i k : Nat} (h : i + k < s.size) : byteN (tailS s i) k = byteAt s (i + k) := by
  unfold byteN byteAt tailS
  rw [ByteArray.data_extract, Array.toList_extract]
  simp only [List.getD_eq_getElem?_getD]
  congr 3
  rw [List.extract_eq_take_drop, List.getElem?_take_of_lt (by omega), List.getElem?_drop]
theorem tail_take {s : ByteArray} {i n : Nat} (h : i + n ≤ s.size) : (tailS s i).extract 0 n = s.extract i (i + n) := by
  unfold tailS
  rw [ByteArray.extract_extract]
  congr 1
  omega
theorem tail_drop {s : ByteArray} {i n : Nat} (h : i + n ≤ s.size) : (tailS s i).extract n (tailS s i).size = tailS s (i + n) := by
  rw [tail_size]
  unfold tailS
  rw [ByteArray.extract_extract]
  congr 1
  omega
/-- Where the letters end. -/
def lend (s : ByteArray) : Nat → Nat → Nat
  | 0, i => i
  | k + 1, i => if letterI (byteAt s i) = true then lend s k (i + 1) else i
def lendA (s : ByteArray) (i : Nat) : Nat := lend s (s.size - i) i
theorem lendA_on {s : ByteArray} {i : Nat} (h : i < s.size) (hl : letterI (byteAt s i) = true) : lendA s i = lendA s (i + 1) := by
  unfold lendA
  obtain ⟨k, hk⟩ : ∃ k, s.size - i = k + 1 := ⟨s.size - i - 1, by omega⟩
  rw [hk, show s.size - (i + 1) = k by omega, lend, if_pos hl]
theorem lendA_stop {s : ByteArray} {i : Nat} (h : i < s.size) (hl : ¬ letterI (byteAt s i) = true) : lendA s i = i := by
  unfold lendA
  obtain ⟨k, hk⟩ : ∃ k, s.size - i = k + 1 := ⟨s.size - i - 1, by omega⟩
  rw [hk, lend, if_neg hl]
theorem lendA_end {s : ByteArray} {i : Nat} (h : s.size ≤ i) : lendA s i = i := by
  unfold lendA
  rw [show s.size - i = 0 by omega]
  rfl
theorem lend_le (s : ByteArray) : ∀ k i : Nat, i ≤ lend s k i ∧ lend s k i ≤ i + k
  | 0, i => ⟨Nat.le_refl _, Nat.le_refl _⟩
  | k + 1, i => by
    rw [lend]
    split
    · have := lend_le s k (i + 1)
      omega
    · omega
theorem lendA_le {s : ByteArray} {i : Nat} (h : i ≤ s.size) : i ≤ lendA s i ∧ lendA s i ≤ s.size := by
  have := lend_le s (s.size - i) i
  unfold lendA
  omega
/-- What reading gives: a term, where it ends, how many knots were read, what is wrong. -/
structure Rd where
  t : Tm
  i : Nat
  k : Nat
  e : Int
mutual
def rd (s : ByteArray) : Nat → Nat → Nat → Rd
  | 0, i, k => ⟨.mk ⟨#[]⟩ [], i, k, 99⟩
  | f + 1, i, k =>
    if lendA s i = i then ⟨.mk ⟨#[]⟩ [], i, k, if i = s.size then 13 else 12⟩
    else if nameOk (s.extract i (lendA s i)) = true then
      if 200 < k + 1 then ⟨.mk (s.extract i (lendA s i)) [], lendA s i, k + 1, 3⟩
      else if lendA s i = s.size ∨ byteAt s (lendA s i) ≠ 40 then ⟨.mk (s.extract i (lendA s i)) [], lendA s i, k + 1, 0⟩
      else if isVar (s.extract i (lendA s i)) = true then ⟨.mk (s.extract i (lendA s i)) [], lendA s i, k + 1, 2⟩
      else rdA s f (s.extract i (lendA s i)) [] (lendA s i) (k + 1)
    else ⟨.mk (s.extract i (lendA s i)) [], lendA s i, k, 1⟩
def rdA (s : ByteArray) : Nat → ByteArray → List Tm → Nat → Nat → Rd
  | 0, n, acc, i, k => ⟨.mk ⟨#[]⟩ [], i, k, 99⟩
  | f + 1, n, acc, i, k =>
    if (rd s f (i + 1) k).e = 0 then
      if (rd s f (i + 1) k).i = s.size then ⟨.mk n (acc ++ [(rd s f (i + 1) k).t]), (rd s f (i + 1) k).i, (rd s f (i + 1) k).k, 13⟩
      else if byteAt s (rd s f (i + 1) k).i = 41 then ⟨.mk n (acc ++ [(rd s f (i + 1) k).t]), (rd s f (i + 1) k).i + 1, (rd s f (i + 1) k).k, 0⟩
      else if byteAt s (rd s f (i + 1) k).i = 44 then rdA s f n (acc ++ [(rd s f (i + 1) k).t]) (rd s f (i + 1) k).i (rd s f (i + 1) k).k
      else ⟨.mk n (acc ++ [(rd s f (i + 1) k).t]), (rd s f (i + 1) k).i, (rd s f (i + 1) k).k, 12⟩
    else ⟨.mk n acc, (rd s f (i + 1) k).i, (rd s f (i + 1) k).k, (rd s f (i + 1) k).e⟩
end
/-- What is known of it. -/
structure RdOk (s : ByteArray) (i k : Nat) (r : Rd) : Prop where
  le : i ≤ r.i
  in_ : r.i ≤ s.size
  knots : k ≤ r.k
  most : r.k ≤ 201
  ok : r.e = 0 → i < r.i ∧ r.k ≤ 200 ∧ k < r.k ∧ r.t.size ≤ r.k - k
  err : 0 ≤ r.e ∧ r.e ≤ 13
/-- The same behind an opening bracket. -/
structure RdOkA (s : ByteArray) (acc : List Tm) (i k : Nat) (r : Rd) : Prop where
  le : i ≤ r.i
  in_ : r.i ≤ s.size
  knots : k ≤ r.k
  most : r.k ≤ 201
  ok : r.e = 0 → i < r.i ∧ r.k ≤ 200 ∧ k < r.k ∧ r.t.size ≤ (r.k - k) + (1 + Tm.sizes acc)
  err : 0 ≤ r.e ∧ r.e ≤ 13
theorem sizes_snoc (xs : List Tm) (a : Tm) : Tm.sizes (xs ++ [a]) = Tm.sizes xs + a.size := by
  rw [Tm.sizes_append]
  simp [Tm.sizes]
mutual
theorem rd_ok (s : ByteArray) : ∀ f i k : Nat, i ≤ s.size → k ≤ 200 → 2 * (s.size - i) < f → RdOk s i k (rd s f i k)
  | 0, i, k, _, _, h => absurd h (Nat.not_lt_zero _)
  | f + 1, i, k, hi, hk, hf => by
    obtain ⟨l1, l2⟩ := lendA_le hi
    rw [rd]
    by_cases h0 : lendA s i = i
    · rw [if_pos h0]
      by_cases h1 : i = s.size
      · rw [if_pos h1]
        exact ⟨Nat.le_refl _, hi, Nat.le_refl _, by show k ≤ 201; omega, fun h => absurd h (by show ¬ (13 : Int) = 0; decide), by show (0 : Int) ≤ 13 ∧ (13 : Int) ≤ 13; decide⟩
      · rw [if_neg h1]
        exact ⟨Nat.le_refl _, hi, Nat.le_refl _, by show k ≤ 201; omega, fun h => absurd h (by show ¬ (12 : Int) = 0; decide), by show (0 : Int) ≤ 12 ∧ (12 : Int) ≤ 13; decide⟩
    · rw [if_neg h0]
      by_cases h1 : nameOk (s.extract i (lendA s i)) = true
      · rw [if_pos h1]
        by_cases h2 : 200 < k + 1
        · rw [if_pos h2]
          exact ⟨l1, l2, Nat.le_succ _, by show k + 1 ≤ 201; omega, fun h => absurd h (by show ¬ (3 : Int) = 0; decide), by show (0 : Int) ≤ 3 ∧ (3 : Int) ≤ 13; decide⟩
        · rw [if_neg h2]
          by_cases h3 : lendA s i = s.size ∨ byteAt s (lendA s i) ≠ 40
          · rw [if_pos h3]
            exact ⟨l1, l2, Nat.le_succ _, by show k + 1 ≤ 201; omega, fun _ => ⟨by show i < lendA s i; omega, by show k + 1 ≤ 200; omega, Nat.lt_succ_self _, by show (Tm.mk _ []).size ≤ k + 1 - k; simp [Tm.size, Tm.sizes]⟩, by show (0 : Int) ≤ 0 ∧ (0 : Int) ≤ 13; decide⟩
          · rw [if_neg h3]
            by_cases h4 : isVar (s.extract i (lendA s i)) = true
            · rw [if_pos h4]
              exact ⟨l1, l2, Nat.le_succ _, by show k + 1 ≤ 201; omega, fun h => absurd h (by show ¬ (2 : Int) = 0; decide), by show (0 : Int) ≤ 2 ∧ (2 : Int) ≤ 13; decide⟩
            · rw [if_neg h4]
              have hlt : lendA s i < s.size := by
                have : lendA s i ≠ s.size := fun h => h3 (.inl h)
                omega
              have := rdA_ok s f (s.extract i (lendA s i)) [] (lendA s i) (k + 1) hlt (by omega) (by omega)
              refine ⟨Nat.le_trans l1 this.le, this.in_, by have := this.knots; omega, this.most, fun h => ?_, this.err⟩
              obtain ⟨q1, q2, q3, q4⟩ := this.ok h
              simp only [Tm.sizes] at q4
              exact ⟨by omega, q2, by omega, by omega⟩
      · rw [if_neg h1]
        exact ⟨l1, l2, Nat.le_refl _, by show k ≤ 201; omega, fun h => absurd h (by show ¬ (1 : Int) = 0; decide), by show (0 : Int) ≤ 1 ∧ (1 : Int) ≤ 13; decide⟩
theorem rdA_ok (s : ByteArray) : ∀ (f : Nat) (n : ByteArray) (acc : List Tm) (i k : Nat), i < s.size → k ≤ 200 → 2 * (s.size - i) ≤ f → RdOkA s acc i k (rdA s f n acc i k)
  | 0, n, acc, i, k, hi, _, h => by omega
  | f + 1, n, acc, i, k, hi, hk, hf => by
    have h := rd_ok s f (i + 1) k (by omega) hk (by omega)
    have hle := h.le
    have hin := h.in_
    have hkn := h.knots
    have hmo := h.most
    rw [rdA]
    generalize rd s f (i + 1) k = r at *
    by_cases h0 : r.e = 0
    · obtain ⟨o1, o2, o3, o4⟩ := h.ok h0
      rw [if_pos h0]
      by_cases h1 : r.i = s.size
      · rw [if_pos h1]
        exact ⟨by show i ≤ r.i; omega, hin, hkn, hmo, fun h => absurd h (by show ¬ (13 : Int) = 0; decide), by show (0 : Int) ≤ 13 ∧ (13 : Int) ≤ 13; decide⟩
      · rw [if_neg h1]
        by_cases h2 : byteAt s r.i = 41
        · rw [if_pos h2]
          refine ⟨by show i ≤ r.i + 1; omega, by show r.i + 1 ≤ s.size; omega, hkn, hmo, fun _ => ⟨by show i < r.i + 1; omega, o2, o3, ?_⟩, by show (0 : Int) ≤ 0 ∧ (0 : Int) ≤ 13; decide⟩
          show 1 + Tm.sizes (acc ++ [r.t]) ≤ _
          rw [sizes_snoc]
          show _ ≤ r.k - k + _
          omega
        · rw [if_neg h2]
          by_cases h3 : byteAt s r.i = 44
          · rw [if_pos h3]
            have := rdA_ok s f n (acc ++ [r.t]) r.i r.k (by omega) o2 (by omega)
            refine ⟨by have := this.le; omega, this.in_, by have := this.knots; omega, this.most, fun h => ?_, this.err⟩
            obtain ⟨q1, q2, q3, q4⟩ := this.ok h
            rw [sizes_snoc] at q4
            exact ⟨by omega, q2, by omega, by omega⟩
          · rw [if_neg h3]
            exact ⟨by show i ≤ r.i; omega, hin, hkn, hmo, fun h => absurd h (by show ¬ (12 : Int) = 0; decide), by show (0 : Int) ≤ 12 ∧ (12 : Int) ≤ 13; decide⟩
    · rw [if_neg h0]
      exact ⟨by show i ≤ r.i; omega, hin, hkn, hmo, fun h => absurd h h0, h.err⟩
end
/-- Reading a text: a term, or what is wrong. -/
def rdS (s : ByteArray) : Rd := rd s (2 * s.size + 1) 0 0
def readOf (s : ByteArray) : Tm × Int := if 4000 < s.size then (.mk ⟨#[]⟩ [], 3) else if (rdS s).e = 0 then (if (rdS s).i < s.size then (.mk ⟨#[]⟩ [], 12) else ((rdS s).t, 0)) else (.mk ⟨#[]⟩ [], (rdS s).e)
end Go.Proofs.Ytohgkbgpcnmdpaa

namespace Go.Proofs.Ytohgkbgpcnmdpaa
open Go Go.RowKit
set_option linter.unusedVariables false

theorem lowS_is {S S1 : AStore} {a0 : Nat} {b : ABlk} (hS : Clean S) (ha : 1000 ≤ a0) (h1 : S1 a0 = some b) (h2 : ∀ i, 1000 ≤ i → i ≠ a0 → S1 i = S i) : lowS S1 = updE S a0 (some b) := by
  funext i
  show (if i < 1000 then none else S1 i) = _
  by_cases e : i = a0
  · subst e
    rw [if_neg (by omega), updE_same, h1]
  · rw [updE_ne _ e]
    by_cases hi : i < 1000
    · rw [if_pos hi, clean_none hS hi]
    · rw [if_neg hi, h2 i (by omega) e]
theorem highs_is {S S1 : AStore} {a0 : Nat} {b : ABlk} (hS : Clean S) (hb : b.high = true) (h1 : S1 a0 = some b) (h2 : ∀ i, 1000 ≤ i → i ≠ a0 → S1 i = S i) : ∀ i c, 1000 ≤ i → S1 i = some c → c.high = true := fun i c hi hc => by
  by_cases e : i = a0
  · subst e
    rw [h1] at hc
    cases hc
    exact hb
  · rw [h2 i hi e] at hc
    exact (hS i c hc).2
/-- The end of a call that has turned one block of its caller. -/
theorem finS_one {C : Ctx} {rs : List RV} {r : AV} {e : AX} {s : AS} {S : AStore} {a0 : Nat} {b : ABlk} (r0 : AV) (hS : Clean S) (ha : 1000 ≤ a0) (hb : b.high = true) (he : match e with | .normal => True | .ret => True | _ => False)
    (h1 : (resAll s rs).map tupV = some r0) (h2 : outV s.S r0 = some r) (h3 : s.S a0 = some b) (h4 : ∀ i, 1000 ≤ i → i ≠ a0 → s.S i = S i) : FinS C rs r (updE S a0 (some b)) e s :=
  finS_low he r0 h1 h2 (highs_is hS hb h3 h4) (lowS_is hS ha h3 h4) (clean_upd hS ha hb)

end Go.Proofs.Ytohgkbgpcnmdpaa

namespace Go.Proofs.Ytohgkbgpcnmdpaa
open Go Go.RowKit
set_option linter.unusedVariables false
set_option linter.unusedSimpArgs false
set_option maxHeartbeats 1000000

/-- Code that is left by one exit alone. -/
theorem IWP.cut {P : Program} {C : Ctx} {mu : List Nat} {Q : AX → AS → Prop} {s : AS} {x : IR} (id : Nat) (M : AS → Prop) (h1 : IWP P C mu x (fun e s => e = .exit id ∧ M s) s) (h2 : ∀ s, M s → Q (.exit id) s) : IWP P C mu x Q s :=
  h1.mono fun e s h => by
    obtain ⟨rfl, hm⟩ := h
    exact h2 s hm
abbrev boxT0r : ABlk := .box 24 [.st (.str ⟨#[]⟩), .full []]
theorem rd_zero {s : ByteArray} {f i k : Nat} (h0 : lendA s i = i) : rd s (f + 1) i k = ⟨.mk ⟨#[]⟩ [], i, k, if i = s.size then 13 else 12⟩ := by rw [rd, if_pos h0]
theorem rd_name {s : ByteArray} {f i k : Nat} (h0 : ¬ lendA s i = i) (h1 : ¬ nameOk (s.extract i (lendA s i)) = true) : rd s (f + 1) i k = ⟨.mk (s.extract i (lendA s i)) [], lendA s i, k, 1⟩ := by rw [rd, if_neg h0, if_neg h1]
theorem rd_limit {s : ByteArray} {f i k : Nat} (h0 : ¬ lendA s i = i) (h1 : nameOk (s.extract i (lendA s i)) = true) (h2 : 200 < k + 1) : rd s (f + 1) i k = ⟨.mk (s.extract i (lendA s i)) [], lendA s i, k + 1, 3⟩ := by rw [rd, if_neg h0, if_pos h1, if_pos h2]
theorem rd_leaf {s : ByteArray} {f i k : Nat} (h0 : ¬ lendA s i = i) (h1 : nameOk (s.extract i (lendA s i)) = true) (h2 : ¬ 200 < k + 1) (h3 : lendA s i = s.size ∨ byteAt s (lendA s i) ≠ 40) : rd s (f + 1) i k = ⟨.mk (s.extract i (lendA s i)) [], lendA s i, k + 1, 0⟩ := by rw [rd, if_neg h0, if_pos h1, if_neg h2, if_pos h3]
theorem rd_form {s : ByteArray} {f i k : Nat} (h0 : ¬ lendA s i = i) (h1 : nameOk (s.extract i (lendA s i)) = true) (h2 : ¬ 200 < k + 1) (h3 : ¬ (lendA s i = s.size ∨ byteAt s (lendA s i) ≠ 40)) (h4 : isVar (s.extract i (lendA s i)) = true) : rd s (f + 1) i k = ⟨.mk (s.extract i (lendA s i)) [], lendA s i, k + 1, 2⟩ := by rw [rd, if_neg h0, if_pos h1, if_neg h2, if_neg h3, if_pos h4]
theorem rd_args {s : ByteArray} {f i k : Nat} (h0 : ¬ lendA s i = i) (h1 : nameOk (s.extract i (lendA s i)) = true) (h2 : ¬ 200 < k + 1) (h3 : ¬ (lendA s i = s.size ∨ byteAt s (lendA s i) ≠ 40)) (h4 : ¬ isVar (s.extract i (lendA s i)) = true) : rd s (f + 1) i k = rdA s f (s.extract i (lendA s i)) [] (lendA s i) (k + 1) := by rw [rd, if_neg h0, if_pos h1, if_neg h2, if_neg h3, if_neg h4]
theorem rdA_bad {s : ByteArray} {f : Nat} {n : ByteArray} {acc : List Tm} {i k : Nat} (h : ¬ (rd s f (i + 1) k).e = 0) : rdA s (f + 1) n acc i k = ⟨.mk n acc, (rd s f (i + 1) k).i, (rd s f (i + 1) k).k, (rd s f (i + 1) k).e⟩ := by rw [rdA, if_neg h]
theorem rdA_short {s : ByteArray} {f : Nat} {n : ByteArray} {acc : List Tm} {i k : Nat} (h : (rd s f (i + 1) k).e = 0) (h1 : (rd s f (i + 1) k).i = s.size) : rdA s (f + 1) n acc i k = ⟨.mk n (acc ++ [(rd s f (i + 1) k).t]), (rd s f (i + 1) k).i, (rd s f (i + 1) k).k, 13⟩ := by rw [rdA, if_pos h, if_pos h1]
theorem rdA_close {s : ByteArray} {f : Nat} {n : ByteArray} {acc : List Tm} {i k : Nat} (h : (rd s f (i + 1) k).e = 0) (h1 : ¬ (rd s f (i + 1) k).i = s.size) (h2 : byteAt s (rd s f (i + 1) k).i = 41) : rdA s (f + 1) n acc i k = ⟨.mk n (acc ++ [(rd s f (i + 1) k).t]), (rd s f (i + 1) k).i + 1, (rd s f (i + 1) k).k, 0⟩ := by rw [rdA, if_pos h, if_neg h1, if_pos h2]
theorem rdA_on {s : ByteArray} {f : Nat} {n : ByteArray} {acc : List Tm} {i k : Nat} (h : (rd s f (i + 1) k).e = 0) (h1 : ¬ (rd s f (i + 1) k).i = s.size) (h2 : ¬ byteAt s (rd s f (i + 1) k).i = 41) (h3 : byteAt s (rd s f (i + 1) k).i = 44) : rdA s (f + 1) n acc i k = rdA s f n (acc ++ [(rd s f (i + 1) k).t]) (rd s f (i + 1) k).i (rd s f (i + 1) k).k := by rw [rdA, if_pos h, if_neg h1, if_neg h2, if_pos h3]
theorem rdA_word {s : ByteArray} {f : Nat} {n : ByteArray} {acc : List Tm} {i k : Nat} (h : (rd s f (i + 1) k).e = 0) (h1 : ¬ (rd s f (i + 1) k).i = s.size) (h2 : ¬ byteAt s (rd s f (i + 1) k).i = 41) (h3 : ¬ byteAt s (rd s f (i + 1) k).i = 44) : rdA s (f + 1) n acc i k = ⟨.mk n (acc ++ [(rd s f (i + 1) k).t]), (rd s f (i + 1) k).i, (rd s f (i + 1) k).k, 12⟩ := by rw [rdA, if_pos h, if_neg h1, if_neg h2, if_neg h3]

theorem encT_snoc (acc : List Tm) (a : Tm) : (acc ++ [a]).map encT = acc.map encT ++ [[.str a.name, .list (a.args.map encT)]] := by
  rw [List.map_append, List.map_cons, List.map_nil, encT_eq a]
def readV (r : Tm × Int) : AV := .tup [aTm r.1, aInt r.2]
end Go.Proofs.Ytohgkbgpcnmdpaa

namespace Go.Proofs.Ytohgkbgpcnmdpaa
open Go Go.RowKit
set_option linter.unusedVariables false
set_option maxHeartbeats 400000

/-- A box of which nothing is known any more. -/
theorem Ghost.kill {C : Ctx} {s : AS} (id : Nat) {ty : TypeId} {xs : List AC} (hS : s.S id = some (.box ty xs)) : Ghost C s (s.set id (.dead 1 0)) := fun a w ⟨σ, ι, R⟩ => by
  have hb := R.blk _ _ hS
  cases hb with
  | @box _ _ g vs h1 h2 h3 h4 h5 =>
    obtain ⟨hu, R'⟩ := R.turn (w' := w) hS (.dead 1 0) (ι id) (σ' := σ) (fun _ _ h => h) (fun _ _ _ => rfl) R.fit (Nat.le_refl _) (fun _ => ⟨rfl, rfl⟩) ⟨rfl, rfl, rfl⟩ (Nat.le_refl _) (fun _ _ _ => rfl) (fun g h => .inl h)
      (fun hu => .dead fun g' hg' => by rw [h1] at hg'; cases hg'; exact (Array.getElem?_eq_some_iff.1 h3).1)
    exact ⟨σ, _, R'⟩
/-- The end of a call that panics; what its caller knew of one block is lost. -/
theorem finP_at {C : Ctx} {v : Value} {s : AS} {S : AStore} {a0 : Nat} (hS : Clean S) (ha : 1000 ≤ a0) (h3 : s.S a0 = some (.dead 1 0)) (h4 : ∀ i, 1000 ≤ i → i ≠ a0 → s.S i = S i) : FinP C v (updE S a0 (some (.dead 1 0))) (.pan v) s :=
  ⟨rfl, _, Ghost.low (highs_is hS rfl h3 h4), lowS_is hS ha h3 h4, clean_upd hS ha rfl⟩
theorem finP_box {C : Ctx} {v : Value} {s : AS} {S : AStore} {a0 : Nat} {ty : TypeId} {xs : List AC} (hS : Clean S) (ha : 1000 ≤ a0) (h3 : s.S a0 = some (.box ty xs)) (h4 : ∀ i, 1000 ≤ i → i ≠ a0 → s.S i = S i) : FinP C v (updE S a0 (some (.dead 1 0))) (.pan v) s := by
  obtain ⟨h1, s2, hg, h5, h6⟩ := finP_at (C := C) (v := v) (s := s.set a0 (.dead 1 0)) hS ha (updE_same _ _ _) (fun i hi hne => (updE_ne _ hne _).trans (h4 i hi hne))
  exact ⟨h1, s2, (Ghost.kill a0 h3).trans hg, h5, h6⟩
end Go.Proofs.Ytohgkbgpcnmdpaa

namespace Go.Proofs.Ytohgkbgpcnmdpaa
open Go Go.RowKit
set_option linter.unusedVariables false
set_option linter.unusedSimpArgs false
set_option maxHeartbeats 1600000

def bracket (u : ByteArray) : Bool := decide (0 < u.size) && decide (byteN u 0 = 40)
theorem extract_one {u : ByteArray} (h : 0 < u.size) : u.extract 0 1 = ⟨#[40]⟩ ↔ byteN u 0 = 40 := by
  have e1 : (u.extract 0 1).data.toList = u.data.toList.take 1 := by
    rw [ByteArray.data_extract, Array.toList_extract, List.extract_eq_take_drop]
    rfl
  have hl : 0 < u.data.toList.length := h
  unfold byteN
  obtain ⟨c, l, hc⟩ : ∃ c l, u.data.toList = c :: l := by
    cases hu : u.data.toList with
    | nil => rw [hu] at hl; cases hl
    | cons c l => exact ⟨c, l, rfl⟩
  rw [hc] at e1 ⊢
  constructor
  · intro he
    rw [he] at e1
    have : c = 40 := by
      have h2 : [40] = [c] := e1
      injection h2 with h3
      exact h3.symm
    subst this
    rfl
  · intro he
    have hc40 : c = 40 := by
      have : c.toNat = 40 := by
        have h' : ((c.toNat : Nat) : Int) = 40 := he
        omega
      exact UInt8.toNat_inj.1 this
    subst hc40
    apply ByteArray.ext
    apply Array.toList_inj.1
    rw [e1]
    rfl
theorem hasPrefixI_a (u : ByteArray) : ACalls Try.prog 66 [aStr u, aStr ⟨#[40]⟩] (aBool (bracket u)) := by
  have h40i : ((#[(40 : UInt8)].size : Nat) : Int) = 1 := rfl
  by_cases h0 : u.size = 0
  · have hb : bracket u = false := by unfold bracket; rw [h0]; rfl
    rw [hb]
    have h0i : ¬ (1 : Int) ≤ u.size := by omega
    refine ac_internal_stringslite_HasPrefix (Nat.le_of_ble_eq_true rfl) fun C hC => ?_
    unfold ir_internal_stringslite_HasPrefix
    repeat' (first | (with_reducible first | refine Wa ?_ | refine Wb ?_ | refine Wc ?_ | refine Wd ?_ | refine We ?_ | refine Wf ?_ | refine Wg ?_ | refine Wh ?_ | refine Wi ?_ | refine Wj ?_ | refine Wk (by decide) ?_ | refine Wl ?_ | refine Wm ?_ | refine Wn ?_) | ((with_reducible first | refine Wo (fun K hK => ?_) | refine Wp ?_ | refine Wq ?_ | refine Wr ?_); (try simp only [go_sem, List.forall_mem_nil, ↓guard_ite, ↓pick_ite, seval, encT_eq, inR_i64, h0i, h40i, decide_eq_true_eq, decide_eq_false_iff_not, Int.ofNat_lt]); (repeat with_reducible refine And.intro (by first | omega | (with_reducible first | exact lens_encT | exact lens_encL | exact lens_encB | exact lens_encP) | (simp; done) | (simp only [List.length_take, List.length_map, List.length_append, maxLen_eq]; omega)) ?_); (try (with_reducible refine hK _ ?_; clear hK K)); (try with_reducible refine ite_conj ?_)))
    simp only [go_sem, List.forall_mem_nil, ↓guard_ite, ↓pick_ite, seval, FinQ, AS.result, resAll, resOne, tupV]
  · have h0i : (1 : Int) ≤ u.size := by omega
    have he := extract_one (u := u) (by omega)
    have hb : bracket u = decide (u.extract 0 1 = ⟨#[40]⟩) := by
      unfold bracket
      rw [decide_eq_true (by omega : 0 < u.size), Bool.true_and]
      exact decide_eq_decide.2 he.symm
    rw [hb]
    refine ac_internal_stringslite_HasPrefix (Nat.le_of_ble_eq_true rfl) fun C hC => ?_
    unfold ir_internal_stringslite_HasPrefix
    repeat' (first | (with_reducible first | refine Wa ?_ | refine Wb ?_ | refine Wc ?_ | refine Wd ?_ | refine We ?_ | refine Wf ?_ | refine Wg ?_ | refine Wh ?_ | refine Wi ?_ | refine Wj ?_ | refine Wk (by decide) ?_ | refine Wl ?_ | refine Wm ?_ | refine Wn ?_) | ((with_reducible first | refine Wo (fun K hK => ?_) | refine Wp ?_ | refine Wq ?_ | refine Wr ?_); (try simp only [go_sem, List.forall_mem_nil, ↓guard_ite, ↓pick_ite, seval, encT_eq, inR_i64, h0i, h40i, decide_eq_true_eq, decide_eq_false_iff_not, Int.ofNat_lt]); (repeat with_reducible refine And.intro (by first | omega | (with_reducible first | exact lens_encT | exact lens_encL | exact lens_encB | exact lens_encP) | (simp; done) | (simp only [List.length_take, List.length_map, List.length_append, maxLen_eq]; omega)) ?_); (try (with_reducible refine hK _ ?_; clear hK K)); (try with_reducible refine ite_conj ?_)))
    simp only [go_sem, List.forall_mem_nil, ↓guard_ite, ↓pick_ite, seval, FinQ, AS.result, resAll, resOne, tupV]
theorem hasPrefix_a (u : ByteArray) : ACalls Try.prog 49 [aStr u, aStr ⟨#[40]⟩] (aBool (bracket u)) := by
  refine ac_strings_HasPrefix (Nat.le_of_ble_eq_true rfl) fun C hC => ?_
  unfold ir_strings_HasPrefix
  repeat' (first | (with_reducible first | refine Wa ?_ | refine Wb ?_ | refine Wc ?_ | refine Wd ?_ | refine We ?_ | refine Wf ?_ | refine Wg ?_ | refine Wh ?_ | refine Wi ?_ | refine Wj ?_ | refine Wk (by decide) ?_ | refine Wl ?_ | refine Wm ?_ | refine Wn ?_) | refine CallG.mk _ (hasPrefixI_a u) ?_ | ((with_reducible first | refine Wo (fun K hK => ?_) | refine Wp ?_ | refine Wq ?_ | refine Wr ?_); (try simp only [go_sem, List.forall_mem_nil, ↓guard_ite, ↓pick_ite, seval, encT_eq, inR_i64, decide_eq_true_eq, decide_eq_false_iff_not, Int.ofNat_lt]); (repeat with_reducible refine And.intro (by first | omega | (with_reducible first | exact lens_encT | exact lens_encL | exact lens_encB | exact lens_encP) | (simp; done) | (simp only [List.length_take, List.length_map, List.length_append, maxLen_eq]; omega)) ?_); (try (with_reducible refine hK _ ?_; clear hK K)); (try with_reducible refine ite_conj ?_)))
  simp only [go_sem, List.forall_mem_nil, ↓guard_ite, ↓pick_ite, seval, FinQ, AS.result, resAll, resOne, tupV]
abbrev boxR (u : ByteArray) (l : Int) : ABlk := .box 66 [.st (.str u), .st (.int .i64 l)]
abbrev fault (e : Int) : Value := .iface 62 (.int .i64 e)
theorem tail_nil {s : ByteArray} {i : Nat} (hi : i ≤ s.size) : tailS s i = ⟨#[]⟩ ↔ i = s.size := by
  constructor
  · intro h
    have := tail_size s i
    rw [h] at this
    have h0 : (⟨#[]⟩ : ByteArray).size = 0 := rfl
    omega
  · intro h
    have := tail_size s i
    exact ByteArray.size_eq_zero_iff.1 (by omega)
def OkEnd (s : ByteArray) (r : Rd) (b : Nat) (S : AStore) (x : AS) : Prop := ∃ r0, (resAll x [RV.cell 2 true 2]).map tupV = some r0 ∧ outV x.S r0 = some (aTm r.t) ∧ x.S b = some (boxR (tailS s r.i) (200 - r.k)) ∧ ∀ i, 1000 ≤ i → i ≠ b → x.S i = S i
def PanEnd (b : Nat) (S : AStore) (x : AS) : Prop := ((∃ ty xs, x.S b = some (.box ty xs)) ∨ x.S b = some (.dead 1 0)) ∧ ∀ i, 1000 ≤ i → i ≠ b → x.S i = S i
theorem panEnd_box {b : Nat} {S : AStore} {x : AS} {u : ByteArray} {l : Int} (h : x.S b = some (boxR u l)) (h2 : ∀ i, 1000 ≤ i → i ≠ b → x.S i = S i) : PanEnd b S x := ⟨.inl ⟨_, _, h⟩, h2⟩
/-- What a walk of reading shows. -/
def ReadS (s : ByteArray) (r : Rd) (b : Nat) (S : AStore) : Prop :=
  (r.e = 0 → ACallsS Try.prog 27 [.one (.ptr b 1 0 0)] S (aTm r.t) (updE S b (some (boxR (tailS s r.i) (200 - r.k))))) ∧
  (r.e ≠ 0 → APan Try.prog 27 [.one (.ptr b 1 0 0)] S (fault r.e) (updE S b (some (.dead 1 0))))
theorem readS_of {s : ByteArray} {r : Rd} {b : Nat} {S : AStore} (hb : 1000 ≤ b) (h : Clean S → ∀ (C : Ctx) (Q : AX → AS → Prop), C.n = 125 → (r.e = 0 → ∀ x, OkEnd s r b S x → Q .ret x) → (r.e ≠ 0 → ∀ x, PanEnd b S x → Q (.pan (fault r.e)) x) → IWP Try.prog C [90] ir_metaprune_term_reader_term Q (AS.startS [.one (.ptr b 1 0 0)] S)) : ReadS s r b S := by
  refine ⟨fun he => ?_, fun he => ?_⟩
  · refine acS_metaprune_term_reader_term (Nat.le_of_ble_eq_true rfl) fun hS C hC => h hS C _ hC (fun _ x hx => ?_) (fun hne => absurd he hne)
    obtain ⟨r0, h1, h2, h3, h4⟩ := hx
    exact finS_one r0 hS hb rfl trivial h1 h2 h3 h4
  · refine acP_metaprune_term_reader_term (Nat.le_of_ble_eq_true rfl) fun hS C hC => h hS C _ hC (fun h0 => absurd h0 he) (fun _ x hx => ?_)
    obtain ⟨⟨ty, xs, h1⟩ | h1, h2⟩ := hx
    · exact finP_box hS hb h1 h2
    · exact finP_at hS hb h1 h2
/-- What is known ahead of each round behind an opening bracket. -/
def TInv (s : ByteArray) (r : Rd) (f : Nat) (nm : ByteArray) (acc : List Tm) (j c : Nat) (more : Bool) : Prop :=
  (more = true ∧ ∃ g, r = rdA s g nm acc j c ∧ 2 * (s.size - j) ≤ g ∧ g ≤ f ∧ j < s.size) ∨ (more = false ∧ r = ⟨.mk nm acc, j + 1, c, 0⟩ ∧ j < s.size)
theorem rterm_S (s : ByteArray) (hs : s.size ≤ 100000) : ∀ f i k : Nat, i ≤ s.size → k ≤ 200 → 2 * (s.size - i) < f → ∀ (b : Nat) (S : AStore), 1000 ≤ b → S b = some (boxR (tailS s i) (200 - k)) → ReadS s (rd s f i k) b S := by
  intro f
  induction f using Nat.strongRecOn with
  | _ f ih =>
  intro i k hi hk hf b S hb sb
  obtain ⟨f, rfl⟩ : ∃ g, f = g + 1 := ⟨f - 1, by omega⟩
  obtain ⟨l1, l2⟩ := lendA_le hi
  have hus := tail_size s i
  refine readS_of hb fun hS C Q hC hok hpan => ?_
  have n2 : S 2 = none := clean_none hS (by omega)
  have n4 : S 4 = none := clean_none hS (by omega)
  have n900 : S 900 = none := clean_none hS (by omega)
  have e2 : ¬ b = 2 := by omega
  have e4 : ¬ b = 4 := by omega
  have e900 : ¬ b = 900 := by omega
  have d2 : ¬ 2 = b := by omega
  have d4 : ¬ 4 = b := by omega
  have d900 : ¬ 900 = b := by omega
  unfold ir_metaprune_term_reader_term
  repeat' (first | (with_reducible first | refine Wa ?_ | refine Wb ?_ | refine Wc ?_ | refine Wd ?_ | refine We ?_ | refine Wf ?_ | refine Wg ?_ | refine Wh ?_ | refine Wi ?_ | refine Wj ?_ | refine Wk (by decide) ?_ | refine Wl ?_ | refine Wm ?_ | refine Wn ?_) | ((with_reducible first | refine Wx rfl (fun K hK => ?_) | refine Wp ?_ | refine Wq ?_ | refine Wr ?_); (try simp only [go_sem, List.forall_mem_nil, ↓guard_ite, ↓pick_ite, seval, encT_eq, inR_i64, n2, e2, d2, decide_eq_true_eq, decide_eq_false_iff_not, Int.ofNat_lt]); (repeat with_reducible refine And.intro (by first | omega | (with_reducible first | exact lens_encT | exact lens_encL | exact lens_encB | exact lens_encP) | (simp; done) | (simp only [List.length_take, List.length_map, List.length_append, maxLen_eq]; omega)) ?_); (try (with_reducible refine hK _ ?_; clear hK K)); (try with_reducible refine ite_conj ?_)))
  refine IWP.cut 0 (fun x => x.env 0 = .one (.ptr b 1 0 0) ∧ x.env 2 = .one (.ptr 2 1 0 0) ∧ x.env 3 = aInt ((lendA s i - i : Nat) : Int) ∧ x.S 2 = some boxT0r ∧ x.S 4 = none ∧ x.S 900 = none ∧ x.S b = some (boxR (tailS s i) (200 - k)) ∧ ∀ i, 1000 ≤ i → i ≠ b → x.S i = S i) ?_ ?_
  · refine IWP.loop (fun m x => ∃ j, i + j ≤ s.size ∧ m = s.size - i - j ∧ lendA s i = lendA s (i + j) ∧ x.env 0 = .one (.ptr b 1 0 0) ∧ x.env 2 = .one (.ptr 2 1 0 0) ∧ x.env 3 = aInt j ∧ x.S 2 = some boxT0r ∧ x.S 4 = none ∧ x.S 900 = none ∧ x.S b = some (boxR (tailS s i) (200 - k)) ∧ ∀ i, 1000 ≤ i → i ≠ b → x.S i = S i) (s.size - i) ⟨0, hi, rfl, rfl, rfl, rfl, rfl, by simp only [go_sem, List.forall_mem_nil, ↓guard_ite, ↓pick_ite, seval, encT_eq, inR_i64], by simp only [go_sem, List.forall_mem_nil, ↓guard_ite, ↓pick_ite, seval, encT_eq, inR_i64, n4], by simp only [go_sem, List.forall_mem_nil, ↓guard_ite, ↓pick_ite, seval, encT_eq, inR_i64, n900], by simp only [go_sem, List.forall_mem_nil, ↓guard_ite, ↓pick_ite, seval, encT_eq, inR_i64, e2, sb], fun i hi hne => ?_⟩ ?_
    · have i2 : ¬ i = 2 := by omega
      simp only [go_sem, List.forall_mem_nil, ↓guard_ite, ↓pick_ite, seval, encT_eq, inR_i64, i2]
    rintro m ⟨env, S1⟩ ⟨j, hj, rfl, hl, v0, v2, v3, t2, t4, t900, tb, hrest⟩
    simp only at v0 v2 v3 t2 t4 t900 tb hrest
    by_cases hlt : (j : Int) < (tailS s i).size
    · have hbt := byteN_tail (s := s) (i := i) (k := j) (by omega)
      have hbr := byteAt_range s (i + j)
      rw [← hbt] at hbr
      by_cases hlet : letterI (byteN (tailS s i) j) = true
      · repeat' (first | (with_reducible first | refine Wa ?_ | refine Wb ?_ | refine Wc ?_ | refine Wd ?_ | refine We ?_ | refine Wf ?_ | refine Wg ?_ | refine Wh ?_ | refine Wi ?_ | refine Wj ?_ | refine Wk (by decide) ?_ | refine Wl ?_ | refine Wm ?_ | refine Wn ?_) | refine CallG.mk _ (letter_a (byteN (tailS s i) j) hbr.1) ?_ | ((with_reducible first | refine Wx rfl (fun K hK => ?_) | refine Wp ?_ | refine Wq ?_ | refine Wr ?_); (try simp only [go_sem, List.forall_mem_nil, ↓guard_ite, ↓pick_ite, seval, encT_eq, inR_i64, v0, v2, v3, t2, t4, t900, tb, hlt, hlet, decide_eq_true_eq, decide_eq_false_iff_not, Int.ofNat_lt]); (repeat with_reducible refine And.intro (by first | omega | (with_reducible first | exact lens_encT | exact lens_encL | exact lens_encB | exact lens_encP) | (simp; done) | (simp only [List.length_take, List.length_map, List.length_append, maxLen_eq]; omega)) ?_); (try (with_reducible refine hK _ ?_; clear hK K)); (try with_reducible refine ite_conj ?_)))
        refine then_normal ⟨s.size - i - (j + 1), by omega, j + 1, by omega, rfl, ?_, ?_⟩
        · rw [hl]
          exact lendA_on (by omega) (by rw [← hbt]; exact hlet)
        · simp only [go_sem, List.forall_mem_nil, ↓guard_ite, ↓pick_ite, seval, encT_eq, inR_i64, v0, v2, v3, t2, t4, t900, tb]
          exact ⟨by congr 3, hrest⟩
      · have hst : lendA s (i + j) = i + j := lendA_stop (by omega) (by rw [← hbt]; exact hlet)
        repeat' (first | (with_reducible first | refine Wa ?_ | refine Wb ?_ | refine Wc ?_ | refine Wd ?_ | refine We ?_ | refine Wf ?_ | refine Wg ?_ | refine Wh ?_ | refine Wi ?_ | refine Wj ?_ | refine Wk (by decide) ?_ | refine Wl ?_ | refine Wm ?_ | refine Wn ?_) | refine CallG.mk _ (letter_a (byteN (tailS s i) j) hbr.1) ?_ | ((with_reducible first | refine Wx rfl (fun K hK => ?_) | refine Wp ?_ | refine Wq ?_ | refine Wr ?_); (try simp only [go_sem, List.forall_mem_nil, ↓guard_ite, ↓pick_ite, seval, encT_eq, inR_i64, v0, v2, v3, t2, t4, t900, tb, hlt, hlet, decide_eq_true_eq, decide_eq_false_iff_not, Int.ofNat_lt]); (repeat with_reducible refine And.intro (by first | omega | (with_reducible first | exact lens_encT | exact lens_encL | exact lens_encB | exact lens_encP) | (simp; done) | (simp only [List.length_take, List.length_map, List.length_append, maxLen_eq]; omega)) ?_); (try (with_reducible refine hK _ ?_; clear hK K)); (try with_reducible refine ite_conj ?_)))
        refine ⟨rfl, ?_⟩
        simp only [go_sem, List.forall_mem_nil, ↓guard_ite, ↓pick_ite, seval, encT_eq, inR_i64, v0, v2, v3, t2, t4, t900, tb]
        refine ⟨?_, hrest⟩
        rw [hl, hst]
        congr 4
        omega
    · have hst : lendA s (i + j) = i + j := lendA_end (by omega)
      repeat' (first | (with_reducible first | refine Wa ?_ | refine Wb ?_ | refine Wc ?_ | refine Wd ?_ | refine We ?_ | refine Wf ?_ | refine Wg ?_ | refine Wh ?_ | refine Wi ?_ | refine Wj ?_ | refine Wk (by decide) ?_ | refine Wl ?_ | refine Wm ?_ | refine Wn ?_) | ((with_reducible first | refine Wx rfl (fun K hK => ?_) | refine Wp ?_ | refine Wq ?_ | refine Wr ?_); (try simp only [go_sem, List.forall_mem_nil, ↓guard_ite, ↓pick_ite, seval, encT_eq, inR_i64, v0, v2, v3, t2, t4, t900, tb, hlt, decide_eq_true_eq, decide_eq_false_iff_not, Int.ofNat_lt]); (repeat with_reducible refine And.intro (by first | omega | (with_reducible first | exact lens_encT | exact lens_encL | exact lens_encB | exact lens_encP) | (simp; done) | (simp only [List.length_take, List.length_map, List.length_append, maxLen_eq]; omega)) ?_); (try (with_reducible refine hK _ ?_; clear hK K)); (try with_reducible refine ite_conj ?_)))
      refine ⟨rfl, ?_⟩
      simp only [go_sem, List.forall_mem_nil, ↓guard_ite, ↓pick_ite, seval, encT_eq, inR_i64, v0, v2, v3, t2, t4, t900, tb]
      refine ⟨?_, hrest⟩
      rw [hl, hst]
      congr 4
      omega
  rintro ⟨env, S1⟩ ⟨v0, v2, v3, t2, t4, t900, tb, hrest⟩
  simp only at v0 v2 v3 t2 t4 t900 tb hrest
  have htn := tail_nil hi
  by_cases h0 : lendA s i = i
  · rw [rd_zero h0] at hok hpan
    have hz : ((lendA s i - i : Nat) : Int) = 0 := by omega
    rw [hz] at v3
    by_cases h1 : i = s.size
    · have ht := htn.2 h1
      rw [if_pos h1] at hpan
      repeat' (first | (with_reducible first | refine Wa ?_ | refine Wb ?_ | refine Wc ?_ | refine Wd ?_ | refine We ?_ | refine Wf ?_ | refine Wg ?_ | refine Wh ?_ | refine Wi ?_ | refine Wj ?_ | refine Wk (by decide) ?_ | refine Wl ?_ | refine Wm ?_ | refine Wn ?_) | ((with_reducible first | refine Wx rfl (fun K hK => ?_) | refine Wp ?_ | refine Wq ?_ | refine Wr ?_); (try simp only [go_sem, List.forall_mem_nil, ↓guard_ite, ↓pick_ite, seval, encT_eq, inR_i64, v0, v2, v3, t2, t4, t900, tb, ht, decide_eq_true_eq, decide_eq_false_iff_not, Int.ofNat_lt]); (repeat with_reducible refine And.intro (by first | omega | (with_reducible first | exact lens_encT | exact lens_encL | exact lens_encB | exact lens_encP) | (simp; done) | (simp only [List.length_take, List.length_map, List.length_append, maxLen_eq]; omega)) ?_); (try (with_reducible refine hK _ ?_; clear hK K)); (try with_reducible refine ite_conj ?_)))
      refine IWP.opsPan 1 _ rfl (by kernel_rfl) ?_
      simp only [go_sem, List.forall_mem_nil, ↓guard_ite, ↓pick_ite, seval, encT_eq, inR_i64, PanAt, List.take_succ_cons, List.take_zero]
      intro envP
      repeat' (with_reducible first | refine Wy ?_ | refine Wz ?_ | refine Wv ?_)
      exact hpan (by show ¬ (13 : Int) = 0; decide) _ (panEnd_box tb hrest)
    · have ht : ¬ tailS s i = ⟨#[]⟩ := fun h => h1 (htn.1 h)
      rw [if_neg h1] at hpan
      repeat' (first | (with_reducible first | refine Wa ?_ | refine Wb ?_ | refine Wc ?_ | refine Wd ?_ | refine We ?_ | refine Wf ?_ | refine Wg ?_ | refine Wh ?_ | refine Wi ?_ | refine Wj ?_ | refine Wk (by decide) ?_ | refine Wl ?_ | refine Wm ?_ | refine Wn ?_) | ((with_reducible first | refine Wx rfl (fun K hK => ?_) | refine Wp ?_ | refine Wq ?_ | refine Wr ?_); (try simp only [go_sem, List.forall_mem_nil, ↓guard_ite, ↓pick_ite, seval, encT_eq, inR_i64, v0, v2, v3, t2, t4, t900, tb, ht, decide_eq_true_eq, decide_eq_false_iff_not, Int.ofNat_lt]); (repeat with_reducible refine And.intro (by first | omega | (with_reducible first | exact lens_encT | exact lens_encL | exact lens_encB | exact lens_encP) | (simp; done) | (simp only [List.length_take, List.length_map, List.length_append, maxLen_eq]; omega)) ?_); (try (with_reducible refine hK _ ?_; clear hK K)); (try with_reducible refine ite_conj ?_)))
      refine IWP.opsPan 1 _ rfl (by kernel_rfl) ?_
      simp only [go_sem, List.forall_mem_nil, ↓guard_ite, ↓pick_ite, seval, encT_eq, inR_i64, PanAt, List.take_succ_cons, List.take_zero]
      intro envP
      repeat' (with_reducible first | refine Wy ?_ | refine Wz ?_ | refine Wv ?_)
      exact hpan (by show ¬ (12 : Int) = 0; decide) _ (panEnd_box tb hrest)
  obtain ⟨n0, hn0⟩ : ∃ n0, lendA s i = i + n0 := ⟨lendA s i - i, by omega⟩
  have hq : lendA s i - i = n0 := by omega
  rw [hq] at v3
  have q1 : ¬ (n0 : Int) = 0 := by omega
  have hin0 : i + n0 ≤ s.size := by omega
  obtain ⟨nm, hnm⟩ : ∃ nm, s.extract i (i + n0) = nm := ⟨_, rfl⟩
  have hext : (tailS s i).extract 0 n0 = nm := (tail_take hin0).trans hnm
  have hdr := tail_drop (s := s) (i := i) (n := n0) hin0
  by_cases h1 : nameOk nm = true
  case neg =>
    rw [rd_name h0 (by rw [hn0, hnm]; exact h1)] at hok hpan
    repeat' (first | (with_reducible first | refine Wa ?_ | refine Wb ?_ | refine Wc ?_ | refine Wd ?_ | refine We ?_ | refine Wf ?_ | refine Wg ?_ | refine Wh ?_ | refine Wi ?_ | refine Wj ?_ | refine Wk (by decide) ?_ | refine Wl ?_ | refine Wm ?_ | refine Wn ?_) | refine CallG.mk _ (name_a nm) ?_ | ((with_reducible first | refine Wx rfl (fun K hK => ?_) | refine Wp ?_ | refine Wq ?_ | refine Wr ?_); (try simp only [go_sem, List.forall_mem_nil, ↓guard_ite, ↓pick_ite, seval, encT_eq, inR_i64, v0, v2, v3, t2, t4, t900, tb, q1, hext, h1, decide_eq_true_eq, decide_eq_false_iff_not, Int.ofNat_lt]); (repeat with_reducible refine And.intro (by first | omega | (with_reducible first | exact lens_encT | exact lens_encL | exact lens_encB | exact lens_encP) | (simp; done) | (simp only [List.length_take, List.length_map, List.length_append, maxLen_eq]; omega)) ?_); (try (with_reducible refine hK _ ?_; clear hK K)); (try with_reducible refine ite_conj ?_)))
    refine IWP.opsPan 1 _ rfl (by kernel_rfl) ?_
    simp only [go_sem, List.forall_mem_nil, ↓guard_ite, ↓pick_ite, seval, encT_eq, inR_i64, PanAt, List.take_succ_cons, List.take_zero]
    intro envP
    repeat' (with_reducible first | refine Wy ?_ | refine Wz ?_ | refine Wv ?_)
    refine hpan (by show ¬ (1 : Int) = 0; decide) _ (panEnd_box (u := tailS s i) (l := 200 - k) ?_ fun i hi hne => ?_)
    · simp only [go_sem, List.forall_mem_nil, ↓guard_ite, ↓pick_ite, seval, encT_eq, inR_i64, tb, e4]
    · have i4 : ¬ i = 4 := by omega
      simp only [go_sem, List.forall_mem_nil, ↓guard_ite, ↓pick_ite, seval, encT_eq, inR_i64, i4]
      exact hrest i hi hne
  case pos =>
  have hk1 : ((200 : Int) - k - 1 < 0) ↔ 200 < k + 1 := by omega
  by_cases h2 : 200 < k + 1
  · have h2i : (200 : Int) - k - 1 < 0 := hk1.2 h2
    rw [rd_limit h0 (by rw [hn0, hnm]; exact h1) h2] at hok hpan
    repeat' (first | (with_reducible first | refine Wa ?_ | refine Wb ?_ | refine Wc ?_ | refine Wd ?_ | refine We ?_ | refine Wf ?_ | refine Wg ?_ | refine Wh ?_ | refine Wi ?_ | refine Wj ?_ | refine Wk (by decide) ?_ | refine Wl ?_ | refine Wm ?_ | refine Wn ?_) | refine CallG.mk _ (name_a nm) ?_ | ((with_reducible first | refine Wx rfl (fun K hK => ?_) | refine Wp ?_ | refine Wq ?_ | refine Wr ?_); (try simp only [go_sem, List.forall_mem_nil, ↓guard_ite, ↓pick_ite, seval, encT_eq, inR_i64, v0, v2, v3, t2, t4, t900, tb, q1, hext, h1, h2i, e4, decide_eq_true_eq, decide_eq_false_iff_not, Int.ofNat_lt]); (repeat with_reducible refine And.intro (by first | omega | (with_reducible first | exact lens_encT | exact lens_encL | exact lens_encB | exact lens_encP) | (simp; done) | (simp only [List.length_take, List.length_map, List.length_append, maxLen_eq]; omega)) ?_); (try (with_reducible refine hK _ ?_; clear hK K)); (try with_reducible refine ite_conj ?_)))
    refine IWP.opsPan 1 _ rfl (by kernel_rfl) ?_
    simp only [go_sem, List.forall_mem_nil, ↓guard_ite, ↓pick_ite, seval, encT_eq, inR_i64, PanAt, List.take_succ_cons, List.take_zero]
    intro envP
    repeat' (with_reducible first | refine Wy ?_ | refine Wz ?_ | refine Wv ?_)
    refine hpan (by show ¬ (3 : Int) = 0; decide) _ (panEnd_box (u := tailS s i) (l := 200 - k - 1) ?_ fun i hi hne => ?_)
    · simp only [go_sem, List.forall_mem_nil, ↓guard_ite, ↓pick_ite, seval, encT_eq, inR_i64, tb, e4]
    · have i4 : ¬ i = 4 := by omega
      simp only [go_sem, List.forall_mem_nil, ↓guard_ite, ↓pick_ite, seval, encT_eq, inR_i64, i4, hne]
      exact hrest i hi hne
  have h2i : ¬ (200 : Int) - k - 1 < 0 := fun h => h2 (hk1.1 h)
  have hus2 := tail_size s (i + n0)
  by_cases h3 : bracket (tailS s (i + n0)) = true
  case neg =>
    have h3' : lendA s i = s.size ∨ byteAt s (lendA s i) ≠ 40 := by
      rw [hn0]
      by_cases hz : i + n0 = s.size
      · exact .inl hz
      · refine .inr fun h40 => h3 ?_
        have hbt := byteN_tail (s := s) (i := i + n0) (k := 0) (by omega)
        rw [Nat.add_zero, h40] at hbt
        unfold bracket
        rw [hbt, hus2]
        simp
        omega
    rw [rd_leaf h0 (by rw [hn0, hnm]; exact h1) h2 h3', hn0, hnm] at hok hpan
    repeat' (first | (with_reducible first | refine Wa ?_ | refine Wb ?_ | refine Wc ?_ | refine Wd ?_ | refine We ?_ | refine Wf ?_ | refine Wg ?_ | refine Wh ?_ | refine Wi ?_ | refine Wj ?_ | refine Wk (by decide) ?_ | refine Wl ?_ | refine Wm ?_ | refine Wn ?_) | refine CallG.mk _ (name_a nm) ?_ | refine CallG.mk _ (hasPrefix_a (tailS s (i + n0))) ?_ | ((with_reducible first | refine Wx rfl (fun K hK => ?_) | refine Wp ?_ | refine Wq ?_ | refine Wr ?_); (try simp only [go_sem, List.forall_mem_nil, ↓guard_ite, ↓pick_ite, seval, encT_eq, inR_i64, v0, v2, v3, t2, t4, t900, tb, q1, hext, hdr, h1, h2i, h3, e4, d4, e2, d2, decide_eq_true_eq, decide_eq_false_iff_not, Int.ofNat_lt]); (repeat with_reducible refine And.intro (by first | omega | (with_reducible first | exact lens_encT | exact lens_encL | exact lens_encB | exact lens_encP) | (simp; done) | (simp only [List.length_take, List.length_map, List.length_append, maxLen_eq]; omega)) ?_); (try (with_reducible refine hK _ ?_; clear hK K)); (try with_reducible refine ite_conj ?_)))
    refine hok rfl _ ⟨.agg [.st (.str nm), .full []], ?_, ?_, ?_, fun i hi hne => ?_⟩
    · simp only [go_sem, List.forall_mem_nil, ↓guard_ite, ↓pick_ite, seval, encT_eq, inR_i64, resAll, resOne, tupV, v0, v2, v3, t2, t4, t900, tb, e4, d4, e2, d2]
    · simp only [go_sem, List.forall_mem_nil, ↓guard_ite, ↓pick_ite, seval, encT_eq, inR_i64]
      rfl
    · simp only [go_sem, List.forall_mem_nil, ↓guard_ite, ↓pick_ite, seval, encT_eq, inR_i64, tb, e4, e2, hdr]
      rw [show (200 : Int) - ((k + 1 : Nat) : Int) = 200 - k - 1 by omega]
    · have i4 : ¬ i = 4 := by omega
      have i2 : ¬ i = 2 := by omega
      simp only [go_sem, List.forall_mem_nil, ↓guard_ite, ↓pick_ite, seval, encT_eq, inR_i64, i4, i2, hne]
      exact hrest i hi hne
  case pos =>
  have h3n : ¬ (lendA s i = s.size ∨ byteAt s (lendA s i) ≠ 40) := by
    unfold bracket at h3
    rw [Bool.and_eq_true, decide_eq_true_eq, decide_eq_true_eq, hus2] at h3
    have hbt := byteN_tail (s := s) (i := i + n0) (k := 0) (by omega)
    rw [hn0]
    intro h
    rcases h with h | h
    · omega
    · exact h (by rw [Nat.add_zero] at hbt; rw [← hbt]; exact h3.2)
  by_cases h4 : isVar nm = true
  · rw [rd_form h0 (by rw [hn0, hnm]; exact h1) h2 h3n (by rw [hn0, hnm]; exact h4)] at hok hpan
    repeat' (first | (with_reducible first | refine Wa ?_ | refine Wb ?_ | refine Wc ?_ | refine Wd ?_ | refine We ?_ | refine Wf ?_ | refine Wg ?_ | refine Wh ?_ | refine Wi ?_ | refine Wj ?_ | refine Wk (by decide) ?_ | refine Wl ?_ | refine Wm ?_ | refine Wn ?_) | refine CallG.mk _ (name_a nm) ?_ | refine CallG.mk _ (hasPrefix_a (tailS s (i + n0))) ?_ | refine CallG.mk _ (variable_a nm) ?_ | ((with_reducible first | refine Wx rfl (fun K hK => ?_) | refine Wp ?_ | refine Wq ?_ | refine Wr ?_); (try simp only [go_sem, List.forall_mem_nil, ↓guard_ite, ↓pick_ite, seval, encT_eq, inR_i64, v0, v2, v3, t2, t4, t900, tb, q1, hext, hdr, h1, h2i, h3, h4, e4, d4, e2, d2, decide_eq_true_eq, decide_eq_false_iff_not, Int.ofNat_lt]); (repeat with_reducible refine And.intro (by first | omega | (with_reducible first | exact lens_encT | exact lens_encL | exact lens_encB | exact lens_encP) | (simp; done) | (simp only [List.length_take, List.length_map, List.length_append, maxLen_eq]; omega)) ?_); (try (with_reducible refine hK _ ?_; clear hK K)); (try with_reducible refine ite_conj ?_)))
    refine IWP.opsPan 1 _ rfl (by kernel_rfl) ?_
    simp only [go_sem, List.forall_mem_nil, ↓guard_ite, ↓pick_ite, seval, encT_eq, inR_i64, PanAt, List.take_succ_cons, List.take_zero]
    intro envP
    repeat' (with_reducible first | refine Wy ?_ | refine Wz ?_ | refine Wv ?_)
    refine hpan (by show ¬ (2 : Int) = 0; decide) _ (panEnd_box (u := tailS s (i + n0)) (l := 200 - k - 1) ?_ fun i hi hne => ?_)
    · simp only [go_sem, List.forall_mem_nil, ↓guard_ite, ↓pick_ite, seval, encT_eq, inR_i64, tb, e4, hdr]
    · have i4 : ¬ i = 4 := by omega
      simp only [go_sem, List.forall_mem_nil, ↓guard_ite, ↓pick_ite, seval, encT_eq, inR_i64, i4, hne]
      exact hrest i hi hne
  rw [rd_args h0 (by rw [hn0, hnm]; exact h1) h2 h3n (by rw [hn0, hnm]; exact h4), hn0, hnm] at hok hpan
  have hlt0 : i + n0 < s.size := by
    have : lendA s i ≠ s.size := fun h => h3n (.inl h)
    omega
  have hf0 : 2 * (s.size - (i + n0)) ≤ f := by omega
  generalize i + n0 = to at *
  repeat' (first | (with_reducible first | refine Wa ?_ | refine Wb ?_ | refine Wc ?_ | refine Wd ?_ | refine We ?_ | refine Wf ?_ | refine Wg ?_ | refine Wh ?_ | refine Wi ?_ | refine Wj ?_ | refine Wk (by decide) ?_ | refine Wl ?_ | refine Wm ?_ | refine Wn ?_) | refine CallG.mk _ (name_a nm) ?_ | refine CallG.mk _ (hasPrefix_a (tailS s to)) ?_ | refine CallG.mk _ (variable_a nm) ?_ | ((with_reducible first | refine Wx rfl (fun K hK => ?_) | refine Wp ?_ | refine Wq ?_ | refine Wr ?_); (try simp only [go_sem, List.forall_mem_nil, ↓guard_ite, ↓pick_ite, seval, encT_eq, inR_i64, v0, v2, v3, t2, t4, t900, tb, q1, hext, hdr, h1, h2i, h3, h4, e4, d4, e2, d2, decide_eq_true_eq, decide_eq_false_iff_not, Int.ofNat_lt]); (repeat with_reducible refine And.intro (by first | omega | (with_reducible first | exact lens_encT | exact lens_encL | exact lens_encB | exact lens_encP) | (simp; done) | (simp only [List.length_take, List.length_map, List.length_append, maxLen_eq]; omega)) ?_); (try (with_reducible refine hK _ ?_; clear hK K)); (try with_reducible refine ite_conj ?_)))
  generalize hr : rdA s f nm [] to (k + 1) = r at hok hpan
  refine IWP.ghost (Ghost.ownC 4 1 900 24 2 (xs := ([] : List Tm).map encT) (by simp only [go_sem, List.forall_mem_nil, ↓guard_ite, ↓pick_ite, seval, encT_eq, inR_i64, e4, d4, e2, d2, t4]; rfl) rfl (by simp only [go_sem, List.forall_mem_nil, ↓guard_ite, ↓pick_ite, seval, encT_eq, inR_i64, t900, d900, e900]) lens_encT) ?_
  refine IWP.loop (fun m x => ∃ (acc : List Tm) (j c : Nat) (more : Bool), TInv s r f nm acc j c more ∧ m = s.size - j ∧ c ≤ 200 ∧ acc.length ≤ c ∧ x.env 0 = .one (.ptr b 1 0 0) ∧ x.env 2 = .one (.ptr 2 1 0 0) ∧ x.env 4 = .one (.ptr 4 1 0 0) ∧ x.env 5 = aBool more ∧ x.S 2 = some boxT0r ∧ x.S 4 = some (.box 24 [.st (.str nm), .row 900 acc.length]) ∧ x.S 900 = some (.arow 24 2 (acc.map encT)) ∧ x.S b = some (boxR (tailS s j) (200 - c)) ∧ ∀ i, 1000 ≤ i → i ≠ b → x.S i = S i)
    (s.size - to) ⟨[], to, k + 1, true, .inl ⟨rfl, f, hr.symm, hf0, Nat.le_refl _, hlt0⟩, rfl, by omega, by simp, ?_⟩ ?_
  · simp only [go_sem, List.forall_mem_nil, ↓guard_ite, ↓pick_ite, seval, encT_eq, inR_i64, v0, v2, v3, t2, t4, t900, tb, e4, d4, e2, d2, e900, d900]
    refine ⟨rfl, by rw [show (200 : Int) - ((k + 1 : Nat) : Int) = 200 - k - 1 by omega], fun i' hi' hne' => ?_⟩
    have i4 : ¬ i' = 4 := by omega
    have i900 : ¬ i' = 900 := by omega
    simp only [go_sem, List.forall_mem_nil, ↓guard_ite, ↓pick_ite, seval, encT_eq, inR_i64, i4, i900, hne']
    exact hrest i' hi' hne'
  clear hr hf0 hlt0 v0 v2 v3 t2 t4 t900 tb hrest hext hdr hnm h3 h3n hus2 hin0 hq
  rintro m ⟨env, S2⟩ ⟨acc, j, c, more, hinv, rfl, hc, hac, v0, v2, v4, v5, t2, t4, t900, tb, hrest⟩
  simp only at v0 v2 v4 v5 t2 t4 t900 tb hrest
  have hal : (acc.map encT).length = acc.length := List.length_map _
  have husj := tail_size s j
  rcases hinv with ⟨rfl, g, hr, hg, hgf, hj⟩ | ⟨rfl, hr, hj⟩
  · have hdr := tail_drop (s := s) (i := j) (n := 1) (by omega)
    obtain ⟨g, rfl⟩ : ∃ g', g = g' + 1 := ⟨g - 1, by omega⟩
    have hcall := fun S' (h : S' (up1 b) = some (boxR (tailS s (j + 1)) (200 - c))) => ih g (by omega) (j + 1) c (by omega) hc (by omega) (up1 b) S' (up1_le b) h
    have hq := rd_ok s g (j + 1) c (by omega) hc (by omega)
    have hqle := hq.le
    have hqin := hq.in_
    by_cases he : (rd s g (j + 1) c).e = 0
    case neg =>
      rw [rdA_bad he] at hr
      repeat' (first | (with_reducible first | refine Wa ?_ | refine Wb ?_ | refine Wc ?_ | refine Wd ?_ | refine We ?_ | refine Wf ?_ | refine Wg ?_ | refine Wh ?_ | refine Wi ?_ | refine Wj ?_ | refine Wk (by decide) ?_ | refine Wl ?_ | refine Wm ?_ | refine Wn ?_) | (first | refine IWP.opsPan 3 ⟨some 90, none, .callS 27 [.t 89], .keeps [4, 4]⟩ rfl (by kernel_rfl) ?_) | ((with_reducible first | refine Wx rfl (fun K hK => ?_) | refine Wp ?_ | refine Wq ?_ | refine Wr ?_); (try simp only [go_sem, List.forall_mem_nil, ↓guard_ite, ↓pick_ite, seval, encT_eq, inR_i64, v0, v2, v4, v5, t2, t4, t900, tb, hdr, e4, d4, e2, d2, e900, d900, decide_eq_true_eq, decide_eq_false_iff_not, Int.ofNat_lt]); (repeat with_reducible refine And.intro (by first | omega | (with_reducible first | exact lens_encT | exact lens_encL | exact lens_encB | exact lens_encP) | (simp; done) | (simp only [List.length_take, List.length_map, List.length_append, maxLen_eq]; omega)) ?_); (try (with_reducible refine hK _ ?_; clear hK K)); (try with_reducible refine ite_conj ?_)))
      simp only [go_sem, List.forall_mem_nil, ↓guard_ite, ↓pick_ite, seval, encT_eq, inR_i64, PanAt, List.take_succ_cons, List.take_zero, v0, v2, v4, v5, t2, t4, t900, tb, hdr, e4, d4, e2, d2, e900, d900]
      subst hr
      refine ⟨_, _, (hcall _ (by rw [upS_up, updE_same]; rfl)).2 he, fun envP => ?_⟩
      repeat' (with_reducible first | refine Wy ?_ | refine Wz ?_ | refine Wv ?_)
      refine hpan he _ ⟨.inr ?_, fun i hi hne => ?_⟩
      · simp only [go_sem, List.forall_mem_nil, ↓guard_ite, ↓pick_ite, seval, encT_eq, inR_i64]
      · simp only [go_sem, List.forall_mem_nil, ↓guard_ite, ↓pick_ite, seval, encT_eq, inR_i64, hne]
        exact hrest i hi hne
    case pos =>
    obtain ⟨o1, o2, o3, o4⟩ := hq.ok he
    have husq := tail_size s (rd s g (j + 1) c).i
    have hnq := tail_nil hqin
    repeat' (first | (with_reducible first | refine Wa ?_ | refine Wb ?_ | refine Wc ?_ | refine Wd ?_ | refine We ?_ | refine Wf ?_ | refine Wg ?_ | refine Wh ?_ | refine Wi ?_ | refine Wj ?_ | refine Wk (by decide) ?_ | refine Wl ?_ | refine Wm ?_ | refine Wn ?_) | ((with_reducible first | refine Wx rfl (fun K hK => ?_) | refine Wp ?_ | refine Wq ?_ | refine Wr ?_); (try simp only [go_sem, List.forall_mem_nil, ↓guard_ite, ↓pick_ite, seval, encT_eq, inR_i64, v0, v2, v4, v5, t2, t4, t900, tb, hdr, e4, d4, e2, d2, e900, d900, decide_eq_true_eq, decide_eq_false_iff_not, Int.ofNat_lt]); (repeat with_reducible refine And.intro (by first | omega | (with_reducible first | exact lens_encT | exact lens_encL | exact lens_encB | exact lens_encP) | (simp; done) | (simp only [List.length_take, List.length_map, List.length_append, maxLen_eq]; omega)) ?_); (try (with_reducible refine hK _ ?_; clear hK K)); (try with_reducible refine ite_conj ?_)))
    refine ⟨_, _, (hcall _ (by rw [upS_up, updE_same]; rfl)).1 he, ?_⟩
    have c1 := fun h => hr.trans (rdA_short (n := nm) (acc := acc) he h)
    have c2 := fun h h' => hr.trans (rdA_close (n := nm) (acc := acc) he h h')
    have c3 := fun h h' h'' => hr.trans (rdA_on (n := nm) (acc := acc) he h h' h'')
    have c4 := fun h h' h'' => hr.trans (rdA_word (n := nm) (acc := acc) he h h' h'')
    clear hcall ih hr
    generalize rd s g (j + 1) c = q at *
    have hal2 : acc.length + 1 ≤ 1000000 := by omega
    by_cases q1 : q.i = s.size
    · have hq1 := hnq.2 q1
      rw [c1 q1] at hpan
      repeat' (first | (with_reducible first | refine Wa ?_ | refine Wb ?_ | refine Wc ?_ | refine Wd ?_ | refine We ?_ | refine Wf ?_ | refine Wg ?_ | refine Wh ?_ | refine Wi ?_ | refine Wj ?_ | refine Wk (by decide) ?_ | refine Wl ?_ | refine Wm ?_ | refine Wn ?_) | ((with_reducible first | refine Wx rfl (fun K hK => ?_) | refine Wp ?_ | refine Wq ?_ | refine Wr ?_); (try simp only [go_sem, List.forall_mem_nil, ↓guard_ite, ↓pick_ite, seval, encT_eq, inR_i64, v0, v2, v4, v5, t2, t4, t900, tb, hdr, e4, d4, e2, d2, e900, d900, hal, hq1, decide_eq_true_eq, decide_eq_false_iff_not, Int.ofNat_lt]); (repeat with_reducible refine And.intro (by first | omega | (with_reducible first | exact lens_encT | exact lens_encL | exact lens_encB | exact lens_encP) | (simp; done) | (simp only [List.length_take, List.length_map, List.length_append, maxLen_eq]; omega)) ?_); (try (with_reducible refine hK _ ?_; clear hK K)); (try with_reducible refine ite_conj ?_)))
      refine IWP.opsPan 1 _ rfl (by kernel_rfl) ?_
      simp only [go_sem, List.forall_mem_nil, ↓guard_ite, ↓pick_ite, seval, encT_eq, inR_i64, PanAt, List.take_succ_cons, List.take_zero]
      intro envP
      repeat' (with_reducible first | refine Wy ?_ | refine Wz ?_ | refine Wv ?_)
      refine hpan (by show ¬ (13 : Int) = 0; decide) _ (panEnd_box (u := tailS s q.i) (l := 200 - q.k) ?_ fun i hi hne => ?_)
      · simp only [go_sem, List.forall_mem_nil, ↓guard_ite, ↓pick_ite, seval, encT_eq, inR_i64, e4, e900, hq1]
      · have i4 : ¬ i = 4 := by omega
        have i900 : ¬ i = 900 := by omega
        simp only [go_sem, List.forall_mem_nil, ↓guard_ite, ↓pick_ite, seval, encT_eq, inR_i64, i4, i900, hne]
        exact hrest i hi hne
    have hq1 : ¬ tailS s q.i = ⟨#[]⟩ := fun h => q1 (hnq.1 h)
    have hbt := byteN_tail (s := s) (i := q.i) (k := 0) (by omega)
    rw [Nat.add_zero] at hbt
    by_cases q2 : byteN (tailS s q.i) 0 = 41
    · have hr := c2 q1 (by rw [← hbt]; exact q2)
      repeat' (first | (with_reducible first | refine Wa ?_ | refine Wb ?_ | refine Wc ?_ | refine Wd ?_ | refine We ?_ | refine Wf ?_ | refine Wg ?_ | refine Wh ?_ | refine Wi ?_ | refine Wj ?_ | refine Wk (by decide) ?_ | refine Wl ?_ | refine Wm ?_ | refine Wn ?_) | ((with_reducible first | refine Wx rfl (fun K hK => ?_) | refine Wp ?_ | refine Wq ?_ | refine Wr ?_); (try simp only [go_sem, List.forall_mem_nil, ↓guard_ite, ↓pick_ite, seval, encT_eq, inR_i64, v0, v2, v4, v5, t2, t4, t900, tb, hdr, e4, d4, e2, d2, e900, d900, hal, hq1, q2, decide_eq_true_eq, decide_eq_false_iff_not, Int.ofNat_lt]); (repeat with_reducible refine And.intro (by first | omega | (with_reducible first | exact lens_encT | exact lens_encL | exact lens_encB | exact lens_encP) | (simp; done) | (simp only [List.length_take, List.length_map, List.length_append, maxLen_eq]; omega)) ?_); (try (with_reducible refine hK _ ?_; clear hK K)); (try with_reducible refine ite_conj ?_)))
      refine then_normal ⟨s.size - q.i, by omega, acc ++ [q.t], q.i, q.k, false, .inr ⟨rfl, hr, by omega⟩, rfl, o2, by simp; omega, ?_⟩
      simp only [go_sem, List.forall_mem_nil, ↓guard_ite, ↓pick_ite, seval, encT_eq, inR_i64, v0, v2, v4, v5, t2, t4, t900, tb, e4, d4, e2, d2, e900, d900, hal]
      refine ⟨by rw [encT_snoc], fun i hi hne => ?_⟩
      have i4 : ¬ i = 4 := by omega
      have i900 : ¬ i = 900 := by omega
      simp only [go_sem, List.forall_mem_nil, ↓guard_ite, ↓pick_ite, seval, encT_eq, inR_i64, i4, i900, hne]
      exact hrest i hi hne
    by_cases q3 : byteN (tailS s q.i) 0 = 44
    · have hr := c3 q1 (by rw [← hbt]; exact q2) (by rw [← hbt]; exact q3)
      repeat' (first | (with_reducible first | refine Wa ?_ | refine Wb ?_ | refine Wc ?_ | refine Wd ?_ | refine We ?_ | refine Wf ?_ | refine Wg ?_ | refine Wh ?_ | refine Wi ?_ | refine Wj ?_ | refine Wk (by decide) ?_ | refine Wl ?_ | refine Wm ?_ | refine Wn ?_) | ((with_reducible first | refine Wx rfl (fun K hK => ?_) | refine Wp ?_ | refine Wq ?_ | refine Wr ?_); (try simp only [go_sem, List.forall_mem_nil, ↓guard_ite, ↓pick_ite, seval, encT_eq, inR_i64, v0, v2, v4, v5, t2, t4, t900, tb, hdr, e4, d4, e2, d2, e900, d900, hal, hq1, q2, q3, decide_eq_true_eq, decide_eq_false_iff_not, Int.ofNat_lt]); (repeat with_reducible refine And.intro (by first | omega | (with_reducible first | exact lens_encT | exact lens_encL | exact lens_encB | exact lens_encP) | (simp; done) | (simp only [List.length_take, List.length_map, List.length_append, maxLen_eq]; omega)) ?_); (try (with_reducible refine hK _ ?_; clear hK K)); (try with_reducible refine ite_conj ?_)))
      refine then_normal ⟨s.size - q.i, by omega, acc ++ [q.t], q.i, q.k, true, .inl ⟨rfl, g, hr, by omega, by omega, by omega⟩, rfl, o2, by simp; omega, ?_⟩
      simp only [go_sem, List.forall_mem_nil, ↓guard_ite, ↓pick_ite, seval, encT_eq, inR_i64, v0, v2, v4, v5, t2, t4, t900, tb, e4, d4, e2, d2, e900, d900, hal]
      refine ⟨by rw [encT_snoc], fun i hi hne => ?_⟩
      have i4 : ¬ i = 4 := by omega
      have i900 : ¬ i = 900 := by omega
      simp only [go_sem, List.forall_mem_nil, ↓guard_ite, ↓pick_ite, seval, encT_eq, inR_i64, i4, i900, hne]
      exact hrest i hi hne
    · rw [c4 q1 (by rw [← hbt]; exact q2) (by rw [← hbt]; exact q3)] at hpan
      repeat' (first | (with_reducible first | refine Wa ?_ | refine Wb ?_ | refine Wc ?_ | refine Wd ?_ | refine We ?_ | refine Wf ?_ | refine Wg ?_ | refine Wh ?_ | refine Wi ?_ | refine Wj ?_ | refine Wk (by decide) ?_ | refine Wl ?_ | refine Wm ?_ | refine Wn ?_) | ((with_reducible first | refine Wx rfl (fun K hK => ?_) | refine Wp ?_ | refine Wq ?_ | refine Wr ?_); (try simp only [go_sem, List.forall_mem_nil, ↓guard_ite, ↓pick_ite, seval, encT_eq, inR_i64, v0, v2, v4, v5, t2, t4, t900, tb, hdr, e4, d4, e2, d2, e900, d900, hal, hq1, q2, q3, decide_eq_true_eq, decide_eq_false_iff_not, Int.ofNat_lt]); (repeat with_reducible refine And.intro (by first | omega | (with_reducible first | exact lens_encT | exact lens_encL | exact lens_encB | exact lens_encP) | (simp; done) | (simp only [List.length_take, List.length_map, List.length_append, maxLen_eq]; omega)) ?_); (try (with_reducible refine hK _ ?_; clear hK K)); (try with_reducible refine ite_conj ?_)))
      refine IWP.opsPan 1 _ rfl (by kernel_rfl) ?_
      simp only [go_sem, List.forall_mem_nil, ↓guard_ite, ↓pick_ite, seval, encT_eq, inR_i64, PanAt, List.take_succ_cons, List.take_zero]
      intro envP
      repeat' (with_reducible first | refine Wy ?_ | refine Wz ?_ | refine Wv ?_)
      refine hpan (by show ¬ (12 : Int) = 0; decide) _ (panEnd_box (u := tailS s q.i) (l := 200 - q.k) ?_ fun i hi hne => ?_)
      · simp only [go_sem, List.forall_mem_nil, ↓guard_ite, ↓pick_ite, seval, encT_eq, inR_i64, e4, e900]
      · have i4 : ¬ i = 4 := by omega
        have i900 : ¬ i = 900 := by omega
        simp only [go_sem, List.forall_mem_nil, ↓guard_ite, ↓pick_ite, seval, encT_eq, inR_i64, i4, i900, hne]
        exact hrest i hi hne
  · have hdr := tail_drop (s := s) (i := j) (n := 1) (by omega)
    subst hr
    repeat' (first | (with_reducible first | refine Wa ?_ | refine Wb ?_ | refine Wc ?_ | refine Wd ?_ | refine We ?_ | refine Wf ?_ | refine Wg ?_ | refine Wh ?_ | refine Wi ?_ | refine Wj ?_ | refine Wk (by decide) ?_ | refine Wl ?_ | refine Wm ?_ | refine Wn ?_) | ((with_reducible first | refine Wx rfl (fun K hK => ?_) | refine Wp ?_ | refine Wq ?_ | refine Wr ?_); (try simp only [go_sem, List.forall_mem_nil, ↓guard_ite, ↓pick_ite, seval, encT_eq, inR_i64, v0, v2, v4, v5, t2, t4, t900, tb, hdr, e4, d4, e2, d2, e900, d900, decide_eq_true_eq, decide_eq_false_iff_not, Int.ofNat_lt]); (repeat with_reducible refine And.intro (by first | omega | (with_reducible first | exact lens_encT | exact lens_encL | exact lens_encB | exact lens_encP) | (simp; done) | (simp only [List.length_take, List.length_map, List.length_append, maxLen_eq]; omega)) ?_); (try (with_reducible refine hK _ ?_; clear hK K)); (try with_reducible refine ite_conj ?_)))
    refine hok rfl _ ⟨.agg [.st (.str nm), .row 900 acc.length], ?_, ?_, ?_, fun i hi hne => ?_⟩
    · simp only [go_sem, List.forall_mem_nil, ↓guard_ite, ↓pick_ite, seval, encT_eq, inR_i64, resAll, resOne, tupV, v0, v2, v4, t2, t4, t900, tb, e4, d4, e2, d2, e900, d900]
    · simp only [go_sem, List.forall_mem_nil, ↓guard_ite, ↓pick_ite, seval, encT_eq, inR_i64, t900, e900, d900, hal]
      rfl
    · simp only [go_sem, List.forall_mem_nil, ↓guard_ite, ↓pick_ite, seval, encT_eq, inR_i64, tb, e4, e2, e900, hdr]
    · have i2 : ¬ i = 2 := by omega
      simp only [go_sem, List.forall_mem_nil, ↓guard_ite, ↓pick_ite, seval, encT_eq, inR_i64, i2, hne]
      exact hrest i hi hne
end Go.Proofs.Ytohgkbgpcnmdpaa
