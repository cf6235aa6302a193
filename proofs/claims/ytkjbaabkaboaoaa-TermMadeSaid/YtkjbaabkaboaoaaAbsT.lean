/-
  The program's terms as abstract values.
  Conditions: none.
-/
import Derived.Test.YtkjbaabkaboaoaaAbsN
import Derived.Test.YtkjbaabkaboaoaaData
namespace Go.Proofs.Ytkjbaabkaboaoaa
open Go Go.RowKit
set_option linter.unusedVariables false
mutual
def encT : Tm → List SV
  | .mk n xs => [.str n, .list (encTs xs)]
def encTs : List Tm → List (List SV)
  | [] => []
  | t :: ts => encT t :: encTs ts
end
theorem encTs_eq : ∀ xs : List Tm, encTs xs = xs.map encT
  | [] => rfl
  | t :: ts => by rw [encTs, encTs_eq ts]; rfl
theorem encT_eq (t : Tm) : encT t = [.str t.name, .list (t.args.map encT)] := by
  cases t
  rw [encT, encTs_eq]
  rfl
theorem Tm.args_mk (n : ByteArray) (xs : List Tm) : (Tm.mk n xs).args = xs := rfl
theorem Tm.name_mk (n : ByteArray) (xs : List Tm) : (Tm.mk n xs).name = n := rfl
abbrev aInt (n : Int) : AV := .one (.st (.int .i64 n))
abbrev aBool (b : Bool) : AV := .one (.st (.bool b))
abbrev aStr (s : ByteArray) : AV := .one (.st (.str s))
abbrev aTm (t : Tm) : AV := .agg [.st (.str t.name), .st (.list (t.args.map encT))]
abbrev encI (n : Int) : List SV := [.int .i64 n]
abbrev encS (s : ByteArray) : List SV := [.str s]
abbrev encIs (p : List Int) : List SV := [.list (p.map encI)]
abbrev aIss (l : List (List Int)) : AV := .one (.st (.list (l.map encIs)))
abbrev aInts (l : List Int) : AV := .one (.st (.list (l.map encI)))
abbrev aStrs (l : List ByteArray) : AV := .one (.st (.list (l.map encS)))
abbrev aTms (l : List Tm) : AV := .one (.st (.list (l.map encT)))
theorem get_lt {α : Type} {xs : List α} {k : Nat} (h : k < xs.length) : ∃ a, xs[k]? = some a := ⟨xs[k], List.getElem?_eq_getElem h⟩
theorem inR_i64 (n : Int) : inR .i64 n ↔ -9223372036854775808 ≤ n ∧ n ≤ 9223372036854775807 := by
  simp [inR, IntKind.min, IntKind.max, IntKind.signed, IntKind.bits]
theorem known_ints {l : List Int} (h : (SV.list (l.map encI)).known) : l.length ≤ maxLen ∧ ∀ n ∈ l, inR .i64 n := by
  obtain ⟨h1, h2⟩ := h
  refine ⟨by simpa using h1, fun n hn => ?_⟩
  have := knownL_iff.1 (knownLL_iff.1 h2 (encI n) (List.mem_map.2 ⟨n, hn, rfl⟩)) (.int .i64 n) (by simp)
  exact this
theorem maxLen_eq : maxLen = 9223372036854775807 := by simp [maxLen]
end Go.Proofs.Ytkjbaabkaboaoaa
