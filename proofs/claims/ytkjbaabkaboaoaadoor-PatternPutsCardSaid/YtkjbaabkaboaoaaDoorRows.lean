/-
  NARROWER THAN 'FOR EVERY INPUT', by the rows' own cells (each row's printed sentence says how): LambdaPuts: loops, laid · LongNumbers: loops, laid · PatternPuts: loops, laid.
  DERIVED. THE GIVEN ROWS OF THIS SEAT. 3 by the template 'for every input the law returns true; each argument reads behind the call as it read before'; 0 by the template 'total and deterministic' (their statements: YtkjbaabkaboaoaaDoorTotals.lean).
  GIVEN WITH THE SEED: the statements are not yours to turn. If you find one false, say at which input.
  Laid BY PROGRAM, IN A SANDBOX (cutbox-rows.mjs): the forced cells as the released guide's own fill.sh prints them over the translation fb2a7d5c458878e2… (all of the seat's roots in one cut). By AI agents, Wed Nov 11 2026. No macro, syntax, notation, axiom, sorry.
-/
import Derived.Test.YtkjbaabkaboaoaaDoorChecked
import GoSem.Claim
import GoSem.ClaimJoined
import GoSem.ClaimMapViews
import Derived.JoinedTies
import Derived.KernelRfl
namespace Go.Proofs.YtkjbaabkaboaoaaDoor
/- THE CELL 'sum', in the pinned program and in every row, IS THE sha256 OF THE DUMP (.gsa) THAT YtkjbaabkaboaoaaDoorProg.lean LOADS. Nothing in Lean hashes anything: it is a label: what it is worth is what the hold of that sum in a sandbox is worth. -/
noncomputable def Tryd.pinned : Pinned := { name := "ytkjbaabkaboaoaadoor", sum := "fb2a7d5c458878e2ba4cecc28cbf6d082a332193e0df98caacd7cb018dabd0a4", checked := Tryd.checked }
namespace Rows
def none {H : Type} : Left H := { results := [], args := [] }

/- WHAT THE LISTED PACKAGE-LEVEL VARIABLES READ AS WHEN THE CALL BEGINS. Each datum BY PROGRAM (the guide's laid-datum.mjs) off the statement by which the dump's own 'gosem.cut.vars' lays the variable. In a bare row this is a premise. The card (YtkjbaabkaboaoaaDoorCards.lean) ties it to the program's text. -/
def laid_metaprune_lambda_subs {H : Type} : DataW H := .agg [.lit (.int .i64 0), .lit (.int .i64 0), .lit (.int .i64 1), .lit (.int .i64 2), .lit (.int .i64 0), .lit (.int .i64 0)]

/-- 'metaprunelaw.LambdaPuts': WHATEVER THE INPUT: true; the input reads as it did. -/
def lambdaPutsSpec : ChangeSpec := { name := "lambdaPuts", fn := fun _ => fun
  | [d1, d2, d3] => { results := [.lit (.bool true)], args := [d1, d2, d3] }
  | _ => none }
def lambdaPutsRow : OpenClaim := { program := "ytkjbaabkaboaoaadoor", sum := "fb2a7d5c458878e2ba4cecc28cbf6d082a332193e0df98caacd7cb018dabd0a4", func := "metaprune/metaprunelaw.LambdaPuts", spec := "lambdaPuts", recurses := true, named := ["metaprune/lambda.subs"], loops := true, apart := false, laid := [("metaprune/lambda.subs", laid_metaprune_lambda_subs)] }
def LambdaPutsSaid : Prop := lambdaPutsRow.holds Tryd.pinned (OpenSpec.ofChange lambdaPutsSpec)

/-- ITS FALSE NEIGHBOUR: 'it returns false'. Refute it at one input. -/
def lambdaPutsWrong : ChangeSpec := { name := "lambdaPuts", fn := fun _ => fun
  | [d1, d2, d3] => { results := [.lit (.bool false)], args := [d1, d2, d3] }
  | _ => none }
def LambdaPutsWrongFalsely : Prop := lambdaPutsRow.holds Tryd.pinned (OpenSpec.ofChange lambdaPutsWrong)

/-- 'metaprunelaw.LongNumbers': WHATEVER THE INPUT: true; the input reads as it did. -/
def longNumbersSpec : ChangeSpec := { name := "longNumbers", fn := fun _ => fun
  | [d1, d2, d3] => { results := [.lit (.bool true)], args := [d1, d2, d3] }
  | _ => none }
def longNumbersRow : OpenClaim := { program := "ytkjbaabkaboaoaadoor", sum := "fb2a7d5c458878e2ba4cecc28cbf6d082a332193e0df98caacd7cb018dabd0a4", func := "metaprune/metaprunelaw.LongNumbers", spec := "longNumbers", unfollowed := true, recurses := true, named := ["metaprune/lambda.subs"], loops := true, apart := false, laid := [("metaprune/lambda.subs", laid_metaprune_lambda_subs)] }
def LongNumbersSaid : Prop := longNumbersRow.holds Tryd.pinned (OpenSpec.ofChange longNumbersSpec)

/-- ITS FALSE NEIGHBOUR: 'it returns false'. Refute it at one input. -/
def longNumbersWrong : ChangeSpec := { name := "longNumbers", fn := fun _ => fun
  | [d1, d2, d3] => { results := [.lit (.bool false)], args := [d1, d2, d3] }
  | _ => none }
def LongNumbersWrongFalsely : Prop := longNumbersRow.holds Tryd.pinned (OpenSpec.ofChange longNumbersWrong)

/-- 'metaprunelaw.PatternPuts': WHATEVER THE INPUT: true; the input reads as it did. -/
def patternPutsSpec : ChangeSpec := { name := "patternPuts", fn := fun _ => fun
  | [d1, d2, d3] => { results := [.lit (.bool true)], args := [d1, d2, d3] }
  | _ => none }
def patternPutsRow : OpenClaim := { program := "ytkjbaabkaboaoaadoor", sum := "fb2a7d5c458878e2ba4cecc28cbf6d082a332193e0df98caacd7cb018dabd0a4", func := "metaprune/metaprunelaw.PatternPuts", spec := "patternPuts", unfollowed := true, recurses := true, named := ["metaprune/lambda.subs"], loops := true, apart := false, laid := [("metaprune/lambda.subs", laid_metaprune_lambda_subs)] }
def PatternPutsSaid : Prop := patternPutsRow.holds Tryd.pinned (OpenSpec.ofChange patternPutsSpec)

/-- ITS FALSE NEIGHBOUR: 'it returns false'. Refute it at one input. -/
def patternPutsWrong : ChangeSpec := { name := "patternPuts", fn := fun _ => fun
  | [d1, d2, d3] => { results := [.lit (.bool false)], args := [d1, d2, d3] }
  | _ => none }
def PatternPutsWrongFalsely : Prop := patternPutsRow.holds Tryd.pinned (OpenSpec.ofChange patternPutsWrong)

/- THE SECOND FORM. 'bulk': how many values and letters a reading holds, each counted each time it is reached (what is shared counts as often as it is met; a slice's spare places count too). A statement '..UptoSaid' is the law's where the arguments, and the package variables that the reading takes, are together of bulk at most 1048576: NARROWER than '..Said'. Prove '..Said' where nothing that the law and all that it calls make is longer than what came in: it says more and counts as full. Else prove '..UptoSaid'. A law counts once. -/
mutual
def uptoBulk {H : Type} : DataW H → Nat
  | .lit (.string bytes) => bytes.length + 1
  | .lit _ => 1
  | .nil => 1
  | .ptr d => uptoBulk d + 1
  | .slice elems spare => uptoBulkAll elems + uptoBulkAll spare + 1
  | .agg parts => uptoBulkAll parts + 1
  | .iface _ d => uptoBulk d + 1
  | .map entries => uptoBulkEntries entries + 1
  | .held _ => 1
def uptoBulkAll {H : Type} : List (DataW H) → Nat
  | [] => 0
  | d :: r => uptoBulk d + uptoBulkAll r
def uptoBulkEntries {H : Type} : List (Lit × DataW H) → Nat
  | [] => 0
  | x :: r => uptoBulkEntry x + uptoBulkEntries r
def uptoBulkEntry {H : Type} : Lit × DataW H → Nat
  | (.string bytes, d) => bytes.length + uptoBulk d + 1
  | (_, d) => uptoBulk d + 1
 end
def uptoSmall : (H : Type) → List (DataW H) → Bool := fun _ ds => decide (uptoBulkAll ds ≤ 1048576)
def OpenSpec.upto (s : _root_.Go.ChangeSpec) : _root_.Go.OpenSpec := { _root_.Go.OpenSpec.ofChange s with cond := some uptoSmall }

/-- 'metaprunelaw.LambdaPuts', WHERE WHAT IT READS IS OF BULK AT MOST 1048576: true; the input reads as it did. -/
def lambdaPutsUptoRow : OpenClaim := { program := "ytkjbaabkaboaoaadoor", sum := "fb2a7d5c458878e2ba4cecc28cbf6d082a332193e0df98caacd7cb018dabd0a4", func := "metaprune/metaprunelaw.LambdaPuts", spec := "lambdaPuts", recurses := true, named := ["metaprune/lambda.subs"], loops := true, apart := false, laid := [("metaprune/lambda.subs", laid_metaprune_lambda_subs)], narrowed := true }
def LambdaPutsUptoSaid : Prop := lambdaPutsUptoRow.holds Tryd.pinned (OpenSpec.upto lambdaPutsSpec)

/-- 'metaprunelaw.LongNumbers', WHERE WHAT IT READS IS OF BULK AT MOST 1048576: true; the input reads as it did. -/
def longNumbersUptoRow : OpenClaim := { program := "ytkjbaabkaboaoaadoor", sum := "fb2a7d5c458878e2ba4cecc28cbf6d082a332193e0df98caacd7cb018dabd0a4", func := "metaprune/metaprunelaw.LongNumbers", spec := "longNumbers", unfollowed := true, recurses := true, named := ["metaprune/lambda.subs"], loops := true, apart := false, laid := [("metaprune/lambda.subs", laid_metaprune_lambda_subs)], narrowed := true }
def LongNumbersUptoSaid : Prop := longNumbersUptoRow.holds Tryd.pinned (OpenSpec.upto longNumbersSpec)

/-- 'metaprunelaw.PatternPuts', WHERE WHAT IT READS IS OF BULK AT MOST 1048576: true; the input reads as it did. -/
def patternPutsUptoRow : OpenClaim := { program := "ytkjbaabkaboaoaadoor", sum := "fb2a7d5c458878e2ba4cecc28cbf6d082a332193e0df98caacd7cb018dabd0a4", func := "metaprune/metaprunelaw.PatternPuts", spec := "patternPuts", unfollowed := true, recurses := true, named := ["metaprune/lambda.subs"], loops := true, apart := false, laid := [("metaprune/lambda.subs", laid_metaprune_lambda_subs)], narrowed := true }
def PatternPutsUptoSaid : Prop := patternPutsUptoRow.holds Tryd.pinned (OpenSpec.upto patternPutsSpec)

end Rows
end Go.Proofs.YtkjbaabkaboaoaaDoor
