/-
  NARROWER THAN 'FOR EVERY INPUT', by the rows' own cells (each row's printed sentence says how): TopClash: laid · TopPrune: laid.
  DERIVED. THE GIVEN ROWS OF THIS SEAT. 2 by the template 'for every input the law returns true; each argument reads behind the call as it read before'; 0 by the template 'total and deterministic' (their statements: YtcgnojefbalbbaaDoorTotals.lean).
  GIVEN WITH THE SEED: the statements are not yours to turn. If you find one false, say at which input.
  Laid BY PROGRAM, IN A SANDBOX (cutbox-rows.mjs): the forced cells as the released guide's own fill.sh prints them over the translation 4d4b62860eac7411… (all of the seat's roots in one cut). By AI agents, Wed Nov 11 2026. No macro, syntax, notation, axiom, sorry.
-/
import Derived.Test.YtcgnojefbalbbaaDoorChecked
import GoSem.Claim
import GoSem.ClaimJoined
import GoSem.ClaimMapViews
import Derived.JoinedTies
import Derived.KernelRfl
namespace Go.Proofs.YtcgnojefbalbbaaDoor
/- THE CELL 'sum', in the pinned program and in every row, IS THE sha256 OF THE DUMP (.gsa) THAT YtcgnojefbalbbaaDoorProg.lean LOADS. Nothing in Lean hashes anything: it is a label: what it is worth is what the hold of that sum in a sandbox is worth. -/
noncomputable def Tryd.pinned : Pinned := { name := "ytcgnojefbalbbaadoor", sum := "4d4b62860eac74116e6b940fe35c51df623a3bcaf9a18681923edfea6becfee0", checked := Tryd.checked }
namespace Rows
def none {H : Type} : Left H := { results := [], args := [] }

/- WHAT THE LISTED PACKAGE-LEVEL VARIABLES READ AS WHEN THE CALL BEGINS. Each datum BY PROGRAM (the guide's laid-datum.mjs) off the statement by which the dump's own 'gosem.cut.vars' lays the variable. In a bare row this is a premise. The card (YtcgnojefbalbbaaDoorCards.lean) ties it to the program's text. -/
def laid_metaprune_lambda_subs {H : Type} : DataW H := .agg [.lit (.int .i64 0), .lit (.int .i64 0), .lit (.int .i64 1), .lit (.int .i64 2), .lit (.int .i64 0), .lit (.int .i64 0)]

/-- 'metaprunetop.TopClash': WHATEVER THE INPUT: true; the input reads as it did. -/
def topClashSpec : ChangeSpec := { name := "topClash", fn := fun _ => fun
  | [d1, d2] => { results := [.lit (.bool true)], args := [d1, d2] }
  | _ => none }
def topClashRow : OpenClaim := { program := "ytcgnojefbalbbaadoor", sum := "4d4b62860eac74116e6b940fe35c51df623a3bcaf9a18681923edfea6becfee0", func := "metaprune/metaprunetop.TopClash", spec := "topClash", unfollowed := true, recurses := true, named := ["metaprune/lambda.subs"], apart := false, laid := [("metaprune/lambda.subs", laid_metaprune_lambda_subs)] }
def TopClashSaid : Prop := topClashRow.holds Tryd.pinned (OpenSpec.ofChange topClashSpec)

/-- ITS FALSE NEIGHBOUR: 'it returns false'. Refute it at one input. -/
def topClashWrong : ChangeSpec := { name := "topClash", fn := fun _ => fun
  | [d1, d2] => { results := [.lit (.bool false)], args := [d1, d2] }
  | _ => none }
def TopClashWrongFalsely : Prop := topClashRow.holds Tryd.pinned (OpenSpec.ofChange topClashWrong)

/-- 'metaprunetop.TopPrune': WHATEVER THE INPUT: true; the input reads as it did. -/
def topPruneSpec : ChangeSpec := { name := "topPrune", fn := fun _ => fun
  | [d1, d2, d3, d4] => { results := [.lit (.bool true)], args := [d1, d2, d3, d4] }
  | _ => none }
def topPruneRow : OpenClaim := { program := "ytcgnojefbalbbaadoor", sum := "4d4b62860eac74116e6b940fe35c51df623a3bcaf9a18681923edfea6becfee0", func := "metaprune/metaprunetop.TopPrune", spec := "topPrune", unfollowed := true, recurses := true, named := ["metaprune/lambda.subs"], apart := false, laid := [("metaprune/lambda.subs", laid_metaprune_lambda_subs)] }
def TopPruneSaid : Prop := topPruneRow.holds Tryd.pinned (OpenSpec.ofChange topPruneSpec)

/-- ITS FALSE NEIGHBOUR: 'it returns false'. Refute it at one input. -/
def topPruneWrong : ChangeSpec := { name := "topPrune", fn := fun _ => fun
  | [d1, d2, d3, d4] => { results := [.lit (.bool false)], args := [d1, d2, d3, d4] }
  | _ => none }
def TopPruneWrongFalsely : Prop := topPruneRow.holds Tryd.pinned (OpenSpec.ofChange topPruneWrong)

/- THE SECOND FORM. 'bulk': how many values and letters a reading holds, each counted each time it is reached (what is shared counts as often as it is met; a slice's spare places count too). A statement '..UptoSaid' is the law's where the arguments, and the package variables that the reading takes, are together of bulk at most 1048576: NARROWER than '..Said'. Prove '..Said' where nothing that the law and all that it calls make is longer than what came in: it says more and counts as full. Else prove '..UptoSaid'. A law counts once. -/
mutual
def uptoBulk {H : Type} : DataW H → Nat
  | .lit (.string bytes) => bytes.length + 1
  | .lit _ => 1
  | .nil => 1
  | .ptr d => uptoBulk d + 1
  | .slice elems spare => uptoBulkAll elems + uptoBulkAll spare + 1
  | .agg parts => uptoBulkAll parts + 1
  | .iface _ d => uptoBulk d + 1
  | .map entries => uptoBulkEntries entries + 1
  | .held _ => 1
def uptoBulkAll {H : Type} : List (DataW H) → Nat
  | [] => 0
  | d :: r => uptoBulk d + uptoBulkAll r
def uptoBulkEntries {H : Type} : List (Lit × DataW H) → Nat
  | [] => 0
  | x :: r => uptoBulkEntry x + uptoBulkEntries r
def uptoBulkEntry {H : Type} : Lit × DataW H → Nat
  | (.string bytes, d) => bytes.length + uptoBulk d + 1
  | (_, d) => uptoBulk d + 1
 end
def uptoSmall : (H : Type) → List (DataW H) → Bool := fun _ ds => decide (uptoBulkAll ds ≤ 1048576)
def OpenSpec.upto (s : _root_.Go.ChangeSpec) : _root_.Go.OpenSpec := { _root_.Go.OpenSpec.ofChange s with cond := some uptoSmall }

/-- 'metaprunetop.TopClash', WHERE WHAT IT READS IS OF BULK AT MOST 1048576: true; the input reads as it did. -/
def topClashUptoRow : OpenClaim := { program := "ytcgnojefbalbbaadoor", sum := "4d4b62860eac74116e6b940fe35c51df623a3bcaf9a18681923edfea6becfee0", func := "metaprune/metaprunetop.TopClash", spec := "topClash", unfollowed := true, recurses := true, named := ["metaprune/lambda.subs"], apart := false, laid := [("metaprune/lambda.subs", laid_metaprune_lambda_subs)], narrowed := true }
def TopClashUptoSaid : Prop := topClashUptoRow.holds Tryd.pinned (OpenSpec.upto topClashSpec)

/-- 'metaprunetop.TopPrune', WHERE WHAT IT READS IS OF BULK AT MOST 1048576: true; the input reads as it did. -/
def topPruneUptoRow : OpenClaim := { program := "ytcgnojefbalbbaadoor", sum := "4d4b62860eac74116e6b940fe35c51df623a3bcaf9a18681923edfea6becfee0", func := "metaprune/metaprunetop.TopPrune", spec := "topPrune", unfollowed := true, recurses := true, named := ["metaprune/lambda.subs"], apart := false, laid := [("metaprune/lambda.subs", laid_metaprune_lambda_subs)], narrowed := true }
def TopPruneUptoSaid : Prop := topPruneUptoRow.holds Tryd.pinned (OpenSpec.upto topPruneSpec)

end Rows
end Go.Proofs.YtcgnojefbalbbaaDoor
