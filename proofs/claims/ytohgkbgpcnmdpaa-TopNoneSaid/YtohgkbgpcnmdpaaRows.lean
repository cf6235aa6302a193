/-
  No cell of these rows narrows 'for every input' (looked for: loops, veiled, ifaces, maps, wideKeys, modest, calm, conditions, laid).
  DERIVED. THE GIVEN ROWS OF THIS SEAT. 4 by the template 'for every input the law returns true; each argument reads behind the call as it read before'; 0 by the template 'total and deterministic' (their statements: YtohgkbgpcnmdpaaTotals.lean).
  GIVEN WITH THE SEED: the statements are not yours to turn. If you find one false, say at which input.
  Laid BY PROGRAM, IN A SANDBOX (cutbox-rows.mjs): the forced cells as the released guide's own fill.sh prints them over the translation 7583b2400c2c28f1… (all of the seat's roots in one cut). By AI agents, Wed Nov 11 2026. No macro, syntax, notation, axiom, sorry.
-/
import Derived.Test.YtohgkbgpcnmdpaaChecked
import GoSem.Claim
import GoSem.ClaimJoined
import GoSem.ClaimMapViews
import Derived.JoinedTies
import Derived.KernelRfl
namespace Go.Proofs.Ytohgkbgpcnmdpaa
/- THE CELL 'sum', in the pinned program and in every row, IS THE sha256 OF THE DUMP (.gsa) THAT YtohgkbgpcnmdpaaProg.lean LOADS. Nothing in Lean hashes anything: it is a label: what it is worth is what the hold of that sum in a sandbox is worth. -/
noncomputable def Try.pinned : Pinned := { name := "ytohgkbgpcnmdpaa", sum := "7583b2400c2c28f1347e209583c3046b5fe31146e75ec098d932715c5cd2905e", checked := Try.checked }
namespace Rows
def none {H : Type} : Left H := { results := [], args := [] }

/-- 'metaprunelaw.TermParses': WHATEVER THE INPUT: true; the input reads as it did. -/
def termParsesSpec : ChangeSpec := { name := "termParses", fn := fun _ => fun
  | [d] => { results := [.lit (.bool true)], args := [d] }
  | _ => none }
def termParsesRow : OpenClaim := { program := "ytohgkbgpcnmdpaa", sum := "7583b2400c2c28f1347e209583c3046b5fe31146e75ec098d932715c5cd2905e", func := "metaprune/metaprunelaw.TermParses", spec := "termParses", unfollowed := true, recurses := true, apart := false }
def TermParsesSaid : Prop := termParsesRow.holds Try.pinned (OpenSpec.ofChange termParsesSpec)

/-- ITS FALSE NEIGHBOUR: 'it returns false'. Refute it at one input. -/
def termParsesWrong : ChangeSpec := { name := "termParses", fn := fun _ => fun
  | [d] => { results := [.lit (.bool false)], args := [d] }
  | _ => none }
def TermParsesWrongFalsely : Prop := termParsesRow.holds Try.pinned (OpenSpec.ofChange termParsesWrong)

/-- 'metaprunetop.TopText': WHATEVER THE INPUT: true; the input reads as it did. -/
def topTextSpec : ChangeSpec := { name := "topText", fn := fun _ => fun
  | [d1, d2, d3] => { results := [.lit (.bool true)], args := [d1, d2, d3] }
  | _ => none }
def topTextRow : OpenClaim := { program := "ytohgkbgpcnmdpaa", sum := "7583b2400c2c28f1347e209583c3046b5fe31146e75ec098d932715c5cd2905e", func := "metaprune/metaprunetop.TopText", spec := "topText", inPlace := ["internal/abi.NoEscape"], unfollowed := true, recurses := true, apart := false }
def TopTextSaid : Prop := topTextRow.holds Try.pinned (OpenSpec.ofChange topTextSpec)

/-- ITS FALSE NEIGHBOUR: 'it returns false'. Refute it at one input. -/
def topTextWrong : ChangeSpec := { name := "topText", fn := fun _ => fun
  | [d1, d2, d3] => { results := [.lit (.bool false)], args := [d1, d2, d3] }
  | _ => none }
def TopTextWrongFalsely : Prop := topTextRow.holds Try.pinned (OpenSpec.ofChange topTextWrong)

/-- 'metaprunetop.TopNone': WHATEVER THE INPUT: true; the input reads as it did. -/
def topNoneSpec : ChangeSpec := { name := "topNone", fn := fun _ => fun
  | [d1, d2] => { results := [.lit (.bool true)], args := [d1, d2] }
  | _ => none }
def topNoneRow : OpenClaim := { program := "ytohgkbgpcnmdpaa", sum := "7583b2400c2c28f1347e209583c3046b5fe31146e75ec098d932715c5cd2905e", func := "metaprune/metaprunetop.TopNone", spec := "topNone", unfollowed := true, recurses := true, apart := false }
def TopNoneSaid : Prop := topNoneRow.holds Try.pinned (OpenSpec.ofChange topNoneSpec)

/-- ITS FALSE NEIGHBOUR: 'it returns false'. Refute it at one input. -/
def topNoneWrong : ChangeSpec := { name := "topNone", fn := fun _ => fun
  | [d1, d2] => { results := [.lit (.bool false)], args := [d1, d2] }
  | _ => none }
def TopNoneWrongFalsely : Prop := topNoneRow.holds Try.pinned (OpenSpec.ofChange topNoneWrong)

/-- 'metaprunetop.TopRobinson': WHATEVER THE INPUT: true; the input reads as it did. -/
def topRobinsonSpec : ChangeSpec := { name := "topRobinson", fn := fun _ => fun
  | [d1, d2, d3] => { results := [.lit (.bool true)], args := [d1, d2, d3] }
  | _ => none }
def topRobinsonRow : OpenClaim := { program := "ytohgkbgpcnmdpaa", sum := "7583b2400c2c28f1347e209583c3046b5fe31146e75ec098d932715c5cd2905e", func := "metaprune/metaprunetop.TopRobinson", spec := "topRobinson", unfollowed := true, recurses := true, apart := false }
def TopRobinsonSaid : Prop := topRobinsonRow.holds Try.pinned (OpenSpec.ofChange topRobinsonSpec)

/-- ITS FALSE NEIGHBOUR: 'it returns false'. Refute it at one input. -/
def topRobinsonWrong : ChangeSpec := { name := "topRobinson", fn := fun _ => fun
  | [d1, d2, d3] => { results := [.lit (.bool false)], args := [d1, d2, d3] }
  | _ => none }
def TopRobinsonWrongFalsely : Prop := topRobinsonRow.holds Try.pinned (OpenSpec.ofChange topRobinsonWrong)

/- THE SECOND FORM. 'bulk': how many values and letters a reading holds, each counted each time it is reached (what is shared counts as often as it is met; a slice's spare places count too). A statement '..UptoSaid' is the law's where the arguments, and the package variables that the reading takes, are together of bulk at most 1048576: NARROWER than '..Said'. Prove '..Said' where nothing that the law and all that it calls make is longer than what came in: it says more and counts as full. Else prove '..UptoSaid'. A law counts once. -/
mutual
def uptoBulk {H : Type} : DataW H → Nat
  | .lit (.string bytes) => bytes.length + 1
  | .lit _ => 1
  | .nil => 1
  | .ptr d => uptoBulk d + 1
  | .slice elems spare => uptoBulkAll elems + uptoBulkAll spare + 1
  | .agg parts => uptoBulkAll parts + 1
  | .iface _ d => uptoBulk d + 1
  | .map entries => uptoBulkEntries entries + 1
  | .held _ => 1
def uptoBulkAll {H : Type} : List (DataW H) → Nat
  | [] => 0
  | d :: r => uptoBulk d + uptoBulkAll r
def uptoBulkEntries {H : Type} : List (Lit × DataW H) → Nat
  | [] => 0
  | x :: r => uptoBulkEntry x + uptoBulkEntries r
def uptoBulkEntry {H : Type} : Lit × DataW H → Nat
  | (.string bytes, d) => bytes.length + uptoBulk d + 1
  | (_, d) => uptoBulk d + 1
 end
def uptoSmall : (H : Type) → List (DataW H) → Bool := fun _ ds => decide (uptoBulkAll ds ≤ 1048576)
def OpenSpec.upto (s : _root_.Go.ChangeSpec) : _root_.Go.OpenSpec := { _root_.Go.OpenSpec.ofChange s with cond := some uptoSmall }

/-- 'metaprunelaw.TermParses', WHERE WHAT IT READS IS OF BULK AT MOST 1048576: true; the input reads as it did. -/
def termParsesUptoRow : OpenClaim := { program := "ytohgkbgpcnmdpaa", sum := "7583b2400c2c28f1347e209583c3046b5fe31146e75ec098d932715c5cd2905e", func := "metaprune/metaprunelaw.TermParses", spec := "termParses", unfollowed := true, recurses := true, apart := false, narrowed := true }
def TermParsesUptoSaid : Prop := termParsesUptoRow.holds Try.pinned (OpenSpec.upto termParsesSpec)

/-- 'metaprunetop.TopText', WHERE WHAT IT READS IS OF BULK AT MOST 1048576: true; the input reads as it did. -/
def topTextUptoRow : OpenClaim := { program := "ytohgkbgpcnmdpaa", sum := "7583b2400c2c28f1347e209583c3046b5fe31146e75ec098d932715c5cd2905e", func := "metaprune/metaprunetop.TopText", spec := "topText", inPlace := ["internal/abi.NoEscape"], unfollowed := true, recurses := true, apart := false, narrowed := true }
def TopTextUptoSaid : Prop := topTextUptoRow.holds Try.pinned (OpenSpec.upto topTextSpec)

/-- 'metaprunetop.TopNone', WHERE WHAT IT READS IS OF BULK AT MOST 1048576: true; the input reads as it did. -/
def topNoneUptoRow : OpenClaim := { program := "ytohgkbgpcnmdpaa", sum := "7583b2400c2c28f1347e209583c3046b5fe31146e75ec098d932715c5cd2905e", func := "metaprune/metaprunetop.TopNone", spec := "topNone", unfollowed := true, recurses := true, apart := false, narrowed := true }
def TopNoneUptoSaid : Prop := topNoneUptoRow.holds Try.pinned (OpenSpec.upto topNoneSpec)

/-- 'metaprunetop.TopRobinson', WHERE WHAT IT READS IS OF BULK AT MOST 1048576: true; the input reads as it did. -/
def topRobinsonUptoRow : OpenClaim := { program := "ytohgkbgpcnmdpaa", sum := "7583b2400c2c28f1347e209583c3046b5fe31146e75ec098d932715c5cd2905e", func := "metaprune/metaprunetop.TopRobinson", spec := "topRobinson", unfollowed := true, recurses := true, apart := false, narrowed := true }
def TopRobinsonUptoSaid : Prop := topRobinsonUptoRow.holds Try.pinned (OpenSpec.upto topRobinsonSpec)

end Rows
end Go.Proofs.Ytohgkbgpcnmdpaa
