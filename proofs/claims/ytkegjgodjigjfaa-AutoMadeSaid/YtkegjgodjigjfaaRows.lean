/-
  No cell of these rows narrows 'for every input' (looked for: loops, veiled, ifaces, maps, wideKeys, modest, calm, conditions, laid).
  DERIVED. THE GIVEN ROWS OF THIS SEAT. 4 by the template 'for every input the law returns true; each argument reads behind the call as it read before'; 0 by the template 'total and deterministic' (their statements: YtkegjgodjigjfaaTotals.lean).
  GIVEN WITH THE SEED: the statements are not yours to turn. If you find one false, say at which input.
  Laid BY PROGRAM, IN A SANDBOX (cutbox-rows.mjs): the forced cells as the released guide's own fill.sh prints them over the translation 7070378d3ad73ab1… (all of the seat's roots in one cut). By AI agents, Wed Nov 11 2026. No macro, syntax, notation, axiom, sorry.
-/
import Derived.Test.YtkegjgodjigjfaaChecked
import GoSem.Claim
import GoSem.ClaimJoined
import GoSem.ClaimMapViews
import Derived.JoinedTies
import Derived.KernelRfl
namespace Go.Proofs.Ytkegjgodjigjfaa
/- THE CELL 'sum', in the pinned program and in every row, IS THE sha256 OF THE DUMP (.gsa) THAT YtkegjgodjigjfaaProg.lean LOADS. Nothing in Lean hashes anything: it is a label: what it is worth is what the hold of that sum in a sandbox is worth. -/
noncomputable def Try.pinned : Pinned := { name := "ytkegjgodjigjfaa", sum := "7070378d3ad73ab16d27d6e7c9f580f3d4cef1419232ca151ecaf3c788a0a309", checked := Try.checked }
namespace Rows
def none {H : Type} : Left H := { results := [], args := [] }

/-- 'metaprunelaw.AutoKinds': WHATEVER THE INPUT: true; the input reads as it did. -/
def autoKindsSpec : ChangeSpec := { name := "autoKinds", fn := fun _ => fun
  | [d1, d2] => { results := [.lit (.bool true)], args := [d1, d2] }
  | _ => none }
def autoKindsRow : OpenClaim := { program := "ytkegjgodjigjfaa", sum := "7070378d3ad73ab16d27d6e7c9f580f3d4cef1419232ca151ecaf3c788a0a309", func := "metaprune/metaprunelaw.AutoKinds", spec := "autoKinds", unfollowed := true, recurses := true, plainKeys := false, apart := false }
def AutoKindsSaid : Prop := autoKindsRow.holds Try.pinned (OpenSpec.ofChange autoKindsSpec)

/-- ITS FALSE NEIGHBOUR: 'it returns false'. Refute it at one input. -/
def autoKindsWrong : ChangeSpec := { name := "autoKinds", fn := fun _ => fun
  | [d1, d2] => { results := [.lit (.bool false)], args := [d1, d2] }
  | _ => none }
def AutoKindsWrongFalsely : Prop := autoKindsRow.holds Try.pinned (OpenSpec.ofChange autoKindsWrong)

/-- 'metaprunelaw.AutoMade': WHATEVER THE INPUT: true; the input reads as it did. -/
def autoMadeSpec : ChangeSpec := { name := "autoMade", fn := fun _ => fun
  | [d1, d2, d3, d4] => { results := [.lit (.bool true)], args := [d1, d2, d3, d4] }
  | _ => none }
def autoMadeRow : OpenClaim := { program := "ytkegjgodjigjfaa", sum := "7070378d3ad73ab16d27d6e7c9f580f3d4cef1419232ca151ecaf3c788a0a309", func := "metaprune/metaprunelaw.AutoMade", spec := "autoMade", inPlace := ["internal/abi.NoEscape"], unfollowed := true, recurses := true, plainKeys := false, apart := false }
def AutoMadeSaid : Prop := autoMadeRow.holds Try.pinned (OpenSpec.ofChange autoMadeSpec)

/-- ITS FALSE NEIGHBOUR: 'it returns false'. Refute it at one input. -/
def autoMadeWrong : ChangeSpec := { name := "autoMade", fn := fun _ => fun
  | [d1, d2, d3, d4] => { results := [.lit (.bool false)], args := [d1, d2, d3, d4] }
  | _ => none }
def AutoMadeWrongFalsely : Prop := autoMadeRow.holds Try.pinned (OpenSpec.ofChange autoMadeWrong)

/-- 'metaprunetop.TopNerode': WHATEVER THE INPUT: true; the input reads as it did. -/
def topNerodeSpec : ChangeSpec := { name := "topNerode", fn := fun _ => fun
  | [d1, d2, d3] => { results := [.lit (.bool true)], args := [d1, d2, d3] }
  | _ => none }
def topNerodeRow : OpenClaim := { program := "ytkegjgodjigjfaa", sum := "7070378d3ad73ab16d27d6e7c9f580f3d4cef1419232ca151ecaf3c788a0a309", func := "metaprune/metaprunetop.TopNerode", spec := "topNerode", unfollowed := true, recurses := true, plainKeys := false, apart := false }
def TopNerodeSaid : Prop := topNerodeRow.holds Try.pinned (OpenSpec.ofChange topNerodeSpec)

/-- ITS FALSE NEIGHBOUR: 'it returns false'. Refute it at one input. -/
def topNerodeWrong : ChangeSpec := { name := "topNerode", fn := fun _ => fun
  | [d1, d2, d3] => { results := [.lit (.bool false)], args := [d1, d2, d3] }
  | _ => none }
def TopNerodeWrongFalsely : Prop := topNerodeRow.holds Try.pinned (OpenSpec.ofChange topNerodeWrong)

/-- 'metaprunetop.TopWithin': WHATEVER THE INPUT: true; the input reads as it did. -/
def topWithinSpec : ChangeSpec := { name := "topWithin", fn := fun _ => fun
  | [d1, d2, d3, d4] => { results := [.lit (.bool true)], args := [d1, d2, d3, d4] }
  | _ => none }
def topWithinRow : OpenClaim := { program := "ytkegjgodjigjfaa", sum := "7070378d3ad73ab16d27d6e7c9f580f3d4cef1419232ca151ecaf3c788a0a309", func := "metaprune/metaprunetop.TopWithin", spec := "topWithin", unfollowed := true, recurses := true, plainKeys := false, apart := false }
def TopWithinSaid : Prop := topWithinRow.holds Try.pinned (OpenSpec.ofChange topWithinSpec)

/-- ITS FALSE NEIGHBOUR: 'it returns false'. Refute it at one input. -/
def topWithinWrong : ChangeSpec := { name := "topWithin", fn := fun _ => fun
  | [d1, d2, d3, d4] => { results := [.lit (.bool false)], args := [d1, d2, d3, d4] }
  | _ => none }
def TopWithinWrongFalsely : Prop := topWithinRow.holds Try.pinned (OpenSpec.ofChange topWithinWrong)

/- THE SECOND FORM. 'bulk': how many values and letters a reading holds, each counted each time it is reached (what is shared counts as often as it is met; a slice's spare places count too). A statement '..UptoSaid' is the law's where the arguments, and the package variables that the reading takes, are together of bulk at most 1048576: NARROWER than '..Said'. Prove '..Said' where nothing that the law and all that it calls make is longer than what came in: it says more and counts as full. Else prove '..UptoSaid'. A law counts once. -/
mutual
def uptoBulk {H : Type} : DataW H → Nat
  | .lit (.string bytes) => bytes.length + 1
  | .lit _ => 1
  | .nil => 1
  | .ptr d => uptoBulk d + 1
  | .slice elems spare => uptoBulkAll elems + uptoBulkAll spare + 1
  | .agg parts => uptoBulkAll parts + 1
  | .iface _ d => uptoBulk d + 1
  | .map entries => uptoBulkEntries entries + 1
  | .held _ => 1
def uptoBulkAll {H : Type} : List (DataW H) → Nat
  | [] => 0
  | d :: r => uptoBulk d + uptoBulkAll r
def uptoBulkEntries {H : Type} : List (Lit × DataW H) → Nat
  | [] => 0
  | x :: r => uptoBulkEntry x + uptoBulkEntries r
def uptoBulkEntry {H : Type} : Lit × DataW H → Nat
  | (.string bytes, d) => bytes.length + uptoBulk d + 1
  | (_, d) => uptoBulk d + 1
 end
def uptoSmall : (H : Type) → List (DataW H) → Bool := fun _ ds => decide (uptoBulkAll ds ≤ 1048576)
def OpenSpec.upto (s : _root_.Go.ChangeSpec) : _root_.Go.OpenSpec := { _root_.Go.OpenSpec.ofChange s with cond := some uptoSmall }

/-- 'metaprunelaw.AutoKinds', WHERE WHAT IT READS IS OF BULK AT MOST 1048576: true; the input reads as it did. -/
def autoKindsUptoRow : OpenClaim := { program := "ytkegjgodjigjfaa", sum := "7070378d3ad73ab16d27d6e7c9f580f3d4cef1419232ca151ecaf3c788a0a309", func := "metaprune/metaprunelaw.AutoKinds", spec := "autoKinds", unfollowed := true, recurses := true, plainKeys := false, apart := false, narrowed := true }
def AutoKindsUptoSaid : Prop := autoKindsUptoRow.holds Try.pinned (OpenSpec.upto autoKindsSpec)

/-- 'metaprunelaw.AutoMade', WHERE WHAT IT READS IS OF BULK AT MOST 1048576: true; the input reads as it did. -/
def autoMadeUptoRow : OpenClaim := { program := "ytkegjgodjigjfaa", sum := "7070378d3ad73ab16d27d6e7c9f580f3d4cef1419232ca151ecaf3c788a0a309", func := "metaprune/metaprunelaw.AutoMade", spec := "autoMade", inPlace := ["internal/abi.NoEscape"], unfollowed := true, recurses := true, plainKeys := false, apart := false, narrowed := true }
def AutoMadeUptoSaid : Prop := autoMadeUptoRow.holds Try.pinned (OpenSpec.upto autoMadeSpec)

/-- 'metaprunetop.TopNerode', WHERE WHAT IT READS IS OF BULK AT MOST 1048576: true; the input reads as it did. -/
def topNerodeUptoRow : OpenClaim := { program := "ytkegjgodjigjfaa", sum := "7070378d3ad73ab16d27d6e7c9f580f3d4cef1419232ca151ecaf3c788a0a309", func := "metaprune/metaprunetop.TopNerode", spec := "topNerode", unfollowed := true, recurses := true, plainKeys := false, apart := false, narrowed := true }
def TopNerodeUptoSaid : Prop := topNerodeUptoRow.holds Try.pinned (OpenSpec.upto topNerodeSpec)

/-- 'metaprunetop.TopWithin', WHERE WHAT IT READS IS OF BULK AT MOST 1048576: true; the input reads as it did. -/
def topWithinUptoRow : OpenClaim := { program := "ytkegjgodjigjfaa", sum := "7070378d3ad73ab16d27d6e7c9f580f3d4cef1419232ca151ecaf3c788a0a309", func := "metaprune/metaprunetop.TopWithin", spec := "topWithin", unfollowed := true, recurses := true, plainKeys := false, apart := false, narrowed := true }
def TopWithinUptoSaid : Prop := topWithinUptoRow.holds Try.pinned (OpenSpec.upto topWithinSpec)

end Rows
end Go.Proofs.Ytkegjgodjigjfaa
