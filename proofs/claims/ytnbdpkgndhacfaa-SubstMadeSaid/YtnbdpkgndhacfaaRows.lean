/-
  NARROWER THAN 'FOR EVERY INPUT', by the rows' own cells (each row's printed sentence says how): SubstThen: loops · UnifySays: loops.
  DERIVED. THE GIVEN ROWS OF THIS SEAT. 4 by the template 'for every input the law returns true; each argument reads behind the call as it read before'; 0 by the template 'total and deterministic' (their statements: YtnbdpkgndhacfaaTotals.lean).
  GIVEN WITH THE SEED: the statements are not yours to turn. If you find one false, say at which input.
  Laid BY PROGRAM, IN A SANDBOX (cutbox-rows.mjs): the forced cells as the released guide's own fill.sh prints them over the translation cacf29d0f6bafe74… (all of the seat's roots in one cut). By AI agents, Wed Nov 11 2026. No macro, syntax, notation, axiom, sorry.
-/
import Derived.Test.YtnbdpkgndhacfaaChecked
import GoSem.Claim
import GoSem.ClaimJoined
import GoSem.ClaimMapViews
import Derived.JoinedTies
import Derived.KernelRfl
namespace Go.Proofs.Ytnbdpkgndhacfaa
/- THE CELL 'sum', in the pinned program and in every row, IS THE sha256 OF THE DUMP (.gsa) THAT YtnbdpkgndhacfaaProg.lean LOADS. Nothing in Lean hashes anything: it is a label: what it is worth is what the hold of that sum in a sandbox is worth. -/
noncomputable def Try.pinned : Pinned := { name := "ytnbdpkgndhacfaa", sum := "cacf29d0f6bafe741831e5ea6a9644490935e37cce32d571a2f949943022eb68", checked := Try.checked }
namespace Rows
def none {H : Type} : Left H := { results := [], args := [] }

/-- 'metaprunelaw.SubstThen': WHATEVER THE INPUT: true; the input reads as it did. -/
def substThenSpec : ChangeSpec := { name := "substThen", fn := fun _ => fun
  | [d1, d2] => { results := [.lit (.bool true)], args := [d1, d2] }
  | _ => none }
def substThenRow : OpenClaim := { program := "ytnbdpkgndhacfaa", sum := "cacf29d0f6bafe741831e5ea6a9644490935e37cce32d571a2f949943022eb68", func := "metaprune/metaprunelaw.SubstThen", spec := "substThen", unfollowed := true, recurses := true, loops := true, apart := false }
def SubstThenSaid : Prop := substThenRow.holds Try.pinned (OpenSpec.ofChange substThenSpec)

/-- ITS FALSE NEIGHBOUR: 'it returns false'. Refute it at one input. -/
def substThenWrong : ChangeSpec := { name := "substThen", fn := fun _ => fun
  | [d1, d2] => { results := [.lit (.bool false)], args := [d1, d2] }
  | _ => none }
def SubstThenWrongFalsely : Prop := substThenRow.holds Try.pinned (OpenSpec.ofChange substThenWrong)

/-- 'metaprunelaw.UnifySays': WHATEVER THE INPUT: true; the input reads as it did. -/
def unifySaysSpec : ChangeSpec := { name := "unifySays", fn := fun _ => fun
  | [d] => { results := [.lit (.bool true)], args := [d] }
  | _ => none }
def unifySaysRow : OpenClaim := { program := "ytnbdpkgndhacfaa", sum := "cacf29d0f6bafe741831e5ea6a9644490935e37cce32d571a2f949943022eb68", func := "metaprune/metaprunelaw.UnifySays", spec := "unifySays", unfollowed := true, recurses := true, loops := true, apart := false }
def UnifySaysSaid : Prop := unifySaysRow.holds Try.pinned (OpenSpec.ofChange unifySaysSpec)

/-- ITS FALSE NEIGHBOUR: 'it returns false'. Refute it at one input. -/
def unifySaysWrong : ChangeSpec := { name := "unifySays", fn := fun _ => fun
  | [d] => { results := [.lit (.bool false)], args := [d] }
  | _ => none }
def UnifySaysWrongFalsely : Prop := unifySaysRow.holds Try.pinned (OpenSpec.ofChange unifySaysWrong)

/-- 'metaprunelaw.UnifyMade': WHATEVER THE INPUT: true; the input reads as it did. -/
def unifyMadeSpec : ChangeSpec := { name := "unifyMade", fn := fun _ => fun
  | [d1, d2, d3] => { results := [.lit (.bool true)], args := [d1, d2, d3] }
  | _ => none }
def unifyMadeRow : OpenClaim := { program := "ytnbdpkgndhacfaa", sum := "cacf29d0f6bafe741831e5ea6a9644490935e37cce32d571a2f949943022eb68", func := "metaprune/metaprunelaw.UnifyMade", spec := "unifyMade", unfollowed := true, recurses := true, apart := false }
def UnifyMadeSaid : Prop := unifyMadeRow.holds Try.pinned (OpenSpec.ofChange unifyMadeSpec)

/-- ITS FALSE NEIGHBOUR: 'it returns false'. Refute it at one input. -/
def unifyMadeWrong : ChangeSpec := { name := "unifyMade", fn := fun _ => fun
  | [d1, d2, d3] => { results := [.lit (.bool false)], args := [d1, d2, d3] }
  | _ => none }
def UnifyMadeWrongFalsely : Prop := unifyMadeRow.holds Try.pinned (OpenSpec.ofChange unifyMadeWrong)

/-- 'metaprunelaw.SubstMade': WHATEVER THE INPUT: true; the input reads as it did. -/
def substMadeSpec : ChangeSpec := { name := "substMade", fn := fun _ => fun
  | [d1, d2, d3] => { results := [.lit (.bool true)], args := [d1, d2, d3] }
  | _ => none }
def substMadeRow : OpenClaim := { program := "ytnbdpkgndhacfaa", sum := "cacf29d0f6bafe741831e5ea6a9644490935e37cce32d571a2f949943022eb68", func := "metaprune/metaprunelaw.SubstMade", spec := "substMade", unfollowed := true, recurses := true, apart := false }
def SubstMadeSaid : Prop := substMadeRow.holds Try.pinned (OpenSpec.ofChange substMadeSpec)

/-- ITS FALSE NEIGHBOUR: 'it returns false'. Refute it at one input. -/
def substMadeWrong : ChangeSpec := { name := "substMade", fn := fun _ => fun
  | [d1, d2, d3] => { results := [.lit (.bool false)], args := [d1, d2, d3] }
  | _ => none }
def SubstMadeWrongFalsely : Prop := substMadeRow.holds Try.pinned (OpenSpec.ofChange substMadeWrong)

/- THE SECOND FORM. 'bulk': how many values and letters a reading holds, each counted each time it is reached (what is shared counts as often as it is met; a slice's spare places count too). A statement '..UptoSaid' is the law's where the arguments, and the package variables that the reading takes, are together of bulk at most 1048576: NARROWER than '..Said'. Prove '..Said' where nothing that the law and all that it calls make is longer than what came in: it says more and counts as full. Else prove '..UptoSaid'. A law counts once. -/
mutual
def uptoBulk {H : Type} : DataW H → Nat
  | .lit (.string bytes) => bytes.length + 1
  | .lit _ => 1
  | .nil => 1
  | .ptr d => uptoBulk d + 1
  | .slice elems spare => uptoBulkAll elems + uptoBulkAll spare + 1
  | .agg parts => uptoBulkAll parts + 1
  | .iface _ d => uptoBulk d + 1
  | .map entries => uptoBulkEntries entries + 1
  | .held _ => 1
def uptoBulkAll {H : Type} : List (DataW H) → Nat
  | [] => 0
  | d :: r => uptoBulk d + uptoBulkAll r
def uptoBulkEntries {H : Type} : List (Lit × DataW H) → Nat
  | [] => 0
  | x :: r => uptoBulkEntry x + uptoBulkEntries r
def uptoBulkEntry {H : Type} : Lit × DataW H → Nat
  | (.string bytes, d) => bytes.length + uptoBulk d + 1
  | (_, d) => uptoBulk d + 1
 end
def uptoSmall : (H : Type) → List (DataW H) → Bool := fun _ ds => decide (uptoBulkAll ds ≤ 1048576)
def OpenSpec.upto (s : _root_.Go.ChangeSpec) : _root_.Go.OpenSpec := { _root_.Go.OpenSpec.ofChange s with cond := some uptoSmall }

/-- 'metaprunelaw.SubstThen', WHERE WHAT IT READS IS OF BULK AT MOST 1048576: true; the input reads as it did. -/
def substThenUptoRow : OpenClaim := { program := "ytnbdpkgndhacfaa", sum := "cacf29d0f6bafe741831e5ea6a9644490935e37cce32d571a2f949943022eb68", func := "metaprune/metaprunelaw.SubstThen", spec := "substThen", unfollowed := true, recurses := true, loops := true, apart := false, narrowed := true }
def SubstThenUptoSaid : Prop := substThenUptoRow.holds Try.pinned (OpenSpec.upto substThenSpec)

/-- 'metaprunelaw.UnifySays', WHERE WHAT IT READS IS OF BULK AT MOST 1048576: true; the input reads as it did. -/
def unifySaysUptoRow : OpenClaim := { program := "ytnbdpkgndhacfaa", sum := "cacf29d0f6bafe741831e5ea6a9644490935e37cce32d571a2f949943022eb68", func := "metaprune/metaprunelaw.UnifySays", spec := "unifySays", unfollowed := true, recurses := true, loops := true, apart := false, narrowed := true }
def UnifySaysUptoSaid : Prop := unifySaysUptoRow.holds Try.pinned (OpenSpec.upto unifySaysSpec)

/-- 'metaprunelaw.UnifyMade', WHERE WHAT IT READS IS OF BULK AT MOST 1048576: true; the input reads as it did. -/
def unifyMadeUptoRow : OpenClaim := { program := "ytnbdpkgndhacfaa", sum := "cacf29d0f6bafe741831e5ea6a9644490935e37cce32d571a2f949943022eb68", func := "metaprune/metaprunelaw.UnifyMade", spec := "unifyMade", unfollowed := true, recurses := true, apart := false, narrowed := true }
def UnifyMadeUptoSaid : Prop := unifyMadeUptoRow.holds Try.pinned (OpenSpec.upto unifyMadeSpec)

/-- 'metaprunelaw.SubstMade', WHERE WHAT IT READS IS OF BULK AT MOST 1048576: true; the input reads as it did. -/
def substMadeUptoRow : OpenClaim := { program := "ytnbdpkgndhacfaa", sum := "cacf29d0f6bafe741831e5ea6a9644490935e37cce32d571a2f949943022eb68", func := "metaprune/metaprunelaw.SubstMade", spec := "substMade", unfollowed := true, recurses := true, apart := false, narrowed := true }
def SubstMadeUptoSaid : Prop := substMadeUptoRow.holds Try.pinned (OpenSpec.upto substMadeSpec)

end Rows
end Go.Proofs.Ytnbdpkgndhacfaa
