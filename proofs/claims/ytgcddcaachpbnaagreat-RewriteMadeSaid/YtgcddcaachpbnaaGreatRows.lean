/-
  NARROWER THAN 'FOR EVERY INPUT', by the rows' own cells (each row's printed sentence says how): RewriteReach: loops.
  DERIVED. THE GIVEN ROWS OF THIS SEAT. 2 by the template 'for every input the law returns true; each argument reads behind the call as it read before'; 0 by the template 'total and deterministic' (their statements: YtgcddcaachpbnaaGreatTotals.lean).
  GIVEN WITH THE SEED: the statements are not yours to turn. If you find one false, say at which input.
  Laid BY PROGRAM, IN A SANDBOX (cutbox-rows.mjs): the forced cells as the released guide's own fill.sh prints them over the translation aeb9e1f928b8de08… (all of the seat's roots in one cut). By AI agents, Wed Nov 11 2026. No macro, syntax, notation, axiom, sorry.
-/
import Derived.Test.YtgcddcaachpbnaaGreatChecked
import GoSem.Claim
import GoSem.ClaimJoined
import GoSem.ClaimMapViews
import Derived.JoinedTies
import Derived.KernelRfl
namespace Go.Proofs.YtgcddcaachpbnaaGreat
/- THE CELL 'sum', in the pinned program and in every row, IS THE sha256 OF THE DUMP (.gsa) THAT YtgcddcaachpbnaaGreatProg.lean LOADS. Nothing in Lean hashes anything: it is a label: what it is worth is what the hold of that sum in a sandbox is worth. -/
noncomputable def Tryz.pinned : Pinned := { name := "ytgcddcaachpbnaagreat", sum := "aeb9e1f928b8de08d12303b1973d79150ef9925f75475cff0753ffc67e23cf1e", checked := Tryz.checked }
namespace Rows
def none {H : Type} : Left H := { results := [], args := [] }

/-- 'metaprunelaw.RewriteReach': WHATEVER THE INPUT: true; the input reads as it did. -/
def rewriteReachSpec : ChangeSpec := { name := "rewriteReach", fn := fun _ => fun
  | [d1, d2] => { results := [.lit (.bool true)], args := [d1, d2] }
  | _ => none }
def rewriteReachRow : OpenClaim := { program := "ytgcddcaachpbnaagreat", sum := "aeb9e1f928b8de08d12303b1973d79150ef9925f75475cff0753ffc67e23cf1e", func := "metaprune/metaprunelaw.RewriteReach", spec := "rewriteReach", inPlace := ["internal/abi.NoEscape"], unfollowed := true, recurses := true, loops := true, apart := false }
def RewriteReachSaid : Prop := rewriteReachRow.holds Tryz.pinned (OpenSpec.ofChange rewriteReachSpec)

/-- ITS FALSE NEIGHBOUR: 'it returns false'. Refute it at one input. -/
def rewriteReachWrong : ChangeSpec := { name := "rewriteReach", fn := fun _ => fun
  | [d1, d2] => { results := [.lit (.bool false)], args := [d1, d2] }
  | _ => none }
def RewriteReachWrongFalsely : Prop := rewriteReachRow.holds Tryz.pinned (OpenSpec.ofChange rewriteReachWrong)

/-- 'metaprunelaw.RewriteMade': WHATEVER THE INPUT: true; the input reads as it did. -/
def rewriteMadeSpec : ChangeSpec := { name := "rewriteMade", fn := fun _ => fun
  | [d1, d2, d3, d4] => { results := [.lit (.bool true)], args := [d1, d2, d3, d4] }
  | _ => none }
def rewriteMadeRow : OpenClaim := { program := "ytgcddcaachpbnaagreat", sum := "aeb9e1f928b8de08d12303b1973d79150ef9925f75475cff0753ffc67e23cf1e", func := "metaprune/metaprunelaw.RewriteMade", spec := "rewriteMade", inPlace := ["internal/abi.NoEscape"], unfollowed := true, recurses := true, apart := false }
def RewriteMadeSaid : Prop := rewriteMadeRow.holds Tryz.pinned (OpenSpec.ofChange rewriteMadeSpec)

/-- ITS FALSE NEIGHBOUR: 'it returns false'. Refute it at one input. -/
def rewriteMadeWrong : ChangeSpec := { name := "rewriteMade", fn := fun _ => fun
  | [d1, d2, d3, d4] => { results := [.lit (.bool false)], args := [d1, d2, d3, d4] }
  | _ => none }
def RewriteMadeWrongFalsely : Prop := rewriteMadeRow.holds Tryz.pinned (OpenSpec.ofChange rewriteMadeWrong)

/- THE SECOND FORM. 'bulk': how many values and letters a reading holds, each counted each time it is reached (what is shared counts as often as it is met; a slice's spare places count too). A statement '..UptoSaid' is the law's where the arguments, and the package variables that the reading takes, are together of bulk at most 1048576: NARROWER than '..Said'. Prove '..Said' where nothing that the law and all that it calls make is longer than what came in: it says more and counts as full. Else prove '..UptoSaid'. A law counts once. -/
mutual
def uptoBulk {H : Type} : DataW H → Nat
  | .lit (.string bytes) => bytes.length + 1
  | .lit _ => 1
  | .nil => 1
  | .ptr d => uptoBulk d + 1
  | .slice elems spare => uptoBulkAll elems + uptoBulkAll spare + 1
  | .agg parts => uptoBulkAll parts + 1
  | .iface _ d => uptoBulk d + 1
  | .map entries => uptoBulkEntries entries + 1
  | .held _ => 1
def uptoBulkAll {H : Type} : List (DataW H) → Nat
  | [] => 0
  | d :: r => uptoBulk d + uptoBulkAll r
def uptoBulkEntries {H : Type} : List (Lit × DataW H) → Nat
  | [] => 0
  | x :: r => uptoBulkEntry x + uptoBulkEntries r
def uptoBulkEntry {H : Type} : Lit × DataW H → Nat
  | (.string bytes, d) => bytes.length + uptoBulk d + 1
  | (_, d) => uptoBulk d + 1
 end
def uptoSmall : (H : Type) → List (DataW H) → Bool := fun _ ds => decide (uptoBulkAll ds ≤ 1048576)
def OpenSpec.upto (s : _root_.Go.ChangeSpec) : _root_.Go.OpenSpec := { _root_.Go.OpenSpec.ofChange s with cond := some uptoSmall }

/-- 'metaprunelaw.RewriteReach', WHERE WHAT IT READS IS OF BULK AT MOST 1048576: true; the input reads as it did. -/
def rewriteReachUptoRow : OpenClaim := { program := "ytgcddcaachpbnaagreat", sum := "aeb9e1f928b8de08d12303b1973d79150ef9925f75475cff0753ffc67e23cf1e", func := "metaprune/metaprunelaw.RewriteReach", spec := "rewriteReach", inPlace := ["internal/abi.NoEscape"], unfollowed := true, recurses := true, loops := true, apart := false, narrowed := true }
def RewriteReachUptoSaid : Prop := rewriteReachUptoRow.holds Tryz.pinned (OpenSpec.upto rewriteReachSpec)

/-- 'metaprunelaw.RewriteMade', WHERE WHAT IT READS IS OF BULK AT MOST 1048576: true; the input reads as it did. -/
def rewriteMadeUptoRow : OpenClaim := { program := "ytgcddcaachpbnaagreat", sum := "aeb9e1f928b8de08d12303b1973d79150ef9925f75475cff0753ffc67e23cf1e", func := "metaprune/metaprunelaw.RewriteMade", spec := "rewriteMade", inPlace := ["internal/abi.NoEscape"], unfollowed := true, recurses := true, apart := false, narrowed := true }
def RewriteMadeUptoSaid : Prop := rewriteMadeUptoRow.holds Tryz.pinned (OpenSpec.upto rewriteMadeSpec)

end Rows
end Go.Proofs.YtgcddcaachpbnaaGreat
