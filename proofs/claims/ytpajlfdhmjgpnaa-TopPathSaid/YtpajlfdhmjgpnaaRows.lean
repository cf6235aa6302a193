/-
  NARROWER THAN 'FOR EVERY INPUT', by the rows' own cells (each row's printed sentence says how): MatchSays: loops · OrderSays: loops.
  DERIVED. THE GIVEN ROWS OF THIS SEAT. 7 by the template 'for every input the law returns true; each argument reads behind the call as it read before'; 0 by the template 'total and deterministic' (their statements: YtpajlfdhmjgpnaaTotals.lean).
  GIVEN WITH THE SEED: the statements are not yours to turn. If you find one false, say at which input.
  Laid BY PROGRAM, IN A SANDBOX (cutbox-rows.mjs): the forced cells as the released guide's own fill.sh prints them over the translation 7a62f88537d71706… (all of the seat's roots in one cut). By AI agents, Wed Nov 11 2026. No macro, syntax, notation, axiom, sorry.
-/
import Derived.Test.YtpajlfdhmjgpnaaChecked
import GoSem.Claim
import GoSem.ClaimJoined
import GoSem.ClaimMapViews
import Derived.JoinedTies
import Derived.KernelRfl
namespace Go.Proofs.Ytpajlfdhmjgpnaa
/- THE CELL 'sum', in the pinned program and in every row, IS THE sha256 OF THE DUMP (.gsa) THAT YtpajlfdhmjgpnaaProg.lean LOADS. Nothing in Lean hashes anything: it is a label: what it is worth is what the hold of that sum in a sandbox is worth. -/
noncomputable def Try.pinned : Pinned := { name := "ytpajlfdhmjgpnaa", sum := "7a62f88537d7170606e8bf71cac66baa74de19e24ea72c43ee0440afb3f65a2f", checked := Try.checked }
namespace Rows
def none {H : Type} : Left H := { results := [], args := [] }

/-- 'metaprunelaw.MatchSays': WHATEVER THE INPUT: true; the input reads as it did. -/
def matchSaysSpec : ChangeSpec := { name := "matchSays", fn := fun _ => fun
  | [d1, d2] => { results := [.lit (.bool true)], args := [d1, d2] }
  | _ => none }
def matchSaysRow : OpenClaim := { program := "ytpajlfdhmjgpnaa", sum := "7a62f88537d7170606e8bf71cac66baa74de19e24ea72c43ee0440afb3f65a2f", func := "metaprune/metaprunelaw.MatchSays", spec := "matchSays", unfollowed := true, recurses := true, loops := true, plainKeys := false, apart := false }
def MatchSaysSaid : Prop := matchSaysRow.holds Try.pinned (OpenSpec.ofChange matchSaysSpec)

/-- ITS FALSE NEIGHBOUR: 'it returns false'. Refute it at one input. -/
def matchSaysWrong : ChangeSpec := { name := "matchSays", fn := fun _ => fun
  | [d1, d2] => { results := [.lit (.bool false)], args := [d1, d2] }
  | _ => none }
def MatchSaysWrongFalsely : Prop := matchSaysRow.holds Try.pinned (OpenSpec.ofChange matchSaysWrong)

/-- 'metaprunelaw.MatchMade': WHATEVER THE INPUT: true; the input reads as it did. -/
def matchMadeSpec : ChangeSpec := { name := "matchMade", fn := fun _ => fun
  | [d1, d2, d3] => { results := [.lit (.bool true)], args := [d1, d2, d3] }
  | _ => none }
def matchMadeRow : OpenClaim := { program := "ytpajlfdhmjgpnaa", sum := "7a62f88537d7170606e8bf71cac66baa74de19e24ea72c43ee0440afb3f65a2f", func := "metaprune/metaprunelaw.MatchMade", spec := "matchMade", unfollowed := true, recurses := true, plainKeys := false, apart := false }
def MatchMadeSaid : Prop := matchMadeRow.holds Try.pinned (OpenSpec.ofChange matchMadeSpec)

/-- ITS FALSE NEIGHBOUR: 'it returns false'. Refute it at one input. -/
def matchMadeWrong : ChangeSpec := { name := "matchMade", fn := fun _ => fun
  | [d1, d2, d3] => { results := [.lit (.bool false)], args := [d1, d2, d3] }
  | _ => none }
def MatchMadeWrongFalsely : Prop := matchMadeRow.holds Try.pinned (OpenSpec.ofChange matchMadeWrong)

/-- 'metaprunetop.TopMatch': WHATEVER THE INPUT: true; the input reads as it did. -/
def topMatchSpec : ChangeSpec := { name := "topMatch", fn := fun _ => fun
  | [d1, d2] => { results := [.lit (.bool true)], args := [d1, d2] }
  | _ => none }
def topMatchRow : OpenClaim := { program := "ytpajlfdhmjgpnaa", sum := "7a62f88537d7170606e8bf71cac66baa74de19e24ea72c43ee0440afb3f65a2f", func := "metaprune/metaprunetop.TopMatch", spec := "topMatch", unfollowed := true, recurses := true, plainKeys := false, apart := false }
def TopMatchSaid : Prop := topMatchRow.holds Try.pinned (OpenSpec.ofChange topMatchSpec)

/-- ITS FALSE NEIGHBOUR: 'it returns false'. Refute it at one input. -/
def topMatchWrong : ChangeSpec := { name := "topMatch", fn := fun _ => fun
  | [d1, d2] => { results := [.lit (.bool false)], args := [d1, d2] }
  | _ => none }
def TopMatchWrongFalsely : Prop := topMatchRow.holds Try.pinned (OpenSpec.ofChange topMatchWrong)

/-- 'metaprunelaw.OrderSays': WHATEVER THE INPUT: true; the input reads as it did. -/
def orderSaysSpec : ChangeSpec := { name := "orderSays", fn := fun _ => fun
  | [d1, d2, d3] => { results := [.lit (.bool true)], args := [d1, d2, d3] }
  | _ => none }
def orderSaysRow : OpenClaim := { program := "ytpajlfdhmjgpnaa", sum := "7a62f88537d7170606e8bf71cac66baa74de19e24ea72c43ee0440afb3f65a2f", func := "metaprune/metaprunelaw.OrderSays", spec := "orderSays", unfollowed := true, recurses := true, loops := true, plainKeys := false, apart := false }
def OrderSaysSaid : Prop := orderSaysRow.holds Try.pinned (OpenSpec.ofChange orderSaysSpec)

/-- ITS FALSE NEIGHBOUR: 'it returns false'. Refute it at one input. -/
def orderSaysWrong : ChangeSpec := { name := "orderSays", fn := fun _ => fun
  | [d1, d2, d3] => { results := [.lit (.bool false)], args := [d1, d2, d3] }
  | _ => none }
def OrderSaysWrongFalsely : Prop := orderSaysRow.holds Try.pinned (OpenSpec.ofChange orderSaysWrong)

/-- 'metaprunelaw.OrderMade': WHATEVER THE INPUT: true; the input reads as it did. -/
def orderMadeSpec : ChangeSpec := { name := "orderMade", fn := fun _ => fun
  | [d1, d2, d3, d4] => { results := [.lit (.bool true)], args := [d1, d2, d3, d4] }
  | _ => none }
def orderMadeRow : OpenClaim := { program := "ytpajlfdhmjgpnaa", sum := "7a62f88537d7170606e8bf71cac66baa74de19e24ea72c43ee0440afb3f65a2f", func := "metaprune/metaprunelaw.OrderMade", spec := "orderMade", unfollowed := true, recurses := true, plainKeys := false, apart := false }
def OrderMadeSaid : Prop := orderMadeRow.holds Try.pinned (OpenSpec.ofChange orderMadeSpec)

/-- ITS FALSE NEIGHBOUR: 'it returns false'. Refute it at one input. -/
def orderMadeWrong : ChangeSpec := { name := "orderMade", fn := fun _ => fun
  | [d1, d2, d3, d4] => { results := [.lit (.bool false)], args := [d1, d2, d3, d4] }
  | _ => none }
def OrderMadeWrongFalsely : Prop := orderMadeRow.holds Try.pinned (OpenSpec.ofChange orderMadeWrong)

/-- 'metaprunetop.TopWeight': WHATEVER THE INPUT: true; the input reads as it did. -/
def topWeightSpec : ChangeSpec := { name := "topWeight", fn := fun _ => fun
  | [d1, d2, d3, d4] => { results := [.lit (.bool true)], args := [d1, d2, d3, d4] }
  | _ => none }
def topWeightRow : OpenClaim := { program := "ytpajlfdhmjgpnaa", sum := "7a62f88537d7170606e8bf71cac66baa74de19e24ea72c43ee0440afb3f65a2f", func := "metaprune/metaprunetop.TopWeight", spec := "topWeight", unfollowed := true, recurses := true, plainKeys := false, apart := false }
def TopWeightSaid : Prop := topWeightRow.holds Try.pinned (OpenSpec.ofChange topWeightSpec)

/-- ITS FALSE NEIGHBOUR: 'it returns false'. Refute it at one input. -/
def topWeightWrong : ChangeSpec := { name := "topWeight", fn := fun _ => fun
  | [d1, d2, d3, d4] => { results := [.lit (.bool false)], args := [d1, d2, d3, d4] }
  | _ => none }
def TopWeightWrongFalsely : Prop := topWeightRow.holds Try.pinned (OpenSpec.ofChange topWeightWrong)

/-- 'metaprunetop.TopPath': WHATEVER THE INPUT: true; the input reads as it did. -/
def topPathSpec : ChangeSpec := { name := "topPath", fn := fun _ => fun
  | [d1, d2, d3, d4] => { results := [.lit (.bool true)], args := [d1, d2, d3, d4] }
  | _ => none }
def topPathRow : OpenClaim := { program := "ytpajlfdhmjgpnaa", sum := "7a62f88537d7170606e8bf71cac66baa74de19e24ea72c43ee0440afb3f65a2f", func := "metaprune/metaprunetop.TopPath", spec := "topPath", unfollowed := true, recurses := true, plainKeys := false, apart := false }
def TopPathSaid : Prop := topPathRow.holds Try.pinned (OpenSpec.ofChange topPathSpec)

/-- ITS FALSE NEIGHBOUR: 'it returns false'. Refute it at one input. -/
def topPathWrong : ChangeSpec := { name := "topPath", fn := fun _ => fun
  | [d1, d2, d3, d4] => { results := [.lit (.bool false)], args := [d1, d2, d3, d4] }
  | _ => none }
def TopPathWrongFalsely : Prop := topPathRow.holds Try.pinned (OpenSpec.ofChange topPathWrong)

/- THE SECOND FORM. 'bulk': how many values and letters a reading holds, each counted each time it is reached (what is shared counts as often as it is met; a slice's spare places count too). A statement '..UptoSaid' is the law's where the arguments, and the package variables that the reading takes, are together of bulk at most 1048576: NARROWER than '..Said'. Prove '..Said' where nothing that the law and all that it calls make is longer than what came in: it says more and counts as full. Else prove '..UptoSaid'. A law counts once. -/
mutual
def uptoBulk {H : Type} : DataW H → Nat
  | .lit (.string bytes) => bytes.length + 1
  | .lit _ => 1
  | .nil => 1
  | .ptr d => uptoBulk d + 1
  | .slice elems spare => uptoBulkAll elems + uptoBulkAll spare + 1
  | .agg parts => uptoBulkAll parts + 1
  | .iface _ d => uptoBulk d + 1
  | .map entries => uptoBulkEntries entries + 1
  | .held _ => 1
def uptoBulkAll {H : Type} : List (DataW H) → Nat
  | [] => 0
  | d :: r => uptoBulk d + uptoBulkAll r
def uptoBulkEntries {H : Type} : List (Lit × DataW H) → Nat
  | [] => 0
  | x :: r => uptoBulkEntry x + uptoBulkEntries r
def uptoBulkEntry {H : Type} : Lit × DataW H → Nat
  | (.string bytes, d) => bytes.length + uptoBulk d + 1
  | (_, d) => uptoBulk d + 1
 end
def uptoSmall : (H : Type) → List (DataW H) → Bool := fun _ ds => decide (uptoBulkAll ds ≤ 1048576)
def OpenSpec.upto (s : _root_.Go.ChangeSpec) : _root_.Go.OpenSpec := { _root_.Go.OpenSpec.ofChange s with cond := some uptoSmall }

/-- 'metaprunelaw.MatchSays', WHERE WHAT IT READS IS OF BULK AT MOST 1048576: true; the input reads as it did. -/
def matchSaysUptoRow : OpenClaim := { program := "ytpajlfdhmjgpnaa", sum := "7a62f88537d7170606e8bf71cac66baa74de19e24ea72c43ee0440afb3f65a2f", func := "metaprune/metaprunelaw.MatchSays", spec := "matchSays", unfollowed := true, recurses := true, loops := true, plainKeys := false, apart := false, narrowed := true }
def MatchSaysUptoSaid : Prop := matchSaysUptoRow.holds Try.pinned (OpenSpec.upto matchSaysSpec)

/-- 'metaprunelaw.MatchMade', WHERE WHAT IT READS IS OF BULK AT MOST 1048576: true; the input reads as it did. -/
def matchMadeUptoRow : OpenClaim := { program := "ytpajlfdhmjgpnaa", sum := "7a62f88537d7170606e8bf71cac66baa74de19e24ea72c43ee0440afb3f65a2f", func := "metaprune/metaprunelaw.MatchMade", spec := "matchMade", unfollowed := true, recurses := true, plainKeys := false, apart := false, narrowed := true }
def MatchMadeUptoSaid : Prop := matchMadeUptoRow.holds Try.pinned (OpenSpec.upto matchMadeSpec)

/-- 'metaprunetop.TopMatch', WHERE WHAT IT READS IS OF BULK AT MOST 1048576: true; the input reads as it did. -/
def topMatchUptoRow : OpenClaim := { program := "ytpajlfdhmjgpnaa", sum := "7a62f88537d7170606e8bf71cac66baa74de19e24ea72c43ee0440afb3f65a2f", func := "metaprune/metaprunetop.TopMatch", spec := "topMatch", unfollowed := true, recurses := true, plainKeys := false, apart := false, narrowed := true }
def TopMatchUptoSaid : Prop := topMatchUptoRow.holds Try.pinned (OpenSpec.upto topMatchSpec)

/-- 'metaprunelaw.OrderSays', WHERE WHAT IT READS IS OF BULK AT MOST 1048576: true; the input reads as it did. -/
def orderSaysUptoRow : OpenClaim := { program := "ytpajlfdhmjgpnaa", sum := "7a62f88537d7170606e8bf71cac66baa74de19e24ea72c43ee0440afb3f65a2f", func := "metaprune/metaprunelaw.OrderSays", spec := "orderSays", unfollowed := true, recurses := true, loops := true, plainKeys := false, apart := false, narrowed := true }
def OrderSaysUptoSaid : Prop := orderSaysUptoRow.holds Try.pinned (OpenSpec.upto orderSaysSpec)

/-- 'metaprunelaw.OrderMade', WHERE WHAT IT READS IS OF BULK AT MOST 1048576: true; the input reads as it did. -/
def orderMadeUptoRow : OpenClaim := { program := "ytpajlfdhmjgpnaa", sum := "7a62f88537d7170606e8bf71cac66baa74de19e24ea72c43ee0440afb3f65a2f", func := "metaprune/metaprunelaw.OrderMade", spec := "orderMade", unfollowed := true, recurses := true, plainKeys := false, apart := false, narrowed := true }
def OrderMadeUptoSaid : Prop := orderMadeUptoRow.holds Try.pinned (OpenSpec.upto orderMadeSpec)

/-- 'metaprunetop.TopWeight', WHERE WHAT IT READS IS OF BULK AT MOST 1048576: true; the input reads as it did. -/
def topWeightUptoRow : OpenClaim := { program := "ytpajlfdhmjgpnaa", sum := "7a62f88537d7170606e8bf71cac66baa74de19e24ea72c43ee0440afb3f65a2f", func := "metaprune/metaprunetop.TopWeight", spec := "topWeight", unfollowed := true, recurses := true, plainKeys := false, apart := false, narrowed := true }
def TopWeightUptoSaid : Prop := topWeightUptoRow.holds Try.pinned (OpenSpec.upto topWeightSpec)

/-- 'metaprunetop.TopPath', WHERE WHAT IT READS IS OF BULK AT MOST 1048576: true; the input reads as it did. -/
def topPathUptoRow : OpenClaim := { program := "ytpajlfdhmjgpnaa", sum := "7a62f88537d7170606e8bf71cac66baa74de19e24ea72c43ee0440afb3f65a2f", func := "metaprune/metaprunetop.TopPath", spec := "topPath", unfollowed := true, recurses := true, plainKeys := false, apart := false, narrowed := true }
def TopPathUptoSaid : Prop := topPathUptoRow.holds Try.pinned (OpenSpec.upto topPathSpec)

end Rows
end Go.Proofs.Ytpajlfdhmjgpnaa
