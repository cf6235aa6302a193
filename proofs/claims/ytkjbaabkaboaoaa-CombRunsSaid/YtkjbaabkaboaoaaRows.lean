/-
  NARROWER THAN 'FOR EVERY INPUT', by the rows' own cells (each row's printed sentence says how): TermPuts: loops · AutoPairs: loops · CombRuns: loops · TermSays: loops · SubstSays: loops · OrderSays: loops.
  DERIVED. THE GIVEN ROWS OF THIS SEAT. 9 by the template 'for every input the law returns true; each argument reads behind the call as it read before'; 0 by the template 'total and deterministic' (their statements: YtkjbaabkaboaoaaTotals.lean).
  GIVEN WITH THE SEED: the statements are not yours to turn. If you find one false, say at which input.
  Laid BY PROGRAM, IN A SANDBOX (cutbox-rows.mjs): the forced cells as the released guide's own fill.sh prints them over the translation 9915a8868631fb31… (all of the seat's roots in one cut). By AI agents, Wed Nov 11 2026. No macro, syntax, notation, axiom, sorry.
-/
import Derived.Test.YtkjbaabkaboaoaaChecked
import GoSem.Claim
import GoSem.ClaimJoined
import GoSem.ClaimMapViews
import Derived.JoinedTies
import Derived.KernelRfl
namespace Go.Proofs.Ytkjbaabkaboaoaa
/- THE CELL 'sum', in the pinned program and in every row, IS THE sha256 OF THE DUMP (.gsa) THAT YtkjbaabkaboaoaaProg.lean LOADS. Nothing in Lean hashes anything: it is a label: what it is worth is what the hold of that sum in a sandbox is worth. -/
noncomputable def Try.pinned : Pinned := { name := "ytkjbaabkaboaoaa", sum := "9915a8868631fb31cdf0a8e6f7ba485d480d600ec85adadf4460ba7569abed9e", checked := Try.checked }
namespace Rows
def none {H : Type} : Left H := { results := [], args := [] }

/-- 'metaprunelaw.Names': WHATEVER THE INPUT: true; the input reads as it did. -/
def namesSpec : ChangeSpec := { name := "names", fn := fun _ => fun
  | [] => { results := [.lit (.bool true)], args := [] }
  | _ => none }
def namesRow : OpenClaim := { program := "ytkjbaabkaboaoaa", sum := "9915a8868631fb31cdf0a8e6f7ba485d480d600ec85adadf4460ba7569abed9e", func := "metaprune/metaprunelaw.Names", spec := "names", plainKeys := false, apart := false }
def NamesSaid : Prop := namesRow.holds Try.pinned (OpenSpec.ofChange namesSpec)

/-- ITS FALSE NEIGHBOUR: 'it returns false'. Refute it at one input. -/
def namesWrong : ChangeSpec := { name := "names", fn := fun _ => fun
  | [] => { results := [.lit (.bool false)], args := [] }
  | _ => none }
def NamesWrongFalsely : Prop := namesRow.holds Try.pinned (OpenSpec.ofChange namesWrong)

/-- 'metaprunelaw.TermParses': WHATEVER THE INPUT: true; the input reads as it did. -/
def termParsesSpec : ChangeSpec := { name := "termParses", fn := fun _ => fun
  | [d] => { results := [.lit (.bool true)], args := [d] }
  | _ => none }
def termParsesRow : OpenClaim := { program := "ytkjbaabkaboaoaa", sum := "9915a8868631fb31cdf0a8e6f7ba485d480d600ec85adadf4460ba7569abed9e", func := "metaprune/metaprunelaw.TermParses", spec := "termParses", unfollowed := true, recurses := true, plainKeys := false, apart := false }
def TermParsesSaid : Prop := termParsesRow.holds Try.pinned (OpenSpec.ofChange termParsesSpec)

/-- ITS FALSE NEIGHBOUR: 'it returns false'. Refute it at one input. -/
def termParsesWrong : ChangeSpec := { name := "termParses", fn := fun _ => fun
  | [d] => { results := [.lit (.bool false)], args := [d] }
  | _ => none }
def TermParsesWrongFalsely : Prop := termParsesRow.holds Try.pinned (OpenSpec.ofChange termParsesWrong)

/-- 'metaprunelaw.TermPuts': WHATEVER THE INPUT: true; the input reads as it did. -/
def termPutsSpec : ChangeSpec := { name := "termPuts", fn := fun _ => fun
  | [d1, d2, d3] => { results := [.lit (.bool true)], args := [d1, d2, d3] }
  | _ => none }
def termPutsRow : OpenClaim := { program := "ytkjbaabkaboaoaa", sum := "9915a8868631fb31cdf0a8e6f7ba485d480d600ec85adadf4460ba7569abed9e", func := "metaprune/metaprunelaw.TermPuts", spec := "termPuts", recurses := true, loops := true, plainKeys := false, apart := false }
def TermPutsSaid : Prop := termPutsRow.holds Try.pinned (OpenSpec.ofChange termPutsSpec)

/-- ITS FALSE NEIGHBOUR: 'it returns false'. Refute it at one input. -/
def termPutsWrong : ChangeSpec := { name := "termPuts", fn := fun _ => fun
  | [d1, d2, d3] => { results := [.lit (.bool false)], args := [d1, d2, d3] }
  | _ => none }
def TermPutsWrongFalsely : Prop := termPutsRow.holds Try.pinned (OpenSpec.ofChange termPutsWrong)

/-- 'metaprunelaw.AutoPairs': WHATEVER THE INPUT: true; the input reads as it did. -/
def autoPairsSpec : ChangeSpec := { name := "autoPairs", fn := fun _ => fun
  | [d1, d2, d3] => { results := [.lit (.bool true)], args := [d1, d2, d3] }
  | _ => none }
def autoPairsRow : OpenClaim := { program := "ytkjbaabkaboaoaa", sum := "9915a8868631fb31cdf0a8e6f7ba485d480d600ec85adadf4460ba7569abed9e", func := "metaprune/metaprunelaw.AutoPairs", spec := "autoPairs", unfollowed := true, recurses := true, loops := true, plainKeys := false, apart := false }
def AutoPairsSaid : Prop := autoPairsRow.holds Try.pinned (OpenSpec.ofChange autoPairsSpec)

/-- ITS FALSE NEIGHBOUR: 'it returns false'. Refute it at one input. -/
def autoPairsWrong : ChangeSpec := { name := "autoPairs", fn := fun _ => fun
  | [d1, d2, d3] => { results := [.lit (.bool false)], args := [d1, d2, d3] }
  | _ => none }
def AutoPairsWrongFalsely : Prop := autoPairsRow.holds Try.pinned (OpenSpec.ofChange autoPairsWrong)

/-- 'metaprunelaw.CombRuns': WHATEVER THE INPUT: true; the input reads as it did. -/
def combRunsSpec : ChangeSpec := { name := "combRuns", fn := fun _ => fun
  | [d1, d2] => { results := [.lit (.bool true)], args := [d1, d2] }
  | _ => none }
def combRunsRow : OpenClaim := { program := "ytkjbaabkaboaoaa", sum := "9915a8868631fb31cdf0a8e6f7ba485d480d600ec85adadf4460ba7569abed9e", func := "metaprune/metaprunelaw.CombRuns", spec := "combRuns", unfollowed := true, recurses := true, loops := true, plainKeys := false, apart := false }
def CombRunsSaid : Prop := combRunsRow.holds Try.pinned (OpenSpec.ofChange combRunsSpec)

/-- ITS FALSE NEIGHBOUR: 'it returns false'. Refute it at one input. -/
def combRunsWrong : ChangeSpec := { name := "combRuns", fn := fun _ => fun
  | [d1, d2] => { results := [.lit (.bool false)], args := [d1, d2] }
  | _ => none }
def CombRunsWrongFalsely : Prop := combRunsRow.holds Try.pinned (OpenSpec.ofChange combRunsWrong)

/-- 'metaprunelaw.TermSays': WHATEVER THE INPUT: true; the input reads as it did. -/
def termSaysSpec : ChangeSpec := { name := "termSays", fn := fun _ => fun
  | [d1, d2] => { results := [.lit (.bool true)], args := [d1, d2] }
  | _ => none }
def termSaysRow : OpenClaim := { program := "ytkjbaabkaboaoaa", sum := "9915a8868631fb31cdf0a8e6f7ba485d480d600ec85adadf4460ba7569abed9e", func := "metaprune/metaprunelaw.TermSays", spec := "termSays", inPlace := ["internal/abi.NoEscape"], recurses := true, loops := true, plainKeys := false, apart := false }
def TermSaysSaid : Prop := termSaysRow.holds Try.pinned (OpenSpec.ofChange termSaysSpec)

/-- ITS FALSE NEIGHBOUR: 'it returns false'. Refute it at one input. -/
def termSaysWrong : ChangeSpec := { name := "termSays", fn := fun _ => fun
  | [d1, d2] => { results := [.lit (.bool false)], args := [d1, d2] }
  | _ => none }
def TermSaysWrongFalsely : Prop := termSaysRow.holds Try.pinned (OpenSpec.ofChange termSaysWrong)

/-- 'metaprunelaw.TermMade': WHATEVER THE INPUT: true; the input reads as it did. -/
def termMadeSpec : ChangeSpec := { name := "termMade", fn := fun _ => fun
  | [d1, d2, d3] => { results := [.lit (.bool true)], args := [d1, d2, d3] }
  | _ => none }
def termMadeRow : OpenClaim := { program := "ytkjbaabkaboaoaa", sum := "9915a8868631fb31cdf0a8e6f7ba485d480d600ec85adadf4460ba7569abed9e", func := "metaprune/metaprunelaw.TermMade", spec := "termMade", inPlace := ["internal/abi.NoEscape"], recurses := true, plainKeys := false, apart := false }
def TermMadeSaid : Prop := termMadeRow.holds Try.pinned (OpenSpec.ofChange termMadeSpec)

/-- ITS FALSE NEIGHBOUR: 'it returns false'. Refute it at one input. -/
def termMadeWrong : ChangeSpec := { name := "termMade", fn := fun _ => fun
  | [d1, d2, d3] => { results := [.lit (.bool false)], args := [d1, d2, d3] }
  | _ => none }
def TermMadeWrongFalsely : Prop := termMadeRow.holds Try.pinned (OpenSpec.ofChange termMadeWrong)

/-- 'metaprunelaw.SubstSays': WHATEVER THE INPUT: true; the input reads as it did. -/
def substSaysSpec : ChangeSpec := { name := "substSays", fn := fun _ => fun
  | [d1, d2] => { results := [.lit (.bool true)], args := [d1, d2] }
  | _ => none }
def substSaysRow : OpenClaim := { program := "ytkjbaabkaboaoaa", sum := "9915a8868631fb31cdf0a8e6f7ba485d480d600ec85adadf4460ba7569abed9e", func := "metaprune/metaprunelaw.SubstSays", spec := "substSays", unfollowed := true, recurses := true, loops := true, plainKeys := false, apart := false }
def SubstSaysSaid : Prop := substSaysRow.holds Try.pinned (OpenSpec.ofChange substSaysSpec)

/-- ITS FALSE NEIGHBOUR: 'it returns false'. Refute it at one input. -/
def substSaysWrong : ChangeSpec := { name := "substSays", fn := fun _ => fun
  | [d1, d2] => { results := [.lit (.bool false)], args := [d1, d2] }
  | _ => none }
def SubstSaysWrongFalsely : Prop := substSaysRow.holds Try.pinned (OpenSpec.ofChange substSaysWrong)

/-- 'metaprunelaw.OrderSays': WHATEVER THE INPUT: true; the input reads as it did. -/
def orderSaysSpec : ChangeSpec := { name := "orderSays", fn := fun _ => fun
  | [d1, d2, d3] => { results := [.lit (.bool true)], args := [d1, d2, d3] }
  | _ => none }
def orderSaysRow : OpenClaim := { program := "ytkjbaabkaboaoaa", sum := "9915a8868631fb31cdf0a8e6f7ba485d480d600ec85adadf4460ba7569abed9e", func := "metaprune/metaprunelaw.OrderSays", spec := "orderSays", unfollowed := true, recurses := true, loops := true, plainKeys := false, apart := false }
def OrderSaysSaid : Prop := orderSaysRow.holds Try.pinned (OpenSpec.ofChange orderSaysSpec)

/-- ITS FALSE NEIGHBOUR: 'it returns false'. Refute it at one input. -/
def orderSaysWrong : ChangeSpec := { name := "orderSays", fn := fun _ => fun
  | [d1, d2, d3] => { results := [.lit (.bool false)], args := [d1, d2, d3] }
  | _ => none }
def OrderSaysWrongFalsely : Prop := orderSaysRow.holds Try.pinned (OpenSpec.ofChange orderSaysWrong)

/- THE SECOND FORM. 'bulk': how many values and letters a reading holds, each counted each time it is reached (what is shared counts as often as it is met; a slice's spare places count too). A statement '..UptoSaid' is the law's where the arguments, and the package variables that the reading takes, are together of bulk at most 1048576: NARROWER than '..Said'. Prove '..Said' where nothing that the law and all that it calls make is longer than what came in: it says more and counts as full. Else prove '..UptoSaid'. A law counts once. -/
mutual
def uptoBulk {H : Type} : DataW H → Nat
  | .lit (.string bytes) => bytes.length + 1
  | .lit _ => 1
  | .nil => 1
  | .ptr d => uptoBulk d + 1
  | .slice elems spare => uptoBulkAll elems + uptoBulkAll spare + 1
  | .agg parts => uptoBulkAll parts + 1
  | .iface _ d => uptoBulk d + 1
  | .map entries => uptoBulkEntries entries + 1
  | .held _ => 1
def uptoBulkAll {H : Type} : List (DataW H) → Nat
  | [] => 0
  | d :: r => uptoBulk d + uptoBulkAll r
def uptoBulkEntries {H : Type} : List (Lit × DataW H) → Nat
  | [] => 0
  | x :: r => uptoBulkEntry x + uptoBulkEntries r
def uptoBulkEntry {H : Type} : Lit × DataW H → Nat
  | (.string bytes, d) => bytes.length + uptoBulk d + 1
  | (_, d) => uptoBulk d + 1
 end
def uptoSmall : (H : Type) → List (DataW H) → Bool := fun _ ds => decide (uptoBulkAll ds ≤ 1048576)
def OpenSpec.upto (s : _root_.Go.ChangeSpec) : _root_.Go.OpenSpec := { _root_.Go.OpenSpec.ofChange s with cond := some uptoSmall }

/-- 'metaprunelaw.Names', WHERE WHAT IT READS IS OF BULK AT MOST 1048576: true; the input reads as it did. -/
def namesUptoRow : OpenClaim := { program := "ytkjbaabkaboaoaa", sum := "9915a8868631fb31cdf0a8e6f7ba485d480d600ec85adadf4460ba7569abed9e", func := "metaprune/metaprunelaw.Names", spec := "names", plainKeys := false, apart := false, narrowed := true }
def NamesUptoSaid : Prop := namesUptoRow.holds Try.pinned (OpenSpec.upto namesSpec)

/-- 'metaprunelaw.TermParses', WHERE WHAT IT READS IS OF BULK AT MOST 1048576: true; the input reads as it did. -/
def termParsesUptoRow : OpenClaim := { program := "ytkjbaabkaboaoaa", sum := "9915a8868631fb31cdf0a8e6f7ba485d480d600ec85adadf4460ba7569abed9e", func := "metaprune/metaprunelaw.TermParses", spec := "termParses", unfollowed := true, recurses := true, plainKeys := false, apart := false, narrowed := true }
def TermParsesUptoSaid : Prop := termParsesUptoRow.holds Try.pinned (OpenSpec.upto termParsesSpec)

/-- 'metaprunelaw.TermPuts', WHERE WHAT IT READS IS OF BULK AT MOST 1048576: true; the input reads as it did. -/
def termPutsUptoRow : OpenClaim := { program := "ytkjbaabkaboaoaa", sum := "9915a8868631fb31cdf0a8e6f7ba485d480d600ec85adadf4460ba7569abed9e", func := "metaprune/metaprunelaw.TermPuts", spec := "termPuts", recurses := true, loops := true, plainKeys := false, apart := false, narrowed := true }
def TermPutsUptoSaid : Prop := termPutsUptoRow.holds Try.pinned (OpenSpec.upto termPutsSpec)

/-- 'metaprunelaw.AutoPairs', WHERE WHAT IT READS IS OF BULK AT MOST 1048576: true; the input reads as it did. -/
def autoPairsUptoRow : OpenClaim := { program := "ytkjbaabkaboaoaa", sum := "9915a8868631fb31cdf0a8e6f7ba485d480d600ec85adadf4460ba7569abed9e", func := "metaprune/metaprunelaw.AutoPairs", spec := "autoPairs", unfollowed := true, recurses := true, loops := true, plainKeys := false, apart := false, narrowed := true }
def AutoPairsUptoSaid : Prop := autoPairsUptoRow.holds Try.pinned (OpenSpec.upto autoPairsSpec)

/-- 'metaprunelaw.CombRuns', WHERE WHAT IT READS IS OF BULK AT MOST 1048576: true; the input reads as it did. -/
def combRunsUptoRow : OpenClaim := { program := "ytkjbaabkaboaoaa", sum := "9915a8868631fb31cdf0a8e6f7ba485d480d600ec85adadf4460ba7569abed9e", func := "metaprune/metaprunelaw.CombRuns", spec := "combRuns", unfollowed := true, recurses := true, loops := true, plainKeys := false, apart := false, narrowed := true }
def CombRunsUptoSaid : Prop := combRunsUptoRow.holds Try.pinned (OpenSpec.upto combRunsSpec)

/-- 'metaprunelaw.TermSays', WHERE WHAT IT READS IS OF BULK AT MOST 1048576: true; the input reads as it did. -/
def termSaysUptoRow : OpenClaim := { program := "ytkjbaabkaboaoaa", sum := "9915a8868631fb31cdf0a8e6f7ba485d480d600ec85adadf4460ba7569abed9e", func := "metaprune/metaprunelaw.TermSays", spec := "termSays", inPlace := ["internal/abi.NoEscape"], recurses := true, loops := true, plainKeys := false, apart := false, narrowed := true }
def TermSaysUptoSaid : Prop := termSaysUptoRow.holds Try.pinned (OpenSpec.upto termSaysSpec)

/-- 'metaprunelaw.TermMade', WHERE WHAT IT READS IS OF BULK AT MOST 1048576: true; the input reads as it did. -/
def termMadeUptoRow : OpenClaim := { program := "ytkjbaabkaboaoaa", sum := "9915a8868631fb31cdf0a8e6f7ba485d480d600ec85adadf4460ba7569abed9e", func := "metaprune/metaprunelaw.TermMade", spec := "termMade", inPlace := ["internal/abi.NoEscape"], recurses := true, plainKeys := false, apart := false, narrowed := true }
def TermMadeUptoSaid : Prop := termMadeUptoRow.holds Try.pinned (OpenSpec.upto termMadeSpec)

/-- 'metaprunelaw.SubstSays', WHERE WHAT IT READS IS OF BULK AT MOST 1048576: true; the input reads as it did. -/
def substSaysUptoRow : OpenClaim := { program := "ytkjbaabkaboaoaa", sum := "9915a8868631fb31cdf0a8e6f7ba485d480d600ec85adadf4460ba7569abed9e", func := "metaprune/metaprunelaw.SubstSays", spec := "substSays", unfollowed := true, recurses := true, loops := true, plainKeys := false, apart := false, narrowed := true }
def SubstSaysUptoSaid : Prop := substSaysUptoRow.holds Try.pinned (OpenSpec.upto substSaysSpec)

/-- 'metaprunelaw.OrderSays', WHERE WHAT IT READS IS OF BULK AT MOST 1048576: true; the input reads as it did. -/
def orderSaysUptoRow : OpenClaim := { program := "ytkjbaabkaboaoaa", sum := "9915a8868631fb31cdf0a8e6f7ba485d480d600ec85adadf4460ba7569abed9e", func := "metaprune/metaprunelaw.OrderSays", spec := "orderSays", unfollowed := true, recurses := true, loops := true, plainKeys := false, apart := false, narrowed := true }
def OrderSaysUptoSaid : Prop := orderSaysUptoRow.holds Try.pinned (OpenSpec.upto orderSaysSpec)

end Rows
end Go.Proofs.Ytkjbaabkaboaoaa
