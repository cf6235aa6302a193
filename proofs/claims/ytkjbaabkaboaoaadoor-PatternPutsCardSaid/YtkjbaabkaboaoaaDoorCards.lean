/-
  DERIVED. GIVEN WITH THE SEED: THE CARDS: each row of YtkjbaabkaboaoaaDoorRows.lean that lists a variable, with what it lists TIED to the program's text (the seventh form; the later family's looks); each row that meets fmt, with fmt's text TOLD by the authors' own Lean function (tested against real Go, not proved from fmt's source: count such statements apart). THE CARD IS WHAT COUNTS. Prove the row's statement (the work); the ties are given (YtkjbaabkaboaoaaDoorTie.lean); close each card by the builder's one call (the guide's Derived/Test/ToyasCard.lean, 'card_holds'). Laid BY PROGRAM, IN A SANDBOX (cutbox-door.mjs). By AI agents, Wed Nov 11 2026. No macro, syntax, notation, axiom, sorry.
-/
import Derived.Test.YtkjbaabkaboaoaaDoorRows
import GoSem.ClaimSeven
namespace Go.Proofs.YtkjbaabkaboaoaaDoor
namespace Rows

/-- THE TIED CARD OF 'metaprunelaw.LambdaPuts'. -/
def lambdaPutsCard : Claim7 := { stood := { row := lambdaPutsRow, standIns := [], harness := (true, "87cb9edc325717069abf384918d59b148f04671dba00f1512ff6fc47ed0965bb"), looks := false }, kinds := [], alts := [], laidByText := true, laidKinds := [.data], laidTests := true, laidLooks := .later }
def LambdaPutsCardSaid : Prop := Claim7.holds Tryd.pinned (.plain (OpenSpec.ofChange lambdaPutsSpec)) lambdaPutsCard

/-- THE TIED CARD OF 'metaprunelaw.LongNumbers'. -/
def longNumbersCard : Claim7 := { stood := { row := longNumbersRow, standIns := [], harness := (true, "87cb9edc325717069abf384918d59b148f04671dba00f1512ff6fc47ed0965bb"), looks := false }, kinds := [], alts := [], laidByText := true, laidKinds := [.data], laidTests := true, laidLooks := .later }
def LongNumbersCardSaid : Prop := Claim7.holds Tryd.pinned (.plain (OpenSpec.ofChange longNumbersSpec)) longNumbersCard

/-- THE TIED CARD OF 'metaprunelaw.PatternPuts'. -/
def patternPutsCard : Claim7 := { stood := { row := patternPutsRow, standIns := [], harness := (true, "87cb9edc325717069abf384918d59b148f04671dba00f1512ff6fc47ed0965bb"), looks := false }, kinds := [], alts := [], laidByText := true, laidKinds := [.data], laidTests := true, laidLooks := .later }
def PatternPutsCardSaid : Prop := Claim7.holds Tryd.pinned (.plain (OpenSpec.ofChange patternPutsSpec)) patternPutsCard

/-- THE SECOND FORM's CARD OF 'metaprunelaw.LambdaPuts'. -/
def lambdaPutsUptoCard : Claim7 := { stood := { row := lambdaPutsUptoRow, standIns := [], harness := (true, "87cb9edc325717069abf384918d59b148f04671dba00f1512ff6fc47ed0965bb"), looks := false }, kinds := [], alts := [], laidByText := true, laidKinds := [.data], laidTests := true, laidLooks := .later }
def LambdaPutsUptoCardSaid : Prop := Claim7.holds Tryd.pinned (.plain (OpenSpec.upto lambdaPutsSpec)) lambdaPutsUptoCard

/-- THE SECOND FORM's CARD OF 'metaprunelaw.LongNumbers'. -/
def longNumbersUptoCard : Claim7 := { stood := { row := longNumbersUptoRow, standIns := [], harness := (true, "87cb9edc325717069abf384918d59b148f04671dba00f1512ff6fc47ed0965bb"), looks := false }, kinds := [], alts := [], laidByText := true, laidKinds := [.data], laidTests := true, laidLooks := .later }
def LongNumbersUptoCardSaid : Prop := Claim7.holds Tryd.pinned (.plain (OpenSpec.upto longNumbersSpec)) longNumbersUptoCard

/-- THE SECOND FORM's CARD OF 'metaprunelaw.PatternPuts'. -/
def patternPutsUptoCard : Claim7 := { stood := { row := patternPutsUptoRow, standIns := [], harness := (true, "87cb9edc325717069abf384918d59b148f04671dba00f1512ff6fc47ed0965bb"), looks := false }, kinds := [], alts := [], laidByText := true, laidKinds := [.data], laidTests := true, laidLooks := .later }
def PatternPutsUptoCardSaid : Prop := Claim7.holds Tryd.pinned (.plain (OpenSpec.upto patternPutsSpec)) patternPutsUptoCard
end Rows
end Go.Proofs.YtkjbaabkaboaoaaDoor
