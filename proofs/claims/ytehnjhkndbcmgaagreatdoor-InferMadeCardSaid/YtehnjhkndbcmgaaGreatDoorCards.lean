/-
  DERIVED. GIVEN WITH THE SEED: THE CARDS: each row of YtehnjhkndbcmgaaGreatDoorRows.lean that lists a variable, with what it lists TIED to the program's text (the seventh form; the later family's looks); each row that meets fmt, with fmt's text TOLD by the authors' own Lean function (tested against real Go, not proved from fmt's source: count such statements apart). THE CARD IS WHAT COUNTS. Prove the row's statement (the work); the ties are given (YtehnjhkndbcmgaaGreatDoorTie.lean); close each card by the builder's one call (the guide's Derived/Test/ToyasCard.lean, 'card_holds'). Laid BY PROGRAM, IN A SANDBOX (cutbox-door.mjs). By AI agents, Wed Nov 11 2026. No macro, syntax, notation, axiom, sorry.
-/
import Derived.Test.YtehnjhkndbcmgaaGreatDoorRows
import GoSem.ClaimSeven
namespace Go.Proofs.YtehnjhkndbcmgaaGreatDoor
namespace Rows

/-- THE TIED CARD OF 'metaprunelaw.InferSays'. -/
def inferSaysCard : Claim7 := { stood := { row := inferSaysRow, standIns := [], harness := (true, "b746ea98888914e4911519ddb8ce77aaa4b29de3737e88605e6296683b51a2c3"), looks := false }, kinds := [], alts := [], laidByText := true, laidKinds := [.data, .data, .data, .data], laidTests := true, laidLooks := .later }
def InferSaysCardSaid : Prop := Claim7.holds Tryz.pinned (.plain (OpenSpec.ofChange inferSaysSpec)) inferSaysCard

/-- THE TIED CARD OF 'metaprunelaw.InferMade'. -/
def inferMadeCard : Claim7 := { stood := { row := inferMadeRow, standIns := [], harness := (true, "b746ea98888914e4911519ddb8ce77aaa4b29de3737e88605e6296683b51a2c3"), looks := false }, kinds := [], alts := [], laidByText := true, laidKinds := [.data, .data, .data, .data], laidTests := true, laidLooks := .later }
def InferMadeCardSaid : Prop := Claim7.holds Tryz.pinned (.plain (OpenSpec.ofChange inferMadeSpec)) inferMadeCard

/-- THE TIED CARD OF 'metaprunelaw.LongSays'. -/
def longSaysCard : Claim7 := { stood := { row := longSaysRow, standIns := [], harness := (true, "b746ea98888914e4911519ddb8ce77aaa4b29de3737e88605e6296683b51a2c3"), looks := false }, kinds := [], alts := [], laidByText := true, laidKinds := [.data, .data, .data, .data], laidTests := true, laidLooks := .later }
def LongSaysCardSaid : Prop := Claim7.holds Tryz.pinned (.plain (OpenSpec.ofChange longSaysSpec)) longSaysCard

/-- THE TIED CARD OF 'metaprunelaw.LongMade'. -/
def longMadeCard : Claim7 := { stood := { row := longMadeRow, standIns := [], harness := (true, "b746ea98888914e4911519ddb8ce77aaa4b29de3737e88605e6296683b51a2c3"), looks := false }, kinds := [], alts := [], laidByText := true, laidKinds := [.data, .data, .data, .data], laidTests := true, laidLooks := .later }
def LongMadeCardSaid : Prop := Claim7.holds Tryz.pinned (.plain (OpenSpec.ofChange longMadeSpec)) longMadeCard

/-- THE SECOND FORM's CARD OF 'metaprunelaw.InferSays'. -/
def inferSaysUptoCard : Claim7 := { stood := { row := inferSaysUptoRow, standIns := [], harness := (true, "b746ea98888914e4911519ddb8ce77aaa4b29de3737e88605e6296683b51a2c3"), looks := false }, kinds := [], alts := [], laidByText := true, laidKinds := [.data, .data, .data, .data], laidTests := true, laidLooks := .later }
def InferSaysUptoCardSaid : Prop := Claim7.holds Tryz.pinned (.plain (OpenSpec.upto inferSaysSpec)) inferSaysUptoCard

/-- THE SECOND FORM's CARD OF 'metaprunelaw.InferMade'. -/
def inferMadeUptoCard : Claim7 := { stood := { row := inferMadeUptoRow, standIns := [], harness := (true, "b746ea98888914e4911519ddb8ce77aaa4b29de3737e88605e6296683b51a2c3"), looks := false }, kinds := [], alts := [], laidByText := true, laidKinds := [.data, .data, .data, .data], laidTests := true, laidLooks := .later }
def InferMadeUptoCardSaid : Prop := Claim7.holds Tryz.pinned (.plain (OpenSpec.upto inferMadeSpec)) inferMadeUptoCard

/-- THE SECOND FORM's CARD OF 'metaprunelaw.LongSays'. -/
def longSaysUptoCard : Claim7 := { stood := { row := longSaysUptoRow, standIns := [], harness := (true, "b746ea98888914e4911519ddb8ce77aaa4b29de3737e88605e6296683b51a2c3"), looks := false }, kinds := [], alts := [], laidByText := true, laidKinds := [.data, .data, .data, .data], laidTests := true, laidLooks := .later }
def LongSaysUptoCardSaid : Prop := Claim7.holds Tryz.pinned (.plain (OpenSpec.upto longSaysSpec)) longSaysUptoCard

/-- THE SECOND FORM's CARD OF 'metaprunelaw.LongMade'. -/
def longMadeUptoCard : Claim7 := { stood := { row := longMadeUptoRow, standIns := [], harness := (true, "b746ea98888914e4911519ddb8ce77aaa4b29de3737e88605e6296683b51a2c3"), looks := false }, kinds := [], alts := [], laidByText := true, laidKinds := [.data, .data, .data, .data], laidTests := true, laidLooks := .later }
def LongMadeUptoCardSaid : Prop := Claim7.holds Tryz.pinned (.plain (OpenSpec.upto longMadeSpec)) longMadeUptoCard
end Rows
end Go.Proofs.YtehnjhkndbcmgaaGreatDoor
