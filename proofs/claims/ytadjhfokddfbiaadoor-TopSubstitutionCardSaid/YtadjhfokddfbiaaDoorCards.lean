/-
  DERIVED. GIVEN WITH THE SEED: THE CARDS: each row of YtadjhfokddfbiaaDoorRows.lean that lists a variable, with what it lists TIED to the program's text (the seventh form; the later family's looks); each row that meets fmt, with fmt's text TOLD by the authors' own Lean function (tested against real Go, not proved from fmt's source: count such statements apart). THE CARD IS WHAT COUNTS. Prove the row's statement (the work); the ties are given (YtadjhfokddfbiaaDoorTie.lean); close each card by the builder's one call (the guide's Derived/Test/ToyasCard.lean, 'card_holds'). Laid BY PROGRAM, IN A SANDBOX (cutbox-door.mjs). By AI agents, Wed Nov 11 2026. No macro, syntax, notation, axiom, sorry.
-/
import Derived.Test.YtadjhfokddfbiaaDoorRows
import GoSem.ClaimSeven
namespace Go.Proofs.YtadjhfokddfbiaaDoor
namespace Rows

/-- THE TIED CARD OF 'metaprunetop.TopSubstitution'. -/
def topSubstitutionCard : Claim7 := { stood := { row := topSubstitutionRow, standIns := [], harness := (true, "6fce7b6fbeeb9da28a457074188f675210a848133244ea40bd9b9375ab7a4ead"), looks := true }, kinds := [], alts := [], laidByText := true, laidKinds := [.data, .data, .data, .sentinel, .sentinel, .data], laidTests := true, laidLooks := .later }
def TopSubstitutionCardSaid : Prop := Claim7.holds Tryd.pinned (.plain (OpenSpec.ofChange topSubstitutionSpec)) topSubstitutionCard

/-- THE SECOND FORM's CARD OF 'metaprunetop.TopSubstitution'. -/
def topSubstitutionUptoCard : Claim7 := { stood := { row := topSubstitutionUptoRow, standIns := [], harness := (true, "6fce7b6fbeeb9da28a457074188f675210a848133244ea40bd9b9375ab7a4ead"), looks := true }, kinds := [], alts := [], laidByText := true, laidKinds := [.data, .data, .data, .sentinel, .sentinel, .data], laidTests := true, laidLooks := .later }
def TopSubstitutionUptoCardSaid : Prop := Claim7.holds Tryd.pinned (.plain (OpenSpec.upto topSubstitutionSpec)) topSubstitutionUptoCard
end Rows
end Go.Proofs.YtadjhfokddfbiaaDoor
