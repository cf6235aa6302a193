/-
  DERIVED. GIVEN WITH THE SEED: THE CARDS: each row of YtgepacmabaaohaaGreatDoorRows.lean that lists a variable, with what it lists TIED to the program's text (the seventh form; the later family's looks); each row that meets fmt, with fmt's text TOLD by the authors' own Lean function (tested against real Go, not proved from fmt's source: count such statements apart). THE CARD IS WHAT COUNTS. Prove the row's statement (the work); the ties are given (YtgepacmabaaohaaGreatDoorTie.lean); close each card by the builder's one call (the guide's Derived/Test/ToyasCard.lean, 'card_holds'). Laid BY PROGRAM, IN A SANDBOX (cutbox-door.mjs). By AI agents, Wed Nov 11 2026. No macro, syntax, notation, axiom, sorry.
-/
import Derived.Test.YtgepacmabaaohaaGreatDoorRows
import GoSem.ClaimSeven
namespace Go.Proofs.YtgepacmabaaohaaGreatDoor
namespace Rows

/-- THE TIED CARD OF 'metaprunelaw.CriticalSays'. -/
def criticalSaysCard : Claim7 := { stood := { row := criticalSaysRow, standIns := [], harness := (true, "aa68e93a4691bc739bab17731b9e4d23bb4fd6370041e9ea497454b4f1d7ff37"), looks := false }, kinds := [], alts := [], laidByText := true, laidKinds := [.data, .data, .data], laidTests := true, laidLooks := .later }
def CriticalSaysCardSaid : Prop := Claim7.holds Tryz.pinned (.plain (OpenSpec.ofChange criticalSaysSpec)) criticalSaysCard

/-- THE TIED CARD OF 'metaprunelaw.CriticalMade'. -/
def criticalMadeCard : Claim7 := { stood := { row := criticalMadeRow, standIns := [], harness := (true, "aa68e93a4691bc739bab17731b9e4d23bb4fd6370041e9ea497454b4f1d7ff37"), looks := false }, kinds := [], alts := [], laidByText := true, laidKinds := [.data, .data, .data], laidTests := true, laidLooks := .later }
def CriticalMadeCardSaid : Prop := Claim7.holds Tryz.pinned (.plain (OpenSpec.ofChange criticalMadeSpec)) criticalMadeCard

/-- THE SECOND FORM's CARD OF 'metaprunelaw.CriticalSays'. -/
def criticalSaysUptoCard : Claim7 := { stood := { row := criticalSaysUptoRow, standIns := [], harness := (true, "aa68e93a4691bc739bab17731b9e4d23bb4fd6370041e9ea497454b4f1d7ff37"), looks := false }, kinds := [], alts := [], laidByText := true, laidKinds := [.data, .data, .data], laidTests := true, laidLooks := .later }
def CriticalSaysUptoCardSaid : Prop := Claim7.holds Tryz.pinned (.plain (OpenSpec.upto criticalSaysSpec)) criticalSaysUptoCard

/-- THE SECOND FORM's CARD OF 'metaprunelaw.CriticalMade'. -/
def criticalMadeUptoCard : Claim7 := { stood := { row := criticalMadeUptoRow, standIns := [], harness := (true, "aa68e93a4691bc739bab17731b9e4d23bb4fd6370041e9ea497454b4f1d7ff37"), looks := false }, kinds := [], alts := [], laidByText := true, laidKinds := [.data, .data, .data], laidTests := true, laidLooks := .later }
def CriticalMadeUptoCardSaid : Prop := Claim7.holds Tryz.pinned (.plain (OpenSpec.upto criticalMadeSpec)) criticalMadeUptoCard
end Rows
end Go.Proofs.YtgepacmabaaohaaGreatDoor
