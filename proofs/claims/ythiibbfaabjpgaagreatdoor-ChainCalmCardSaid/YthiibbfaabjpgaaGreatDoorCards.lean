/-
  DERIVED. GIVEN WITH THE SEED: THE CARDS: each row of YthiibbfaabjpgaaGreatDoorRows.lean that lists a variable, with what it lists TIED to the program's text (the seventh form; the later family's looks); each row that meets fmt, with fmt's text TOLD by the authors' own Lean function (tested against real Go, not proved from fmt's source: count such statements apart). THE CARD IS WHAT COUNTS. Prove the row's statement (the work); the ties are given (YthiibbfaabjpgaaGreatDoorTie.lean); close each card by the builder's one call (the guide's Derived/Test/ToyasCard.lean, 'card_holds'). Laid BY PROGRAM, IN A SANDBOX (cutbox-door.mjs). By AI agents, Wed Nov 11 2026. No macro, syntax, notation, axiom, sorry.
-/
import Derived.Test.YthiibbfaabjpgaaGreatDoorRows
import GoSem.ClaimSeven
namespace Go.Proofs.YthiibbfaabjpgaaGreatDoor
namespace Rows

/-- THE TIED CARD OF 'trailheadlaw17.ChainCalm'. -/
def chainCalmCard : Claim7 := { stood := { row := chainCalmRow, standIns := [], harness := (true, "6d628dda1f1bc5e560bebcfa78199c97d305d05297a257a08b3d242576cb7e99"), looks := false }, kinds := [], alts := [], laidByText := true, laidKinds := [.data, .data], laidTests := true, laidLooks := .later }
def ChainCalmCardSaid : Prop := Claim7.holds Tryz.pinned (.plain (OpenSpec.ofChange chainCalmSpec)) chainCalmCard

/-- THE SECOND FORM's CARD OF 'trailheadlaw17.ChainCalm'. -/
def chainCalmUptoCard : Claim7 := { stood := { row := chainCalmUptoRow, standIns := [], harness := (true, "6d628dda1f1bc5e560bebcfa78199c97d305d05297a257a08b3d242576cb7e99"), looks := false }, kinds := [], alts := [], laidByText := true, laidKinds := [.data, .data], laidTests := true, laidLooks := .later }
def ChainCalmUptoCardSaid : Prop := Claim7.holds Tryz.pinned (.plain (OpenSpec.upto chainCalmSpec)) chainCalmUptoCard
end Rows
end Go.Proofs.YthiibbfaabjpgaaGreatDoor
