/-
  DERIVED. GIVEN WITH THE SEED: THE CARDS: each row of YtbijemnnbdndpaaGreatDoorRows.lean that lists a variable, with what it lists TIED to the program's text (the seventh form; the later family's looks); each row that meets fmt, with fmt's text TOLD by the authors' own Lean function (tested against real Go, not proved from fmt's source: count such statements apart). THE CARD IS WHAT COUNTS. Prove the row's statement (the work); the ties are given (YtbijemnnbdndpaaGreatDoorTie.lean); close each card by the builder's one call (the guide's Derived/Test/ToyasCard.lean, 'card_holds'). Laid BY PROGRAM, IN A SANDBOX (cutbox-door.mjs). By AI agents, Wed Nov 11 2026. No macro, syntax, notation, axiom, sorry.
-/
import Derived.Test.YtbijemnnbdndpaaGreatDoorRows
import GoSem.ClaimSeven
namespace Go.Proofs.YtbijemnnbdndpaaGreatDoor
namespace Rows

/-- THE TIED CARD OF 'trailheadlaw12.ArenaSpots'. -/
def arenaSpotsCard : Claim7 := { stood := { row := arenaSpotsRow, standIns := [], harness := (true, "e813e5093f5eee312527783f65828a1c9da3820259161ed9e07322ac8085076c"), looks := false }, kinds := [], alts := [], laidByText := true, laidKinds := [.data, .data], laidTests := true, laidLooks := .later }
def ArenaSpotsCardSaid : Prop := Claim7.holds Tryz.pinned (.plain (OpenSpec.ofChange arenaSpotsSpec)) arenaSpotsCard

/-- THE SECOND FORM's CARD OF 'trailheadlaw12.ArenaSpots'. -/
def arenaSpotsUptoCard : Claim7 := { stood := { row := arenaSpotsUptoRow, standIns := [], harness := (true, "e813e5093f5eee312527783f65828a1c9da3820259161ed9e07322ac8085076c"), looks := false }, kinds := [], alts := [], laidByText := true, laidKinds := [.data, .data], laidTests := true, laidLooks := .later }
def ArenaSpotsUptoCardSaid : Prop := Claim7.holds Tryz.pinned (.plain (OpenSpec.upto arenaSpotsSpec)) arenaSpotsUptoCard
end Rows
end Go.Proofs.YtbijemnnbdndpaaGreatDoor
