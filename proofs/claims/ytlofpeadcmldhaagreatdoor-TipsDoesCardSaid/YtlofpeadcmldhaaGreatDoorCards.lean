/-
  DERIVED. GIVEN WITH THE SEED: THE CARDS: each row of YtlofpeadcmldhaaGreatDoorRows.lean that lists a variable, with what it lists TIED to the program's text (the seventh form; the later family's looks); each row that meets fmt, with fmt's text TOLD by the authors' own Lean function (tested against real Go, not proved from fmt's source: count such statements apart). THE CARD IS WHAT COUNTS. Prove the row's statement (the work); the ties are given (YtlofpeadcmldhaaGreatDoorTie.lean); close each card by the builder's one call (the guide's Derived/Test/ToyasCard.lean, 'card_holds'). Laid BY PROGRAM, IN A SANDBOX (cutbox-door.mjs). By AI agents, Wed Nov 11 2026. No macro, syntax, notation, axiom, sorry.
-/
import Derived.Test.YtlofpeadcmldhaaGreatDoorRows
import GoSem.ClaimSeven
namespace Go.Proofs.YtlofpeadcmldhaaGreatDoor
namespace Rows

/-- THE TIED CARD OF 'trailheadlaw15.TipsParts'. -/
def tipsPartsCard : Claim7 := { stood := { row := tipsPartsRow, standIns := [], harness := (true, "b3c803cb45ab8fe9b833d110812004f93f6db897f420d97f20b4c29a8e4d5f84"), looks := false }, kinds := [], alts := [], laidByText := true, laidKinds := [.data, .data], laidTests := true, laidLooks := .later }
def TipsPartsCardSaid : Prop := Claim7.holds Tryz.pinned (.plain (OpenSpec.ofChange tipsPartsSpec)) tipsPartsCard

/-- THE TIED CARD OF 'trailheadlaw15.TipsTrim'. -/
def tipsTrimCard : Claim7 := { stood := { row := tipsTrimRow, standIns := [], harness := (true, "b3c803cb45ab8fe9b833d110812004f93f6db897f420d97f20b4c29a8e4d5f84"), looks := false }, kinds := [], alts := [], laidByText := true, laidKinds := [.data, .data], laidTests := true, laidLooks := .later }
def TipsTrimCardSaid : Prop := Claim7.holds Tryz.pinned (.plain (OpenSpec.ofChange tipsTrimSpec)) tipsTrimCard

/-- THE TIED CARD OF 'trailheadlaw15.TipsDoes'. -/
def tipsDoesCard : Claim7 := { stood := { row := tipsDoesRow, standIns := [], harness := (true, "b3c803cb45ab8fe9b833d110812004f93f6db897f420d97f20b4c29a8e4d5f84"), looks := false }, kinds := [], alts := [], laidByText := true, laidKinds := [.data, .data], laidTests := true, laidLooks := .later }
def TipsDoesCardSaid : Prop := Claim7.holds Tryz.pinned (.plain (OpenSpec.ofChange tipsDoesSpec)) tipsDoesCard

/-- THE SECOND FORM's CARD OF 'trailheadlaw15.TipsParts'. -/
def tipsPartsUptoCard : Claim7 := { stood := { row := tipsPartsUptoRow, standIns := [], harness := (true, "b3c803cb45ab8fe9b833d110812004f93f6db897f420d97f20b4c29a8e4d5f84"), looks := false }, kinds := [], alts := [], laidByText := true, laidKinds := [.data, .data], laidTests := true, laidLooks := .later }
def TipsPartsUptoCardSaid : Prop := Claim7.holds Tryz.pinned (.plain (OpenSpec.upto tipsPartsSpec)) tipsPartsUptoCard

/-- THE SECOND FORM's CARD OF 'trailheadlaw15.TipsTrim'. -/
def tipsTrimUptoCard : Claim7 := { stood := { row := tipsTrimUptoRow, standIns := [], harness := (true, "b3c803cb45ab8fe9b833d110812004f93f6db897f420d97f20b4c29a8e4d5f84"), looks := false }, kinds := [], alts := [], laidByText := true, laidKinds := [.data, .data], laidTests := true, laidLooks := .later }
def TipsTrimUptoCardSaid : Prop := Claim7.holds Tryz.pinned (.plain (OpenSpec.upto tipsTrimSpec)) tipsTrimUptoCard

/-- THE SECOND FORM's CARD OF 'trailheadlaw15.TipsDoes'. -/
def tipsDoesUptoCard : Claim7 := { stood := { row := tipsDoesUptoRow, standIns := [], harness := (true, "b3c803cb45ab8fe9b833d110812004f93f6db897f420d97f20b4c29a8e4d5f84"), looks := false }, kinds := [], alts := [], laidByText := true, laidKinds := [.data, .data], laidTests := true, laidLooks := .later }
def TipsDoesUptoCardSaid : Prop := Claim7.holds Tryz.pinned (.plain (OpenSpec.upto tipsDoesSpec)) tipsDoesUptoCard
end Rows
end Go.Proofs.YtlofpeadcmldhaaGreatDoor
