/-
  DERIVED. GIVEN WITH THE SEED: THE CARDS: each row of YtbijmojagnjgcaaGreatDoorRows.lean that lists a variable, with what it lists TIED to the program's text (the seventh form; the later family's looks); each row that meets fmt, with fmt's text TOLD by the authors' own Lean function (tested against real Go, not proved from fmt's source: count such statements apart). THE CARD IS WHAT COUNTS. Prove the row's statement (the work); the ties are given (YtbijmojagnjgcaaGreatDoorTie.lean); close each card by the builder's one call (the guide's Derived/Test/ToyasCard.lean, 'card_holds'). Laid BY PROGRAM, IN A SANDBOX (cutbox-door.mjs). By AI agents, Wed Nov 11 2026. No macro, syntax, notation, axiom, sorry.
-/
import Derived.Test.YtbijmojagnjgcaaGreatDoorRows
import GoSem.ClaimSeven
namespace Go.Proofs.YtbijmojagnjgcaaGreatDoor
namespace Rows

/-- THE TIED CARD OF 'trailheadlaw16.MarkLead'. -/
def markLeadCard : Claim7 := { stood := { row := markLeadRow, standIns := [], harness := (true, "43632fe26a97536b5ef75bf10be11c168018dacdc56b200fa4fcf2cbfa959de0"), looks := false }, kinds := [], alts := [], laidByText := true, laidKinds := [.data, .data], laidTests := true, laidLooks := .later }
def MarkLeadCardSaid : Prop := Claim7.holds Tryz.pinned (.plain (OpenSpec.ofChange markLeadSpec)) markLeadCard

/-- THE TIED CARD OF 'trailheadlaw16.MarkChild'. -/
def markChildCard : Claim7 := { stood := { row := markChildRow, standIns := [], harness := (true, "43632fe26a97536b5ef75bf10be11c168018dacdc56b200fa4fcf2cbfa959de0"), looks := false }, kinds := [], alts := [], laidByText := true, laidKinds := [.data, .data], laidTests := true, laidLooks := .later }
def MarkChildCardSaid : Prop := Claim7.holds Tryz.pinned (.plain (OpenSpec.ofChange markChildSpec)) markChildCard

/-- THE TIED CARD OF 'trailheadlaw16.MarkDoes'. -/
def markDoesCard : Claim7 := { stood := { row := markDoesRow, standIns := [], harness := (true, "43632fe26a97536b5ef75bf10be11c168018dacdc56b200fa4fcf2cbfa959de0"), looks := false }, kinds := [], alts := [], laidByText := true, laidKinds := [.data, .data], laidTests := true, laidLooks := .later }
def MarkDoesCardSaid : Prop := Claim7.holds Tryz.pinned (.plain (OpenSpec.ofChange markDoesSpec)) markDoesCard

/-- THE TIED CARD OF 'trailheadlaw16.MarkSteps'. -/
def markStepsCard : Claim7 := { stood := { row := markStepsRow, standIns := [], harness := (true, "43632fe26a97536b5ef75bf10be11c168018dacdc56b200fa4fcf2cbfa959de0"), looks := false }, kinds := [], alts := [], laidByText := true, laidKinds := [.data, .data], laidTests := true, laidLooks := .later }
def MarkStepsCardSaid : Prop := Claim7.holds Tryz.pinned (.plain (OpenSpec.ofChange markStepsSpec)) markStepsCard

/-- THE TIED CARD OF 'trailheadlaw16.MarkBack'. -/
def markBackCard : Claim7 := { stood := { row := markBackRow, standIns := [], harness := (true, "43632fe26a97536b5ef75bf10be11c168018dacdc56b200fa4fcf2cbfa959de0"), looks := false }, kinds := [], alts := [], laidByText := true, laidKinds := [.data, .data], laidTests := true, laidLooks := .later }
def MarkBackCardSaid : Prop := Claim7.holds Tryz.pinned (.plain (OpenSpec.ofChange markBackSpec)) markBackCard

/-- THE TIED CARD OF 'trailheadlaw16.MarkFails'. -/
def markFailsCard : Claim7 := { stood := { row := markFailsRow, standIns := [], harness := (true, "43632fe26a97536b5ef75bf10be11c168018dacdc56b200fa4fcf2cbfa959de0"), looks := false }, kinds := [], alts := [], laidByText := true, laidKinds := [.data, .data], laidTests := true, laidLooks := .later }
def MarkFailsCardSaid : Prop := Claim7.holds Tryz.pinned (.plain (OpenSpec.ofChange markFailsSpec)) markFailsCard

/-- THE SECOND FORM's CARD OF 'trailheadlaw16.MarkLead'. -/
def markLeadUptoCard : Claim7 := { stood := { row := markLeadUptoRow, standIns := [], harness := (true, "43632fe26a97536b5ef75bf10be11c168018dacdc56b200fa4fcf2cbfa959de0"), looks := false }, kinds := [], alts := [], laidByText := true, laidKinds := [.data, .data], laidTests := true, laidLooks := .later }
def MarkLeadUptoCardSaid : Prop := Claim7.holds Tryz.pinned (.plain (OpenSpec.upto markLeadSpec)) markLeadUptoCard

/-- THE SECOND FORM's CARD OF 'trailheadlaw16.MarkChild'. -/
def markChildUptoCard : Claim7 := { stood := { row := markChildUptoRow, standIns := [], harness := (true, "43632fe26a97536b5ef75bf10be11c168018dacdc56b200fa4fcf2cbfa959de0"), looks := false }, kinds := [], alts := [], laidByText := true, laidKinds := [.data, .data], laidTests := true, laidLooks := .later }
def MarkChildUptoCardSaid : Prop := Claim7.holds Tryz.pinned (.plain (OpenSpec.upto markChildSpec)) markChildUptoCard

/-- THE SECOND FORM's CARD OF 'trailheadlaw16.MarkDoes'. -/
def markDoesUptoCard : Claim7 := { stood := { row := markDoesUptoRow, standIns := [], harness := (true, "43632fe26a97536b5ef75bf10be11c168018dacdc56b200fa4fcf2cbfa959de0"), looks := false }, kinds := [], alts := [], laidByText := true, laidKinds := [.data, .data], laidTests := true, laidLooks := .later }
def MarkDoesUptoCardSaid : Prop := Claim7.holds Tryz.pinned (.plain (OpenSpec.upto markDoesSpec)) markDoesUptoCard

/-- THE SECOND FORM's CARD OF 'trailheadlaw16.MarkSteps'. -/
def markStepsUptoCard : Claim7 := { stood := { row := markStepsUptoRow, standIns := [], harness := (true, "43632fe26a97536b5ef75bf10be11c168018dacdc56b200fa4fcf2cbfa959de0"), looks := false }, kinds := [], alts := [], laidByText := true, laidKinds := [.data, .data], laidTests := true, laidLooks := .later }
def MarkStepsUptoCardSaid : Prop := Claim7.holds Tryz.pinned (.plain (OpenSpec.upto markStepsSpec)) markStepsUptoCard

/-- THE SECOND FORM's CARD OF 'trailheadlaw16.MarkBack'. -/
def markBackUptoCard : Claim7 := { stood := { row := markBackUptoRow, standIns := [], harness := (true, "43632fe26a97536b5ef75bf10be11c168018dacdc56b200fa4fcf2cbfa959de0"), looks := false }, kinds := [], alts := [], laidByText := true, laidKinds := [.data, .data], laidTests := true, laidLooks := .later }
def MarkBackUptoCardSaid : Prop := Claim7.holds Tryz.pinned (.plain (OpenSpec.upto markBackSpec)) markBackUptoCard

/-- THE SECOND FORM's CARD OF 'trailheadlaw16.MarkFails'. -/
def markFailsUptoCard : Claim7 := { stood := { row := markFailsUptoRow, standIns := [], harness := (true, "43632fe26a97536b5ef75bf10be11c168018dacdc56b200fa4fcf2cbfa959de0"), looks := false }, kinds := [], alts := [], laidByText := true, laidKinds := [.data, .data], laidTests := true, laidLooks := .later }
def MarkFailsUptoCardSaid : Prop := Claim7.holds Tryz.pinned (.plain (OpenSpec.upto markFailsSpec)) markFailsUptoCard
end Rows
end Go.Proofs.YtbijmojagnjgcaaGreatDoor
