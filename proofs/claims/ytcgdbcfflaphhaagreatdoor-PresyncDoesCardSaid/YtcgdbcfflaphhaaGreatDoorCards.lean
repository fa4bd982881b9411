/-
  DERIVED. GIVEN WITH THE SEED: THE CARDS: each row of YtcgdbcfflaphhaaGreatDoorRows.lean that lists a variable, with what it lists TIED to the program's text (the seventh form; the later family's looks); each row that meets fmt, with fmt's text TOLD by the authors' own Lean function (tested against real Go, not proved from fmt's source: count such statements apart). THE CARD IS WHAT COUNTS. Prove the row's statement (the work); the ties are given (YtcgdbcfflaphhaaGreatDoorTie.lean); close each card by the builder's one call (the guide's Derived/Test/ToyasCard.lean, 'card_holds'). Laid BY PROGRAM, IN A SANDBOX (cutbox-door.mjs). By AI agents, Wed Nov 11 2026. No macro, syntax, notation, axiom, sorry.
-/
import Derived.Test.YtcgdbcfflaphhaaGreatDoorRows
import GoSem.ClaimSeven
namespace Go.Proofs.YtcgdbcfflaphhaaGreatDoor
namespace Rows

/-- THE TIED CARD OF 'trailheadlaw14.LocateAnswers'. -/
def locateAnswersCard : Claim7 := { stood := { row := locateAnswersRow, standIns := [], harness := (true, "c82f2e2f611f11ab8f4254c2dd5670915bef11b6593054d80c214bf4d3a02e15"), looks := false }, kinds := [], alts := [], laidByText := true, laidKinds := [.data, .data], laidTests := true, laidLooks := .later }
def LocateAnswersCardSaid : Prop := Claim7.holds Tryz.pinned (.plain (OpenSpec.ofChange locateAnswersSpec)) locateAnswersCard

/-- THE TIED CARD OF 'trailheadlaw13.SkipStores'. -/
def skipStoresCard : Claim7 := { stood := { row := skipStoresRow, standIns := [], harness := (true, "c82f2e2f611f11ab8f4254c2dd5670915bef11b6593054d80c214bf4d3a02e15"), looks := false }, kinds := [], alts := [], laidByText := true, laidKinds := [.data, .data], laidTests := true, laidLooks := .later }
def SkipStoresCardSaid : Prop := Claim7.holds Tryz.pinned (.plain (OpenSpec.ofChange skipStoresSpec)) skipStoresCard

/-- THE TIED CARD OF 'trailheadlaw14.LocateForks'. -/
def locateForksCard : Claim7 := { stood := { row := locateForksRow, standIns := [], harness := (true, "c82f2e2f611f11ab8f4254c2dd5670915bef11b6593054d80c214bf4d3a02e15"), looks := false }, kinds := [], alts := [], laidByText := true, laidKinds := [.data, .data], laidTests := true, laidLooks := .later }
def LocateForksCardSaid : Prop := Claim7.holds Tryz.pinned (.plain (OpenSpec.ofChange locateForksSpec)) locateForksCard

/-- THE TIED CARD OF 'trailheadlaw14.LocateSelf'. -/
def locateSelfCard : Claim7 := { stood := { row := locateSelfRow, standIns := [], harness := (true, "c82f2e2f611f11ab8f4254c2dd5670915bef11b6593054d80c214bf4d3a02e15"), looks := false }, kinds := [], alts := [], laidByText := true, laidKinds := [.data, .data], laidTests := true, laidLooks := .later }
def LocateSelfCardSaid : Prop := Claim7.holds Tryz.pinned (.plain (OpenSpec.ofChange locateSelfSpec)) locateSelfCard

/-- THE TIED CARD OF 'trailheadlaw13.SkipAncestors'. -/
def skipAncestorsCard : Claim7 := { stood := { row := skipAncestorsRow, standIns := [], harness := (true, "c82f2e2f611f11ab8f4254c2dd5670915bef11b6593054d80c214bf4d3a02e15"), looks := false }, kinds := [], alts := [], laidByText := true, laidKinds := [.data, .data], laidTests := true, laidLooks := .later }
def SkipAncestorsCardSaid : Prop := Claim7.holds Tryz.pinned (.plain (OpenSpec.ofChange skipAncestorsSpec)) skipAncestorsCard

/-- THE TIED CARD OF 'trailheadlaw14.LocateNames'. -/
def locateNamesCard : Claim7 := { stood := { row := locateNamesRow, standIns := [], harness := (true, "c82f2e2f611f11ab8f4254c2dd5670915bef11b6593054d80c214bf4d3a02e15"), looks := false }, kinds := [], alts := [], laidByText := true, laidKinds := [.data, .data], laidTests := true, laidLooks := .later }
def LocateNamesCardSaid : Prop := Claim7.holds Tryz.pinned (.plain (OpenSpec.ofChange locateNamesSpec)) locateNamesCard

/-- THE TIED CARD OF 'trailheadlaw19.PresyncStores'. -/
def presyncStoresCard : Claim7 := { stood := { row := presyncStoresRow, standIns := [], harness := (true, "c82f2e2f611f11ab8f4254c2dd5670915bef11b6593054d80c214bf4d3a02e15"), looks := false }, kinds := [], alts := [], laidByText := true, laidKinds := [.data, .data], laidTests := true, laidLooks := .later }
def PresyncStoresCardSaid : Prop := Claim7.holds Tryz.pinned (.plain (OpenSpec.ofChange presyncStoresSpec)) presyncStoresCard

/-- THE TIED CARD OF 'trailheadlaw19.PresyncHonest'. -/
def presyncHonestCard : Claim7 := { stood := { row := presyncHonestRow, standIns := [], harness := (true, "c82f2e2f611f11ab8f4254c2dd5670915bef11b6593054d80c214bf4d3a02e15"), looks := false }, kinds := [], alts := [], laidByText := true, laidKinds := [.data, .data], laidTests := true, laidLooks := .later }
def PresyncHonestCardSaid : Prop := Claim7.holds Tryz.pinned (.plain (OpenSpec.ofChange presyncHonestSpec)) presyncHonestCard

/-- THE TIED CARD OF 'trailheadlaw19.PresyncRoom'. -/
def presyncRoomCard : Claim7 := { stood := { row := presyncRoomRow, standIns := [], harness := (true, "c82f2e2f611f11ab8f4254c2dd5670915bef11b6593054d80c214bf4d3a02e15"), looks := false }, kinds := [], alts := [], laidByText := true, laidKinds := [.data, .data], laidTests := true, laidLooks := .later }
def PresyncRoomCardSaid : Prop := Claim7.holds Tryz.pinned (.plain (OpenSpec.ofChange presyncRoomSpec)) presyncRoomCard

/-- THE TIED CARD OF 'trailheadlaw19.PresyncDown'. -/
def presyncDownCard : Claim7 := { stood := { row := presyncDownRow, standIns := [], harness := (true, "c82f2e2f611f11ab8f4254c2dd5670915bef11b6593054d80c214bf4d3a02e15"), looks := false }, kinds := [], alts := [], laidByText := true, laidKinds := [.data, .data], laidTests := true, laidLooks := .later }
def PresyncDownCardSaid : Prop := Claim7.holds Tryz.pinned (.plain (OpenSpec.ofChange presyncDownSpec)) presyncDownCard

/-- THE TIED CARD OF 'trailheadlaw19.PresyncDoes'. -/
def presyncDoesCard : Claim7 := { stood := { row := presyncDoesRow, standIns := [], harness := (true, "c82f2e2f611f11ab8f4254c2dd5670915bef11b6593054d80c214bf4d3a02e15"), looks := false }, kinds := [], alts := [], laidByText := true, laidKinds := [.data, .data], laidTests := true, laidLooks := .later }
def PresyncDoesCardSaid : Prop := Claim7.holds Tryz.pinned (.plain (OpenSpec.ofChange presyncDoesSpec)) presyncDoesCard

/-- THE TIED CARD OF 'trailheadlaw16.MarkFails'. -/
def markFailsCard : Claim7 := { stood := { row := markFailsRow, standIns := [], harness := (true, "c82f2e2f611f11ab8f4254c2dd5670915bef11b6593054d80c214bf4d3a02e15"), looks := false }, kinds := [], alts := [], laidByText := true, laidKinds := [.data, .data], laidTests := true, laidLooks := .later }
def MarkFailsCardSaid : Prop := Claim7.holds Tryz.pinned (.plain (OpenSpec.ofChange markFailsSpec)) markFailsCard

/-- THE SECOND FORM's CARD OF 'trailheadlaw14.LocateAnswers'. -/
def locateAnswersUptoCard : Claim7 := { stood := { row := locateAnswersUptoRow, standIns := [], harness := (true, "c82f2e2f611f11ab8f4254c2dd5670915bef11b6593054d80c214bf4d3a02e15"), looks := false }, kinds := [], alts := [], laidByText := true, laidKinds := [.data, .data], laidTests := true, laidLooks := .later }
def LocateAnswersUptoCardSaid : Prop := Claim7.holds Tryz.pinned (.plain (OpenSpec.upto locateAnswersSpec)) locateAnswersUptoCard

/-- THE SECOND FORM's CARD OF 'trailheadlaw13.SkipStores'. -/
def skipStoresUptoCard : Claim7 := { stood := { row := skipStoresUptoRow, standIns := [], harness := (true, "c82f2e2f611f11ab8f4254c2dd5670915bef11b6593054d80c214bf4d3a02e15"), looks := false }, kinds := [], alts := [], laidByText := true, laidKinds := [.data, .data], laidTests := true, laidLooks := .later }
def SkipStoresUptoCardSaid : Prop := Claim7.holds Tryz.pinned (.plain (OpenSpec.upto skipStoresSpec)) skipStoresUptoCard

/-- THE SECOND FORM's CARD OF 'trailheadlaw14.LocateForks'. -/
def locateForksUptoCard : Claim7 := { stood := { row := locateForksUptoRow, standIns := [], harness := (true, "c82f2e2f611f11ab8f4254c2dd5670915bef11b6593054d80c214bf4d3a02e15"), looks := false }, kinds := [], alts := [], laidByText := true, laidKinds := [.data, .data], laidTests := true, laidLooks := .later }
def LocateForksUptoCardSaid : Prop := Claim7.holds Tryz.pinned (.plain (OpenSpec.upto locateForksSpec)) locateForksUptoCard

/-- THE SECOND FORM's CARD OF 'trailheadlaw14.LocateSelf'. -/
def locateSelfUptoCard : Claim7 := { stood := { row := locateSelfUptoRow, standIns := [], harness := (true, "c82f2e2f611f11ab8f4254c2dd5670915bef11b6593054d80c214bf4d3a02e15"), looks := false }, kinds := [], alts := [], laidByText := true, laidKinds := [.data, .data], laidTests := true, laidLooks := .later }
def LocateSelfUptoCardSaid : Prop := Claim7.holds Tryz.pinned (.plain (OpenSpec.upto locateSelfSpec)) locateSelfUptoCard

/-- THE SECOND FORM's CARD OF 'trailheadlaw13.SkipAncestors'. -/
def skipAncestorsUptoCard : Claim7 := { stood := { row := skipAncestorsUptoRow, standIns := [], harness := (true, "c82f2e2f611f11ab8f4254c2dd5670915bef11b6593054d80c214bf4d3a02e15"), looks := false }, kinds := [], alts := [], laidByText := true, laidKinds := [.data, .data], laidTests := true, laidLooks := .later }
def SkipAncestorsUptoCardSaid : Prop := Claim7.holds Tryz.pinned (.plain (OpenSpec.upto skipAncestorsSpec)) skipAncestorsUptoCard

/-- THE SECOND FORM's CARD OF 'trailheadlaw14.LocateNames'. -/
def locateNamesUptoCard : Claim7 := { stood := { row := locateNamesUptoRow, standIns := [], harness := (true, "c82f2e2f611f11ab8f4254c2dd5670915bef11b6593054d80c214bf4d3a02e15"), looks := false }, kinds := [], alts := [], laidByText := true, laidKinds := [.data, .data], laidTests := true, laidLooks := .later }
def LocateNamesUptoCardSaid : Prop := Claim7.holds Tryz.pinned (.plain (OpenSpec.upto locateNamesSpec)) locateNamesUptoCard

/-- THE SECOND FORM's CARD OF 'trailheadlaw19.PresyncStores'. -/
def presyncStoresUptoCard : Claim7 := { stood := { row := presyncStoresUptoRow, standIns := [], harness := (true, "c82f2e2f611f11ab8f4254c2dd5670915bef11b6593054d80c214bf4d3a02e15"), looks := false }, kinds := [], alts := [], laidByText := true, laidKinds := [.data, .data], laidTests := true, laidLooks := .later }
def PresyncStoresUptoCardSaid : Prop := Claim7.holds Tryz.pinned (.plain (OpenSpec.upto presyncStoresSpec)) presyncStoresUptoCard

/-- THE SECOND FORM's CARD OF 'trailheadlaw19.PresyncHonest'. -/
def presyncHonestUptoCard : Claim7 := { stood := { row := presyncHonestUptoRow, standIns := [], harness := (true, "c82f2e2f611f11ab8f4254c2dd5670915bef11b6593054d80c214bf4d3a02e15"), looks := false }, kinds := [], alts := [], laidByText := true, laidKinds := [.data, .data], laidTests := true, laidLooks := .later }
def PresyncHonestUptoCardSaid : Prop := Claim7.holds Tryz.pinned (.plain (OpenSpec.upto presyncHonestSpec)) presyncHonestUptoCard

/-- THE SECOND FORM's CARD OF 'trailheadlaw19.PresyncRoom'. -/
def presyncRoomUptoCard : Claim7 := { stood := { row := presyncRoomUptoRow, standIns := [], harness := (true, "c82f2e2f611f11ab8f4254c2dd5670915bef11b6593054d80c214bf4d3a02e15"), looks := false }, kinds := [], alts := [], laidByText := true, laidKinds := [.data, .data], laidTests := true, laidLooks := .later }
def PresyncRoomUptoCardSaid : Prop := Claim7.holds Tryz.pinned (.plain (OpenSpec.upto presyncRoomSpec)) presyncRoomUptoCard

/-- THE SECOND FORM's CARD OF 'trailheadlaw19.PresyncDown'. -/
def presyncDownUptoCard : Claim7 := { stood := { row := presyncDownUptoRow, standIns := [], harness := (true, "c82f2e2f611f11ab8f4254c2dd5670915bef11b6593054d80c214bf4d3a02e15"), looks := false }, kinds := [], alts := [], laidByText := true, laidKinds := [.data, .data], laidTests := true, laidLooks := .later }
def PresyncDownUptoCardSaid : Prop := Claim7.holds Tryz.pinned (.plain (OpenSpec.upto presyncDownSpec)) presyncDownUptoCard

/-- THE SECOND FORM's CARD OF 'trailheadlaw19.PresyncDoes'. -/
def presyncDoesUptoCard : Claim7 := { stood := { row := presyncDoesUptoRow, standIns := [], harness := (true, "c82f2e2f611f11ab8f4254c2dd5670915bef11b6593054d80c214bf4d3a02e15"), looks := false }, kinds := [], alts := [], laidByText := true, laidKinds := [.data, .data], laidTests := true, laidLooks := .later }
def PresyncDoesUptoCardSaid : Prop := Claim7.holds Tryz.pinned (.plain (OpenSpec.upto presyncDoesSpec)) presyncDoesUptoCard

/-- THE SECOND FORM's CARD OF 'trailheadlaw16.MarkFails'. -/
def markFailsUptoCard : Claim7 := { stood := { row := markFailsUptoRow, standIns := [], harness := (true, "c82f2e2f611f11ab8f4254c2dd5670915bef11b6593054d80c214bf4d3a02e15"), looks := false }, kinds := [], alts := [], laidByText := true, laidKinds := [.data, .data], laidTests := true, laidLooks := .later }
def MarkFailsUptoCardSaid : Prop := Claim7.holds Tryz.pinned (.plain (OpenSpec.upto markFailsSpec)) markFailsUptoCard
end Rows
end Go.Proofs.YtcgdbcfflaphhaaGreatDoor
