/-
  DERIVED. GIVEN WITH THE SEED: THE CARDS: each row of YtbplamjmmjnibaaGreatDoorRows.lean that lists a variable, with what it lists TIED to the program's text (the seventh form; the later family's looks); each row that meets fmt, with fmt's text TOLD by the authors' own Lean function (tested against real Go, not proved from fmt's source: count such statements apart). THE CARD IS WHAT COUNTS. Prove the row's statement (the work); the ties are given (YtbplamjmmjnibaaGreatDoorTie.lean); close each card by the builder's one call (the guide's Derived/Test/ToyasCard.lean, 'card_holds'). Laid BY PROGRAM, IN A SANDBOX (cutbox-door.mjs). By AI agents, Wed Nov 11 2026. No macro, syntax, notation, axiom, sorry.
-/
import Derived.Test.YtbplamjmmjnibaaGreatDoorRows
import GoSem.ClaimSeven
namespace Go.Proofs.YtbplamjmmjnibaaGreatDoor
namespace Rows

/-- THE TIED CARD OF 'trailheadlaw11.RuleChecks'. -/
def ruleChecksCard : Claim7 := { stood := { row := ruleChecksRow, standIns := [], harness := (true, "f9e05a7d83a9e6387c4244f31f54493699a5557a66e1e0a8f00d3e88210bebb3"), looks := false }, kinds := [], alts := [], laidByText := true, laidKinds := [.data, .data], laidTests := true, laidLooks := .later }
def RuleChecksCardSaid : Prop := Claim7.holds Tryz.pinned (.plain (OpenSpec.ofChange ruleChecksSpec)) ruleChecksCard

/-- THE TIED CARD OF 'trailheadlaw12.ArenaStands'. -/
def arenaStandsCard : Claim7 := { stood := { row := arenaStandsRow, standIns := [], harness := (true, "f9e05a7d83a9e6387c4244f31f54493699a5557a66e1e0a8f00d3e88210bebb3"), looks := false }, kinds := [], alts := [], laidByText := true, laidKinds := [.data, .data], laidTests := true, laidLooks := .later }
def ArenaStandsCardSaid : Prop := Claim7.holds Tryz.pinned (.plain (OpenSpec.ofChange arenaStandsSpec)) arenaStandsCard

/-- THE TIED CARD OF 'trailheadlaw12.ArenaOnce'. -/
def arenaOnceCard : Claim7 := { stood := { row := arenaOnceRow, standIns := [], harness := (true, "f9e05a7d83a9e6387c4244f31f54493699a5557a66e1e0a8f00d3e88210bebb3"), looks := false }, kinds := [], alts := [], laidByText := true, laidKinds := [.data, .data], laidTests := true, laidLooks := .later }
def ArenaOnceCardSaid : Prop := Claim7.holds Tryz.pinned (.plain (OpenSpec.ofChange arenaOnceSpec)) arenaOnceCard

/-- THE TIED CARD OF 'trailheadlaw12.ArenaRoom'. -/
def arenaRoomCard : Claim7 := { stood := { row := arenaRoomRow, standIns := [], harness := (true, "f9e05a7d83a9e6387c4244f31f54493699a5557a66e1e0a8f00d3e88210bebb3"), looks := false }, kinds := [], alts := [], laidByText := true, laidKinds := [.data, .data], laidTests := true, laidLooks := .later }
def ArenaRoomCardSaid : Prop := Claim7.holds Tryz.pinned (.plain (OpenSpec.ofChange arenaRoomSpec)) arenaRoomCard

/-- THE TIED CARD OF 'trailheadlaw12.ArenaDoes'. -/
def arenaDoesCard : Claim7 := { stood := { row := arenaDoesRow, standIns := [], harness := (true, "f9e05a7d83a9e6387c4244f31f54493699a5557a66e1e0a8f00d3e88210bebb3"), looks := false }, kinds := [], alts := [], laidByText := true, laidKinds := [.data, .data], laidTests := true, laidLooks := .later }
def ArenaDoesCardSaid : Prop := Claim7.holds Tryz.pinned (.plain (OpenSpec.ofChange arenaDoesSpec)) arenaDoesCard

/-- THE TIED CARD OF 'trailheadlaw12.ArenaSpots'. -/
def arenaSpotsCard : Claim7 := { stood := { row := arenaSpotsRow, standIns := [], harness := (true, "f9e05a7d83a9e6387c4244f31f54493699a5557a66e1e0a8f00d3e88210bebb3"), looks := false }, kinds := [], alts := [], laidByText := true, laidKinds := [.data, .data], laidTests := true, laidLooks := .later }
def ArenaSpotsCardSaid : Prop := Claim7.holds Tryz.pinned (.plain (OpenSpec.ofChange arenaSpotsSpec)) arenaSpotsCard

/-- THE TIED CARD OF 'trailheadlaw13.SkipCommon'. -/
def skipCommonCard : Claim7 := { stood := { row := skipCommonRow, standIns := [], harness := (true, "f9e05a7d83a9e6387c4244f31f54493699a5557a66e1e0a8f00d3e88210bebb3"), looks := false }, kinds := [], alts := [], laidByText := true, laidKinds := [.data, .data], laidTests := true, laidLooks := .later }
def SkipCommonCardSaid : Prop := Claim7.holds Tryz.pinned (.plain (OpenSpec.ofChange skipCommonSpec)) skipCommonCard

/-- THE TIED CARD OF 'trailheadlaw13.SkipWithin'. -/
def skipWithinCard : Claim7 := { stood := { row := skipWithinRow, standIns := [], harness := (true, "f9e05a7d83a9e6387c4244f31f54493699a5557a66e1e0a8f00d3e88210bebb3"), looks := false }, kinds := [], alts := [], laidByText := true, laidKinds := [.data, .data], laidTests := true, laidLooks := .later }
def SkipWithinCardSaid : Prop := Claim7.holds Tryz.pinned (.plain (OpenSpec.ofChange skipWithinSpec)) skipWithinCard

/-- THE TIED CARD OF 'trailheadlaw14.LocateKnown'. -/
def locateKnownCard : Claim7 := { stood := { row := locateKnownRow, standIns := [], harness := (true, "f9e05a7d83a9e6387c4244f31f54493699a5557a66e1e0a8f00d3e88210bebb3"), looks := false }, kinds := [], alts := [], laidByText := true, laidKinds := [.data, .data], laidTests := true, laidLooks := .later }
def LocateKnownCardSaid : Prop := Claim7.holds Tryz.pinned (.plain (OpenSpec.ofChange locateKnownSpec)) locateKnownCard

/-- THE TIED CARD OF 'trailheadlaw14.LocateRow'. -/
def locateRowCard : Claim7 := { stood := { row := locateRowRow, standIns := [], harness := (true, "f9e05a7d83a9e6387c4244f31f54493699a5557a66e1e0a8f00d3e88210bebb3"), looks := false }, kinds := [], alts := [], laidByText := true, laidKinds := [.data, .data], laidTests := true, laidLooks := .later }
def LocateRowCardSaid : Prop := Claim7.holds Tryz.pinned (.plain (OpenSpec.ofChange locateRowSpec)) locateRowCard

/-- THE SECOND FORM's CARD OF 'trailheadlaw11.RuleChecks'. -/
def ruleChecksUptoCard : Claim7 := { stood := { row := ruleChecksUptoRow, standIns := [], harness := (true, "f9e05a7d83a9e6387c4244f31f54493699a5557a66e1e0a8f00d3e88210bebb3"), looks := false }, kinds := [], alts := [], laidByText := true, laidKinds := [.data, .data], laidTests := true, laidLooks := .later }
def RuleChecksUptoCardSaid : Prop := Claim7.holds Tryz.pinned (.plain (OpenSpec.upto ruleChecksSpec)) ruleChecksUptoCard

/-- THE SECOND FORM's CARD OF 'trailheadlaw12.ArenaStands'. -/
def arenaStandsUptoCard : Claim7 := { stood := { row := arenaStandsUptoRow, standIns := [], harness := (true, "f9e05a7d83a9e6387c4244f31f54493699a5557a66e1e0a8f00d3e88210bebb3"), looks := false }, kinds := [], alts := [], laidByText := true, laidKinds := [.data, .data], laidTests := true, laidLooks := .later }
def ArenaStandsUptoCardSaid : Prop := Claim7.holds Tryz.pinned (.plain (OpenSpec.upto arenaStandsSpec)) arenaStandsUptoCard

/-- THE SECOND FORM's CARD OF 'trailheadlaw12.ArenaOnce'. -/
def arenaOnceUptoCard : Claim7 := { stood := { row := arenaOnceUptoRow, standIns := [], harness := (true, "f9e05a7d83a9e6387c4244f31f54493699a5557a66e1e0a8f00d3e88210bebb3"), looks := false }, kinds := [], alts := [], laidByText := true, laidKinds := [.data, .data], laidTests := true, laidLooks := .later }
def ArenaOnceUptoCardSaid : Prop := Claim7.holds Tryz.pinned (.plain (OpenSpec.upto arenaOnceSpec)) arenaOnceUptoCard

/-- THE SECOND FORM's CARD OF 'trailheadlaw12.ArenaRoom'. -/
def arenaRoomUptoCard : Claim7 := { stood := { row := arenaRoomUptoRow, standIns := [], harness := (true, "f9e05a7d83a9e6387c4244f31f54493699a5557a66e1e0a8f00d3e88210bebb3"), looks := false }, kinds := [], alts := [], laidByText := true, laidKinds := [.data, .data], laidTests := true, laidLooks := .later }
def ArenaRoomUptoCardSaid : Prop := Claim7.holds Tryz.pinned (.plain (OpenSpec.upto arenaRoomSpec)) arenaRoomUptoCard

/-- THE SECOND FORM's CARD OF 'trailheadlaw12.ArenaDoes'. -/
def arenaDoesUptoCard : Claim7 := { stood := { row := arenaDoesUptoRow, standIns := [], harness := (true, "f9e05a7d83a9e6387c4244f31f54493699a5557a66e1e0a8f00d3e88210bebb3"), looks := false }, kinds := [], alts := [], laidByText := true, laidKinds := [.data, .data], laidTests := true, laidLooks := .later }
def ArenaDoesUptoCardSaid : Prop := Claim7.holds Tryz.pinned (.plain (OpenSpec.upto arenaDoesSpec)) arenaDoesUptoCard

/-- THE SECOND FORM's CARD OF 'trailheadlaw12.ArenaSpots'. -/
def arenaSpotsUptoCard : Claim7 := { stood := { row := arenaSpotsUptoRow, standIns := [], harness := (true, "f9e05a7d83a9e6387c4244f31f54493699a5557a66e1e0a8f00d3e88210bebb3"), looks := false }, kinds := [], alts := [], laidByText := true, laidKinds := [.data, .data], laidTests := true, laidLooks := .later }
def ArenaSpotsUptoCardSaid : Prop := Claim7.holds Tryz.pinned (.plain (OpenSpec.upto arenaSpotsSpec)) arenaSpotsUptoCard

/-- THE SECOND FORM's CARD OF 'trailheadlaw13.SkipCommon'. -/
def skipCommonUptoCard : Claim7 := { stood := { row := skipCommonUptoRow, standIns := [], harness := (true, "f9e05a7d83a9e6387c4244f31f54493699a5557a66e1e0a8f00d3e88210bebb3"), looks := false }, kinds := [], alts := [], laidByText := true, laidKinds := [.data, .data], laidTests := true, laidLooks := .later }
def SkipCommonUptoCardSaid : Prop := Claim7.holds Tryz.pinned (.plain (OpenSpec.upto skipCommonSpec)) skipCommonUptoCard

/-- THE SECOND FORM's CARD OF 'trailheadlaw13.SkipWithin'. -/
def skipWithinUptoCard : Claim7 := { stood := { row := skipWithinUptoRow, standIns := [], harness := (true, "f9e05a7d83a9e6387c4244f31f54493699a5557a66e1e0a8f00d3e88210bebb3"), looks := false }, kinds := [], alts := [], laidByText := true, laidKinds := [.data, .data], laidTests := true, laidLooks := .later }
def SkipWithinUptoCardSaid : Prop := Claim7.holds Tryz.pinned (.plain (OpenSpec.upto skipWithinSpec)) skipWithinUptoCard

/-- THE SECOND FORM's CARD OF 'trailheadlaw14.LocateKnown'. -/
def locateKnownUptoCard : Claim7 := { stood := { row := locateKnownUptoRow, standIns := [], harness := (true, "f9e05a7d83a9e6387c4244f31f54493699a5557a66e1e0a8f00d3e88210bebb3"), looks := false }, kinds := [], alts := [], laidByText := true, laidKinds := [.data, .data], laidTests := true, laidLooks := .later }
def LocateKnownUptoCardSaid : Prop := Claim7.holds Tryz.pinned (.plain (OpenSpec.upto locateKnownSpec)) locateKnownUptoCard

/-- THE SECOND FORM's CARD OF 'trailheadlaw14.LocateRow'. -/
def locateRowUptoCard : Claim7 := { stood := { row := locateRowUptoRow, standIns := [], harness := (true, "f9e05a7d83a9e6387c4244f31f54493699a5557a66e1e0a8f00d3e88210bebb3"), looks := false }, kinds := [], alts := [], laidByText := true, laidKinds := [.data, .data], laidTests := true, laidLooks := .later }
def LocateRowUptoCardSaid : Prop := Claim7.holds Tryz.pinned (.plain (OpenSpec.upto locateRowSpec)) locateRowUptoCard
end Rows
end Go.Proofs.YtbplamjmmjnibaaGreatDoor
