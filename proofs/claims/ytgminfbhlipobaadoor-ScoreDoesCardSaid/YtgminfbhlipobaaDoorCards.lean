/-
  DERIVED. GIVEN WITH THE SEED: THE CARDS: each row of YtgminfbhlipobaaDoorRows.lean that lists a variable, with what it lists TIED to the program's text (the seventh form; the later family's looks); each row that meets fmt, with fmt's text TOLD by the authors' own Lean function (tested against real Go, not proved from fmt's source: count such statements apart). THE CARD IS WHAT COUNTS. Prove the row's statement (the work); the ties are given (YtgminfbhlipobaaDoorTie.lean); close each card by the builder's one call (the guide's Derived/Test/ToyasCard.lean, 'card_holds'). Laid BY PROGRAM, IN A SANDBOX (cutbox-door.mjs). By AI agents, Wed Nov 11 2026. No macro, syntax, notation, axiom, sorry.
-/
import Derived.Test.YtgminfbhlipobaaDoorRows
import GoSem.ClaimSeven
namespace Go.Proofs.YtgminfbhlipobaaDoor
namespace Rows

/-- THE TIED CARD OF 'trailheadlaw20.ScoreApart'. -/
def scoreApartCard : Claim7 := { stood := { row := scoreApartRow, standIns := [], harness := (true, "011c43ebaa00958c5f55664250a300cb0c7121406d2c793745b716ca18cc8e8e"), looks := false }, kinds := [], alts := [], laidByText := true, laidKinds := [.data], laidTests := true, laidLooks := .later }
def ScoreApartCardSaid : Prop := Claim7.holds Tryd.pinned (.plain (OpenSpec.ofChange scoreApartSpec)) scoreApartCard

/-- THE TIED CARD OF 'trailheadlaw20.ScorePoints'. -/
def scorePointsCard : Claim7 := { stood := { row := scorePointsRow, standIns := [], harness := (true, "011c43ebaa00958c5f55664250a300cb0c7121406d2c793745b716ca18cc8e8e"), looks := false }, kinds := [], alts := [], laidByText := true, laidKinds := [.data], laidTests := true, laidLooks := .later }
def ScorePointsCardSaid : Prop := Claim7.holds Tryd.pinned (.plain (OpenSpec.ofChange scorePointsSpec)) scorePointsCard

/-- THE TIED CARD OF 'trailheadlaw20.ScoreRow'. -/
def scoreRowCard : Claim7 := { stood := { row := scoreRowRow, standIns := [], harness := (true, "011c43ebaa00958c5f55664250a300cb0c7121406d2c793745b716ca18cc8e8e"), looks := false }, kinds := [], alts := [], laidByText := true, laidKinds := [.data], laidTests := true, laidLooks := .later }
def ScoreRowCardSaid : Prop := Claim7.holds Tryd.pinned (.plain (OpenSpec.ofChange scoreRowSpec)) scoreRowCard

/-- THE TIED CARD OF 'trailheadlaw20.ScoreDoes'. -/
def scoreDoesCard : Claim7 := { stood := { row := scoreDoesRow, standIns := [], harness := (true, "011c43ebaa00958c5f55664250a300cb0c7121406d2c793745b716ca18cc8e8e"), looks := false }, kinds := [], alts := [], laidByText := true, laidKinds := [.data], laidTests := true, laidLooks := .later }
def ScoreDoesCardSaid : Prop := Claim7.holds Tryd.pinned (.plain (OpenSpec.ofChange scoreDoesSpec)) scoreDoesCard

/-- THE TIED CARD OF 'trailheadlaw13.SkipHeights'. -/
def skipHeightsCard : Claim7 := { stood := { row := skipHeightsRow, standIns := [], harness := (true, "011c43ebaa00958c5f55664250a300cb0c7121406d2c793745b716ca18cc8e8e"), looks := false }, kinds := [], alts := [], laidByText := true, laidKinds := [.data, .data], laidTests := true, laidLooks := .later }
def SkipHeightsCardSaid : Prop := Claim7.holds Tryd.pinned (.plain (OpenSpec.ofChange skipHeightsSpec)) skipHeightsCard

/-- THE SECOND FORM's CARD OF 'trailheadlaw20.ScoreApart'. -/
def scoreApartUptoCard : Claim7 := { stood := { row := scoreApartUptoRow, standIns := [], harness := (true, "011c43ebaa00958c5f55664250a300cb0c7121406d2c793745b716ca18cc8e8e"), looks := false }, kinds := [], alts := [], laidByText := true, laidKinds := [.data], laidTests := true, laidLooks := .later }
def ScoreApartUptoCardSaid : Prop := Claim7.holds Tryd.pinned (.plain (OpenSpec.upto scoreApartSpec)) scoreApartUptoCard

/-- THE SECOND FORM's CARD OF 'trailheadlaw20.ScorePoints'. -/
def scorePointsUptoCard : Claim7 := { stood := { row := scorePointsUptoRow, standIns := [], harness := (true, "011c43ebaa00958c5f55664250a300cb0c7121406d2c793745b716ca18cc8e8e"), looks := false }, kinds := [], alts := [], laidByText := true, laidKinds := [.data], laidTests := true, laidLooks := .later }
def ScorePointsUptoCardSaid : Prop := Claim7.holds Tryd.pinned (.plain (OpenSpec.upto scorePointsSpec)) scorePointsUptoCard

/-- THE SECOND FORM's CARD OF 'trailheadlaw20.ScoreRow'. -/
def scoreRowUptoCard : Claim7 := { stood := { row := scoreRowUptoRow, standIns := [], harness := (true, "011c43ebaa00958c5f55664250a300cb0c7121406d2c793745b716ca18cc8e8e"), looks := false }, kinds := [], alts := [], laidByText := true, laidKinds := [.data], laidTests := true, laidLooks := .later }
def ScoreRowUptoCardSaid : Prop := Claim7.holds Tryd.pinned (.plain (OpenSpec.upto scoreRowSpec)) scoreRowUptoCard

/-- THE SECOND FORM's CARD OF 'trailheadlaw20.ScoreDoes'. -/
def scoreDoesUptoCard : Claim7 := { stood := { row := scoreDoesUptoRow, standIns := [], harness := (true, "011c43ebaa00958c5f55664250a300cb0c7121406d2c793745b716ca18cc8e8e"), looks := false }, kinds := [], alts := [], laidByText := true, laidKinds := [.data], laidTests := true, laidLooks := .later }
def ScoreDoesUptoCardSaid : Prop := Claim7.holds Tryd.pinned (.plain (OpenSpec.upto scoreDoesSpec)) scoreDoesUptoCard

/-- THE SECOND FORM's CARD OF 'trailheadlaw13.SkipHeights'. -/
def skipHeightsUptoCard : Claim7 := { stood := { row := skipHeightsUptoRow, standIns := [], harness := (true, "011c43ebaa00958c5f55664250a300cb0c7121406d2c793745b716ca18cc8e8e"), looks := false }, kinds := [], alts := [], laidByText := true, laidKinds := [.data, .data], laidTests := true, laidLooks := .later }
def SkipHeightsUptoCardSaid : Prop := Claim7.holds Tryd.pinned (.plain (OpenSpec.upto skipHeightsSpec)) skipHeightsUptoCard
end Rows
end Go.Proofs.YtgminfbhlipobaaDoor
