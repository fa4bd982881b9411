/-
  DERIVED. GIVEN WITH THE SEED: THE CARDS: each row of YtbplamjmmjnibaaDoorRows.lean that lists a variable, with what it lists TIED to the program's text (the seventh form; the later family's looks); each row that meets fmt, with fmt's text TOLD by the authors' own Lean function (tested against real Go, not proved from fmt's source: count such statements apart). THE CARD IS WHAT COUNTS. Prove the row's statement (the work); the ties are given (YtbplamjmmjnibaaDoorTie.lean); close each card by the builder's one call (the guide's Derived/Test/ToyasCard.lean, 'card_holds'). Laid BY PROGRAM, IN A SANDBOX (cutbox-door.mjs). By AI agents, Wed Nov 11 2026. No macro, syntax, notation, axiom, sorry.
-/
import Derived.Test.YtbplamjmmjnibaaDoorRows
import GoSem.ClaimSeven
namespace Go.Proofs.YtbplamjmmjnibaaDoor
namespace Rows

/-- THE TIED CARD OF 'trailheadlaw11.RuleSpots'. -/
def ruleSpotsCard : Claim7 := { stood := { row := ruleSpotsRow, standIns := [], harness := (true, "e5c7d78c74f5711c741a2daaab5e0b61d30ce98a80cfa92eced232274c5d78a2"), looks := false }, kinds := [], alts := [], laidByText := true, laidKinds := [.data, .data], laidTests := true, laidLooks := .later }
def RuleSpotsCardSaid : Prop := Claim7.holds Tryd.pinned (.plain (OpenSpec.ofChange ruleSpotsSpec)) ruleSpotsCard

/-- THE TIED CARD OF 'trailheadlaw11.RuleLater'. -/
def ruleLaterCard : Claim7 := { stood := { row := ruleLaterRow, standIns := [], harness := (true, "e5c7d78c74f5711c741a2daaab5e0b61d30ce98a80cfa92eced232274c5d78a2"), looks := false }, kinds := [], alts := [], laidByText := true, laidKinds := [.data, .data], laidTests := true, laidLooks := .later }
def RuleLaterCardSaid : Prop := Claim7.holds Tryd.pinned (.plain (OpenSpec.ofChange ruleLaterSpec)) ruleLaterCard

/-- THE SECOND FORM's CARD OF 'trailheadlaw11.RuleSpots'. -/
def ruleSpotsUptoCard : Claim7 := { stood := { row := ruleSpotsUptoRow, standIns := [], harness := (true, "e5c7d78c74f5711c741a2daaab5e0b61d30ce98a80cfa92eced232274c5d78a2"), looks := false }, kinds := [], alts := [], laidByText := true, laidKinds := [.data, .data], laidTests := true, laidLooks := .later }
def RuleSpotsUptoCardSaid : Prop := Claim7.holds Tryd.pinned (.plain (OpenSpec.upto ruleSpotsSpec)) ruleSpotsUptoCard

/-- THE SECOND FORM's CARD OF 'trailheadlaw11.RuleLater'. -/
def ruleLaterUptoCard : Claim7 := { stood := { row := ruleLaterUptoRow, standIns := [], harness := (true, "e5c7d78c74f5711c741a2daaab5e0b61d30ce98a80cfa92eced232274c5d78a2"), looks := false }, kinds := [], alts := [], laidByText := true, laidKinds := [.data, .data], laidTests := true, laidLooks := .later }
def RuleLaterUptoCardSaid : Prop := Claim7.holds Tryd.pinned (.plain (OpenSpec.upto ruleLaterSpec)) ruleLaterUptoCard
end Rows
end Go.Proofs.YtbplamjmmjnibaaDoor
