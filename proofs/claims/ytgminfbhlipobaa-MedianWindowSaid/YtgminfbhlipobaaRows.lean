/-
  No cell of these rows narrows 'for every input' (looked for: loops, veiled, ifaces, maps, wideKeys, modest, calm, conditions, laid).
  DERIVED. THE GIVEN ROWS OF THIS SEAT. 7 by the template 'for every input the law returns true; each argument reads behind the call as it read before'; 0 by the template 'total and deterministic' (their statements: YtgminfbhlipobaaTotals.lean).
  GIVEN WITH THE SEED: the statements are not yours to turn. If you find one false, say at which input.
  Laid BY PROGRAM, IN A SANDBOX (cutbox-rows.mjs): the forced cells as the released guide's own fill.sh prints them over the translation 13b9a651883f4bbb… (all of the seat's roots in one cut). By AI agents, Wed Nov 11 2026. No macro, syntax, notation, axiom, sorry.
-/
import Derived.Test.YtgminfbhlipobaaChecked
import GoSem.Claim
import GoSem.ClaimJoined
import GoSem.ClaimMapViews
import Derived.JoinedTies
import Derived.KernelRfl
namespace Go.Proofs.Ytgminfbhlipobaa
/- THE CELL 'sum', in the pinned program and in every row, IS THE sha256 OF THE DUMP (.gsa) THAT YtgminfbhlipobaaProg.lean LOADS. Nothing in Lean hashes anything: it is a label: what it is worth is what the hold of that sum in a sandbox is worth. -/
noncomputable def Try.pinned : Pinned := { name := "ytgminfbhlipobaa", sum := "13b9a651883f4bbba1d01789fd2dcaa89c5b7dc3d5423dc854e4d2569033d392", checked := Try.checked }
namespace Rows
def none {H : Type} : Left H := { results := [], args := [] }

/-- 'trailheadlaw14.LocateHeights': WHATEVER THE INPUT: true; the input reads as it did. -/
def locateHeightsSpec : ChangeSpec := { name := "locateHeights", fn := fun _ => fun
  | [d] => { results := [.lit (.bool true)], args := [d] }
  | _ => none }
def locateHeightsRow : OpenClaim := { program := "ytgminfbhlipobaa", sum := "13b9a651883f4bbba1d01789fd2dcaa89c5b7dc3d5423dc854e4d2569033d392", func := "trailhead/trailheadlaw14.LocateHeights", spec := "locateHeights", apart := false }
def LocateHeightsSaid : Prop := locateHeightsRow.holds Try.pinned (OpenSpec.ofChange locateHeightsSpec)

/-- ITS FALSE NEIGHBOUR: 'it returns false'. Refute it at one input. -/
def locateHeightsWrong : ChangeSpec := { name := "locateHeights", fn := fun _ => fun
  | [d] => { results := [.lit (.bool false)], args := [d] }
  | _ => none }
def LocateHeightsWrongFalsely : Prop := locateHeightsRow.holds Try.pinned (OpenSpec.ofChange locateHeightsWrong)

/-- 'trailheadlaw09.MedianOf': WHATEVER THE INPUT: true; the input reads as it did. -/
def medianOfSpec : ChangeSpec := { name := "medianOf", fn := fun _ => fun
  | [d1, d2] => { results := [.lit (.bool true)], args := [d1, d2] }
  | _ => none }
def medianOfRow : OpenClaim := { program := "ytgminfbhlipobaa", sum := "13b9a651883f4bbba1d01789fd2dcaa89c5b7dc3d5423dc854e4d2569033d392", func := "trailhead/trailheadlaw09.MedianOf", spec := "medianOf", recurses := true, apart := false }
def MedianOfSaid : Prop := medianOfRow.holds Try.pinned (OpenSpec.ofChange medianOfSpec)

/-- ITS FALSE NEIGHBOUR: 'it returns false'. Refute it at one input. -/
def medianOfWrong : ChangeSpec := { name := "medianOf", fn := fun _ => fun
  | [d1, d2] => { results := [.lit (.bool false)], args := [d1, d2] }
  | _ => none }
def MedianOfWrongFalsely : Prop := medianOfRow.holds Try.pinned (OpenSpec.ofChange medianOfWrong)

/-- 'trailheadlaw09.MedianTurned': WHATEVER THE INPUT: true; the input reads as it did. -/
def medianTurnedSpec : ChangeSpec := { name := "medianTurned", fn := fun _ => fun
  | [d1, d2] => { results := [.lit (.bool true)], args := [d1, d2] }
  | _ => none }
def medianTurnedRow : OpenClaim := { program := "ytgminfbhlipobaa", sum := "13b9a651883f4bbba1d01789fd2dcaa89c5b7dc3d5423dc854e4d2569033d392", func := "trailhead/trailheadlaw09.MedianTurned", spec := "medianTurned", recurses := true, apart := false }
def MedianTurnedSaid : Prop := medianTurnedRow.holds Try.pinned (OpenSpec.ofChange medianTurnedSpec)

/-- ITS FALSE NEIGHBOUR: 'it returns false'. Refute it at one input. -/
def medianTurnedWrong : ChangeSpec := { name := "medianTurned", fn := fun _ => fun
  | [d1, d2] => { results := [.lit (.bool false)], args := [d1, d2] }
  | _ => none }
def MedianTurnedWrongFalsely : Prop := medianTurnedRow.holds Try.pinned (OpenSpec.ofChange medianTurnedWrong)

/-- 'trailheadlaw09.MedianNear': WHATEVER THE INPUT: true; the input reads as it did. -/
def medianNearSpec : ChangeSpec := { name := "medianNear", fn := fun _ => fun
  | [d1, d2, d3] => { results := [.lit (.bool true)], args := [d1, d2, d3] }
  | _ => none }
def medianNearRow : OpenClaim := { program := "ytgminfbhlipobaa", sum := "13b9a651883f4bbba1d01789fd2dcaa89c5b7dc3d5423dc854e4d2569033d392", func := "trailhead/trailheadlaw09.MedianNear", spec := "medianNear", recurses := true, apart := false }
def MedianNearSaid : Prop := medianNearRow.holds Try.pinned (OpenSpec.ofChange medianNearSpec)

/-- ITS FALSE NEIGHBOUR: 'it returns false'. Refute it at one input. -/
def medianNearWrong : ChangeSpec := { name := "medianNear", fn := fun _ => fun
  | [d1, d2, d3] => { results := [.lit (.bool false)], args := [d1, d2, d3] }
  | _ => none }
def MedianNearWrongFalsely : Prop := medianNearRow.holds Try.pinned (OpenSpec.ofChange medianNearWrong)

/-- 'trailheadlaw09.MedianAmong': WHATEVER THE INPUT: true; the input reads as it did. -/
def medianAmongSpec : ChangeSpec := { name := "medianAmong", fn := fun _ => fun
  | [d] => { results := [.lit (.bool true)], args := [d] }
  | _ => none }
def medianAmongRow : OpenClaim := { program := "ytgminfbhlipobaa", sum := "13b9a651883f4bbba1d01789fd2dcaa89c5b7dc3d5423dc854e4d2569033d392", func := "trailhead/trailheadlaw09.MedianAmong", spec := "medianAmong", recurses := true, apart := false }
def MedianAmongSaid : Prop := medianAmongRow.holds Try.pinned (OpenSpec.ofChange medianAmongSpec)

/-- ITS FALSE NEIGHBOUR: 'it returns false'. Refute it at one input. -/
def medianAmongWrong : ChangeSpec := { name := "medianAmong", fn := fun _ => fun
  | [d] => { results := [.lit (.bool false)], args := [d] }
  | _ => none }
def MedianAmongWrongFalsely : Prop := medianAmongRow.holds Try.pinned (OpenSpec.ofChange medianAmongWrong)

/-- 'trailheadlaw09.MedianOne': WHATEVER THE INPUT: true; the input reads as it did. -/
def medianOneSpec : ChangeSpec := { name := "medianOne", fn := fun _ => fun
  | [d1, d2] => { results := [.lit (.bool true)], args := [d1, d2] }
  | _ => none }
def medianOneRow : OpenClaim := { program := "ytgminfbhlipobaa", sum := "13b9a651883f4bbba1d01789fd2dcaa89c5b7dc3d5423dc854e4d2569033d392", func := "trailhead/trailheadlaw09.MedianOne", spec := "medianOne", recurses := true, apart := false }
def MedianOneSaid : Prop := medianOneRow.holds Try.pinned (OpenSpec.ofChange medianOneSpec)

/-- ITS FALSE NEIGHBOUR: 'it returns false'. Refute it at one input. -/
def medianOneWrong : ChangeSpec := { name := "medianOne", fn := fun _ => fun
  | [d1, d2] => { results := [.lit (.bool false)], args := [d1, d2] }
  | _ => none }
def MedianOneWrongFalsely : Prop := medianOneRow.holds Try.pinned (OpenSpec.ofChange medianOneWrong)

/-- 'trailheadlaw09.MedianWindow': WHATEVER THE INPUT: true; the input reads as it did. -/
def medianWindowSpec : ChangeSpec := { name := "medianWindow", fn := fun _ => fun
  | [d1, d2] => { results := [.lit (.bool true)], args := [d1, d2] }
  | _ => none }
def medianWindowRow : OpenClaim := { program := "ytgminfbhlipobaa", sum := "13b9a651883f4bbba1d01789fd2dcaa89c5b7dc3d5423dc854e4d2569033d392", func := "trailhead/trailheadlaw09.MedianWindow", spec := "medianWindow", recurses := true, apart := false }
def MedianWindowSaid : Prop := medianWindowRow.holds Try.pinned (OpenSpec.ofChange medianWindowSpec)

/-- ITS FALSE NEIGHBOUR: 'it returns false'. Refute it at one input. -/
def medianWindowWrong : ChangeSpec := { name := "medianWindow", fn := fun _ => fun
  | [d1, d2] => { results := [.lit (.bool false)], args := [d1, d2] }
  | _ => none }
def MedianWindowWrongFalsely : Prop := medianWindowRow.holds Try.pinned (OpenSpec.ofChange medianWindowWrong)

/- THE SECOND FORM. 'bulk': how many values and letters a reading holds, each counted each time it is reached (what is shared counts as often as it is met; a slice's spare places count too). A statement '..UptoSaid' is the law's where the arguments, and the package variables that the reading takes, are together of bulk at most 1048576: NARROWER than '..Said'. Prove '..Said' where nothing that the law and all that it calls make is longer than what came in: it says more and counts as full. Else prove '..UptoSaid'. A law counts once. -/
mutual
def uptoBulk {H : Type} : DataW H → Nat
  | .lit (.string bytes) => bytes.length + 1
  | .lit _ => 1
  | .nil => 1
  | .ptr d => uptoBulk d + 1
  | .slice elems spare => uptoBulkAll elems + uptoBulkAll spare + 1
  | .agg parts => uptoBulkAll parts + 1
  | .iface _ d => uptoBulk d + 1
  | .map entries => uptoBulkEntries entries + 1
  | .held _ => 1
def uptoBulkAll {H : Type} : List (DataW H) → Nat
  | [] => 0
  | d :: r => uptoBulk d + uptoBulkAll r
def uptoBulkEntries {H : Type} : List (Lit × DataW H) → Nat
  | [] => 0
  | x :: r => uptoBulkEntry x + uptoBulkEntries r
def uptoBulkEntry {H : Type} : Lit × DataW H → Nat
  | (.string bytes, d) => bytes.length + uptoBulk d + 1
  | (_, d) => uptoBulk d + 1
 end
def uptoSmall : (H : Type) → List (DataW H) → Bool := fun _ ds => decide (uptoBulkAll ds ≤ 1048576)
def OpenSpec.upto (s : _root_.Go.ChangeSpec) : _root_.Go.OpenSpec := { _root_.Go.OpenSpec.ofChange s with cond := some uptoSmall }

/-- 'trailheadlaw14.LocateHeights', WHERE WHAT IT READS IS OF BULK AT MOST 1048576: true; the input reads as it did. -/
def locateHeightsUptoRow : OpenClaim := { program := "ytgminfbhlipobaa", sum := "13b9a651883f4bbba1d01789fd2dcaa89c5b7dc3d5423dc854e4d2569033d392", func := "trailhead/trailheadlaw14.LocateHeights", spec := "locateHeights", apart := false, narrowed := true }
def LocateHeightsUptoSaid : Prop := locateHeightsUptoRow.holds Try.pinned (OpenSpec.upto locateHeightsSpec)

/-- 'trailheadlaw09.MedianOf', WHERE WHAT IT READS IS OF BULK AT MOST 1048576: true; the input reads as it did. -/
def medianOfUptoRow : OpenClaim := { program := "ytgminfbhlipobaa", sum := "13b9a651883f4bbba1d01789fd2dcaa89c5b7dc3d5423dc854e4d2569033d392", func := "trailhead/trailheadlaw09.MedianOf", spec := "medianOf", recurses := true, apart := false, narrowed := true }
def MedianOfUptoSaid : Prop := medianOfUptoRow.holds Try.pinned (OpenSpec.upto medianOfSpec)

/-- 'trailheadlaw09.MedianTurned', WHERE WHAT IT READS IS OF BULK AT MOST 1048576: true; the input reads as it did. -/
def medianTurnedUptoRow : OpenClaim := { program := "ytgminfbhlipobaa", sum := "13b9a651883f4bbba1d01789fd2dcaa89c5b7dc3d5423dc854e4d2569033d392", func := "trailhead/trailheadlaw09.MedianTurned", spec := "medianTurned", recurses := true, apart := false, narrowed := true }
def MedianTurnedUptoSaid : Prop := medianTurnedUptoRow.holds Try.pinned (OpenSpec.upto medianTurnedSpec)

/-- 'trailheadlaw09.MedianNear', WHERE WHAT IT READS IS OF BULK AT MOST 1048576: true; the input reads as it did. -/
def medianNearUptoRow : OpenClaim := { program := "ytgminfbhlipobaa", sum := "13b9a651883f4bbba1d01789fd2dcaa89c5b7dc3d5423dc854e4d2569033d392", func := "trailhead/trailheadlaw09.MedianNear", spec := "medianNear", recurses := true, apart := false, narrowed := true }
def MedianNearUptoSaid : Prop := medianNearUptoRow.holds Try.pinned (OpenSpec.upto medianNearSpec)

/-- 'trailheadlaw09.MedianAmong', WHERE WHAT IT READS IS OF BULK AT MOST 1048576: true; the input reads as it did. -/
def medianAmongUptoRow : OpenClaim := { program := "ytgminfbhlipobaa", sum := "13b9a651883f4bbba1d01789fd2dcaa89c5b7dc3d5423dc854e4d2569033d392", func := "trailhead/trailheadlaw09.MedianAmong", spec := "medianAmong", recurses := true, apart := false, narrowed := true }
def MedianAmongUptoSaid : Prop := medianAmongUptoRow.holds Try.pinned (OpenSpec.upto medianAmongSpec)

/-- 'trailheadlaw09.MedianOne', WHERE WHAT IT READS IS OF BULK AT MOST 1048576: true; the input reads as it did. -/
def medianOneUptoRow : OpenClaim := { program := "ytgminfbhlipobaa", sum := "13b9a651883f4bbba1d01789fd2dcaa89c5b7dc3d5423dc854e4d2569033d392", func := "trailhead/trailheadlaw09.MedianOne", spec := "medianOne", recurses := true, apart := false, narrowed := true }
def MedianOneUptoSaid : Prop := medianOneUptoRow.holds Try.pinned (OpenSpec.upto medianOneSpec)

/-- 'trailheadlaw09.MedianWindow', WHERE WHAT IT READS IS OF BULK AT MOST 1048576: true; the input reads as it did. -/
def medianWindowUptoRow : OpenClaim := { program := "ytgminfbhlipobaa", sum := "13b9a651883f4bbba1d01789fd2dcaa89c5b7dc3d5423dc854e4d2569033d392", func := "trailhead/trailheadlaw09.MedianWindow", spec := "medianWindow", recurses := true, apart := false, narrowed := true }
def MedianWindowUptoSaid : Prop := medianWindowUptoRow.holds Try.pinned (OpenSpec.upto medianWindowSpec)

end Rows
end Go.Proofs.Ytgminfbhlipobaa
