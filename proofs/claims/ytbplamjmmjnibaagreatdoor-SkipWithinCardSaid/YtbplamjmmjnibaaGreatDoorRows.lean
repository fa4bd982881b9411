/-
  NARROWER THAN 'FOR EVERY INPUT', by the rows' own cells (each row's printed sentence says how): RuleChecks: laid · ArenaStands: laid · ArenaOnce: laid · ArenaRoom: laid · ArenaDoes: laid · ArenaSpots: laid · SkipCommon: laid · SkipWithin: laid · LocateKnown: laid · LocateRow: laid.
  DERIVED. THE GIVEN ROWS OF THIS SEAT. 10 by the template 'for every input the law returns true; each argument reads behind the call as it read before'; 0 by the template 'total and deterministic' (their statements: YtbplamjmmjnibaaGreatDoorTotals.lean).
  GIVEN WITH THE SEED: the statements are not yours to turn. If you find one false, say at which input.
  Laid BY PROGRAM, IN A SANDBOX (cutbox-rows.mjs): the forced cells as the released guide's own fill.sh prints them over the translation 1adbebeed33ae972… (all of the seat's roots in one cut). By AI agents, Wed Nov 11 2026. No macro, syntax, notation, axiom, sorry.
-/
import Derived.Test.YtbplamjmmjnibaaGreatDoorChecked
import GoSem.Claim
import GoSem.ClaimJoined
import GoSem.ClaimMapViews
import Derived.JoinedTies
import Derived.KernelRfl
namespace Go.Proofs.YtbplamjmmjnibaaGreatDoor
/- THE CELL 'sum', in the pinned program and in every row, IS THE sha256 OF THE DUMP (.gsa) THAT YtbplamjmmjnibaaGreatDoorProg.lean LOADS. Nothing in Lean hashes anything: it is a label: what it is worth is what the hold of that sum in a sandbox is worth. -/
noncomputable def Tryz.pinned : Pinned := { name := "ytbplamjmmjnibaagreatdoor", sum := "1adbebeed33ae972a928521d650f4d9bb96238e00711a5bc3fd0e4fc90218511", checked := Tryz.checked }
namespace Rows
def none {H : Type} : Left H := { results := [], args := [] }

/- WHAT THE LISTED PACKAGE-LEVEL VARIABLES READ AS WHEN THE CALL BEGINS. Each datum BY PROGRAM (the guide's laid-datum.mjs) off the statement by which the dump's own 'gosem.cut.vars' lays the variable. In a bare row this is a premise. The card (YtbplamjmmjnibaaGreatDoorCards.lean) ties it to the program's text. -/
def laid_trailhead_digest_steps {H : Type} : DataW H := .agg [.lit (.int .u32 1116352408), .lit (.int .u32 1899447441), .lit (.int .u32 3049323471), .lit (.int .u32 3921009573), .lit (.int .u32 961987163), .lit (.int .u32 1508970993), .lit (.int .u32 2453635748), .lit (.int .u32 2870763221), .lit (.int .u32 3624381080), .lit (.int .u32 310598401), .lit (.int .u32 607225278), .lit (.int .u32 1426881987), .lit (.int .u32 1925078388), .lit (.int .u32 2162078206), .lit (.int .u32 2614888103), .lit (.int .u32 3248222580), .lit (.int .u32 3835390401), .lit (.int .u32 4022224774), .lit (.int .u32 264347078), .lit (.int .u32 604807628), .lit (.int .u32 770255983), .lit (.int .u32 1249150122), .lit (.int .u32 1555081692), .lit (.int .u32 1996064986), .lit (.int .u32 2554220882), .lit (.int .u32 2821834349), .lit (.int .u32 2952996808), .lit (.int .u32 3210313671), .lit (.int .u32 3336571891), .lit (.int .u32 3584528711), .lit (.int .u32 113926993), .lit (.int .u32 338241895), .lit (.int .u32 666307205), .lit (.int .u32 773529912), .lit (.int .u32 1294757372), .lit (.int .u32 1396182291), .lit (.int .u32 1695183700), .lit (.int .u32 1986661051), .lit (.int .u32 2177026350), .lit (.int .u32 2456956037), .lit (.int .u32 2730485921), .lit (.int .u32 2820302411), .lit (.int .u32 3259730800), .lit (.int .u32 3345764771), .lit (.int .u32 3516065817), .lit (.int .u32 3600352804), .lit (.int .u32 4094571909), .lit (.int .u32 275423344), .lit (.int .u32 430227734), .lit (.int .u32 506948616), .lit (.int .u32 659060556), .lit (.int .u32 883997877), .lit (.int .u32 958139571), .lit (.int .u32 1322822218), .lit (.int .u32 1537002063), .lit (.int .u32 1747873779), .lit (.int .u32 1955562222), .lit (.int .u32 2024104815), .lit (.int .u32 2227730452), .lit (.int .u32 2361852424), .lit (.int .u32 2428436474), .lit (.int .u32 2756734187), .lit (.int .u32 3204031479), .lit (.int .u32 3329325298)]
def laid_trailhead_digest_starts {H : Type} : DataW H := .agg [.lit (.int .u32 1779033703), .lit (.int .u32 3144134277), .lit (.int .u32 1013904242), .lit (.int .u32 2773480762), .lit (.int .u32 1359893119), .lit (.int .u32 2600822924), .lit (.int .u32 528734635), .lit (.int .u32 1541459225)]

/-- 'trailheadlaw11.RuleChecks': WHATEVER THE INPUT: true; the input reads as it did. -/
def ruleChecksSpec : ChangeSpec := { name := "ruleChecks", fn := fun _ => fun
  | [d1, d2, d3, d4] => { results := [.lit (.bool true)], args := [d1, d2, d3, d4] }
  | _ => none }
def ruleChecksRow : OpenClaim := { program := "ytbplamjmmjnibaagreatdoor", sum := "1adbebeed33ae972a928521d650f4d9bb96238e00711a5bc3fd0e4fc90218511", func := "trailhead/trailheadlaw11.RuleChecks", spec := "ruleChecks", inPlace := ["math/bits.Add64"], recurses := true, named := ["trailhead/digest.starts", "trailhead/digest.steps", "math/bits.divideError", "math/bits.overflowError"], plainKeys := false, apart := false, laid := [("trailhead/digest.steps", laid_trailhead_digest_steps), ("trailhead/digest.starts", laid_trailhead_digest_starts)] }
def RuleChecksSaid : Prop := ruleChecksRow.holds Tryz.pinned (OpenSpec.ofChange ruleChecksSpec)

/-- ITS FALSE NEIGHBOUR: 'it returns false'. Refute it at one input. -/
def ruleChecksWrong : ChangeSpec := { name := "ruleChecks", fn := fun _ => fun
  | [d1, d2, d3, d4] => { results := [.lit (.bool false)], args := [d1, d2, d3, d4] }
  | _ => none }
def RuleChecksWrongFalsely : Prop := ruleChecksRow.holds Tryz.pinned (OpenSpec.ofChange ruleChecksWrong)

/-- 'trailheadlaw12.ArenaStands': WHATEVER THE INPUT: true; the input reads as it did. -/
def arenaStandsSpec : ChangeSpec := { name := "arenaStands", fn := fun _ => fun
  | [d1, d2, d3] => { results := [.lit (.bool true)], args := [d1, d2, d3] }
  | _ => none }
def arenaStandsRow : OpenClaim := { program := "ytbplamjmmjnibaagreatdoor", sum := "1adbebeed33ae972a928521d650f4d9bb96238e00711a5bc3fd0e4fc90218511", func := "trailhead/trailheadlaw12.ArenaStands", spec := "arenaStands", inPlace := ["math/bits.Add64", "math/bits.Sub64"], recurses := true, named := ["trailhead/digest.starts", "trailhead/digest.steps", "math/bits.divideError", "math/bits.overflowError"], plainKeys := false, apart := false, laid := [("trailhead/digest.steps", laid_trailhead_digest_steps), ("trailhead/digest.starts", laid_trailhead_digest_starts)] }
def ArenaStandsSaid : Prop := arenaStandsRow.holds Tryz.pinned (OpenSpec.ofChange arenaStandsSpec)

/-- ITS FALSE NEIGHBOUR: 'it returns false'. Refute it at one input. -/
def arenaStandsWrong : ChangeSpec := { name := "arenaStands", fn := fun _ => fun
  | [d1, d2, d3] => { results := [.lit (.bool false)], args := [d1, d2, d3] }
  | _ => none }
def ArenaStandsWrongFalsely : Prop := arenaStandsRow.holds Tryz.pinned (OpenSpec.ofChange arenaStandsWrong)

/-- 'trailheadlaw12.ArenaOnce': WHATEVER THE INPUT: true; the input reads as it did. -/
def arenaOnceSpec : ChangeSpec := { name := "arenaOnce", fn := fun _ => fun
  | [d1, d2] => { results := [.lit (.bool true)], args := [d1, d2] }
  | _ => none }
def arenaOnceRow : OpenClaim := { program := "ytbplamjmmjnibaagreatdoor", sum := "1adbebeed33ae972a928521d650f4d9bb96238e00711a5bc3fd0e4fc90218511", func := "trailhead/trailheadlaw12.ArenaOnce", spec := "arenaOnce", inPlace := ["math/bits.Add64", "math/bits.Sub64"], recurses := true, named := ["trailhead/digest.starts", "trailhead/digest.steps", "math/bits.divideError", "math/bits.overflowError"], plainKeys := false, apart := false, laid := [("trailhead/digest.steps", laid_trailhead_digest_steps), ("trailhead/digest.starts", laid_trailhead_digest_starts)] }
def ArenaOnceSaid : Prop := arenaOnceRow.holds Tryz.pinned (OpenSpec.ofChange arenaOnceSpec)

/-- ITS FALSE NEIGHBOUR: 'it returns false'. Refute it at one input. -/
def arenaOnceWrong : ChangeSpec := { name := "arenaOnce", fn := fun _ => fun
  | [d1, d2] => { results := [.lit (.bool false)], args := [d1, d2] }
  | _ => none }
def ArenaOnceWrongFalsely : Prop := arenaOnceRow.holds Tryz.pinned (OpenSpec.ofChange arenaOnceWrong)

/-- 'trailheadlaw12.ArenaRoom': WHATEVER THE INPUT: true; the input reads as it did. -/
def arenaRoomSpec : ChangeSpec := { name := "arenaRoom", fn := fun _ => fun
  | [d1, d2, d3] => { results := [.lit (.bool true)], args := [d1, d2, d3] }
  | _ => none }
def arenaRoomRow : OpenClaim := { program := "ytbplamjmmjnibaagreatdoor", sum := "1adbebeed33ae972a928521d650f4d9bb96238e00711a5bc3fd0e4fc90218511", func := "trailhead/trailheadlaw12.ArenaRoom", spec := "arenaRoom", inPlace := ["math/bits.Add64", "math/bits.Sub64"], recurses := true, named := ["trailhead/digest.starts", "trailhead/digest.steps", "math/bits.divideError", "math/bits.overflowError"], plainKeys := false, apart := false, laid := [("trailhead/digest.steps", laid_trailhead_digest_steps), ("trailhead/digest.starts", laid_trailhead_digest_starts)] }
def ArenaRoomSaid : Prop := arenaRoomRow.holds Tryz.pinned (OpenSpec.ofChange arenaRoomSpec)

/-- ITS FALSE NEIGHBOUR: 'it returns false'. Refute it at one input. -/
def arenaRoomWrong : ChangeSpec := { name := "arenaRoom", fn := fun _ => fun
  | [d1, d2, d3] => { results := [.lit (.bool false)], args := [d1, d2, d3] }
  | _ => none }
def ArenaRoomWrongFalsely : Prop := arenaRoomRow.holds Tryz.pinned (OpenSpec.ofChange arenaRoomWrong)

/-- 'trailheadlaw12.ArenaDoes': WHATEVER THE INPUT: true; the input reads as it did. -/
def arenaDoesSpec : ChangeSpec := { name := "arenaDoes", fn := fun _ => fun
  | [d1, d2, d3] => { results := [.lit (.bool true)], args := [d1, d2, d3] }
  | _ => none }
def arenaDoesRow : OpenClaim := { program := "ytbplamjmmjnibaagreatdoor", sum := "1adbebeed33ae972a928521d650f4d9bb96238e00711a5bc3fd0e4fc90218511", func := "trailhead/trailheadlaw12.ArenaDoes", spec := "arenaDoes", inPlace := ["math/bits.Add64", "math/bits.Sub64"], recurses := true, named := ["trailhead/digest.starts", "trailhead/digest.steps", "math/bits.divideError", "math/bits.overflowError"], plainKeys := false, apart := false, laid := [("trailhead/digest.steps", laid_trailhead_digest_steps), ("trailhead/digest.starts", laid_trailhead_digest_starts)] }
def ArenaDoesSaid : Prop := arenaDoesRow.holds Tryz.pinned (OpenSpec.ofChange arenaDoesSpec)

/-- ITS FALSE NEIGHBOUR: 'it returns false'. Refute it at one input. -/
def arenaDoesWrong : ChangeSpec := { name := "arenaDoes", fn := fun _ => fun
  | [d1, d2, d3] => { results := [.lit (.bool false)], args := [d1, d2, d3] }
  | _ => none }
def ArenaDoesWrongFalsely : Prop := arenaDoesRow.holds Tryz.pinned (OpenSpec.ofChange arenaDoesWrong)

/-- 'trailheadlaw12.ArenaSpots': WHATEVER THE INPUT: true; the input reads as it did. -/
def arenaSpotsSpec : ChangeSpec := { name := "arenaSpots", fn := fun _ => fun
  | [d1, d2] => { results := [.lit (.bool true)], args := [d1, d2] }
  | _ => none }
def arenaSpotsRow : OpenClaim := { program := "ytbplamjmmjnibaagreatdoor", sum := "1adbebeed33ae972a928521d650f4d9bb96238e00711a5bc3fd0e4fc90218511", func := "trailhead/trailheadlaw12.ArenaSpots", spec := "arenaSpots", inPlace := ["math/bits.Add64", "math/bits.Sub64"], recurses := true, named := ["trailhead/digest.starts", "trailhead/digest.steps", "math/bits.divideError", "math/bits.overflowError"], plainKeys := false, apart := false, laid := [("trailhead/digest.steps", laid_trailhead_digest_steps), ("trailhead/digest.starts", laid_trailhead_digest_starts)] }
def ArenaSpotsSaid : Prop := arenaSpotsRow.holds Tryz.pinned (OpenSpec.ofChange arenaSpotsSpec)

/-- ITS FALSE NEIGHBOUR: 'it returns false'. Refute it at one input. -/
def arenaSpotsWrong : ChangeSpec := { name := "arenaSpots", fn := fun _ => fun
  | [d1, d2] => { results := [.lit (.bool false)], args := [d1, d2] }
  | _ => none }
def ArenaSpotsWrongFalsely : Prop := arenaSpotsRow.holds Tryz.pinned (OpenSpec.ofChange arenaSpotsWrong)

/-- 'trailheadlaw13.SkipCommon': WHATEVER THE INPUT: true; the input reads as it did. -/
def skipCommonSpec : ChangeSpec := { name := "skipCommon", fn := fun _ => fun
  | [d1, d2, d3] => { results := [.lit (.bool true)], args := [d1, d2, d3] }
  | _ => none }
def skipCommonRow : OpenClaim := { program := "ytbplamjmmjnibaagreatdoor", sum := "1adbebeed33ae972a928521d650f4d9bb96238e00711a5bc3fd0e4fc90218511", func := "trailhead/trailheadlaw13.SkipCommon", spec := "skipCommon", inPlace := ["math/bits.Add64", "math/bits.Sub64"], recurses := true, named := ["trailhead/digest.starts", "trailhead/digest.steps", "math/bits.divideError", "math/bits.overflowError"], plainKeys := false, apart := false, laid := [("trailhead/digest.steps", laid_trailhead_digest_steps), ("trailhead/digest.starts", laid_trailhead_digest_starts)] }
def SkipCommonSaid : Prop := skipCommonRow.holds Tryz.pinned (OpenSpec.ofChange skipCommonSpec)

/-- ITS FALSE NEIGHBOUR: 'it returns false'. Refute it at one input. -/
def skipCommonWrong : ChangeSpec := { name := "skipCommon", fn := fun _ => fun
  | [d1, d2, d3] => { results := [.lit (.bool false)], args := [d1, d2, d3] }
  | _ => none }
def SkipCommonWrongFalsely : Prop := skipCommonRow.holds Tryz.pinned (OpenSpec.ofChange skipCommonWrong)

/-- 'trailheadlaw13.SkipWithin': WHATEVER THE INPUT: true; the input reads as it did. -/
def skipWithinSpec : ChangeSpec := { name := "skipWithin", fn := fun _ => fun
  | [d1, d2, d3, d4, d5] => { results := [.lit (.bool true)], args := [d1, d2, d3, d4, d5] }
  | _ => none }
def skipWithinRow : OpenClaim := { program := "ytbplamjmmjnibaagreatdoor", sum := "1adbebeed33ae972a928521d650f4d9bb96238e00711a5bc3fd0e4fc90218511", func := "trailhead/trailheadlaw13.SkipWithin", spec := "skipWithin", inPlace := ["math/bits.Add64", "math/bits.Sub64"], recurses := true, named := ["trailhead/digest.starts", "trailhead/digest.steps", "math/bits.divideError", "math/bits.overflowError"], plainKeys := false, apart := false, laid := [("trailhead/digest.steps", laid_trailhead_digest_steps), ("trailhead/digest.starts", laid_trailhead_digest_starts)] }
def SkipWithinSaid : Prop := skipWithinRow.holds Tryz.pinned (OpenSpec.ofChange skipWithinSpec)

/-- ITS FALSE NEIGHBOUR: 'it returns false'. Refute it at one input. -/
def skipWithinWrong : ChangeSpec := { name := "skipWithin", fn := fun _ => fun
  | [d1, d2, d3, d4, d5] => { results := [.lit (.bool false)], args := [d1, d2, d3, d4, d5] }
  | _ => none }
def SkipWithinWrongFalsely : Prop := skipWithinRow.holds Tryz.pinned (OpenSpec.ofChange skipWithinWrong)

/-- 'trailheadlaw14.LocateKnown': WHATEVER THE INPUT: true; the input reads as it did. -/
def locateKnownSpec : ChangeSpec := { name := "locateKnown", fn := fun _ => fun
  | [d1, d2, d3] => { results := [.lit (.bool true)], args := [d1, d2, d3] }
  | _ => none }
def locateKnownRow : OpenClaim := { program := "ytbplamjmmjnibaagreatdoor", sum := "1adbebeed33ae972a928521d650f4d9bb96238e00711a5bc3fd0e4fc90218511", func := "trailhead/trailheadlaw14.LocateKnown", spec := "locateKnown", inPlace := ["math/bits.Add64", "math/bits.Sub64"], recurses := true, named := ["trailhead/digest.starts", "trailhead/digest.steps", "math/bits.divideError", "math/bits.overflowError"], plainKeys := false, apart := false, laid := [("trailhead/digest.steps", laid_trailhead_digest_steps), ("trailhead/digest.starts", laid_trailhead_digest_starts)] }
def LocateKnownSaid : Prop := locateKnownRow.holds Tryz.pinned (OpenSpec.ofChange locateKnownSpec)

/-- ITS FALSE NEIGHBOUR: 'it returns false'. Refute it at one input. -/
def locateKnownWrong : ChangeSpec := { name := "locateKnown", fn := fun _ => fun
  | [d1, d2, d3] => { results := [.lit (.bool false)], args := [d1, d2, d3] }
  | _ => none }
def LocateKnownWrongFalsely : Prop := locateKnownRow.holds Tryz.pinned (OpenSpec.ofChange locateKnownWrong)

/-- 'trailheadlaw14.LocateRow': WHATEVER THE INPUT: true; the input reads as it did. -/
def locateRowSpec : ChangeSpec := { name := "locateRow", fn := fun _ => fun
  | [d1, d2] => { results := [.lit (.bool true)], args := [d1, d2] }
  | _ => none }
def locateRowRow : OpenClaim := { program := "ytbplamjmmjnibaagreatdoor", sum := "1adbebeed33ae972a928521d650f4d9bb96238e00711a5bc3fd0e4fc90218511", func := "trailhead/trailheadlaw14.LocateRow", spec := "locateRow", inPlace := ["math/bits.Add64", "math/bits.Sub64"], recurses := true, named := ["trailhead/digest.starts", "trailhead/digest.steps", "math/bits.divideError", "math/bits.overflowError"], plainKeys := false, apart := false, laid := [("trailhead/digest.steps", laid_trailhead_digest_steps), ("trailhead/digest.starts", laid_trailhead_digest_starts)] }
def LocateRowSaid : Prop := locateRowRow.holds Tryz.pinned (OpenSpec.ofChange locateRowSpec)

/-- ITS FALSE NEIGHBOUR: 'it returns false'. Refute it at one input. -/
def locateRowWrong : ChangeSpec := { name := "locateRow", fn := fun _ => fun
  | [d1, d2] => { results := [.lit (.bool false)], args := [d1, d2] }
  | _ => none }
def LocateRowWrongFalsely : Prop := locateRowRow.holds Tryz.pinned (OpenSpec.ofChange locateRowWrong)

/- THE SECOND FORM. 'bulk': how many values and letters a reading holds, each counted each time it is reached (what is shared counts as often as it is met; a slice's spare places count too). A statement '..UptoSaid' is the law's where the arguments, and the package variables that the reading takes, are together of bulk at most 1048576: NARROWER than '..Said'. Prove '..Said' where nothing that the law and all that it calls make is longer than what came in: it says more and counts as full. Else prove '..UptoSaid'. A law counts once. -/
mutual
def uptoBulk {H : Type} : DataW H → Nat
  | .lit (.string bytes) => bytes.length + 1
  | .lit _ => 1
  | .nil => 1
  | .ptr d => uptoBulk d + 1
  | .slice elems spare => uptoBulkAll elems + uptoBulkAll spare + 1
  | .agg parts => uptoBulkAll parts + 1
  | .iface _ d => uptoBulk d + 1
  | .map entries => uptoBulkEntries entries + 1
  | .held _ => 1
def uptoBulkAll {H : Type} : List (DataW H) → Nat
  | [] => 0
  | d :: r => uptoBulk d + uptoBulkAll r
def uptoBulkEntries {H : Type} : List (Lit × DataW H) → Nat
  | [] => 0
  | x :: r => uptoBulkEntry x + uptoBulkEntries r
def uptoBulkEntry {H : Type} : Lit × DataW H → Nat
  | (.string bytes, d) => bytes.length + uptoBulk d + 1
  | (_, d) => uptoBulk d + 1
 end
def uptoSmall : (H : Type) → List (DataW H) → Bool := fun _ ds => decide (uptoBulkAll ds ≤ 1048576)
def OpenSpec.upto (s : _root_.Go.ChangeSpec) : _root_.Go.OpenSpec := { _root_.Go.OpenSpec.ofChange s with cond := some uptoSmall }

/-- 'trailheadlaw11.RuleChecks', WHERE WHAT IT READS IS OF BULK AT MOST 1048576: true; the input reads as it did. -/
def ruleChecksUptoRow : OpenClaim := { program := "ytbplamjmmjnibaagreatdoor", sum := "1adbebeed33ae972a928521d650f4d9bb96238e00711a5bc3fd0e4fc90218511", func := "trailhead/trailheadlaw11.RuleChecks", spec := "ruleChecks", inPlace := ["math/bits.Add64"], recurses := true, named := ["trailhead/digest.starts", "trailhead/digest.steps", "math/bits.divideError", "math/bits.overflowError"], plainKeys := false, apart := false, laid := [("trailhead/digest.steps", laid_trailhead_digest_steps), ("trailhead/digest.starts", laid_trailhead_digest_starts)], narrowed := true }
def RuleChecksUptoSaid : Prop := ruleChecksUptoRow.holds Tryz.pinned (OpenSpec.upto ruleChecksSpec)

/-- 'trailheadlaw12.ArenaStands', WHERE WHAT IT READS IS OF BULK AT MOST 1048576: true; the input reads as it did. -/
def arenaStandsUptoRow : OpenClaim := { program := "ytbplamjmmjnibaagreatdoor", sum := "1adbebeed33ae972a928521d650f4d9bb96238e00711a5bc3fd0e4fc90218511", func := "trailhead/trailheadlaw12.ArenaStands", spec := "arenaStands", inPlace := ["math/bits.Add64", "math/bits.Sub64"], recurses := true, named := ["trailhead/digest.starts", "trailhead/digest.steps", "math/bits.divideError", "math/bits.overflowError"], plainKeys := false, apart := false, laid := [("trailhead/digest.steps", laid_trailhead_digest_steps), ("trailhead/digest.starts", laid_trailhead_digest_starts)], narrowed := true }
def ArenaStandsUptoSaid : Prop := arenaStandsUptoRow.holds Tryz.pinned (OpenSpec.upto arenaStandsSpec)

/-- 'trailheadlaw12.ArenaOnce', WHERE WHAT IT READS IS OF BULK AT MOST 1048576: true; the input reads as it did. -/
def arenaOnceUptoRow : OpenClaim := { program := "ytbplamjmmjnibaagreatdoor", sum := "1adbebeed33ae972a928521d650f4d9bb96238e00711a5bc3fd0e4fc90218511", func := "trailhead/trailheadlaw12.ArenaOnce", spec := "arenaOnce", inPlace := ["math/bits.Add64", "math/bits.Sub64"], recurses := true, named := ["trailhead/digest.starts", "trailhead/digest.steps", "math/bits.divideError", "math/bits.overflowError"], plainKeys := false, apart := false, laid := [("trailhead/digest.steps", laid_trailhead_digest_steps), ("trailhead/digest.starts", laid_trailhead_digest_starts)], narrowed := true }
def ArenaOnceUptoSaid : Prop := arenaOnceUptoRow.holds Tryz.pinned (OpenSpec.upto arenaOnceSpec)

/-- 'trailheadlaw12.ArenaRoom', WHERE WHAT IT READS IS OF BULK AT MOST 1048576: true; the input reads as it did. -/
def arenaRoomUptoRow : OpenClaim := { program := "ytbplamjmmjnibaagreatdoor", sum := "1adbebeed33ae972a928521d650f4d9bb96238e00711a5bc3fd0e4fc90218511", func := "trailhead/trailheadlaw12.ArenaRoom", spec := "arenaRoom", inPlace := ["math/bits.Add64", "math/bits.Sub64"], recurses := true, named := ["trailhead/digest.starts", "trailhead/digest.steps", "math/bits.divideError", "math/bits.overflowError"], plainKeys := false, apart := false, laid := [("trailhead/digest.steps", laid_trailhead_digest_steps), ("trailhead/digest.starts", laid_trailhead_digest_starts)], narrowed := true }
def ArenaRoomUptoSaid : Prop := arenaRoomUptoRow.holds Tryz.pinned (OpenSpec.upto arenaRoomSpec)

/-- 'trailheadlaw12.ArenaDoes', WHERE WHAT IT READS IS OF BULK AT MOST 1048576: true; the input reads as it did. -/
def arenaDoesUptoRow : OpenClaim := { program := "ytbplamjmmjnibaagreatdoor", sum := "1adbebeed33ae972a928521d650f4d9bb96238e00711a5bc3fd0e4fc90218511", func := "trailhead/trailheadlaw12.ArenaDoes", spec := "arenaDoes", inPlace := ["math/bits.Add64", "math/bits.Sub64"], recurses := true, named := ["trailhead/digest.starts", "trailhead/digest.steps", "math/bits.divideError", "math/bits.overflowError"], plainKeys := false, apart := false, laid := [("trailhead/digest.steps", laid_trailhead_digest_steps), ("trailhead/digest.starts", laid_trailhead_digest_starts)], narrowed := true }
def ArenaDoesUptoSaid : Prop := arenaDoesUptoRow.holds Tryz.pinned (OpenSpec.upto arenaDoesSpec)

/-- 'trailheadlaw12.ArenaSpots', WHERE WHAT IT READS IS OF BULK AT MOST 1048576: true; the input reads as it did. -/
def arenaSpotsUptoRow : OpenClaim := { program := "ytbplamjmmjnibaagreatdoor", sum := "1adbebeed33ae972a928521d650f4d9bb96238e00711a5bc3fd0e4fc90218511", func := "trailhead/trailheadlaw12.ArenaSpots", spec := "arenaSpots", inPlace := ["math/bits.Add64", "math/bits.Sub64"], recurses := true, named := ["trailhead/digest.starts", "trailhead/digest.steps", "math/bits.divideError", "math/bits.overflowError"], plainKeys := false, apart := false, laid := [("trailhead/digest.steps", laid_trailhead_digest_steps), ("trailhead/digest.starts", laid_trailhead_digest_starts)], narrowed := true }
def ArenaSpotsUptoSaid : Prop := arenaSpotsUptoRow.holds Tryz.pinned (OpenSpec.upto arenaSpotsSpec)

/-- 'trailheadlaw13.SkipCommon', WHERE WHAT IT READS IS OF BULK AT MOST 1048576: true; the input reads as it did. -/
def skipCommonUptoRow : OpenClaim := { program := "ytbplamjmmjnibaagreatdoor", sum := "1adbebeed33ae972a928521d650f4d9bb96238e00711a5bc3fd0e4fc90218511", func := "trailhead/trailheadlaw13.SkipCommon", spec := "skipCommon", inPlace := ["math/bits.Add64", "math/bits.Sub64"], recurses := true, named := ["trailhead/digest.starts", "trailhead/digest.steps", "math/bits.divideError", "math/bits.overflowError"], plainKeys := false, apart := false, laid := [("trailhead/digest.steps", laid_trailhead_digest_steps), ("trailhead/digest.starts", laid_trailhead_digest_starts)], narrowed := true }
def SkipCommonUptoSaid : Prop := skipCommonUptoRow.holds Tryz.pinned (OpenSpec.upto skipCommonSpec)

/-- 'trailheadlaw13.SkipWithin', WHERE WHAT IT READS IS OF BULK AT MOST 1048576: true; the input reads as it did. -/
def skipWithinUptoRow : OpenClaim := { program := "ytbplamjmmjnibaagreatdoor", sum := "1adbebeed33ae972a928521d650f4d9bb96238e00711a5bc3fd0e4fc90218511", func := "trailhead/trailheadlaw13.SkipWithin", spec := "skipWithin", inPlace := ["math/bits.Add64", "math/bits.Sub64"], recurses := true, named := ["trailhead/digest.starts", "trailhead/digest.steps", "math/bits.divideError", "math/bits.overflowError"], plainKeys := false, apart := false, laid := [("trailhead/digest.steps", laid_trailhead_digest_steps), ("trailhead/digest.starts", laid_trailhead_digest_starts)], narrowed := true }
def SkipWithinUptoSaid : Prop := skipWithinUptoRow.holds Tryz.pinned (OpenSpec.upto skipWithinSpec)

/-- 'trailheadlaw14.LocateKnown', WHERE WHAT IT READS IS OF BULK AT MOST 1048576: true; the input reads as it did. -/
def locateKnownUptoRow : OpenClaim := { program := "ytbplamjmmjnibaagreatdoor", sum := "1adbebeed33ae972a928521d650f4d9bb96238e00711a5bc3fd0e4fc90218511", func := "trailhead/trailheadlaw14.LocateKnown", spec := "locateKnown", inPlace := ["math/bits.Add64", "math/bits.Sub64"], recurses := true, named := ["trailhead/digest.starts", "trailhead/digest.steps", "math/bits.divideError", "math/bits.overflowError"], plainKeys := false, apart := false, laid := [("trailhead/digest.steps", laid_trailhead_digest_steps), ("trailhead/digest.starts", laid_trailhead_digest_starts)], narrowed := true }
def LocateKnownUptoSaid : Prop := locateKnownUptoRow.holds Tryz.pinned (OpenSpec.upto locateKnownSpec)

/-- 'trailheadlaw14.LocateRow', WHERE WHAT IT READS IS OF BULK AT MOST 1048576: true; the input reads as it did. -/
def locateRowUptoRow : OpenClaim := { program := "ytbplamjmmjnibaagreatdoor", sum := "1adbebeed33ae972a928521d650f4d9bb96238e00711a5bc3fd0e4fc90218511", func := "trailhead/trailheadlaw14.LocateRow", spec := "locateRow", inPlace := ["math/bits.Add64", "math/bits.Sub64"], recurses := true, named := ["trailhead/digest.starts", "trailhead/digest.steps", "math/bits.divideError", "math/bits.overflowError"], plainKeys := false, apart := false, laid := [("trailhead/digest.steps", laid_trailhead_digest_steps), ("trailhead/digest.starts", laid_trailhead_digest_starts)], narrowed := true }
def LocateRowUptoSaid : Prop := locateRowUptoRow.holds Tryz.pinned (OpenSpec.upto locateRowSpec)

end Rows
end Go.Proofs.YtbplamjmmjnibaaGreatDoor
