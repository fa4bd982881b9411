/-
  NARROWER THAN 'FOR EVERY INPUT', by the rows' own cells (each row's printed sentence says how): LocateAnswers: laid · SkipStores: laid · LocateForks: laid · LocateSelf: laid · SkipAncestors: laid · LocateNames: laid · PresyncStores: laid · PresyncHonest: laid · PresyncRoom: laid · PresyncDown: laid · PresyncDoes: laid · MarkFails: laid.
  DERIVED. THE GIVEN ROWS OF THIS SEAT. 12 by the template 'for every input the law returns true; each argument reads behind the call as it read before'; 0 by the template 'total and deterministic' (their statements: YtcgdbcfflaphhaaGreatDoorTotals.lean).
  GIVEN WITH THE SEED: the statements are not yours to turn. If you find one false, say at which input.
  Laid BY PROGRAM, IN A SANDBOX (cutbox-rows.mjs): the forced cells as the released guide's own fill.sh prints them over the translation e83105f904a66596… (all of the seat's roots in one cut). By AI agents, Wed Nov 11 2026. No macro, syntax, notation, axiom, sorry.
-/
import Derived.Test.YtcgdbcfflaphhaaGreatDoorChecked
import GoSem.Claim
import GoSem.ClaimJoined
import GoSem.ClaimMapViews
import Derived.JoinedTies
import Derived.KernelRfl
namespace Go.Proofs.YtcgdbcfflaphhaaGreatDoor
/- THE CELL 'sum', in the pinned program and in every row, IS THE sha256 OF THE DUMP (.gsa) THAT YtcgdbcfflaphhaaGreatDoorProg.lean LOADS. Nothing in Lean hashes anything: it is a label: what it is worth is what the hold of that sum in a sandbox is worth. -/
noncomputable def Tryz.pinned : Pinned := { name := "ytcgdbcfflaphhaagreatdoor", sum := "e83105f904a665963dcddd7ded95d997ecea39dec6f103da14ad0cc635ffc613", checked := Tryz.checked }
namespace Rows
def none {H : Type} : Left H := { results := [], args := [] }

/- WHAT THE LISTED PACKAGE-LEVEL VARIABLES READ AS WHEN THE CALL BEGINS. Each datum BY PROGRAM (the guide's laid-datum.mjs) off the statement by which the dump's own 'gosem.cut.vars' lays the variable. In a bare row this is a premise. The card (YtcgdbcfflaphhaaGreatDoorCards.lean) ties it to the program's text. -/
def laid_trailhead_digest_steps {H : Type} : DataW H := .agg [.lit (.int .u32 1116352408), .lit (.int .u32 1899447441), .lit (.int .u32 3049323471), .lit (.int .u32 3921009573), .lit (.int .u32 961987163), .lit (.int .u32 1508970993), .lit (.int .u32 2453635748), .lit (.int .u32 2870763221), .lit (.int .u32 3624381080), .lit (.int .u32 310598401), .lit (.int .u32 607225278), .lit (.int .u32 1426881987), .lit (.int .u32 1925078388), .lit (.int .u32 2162078206), .lit (.int .u32 2614888103), .lit (.int .u32 3248222580), .lit (.int .u32 3835390401), .lit (.int .u32 4022224774), .lit (.int .u32 264347078), .lit (.int .u32 604807628), .lit (.int .u32 770255983), .lit (.int .u32 1249150122), .lit (.int .u32 1555081692), .lit (.int .u32 1996064986), .lit (.int .u32 2554220882), .lit (.int .u32 2821834349), .lit (.int .u32 2952996808), .lit (.int .u32 3210313671), .lit (.int .u32 3336571891), .lit (.int .u32 3584528711), .lit (.int .u32 113926993), .lit (.int .u32 338241895), .lit (.int .u32 666307205), .lit (.int .u32 773529912), .lit (.int .u32 1294757372), .lit (.int .u32 1396182291), .lit (.int .u32 1695183700), .lit (.int .u32 1986661051), .lit (.int .u32 2177026350), .lit (.int .u32 2456956037), .lit (.int .u32 2730485921), .lit (.int .u32 2820302411), .lit (.int .u32 3259730800), .lit (.int .u32 3345764771), .lit (.int .u32 3516065817), .lit (.int .u32 3600352804), .lit (.int .u32 4094571909), .lit (.int .u32 275423344), .lit (.int .u32 430227734), .lit (.int .u32 506948616), .lit (.int .u32 659060556), .lit (.int .u32 883997877), .lit (.int .u32 958139571), .lit (.int .u32 1322822218), .lit (.int .u32 1537002063), .lit (.int .u32 1747873779), .lit (.int .u32 1955562222), .lit (.int .u32 2024104815), .lit (.int .u32 2227730452), .lit (.int .u32 2361852424), .lit (.int .u32 2428436474), .lit (.int .u32 2756734187), .lit (.int .u32 3204031479), .lit (.int .u32 3329325298)]
def laid_trailhead_digest_starts {H : Type} : DataW H := .agg [.lit (.int .u32 1779033703), .lit (.int .u32 3144134277), .lit (.int .u32 1013904242), .lit (.int .u32 2773480762), .lit (.int .u32 1359893119), .lit (.int .u32 2600822924), .lit (.int .u32 528734635), .lit (.int .u32 1541459225)]

/-- 'trailheadlaw14.LocateAnswers': WHATEVER THE INPUT: true; the input reads as it did. -/
def locateAnswersSpec : ChangeSpec := { name := "locateAnswers", fn := fun _ => fun
  | [d1, d2, d3, d4, d5, d6] => { results := [.lit (.bool true)], args := [d1, d2, d3, d4, d5, d6] }
  | _ => none }
def locateAnswersRow : OpenClaim := { program := "ytcgdbcfflaphhaagreatdoor", sum := "e83105f904a665963dcddd7ded95d997ecea39dec6f103da14ad0cc635ffc613", func := "trailhead/trailheadlaw14.LocateAnswers", spec := "locateAnswers", inPlace := ["math/bits.Add64", "math/bits.Sub64"], recurses := true, named := ["trailhead/digest.starts", "trailhead/digest.steps", "math/bits.divideError", "math/bits.overflowError"], plainKeys := false, apart := false, laid := [("trailhead/digest.steps", laid_trailhead_digest_steps), ("trailhead/digest.starts", laid_trailhead_digest_starts)] }
def LocateAnswersSaid : Prop := locateAnswersRow.holds Tryz.pinned (OpenSpec.ofChange locateAnswersSpec)

/-- ITS FALSE NEIGHBOUR: 'it returns false'. Refute it at one input. -/
def locateAnswersWrong : ChangeSpec := { name := "locateAnswers", fn := fun _ => fun
  | [d1, d2, d3, d4, d5, d6] => { results := [.lit (.bool false)], args := [d1, d2, d3, d4, d5, d6] }
  | _ => none }
def LocateAnswersWrongFalsely : Prop := locateAnswersRow.holds Tryz.pinned (OpenSpec.ofChange locateAnswersWrong)

/-- 'trailheadlaw13.SkipStores': WHATEVER THE INPUT: true; the input reads as it did. -/
def skipStoresSpec : ChangeSpec := { name := "skipStores", fn := fun _ => fun
  | [d1, d2, d3, d4] => { results := [.lit (.bool true)], args := [d1, d2, d3, d4] }
  | _ => none }
def skipStoresRow : OpenClaim := { program := "ytcgdbcfflaphhaagreatdoor", sum := "e83105f904a665963dcddd7ded95d997ecea39dec6f103da14ad0cc635ffc613", func := "trailhead/trailheadlaw13.SkipStores", spec := "skipStores", inPlace := ["math/bits.Add64", "math/bits.Sub64"], recurses := true, named := ["trailhead/digest.starts", "trailhead/digest.steps", "math/bits.divideError", "math/bits.overflowError"], plainKeys := false, apart := false, laid := [("trailhead/digest.steps", laid_trailhead_digest_steps), ("trailhead/digest.starts", laid_trailhead_digest_starts)] }
def SkipStoresSaid : Prop := skipStoresRow.holds Tryz.pinned (OpenSpec.ofChange skipStoresSpec)

/-- ITS FALSE NEIGHBOUR: 'it returns false'. Refute it at one input. -/
def skipStoresWrong : ChangeSpec := { name := "skipStores", fn := fun _ => fun
  | [d1, d2, d3, d4] => { results := [.lit (.bool false)], args := [d1, d2, d3, d4] }
  | _ => none }
def SkipStoresWrongFalsely : Prop := skipStoresRow.holds Tryz.pinned (OpenSpec.ofChange skipStoresWrong)

/-- 'trailheadlaw14.LocateForks': WHATEVER THE INPUT: true; the input reads as it did. -/
def locateForksSpec : ChangeSpec := { name := "locateForks", fn := fun _ => fun
  | [d1, d2, d3, d4] => { results := [.lit (.bool true)], args := [d1, d2, d3, d4] }
  | _ => none }
def locateForksRow : OpenClaim := { program := "ytcgdbcfflaphhaagreatdoor", sum := "e83105f904a665963dcddd7ded95d997ecea39dec6f103da14ad0cc635ffc613", func := "trailhead/trailheadlaw14.LocateForks", spec := "locateForks", inPlace := ["math/bits.Add64", "math/bits.Sub64"], recurses := true, named := ["trailhead/digest.starts", "trailhead/digest.steps", "math/bits.divideError", "math/bits.overflowError"], plainKeys := false, apart := false, laid := [("trailhead/digest.steps", laid_trailhead_digest_steps), ("trailhead/digest.starts", laid_trailhead_digest_starts)] }
def LocateForksSaid : Prop := locateForksRow.holds Tryz.pinned (OpenSpec.ofChange locateForksSpec)

/-- ITS FALSE NEIGHBOUR: 'it returns false'. Refute it at one input. -/
def locateForksWrong : ChangeSpec := { name := "locateForks", fn := fun _ => fun
  | [d1, d2, d3, d4] => { results := [.lit (.bool false)], args := [d1, d2, d3, d4] }
  | _ => none }
def LocateForksWrongFalsely : Prop := locateForksRow.holds Tryz.pinned (OpenSpec.ofChange locateForksWrong)

/-- 'trailheadlaw14.LocateSelf': WHATEVER THE INPUT: true; the input reads as it did. -/
def locateSelfSpec : ChangeSpec := { name := "locateSelf", fn := fun _ => fun
  | [d1, d2, d3] => { results := [.lit (.bool true)], args := [d1, d2, d3] }
  | _ => none }
def locateSelfRow : OpenClaim := { program := "ytcgdbcfflaphhaagreatdoor", sum := "e83105f904a665963dcddd7ded95d997ecea39dec6f103da14ad0cc635ffc613", func := "trailhead/trailheadlaw14.LocateSelf", spec := "locateSelf", inPlace := ["math/bits.Add64", "math/bits.Sub64"], recurses := true, named := ["trailhead/digest.starts", "trailhead/digest.steps", "math/bits.divideError", "math/bits.overflowError"], plainKeys := false, apart := false, laid := [("trailhead/digest.steps", laid_trailhead_digest_steps), ("trailhead/digest.starts", laid_trailhead_digest_starts)] }
def LocateSelfSaid : Prop := locateSelfRow.holds Tryz.pinned (OpenSpec.ofChange locateSelfSpec)

/-- ITS FALSE NEIGHBOUR: 'it returns false'. Refute it at one input. -/
def locateSelfWrong : ChangeSpec := { name := "locateSelf", fn := fun _ => fun
  | [d1, d2, d3] => { results := [.lit (.bool false)], args := [d1, d2, d3] }
  | _ => none }
def LocateSelfWrongFalsely : Prop := locateSelfRow.holds Tryz.pinned (OpenSpec.ofChange locateSelfWrong)

/-- 'trailheadlaw13.SkipAncestors': WHATEVER THE INPUT: true; the input reads as it did. -/
def skipAncestorsSpec : ChangeSpec := { name := "skipAncestors", fn := fun _ => fun
  | [d1, d2, d3, d4] => { results := [.lit (.bool true)], args := [d1, d2, d3, d4] }
  | _ => none }
def skipAncestorsRow : OpenClaim := { program := "ytcgdbcfflaphhaagreatdoor", sum := "e83105f904a665963dcddd7ded95d997ecea39dec6f103da14ad0cc635ffc613", func := "trailhead/trailheadlaw13.SkipAncestors", spec := "skipAncestors", inPlace := ["math/bits.Add64", "math/bits.Sub64"], recurses := true, named := ["trailhead/digest.starts", "trailhead/digest.steps", "math/bits.divideError", "math/bits.overflowError"], plainKeys := false, apart := false, laid := [("trailhead/digest.steps", laid_trailhead_digest_steps), ("trailhead/digest.starts", laid_trailhead_digest_starts)] }
def SkipAncestorsSaid : Prop := skipAncestorsRow.holds Tryz.pinned (OpenSpec.ofChange skipAncestorsSpec)

/-- ITS FALSE NEIGHBOUR: 'it returns false'. Refute it at one input. -/
def skipAncestorsWrong : ChangeSpec := { name := "skipAncestors", fn := fun _ => fun
  | [d1, d2, d3, d4] => { results := [.lit (.bool false)], args := [d1, d2, d3, d4] }
  | _ => none }
def SkipAncestorsWrongFalsely : Prop := skipAncestorsRow.holds Tryz.pinned (OpenSpec.ofChange skipAncestorsWrong)

/-- 'trailheadlaw14.LocateNames': WHATEVER THE INPUT: true; the input reads as it did. -/
def locateNamesSpec : ChangeSpec := { name := "locateNames", fn := fun _ => fun
  | [d1, d2, d3, d4, d5] => { results := [.lit (.bool true)], args := [d1, d2, d3, d4, d5] }
  | _ => none }
def locateNamesRow : OpenClaim := { program := "ytcgdbcfflaphhaagreatdoor", sum := "e83105f904a665963dcddd7ded95d997ecea39dec6f103da14ad0cc635ffc613", func := "trailhead/trailheadlaw14.LocateNames", spec := "locateNames", inPlace := ["math/bits.Add64", "math/bits.Sub64"], recurses := true, named := ["trailhead/digest.starts", "trailhead/digest.steps", "math/bits.divideError", "math/bits.overflowError"], plainKeys := false, apart := false, laid := [("trailhead/digest.steps", laid_trailhead_digest_steps), ("trailhead/digest.starts", laid_trailhead_digest_starts)] }
def LocateNamesSaid : Prop := locateNamesRow.holds Tryz.pinned (OpenSpec.ofChange locateNamesSpec)

/-- ITS FALSE NEIGHBOUR: 'it returns false'. Refute it at one input. -/
def locateNamesWrong : ChangeSpec := { name := "locateNames", fn := fun _ => fun
  | [d1, d2, d3, d4, d5] => { results := [.lit (.bool false)], args := [d1, d2, d3, d4, d5] }
  | _ => none }
def LocateNamesWrongFalsely : Prop := locateNamesRow.holds Tryz.pinned (OpenSpec.ofChange locateNamesWrong)

/-- 'trailheadlaw19.PresyncStores': WHATEVER THE INPUT: true; the input reads as it did. -/
def presyncStoresSpec : ChangeSpec := { name := "presyncStores", fn := fun _ => fun
  | [d1, d2] => { results := [.lit (.bool true)], args := [d1, d2] }
  | _ => none }
def presyncStoresRow : OpenClaim := { program := "ytcgdbcfflaphhaagreatdoor", sum := "e83105f904a665963dcddd7ded95d997ecea39dec6f103da14ad0cc635ffc613", func := "trailhead/trailheadlaw19.PresyncStores", spec := "presyncStores", inPlace := ["math/bits.Add64", "math/bits.Sub64"], recurses := true, named := ["trailhead/digest.starts", "trailhead/digest.steps", "math/bits.divideError", "math/bits.overflowError"], plainKeys := false, apart := false, laid := [("trailhead/digest.steps", laid_trailhead_digest_steps), ("trailhead/digest.starts", laid_trailhead_digest_starts)] }
def PresyncStoresSaid : Prop := presyncStoresRow.holds Tryz.pinned (OpenSpec.ofChange presyncStoresSpec)

/-- ITS FALSE NEIGHBOUR: 'it returns false'. Refute it at one input. -/
def presyncStoresWrong : ChangeSpec := { name := "presyncStores", fn := fun _ => fun
  | [d1, d2] => { results := [.lit (.bool false)], args := [d1, d2] }
  | _ => none }
def PresyncStoresWrongFalsely : Prop := presyncStoresRow.holds Tryz.pinned (OpenSpec.ofChange presyncStoresWrong)

/-- 'trailheadlaw19.PresyncHonest': WHATEVER THE INPUT: true; the input reads as it did. -/
def presyncHonestSpec : ChangeSpec := { name := "presyncHonest", fn := fun _ => fun
  | [d1, d2, d3] => { results := [.lit (.bool true)], args := [d1, d2, d3] }
  | _ => none }
def presyncHonestRow : OpenClaim := { program := "ytcgdbcfflaphhaagreatdoor", sum := "e83105f904a665963dcddd7ded95d997ecea39dec6f103da14ad0cc635ffc613", func := "trailhead/trailheadlaw19.PresyncHonest", spec := "presyncHonest", inPlace := ["math/bits.Add64", "math/bits.Sub64"], recurses := true, named := ["trailhead/digest.starts", "trailhead/digest.steps", "math/bits.divideError", "math/bits.overflowError"], plainKeys := false, apart := false, laid := [("trailhead/digest.steps", laid_trailhead_digest_steps), ("trailhead/digest.starts", laid_trailhead_digest_starts)] }
def PresyncHonestSaid : Prop := presyncHonestRow.holds Tryz.pinned (OpenSpec.ofChange presyncHonestSpec)

/-- ITS FALSE NEIGHBOUR: 'it returns false'. Refute it at one input. -/
def presyncHonestWrong : ChangeSpec := { name := "presyncHonest", fn := fun _ => fun
  | [d1, d2, d3] => { results := [.lit (.bool false)], args := [d1, d2, d3] }
  | _ => none }
def PresyncHonestWrongFalsely : Prop := presyncHonestRow.holds Tryz.pinned (OpenSpec.ofChange presyncHonestWrong)

/-- 'trailheadlaw19.PresyncRoom': WHATEVER THE INPUT: true; the input reads as it did. -/
def presyncRoomSpec : ChangeSpec := { name := "presyncRoom", fn := fun _ => fun
  | [d1, d2] => { results := [.lit (.bool true)], args := [d1, d2] }
  | _ => none }
def presyncRoomRow : OpenClaim := { program := "ytcgdbcfflaphhaagreatdoor", sum := "e83105f904a665963dcddd7ded95d997ecea39dec6f103da14ad0cc635ffc613", func := "trailhead/trailheadlaw19.PresyncRoom", spec := "presyncRoom", inPlace := ["math/bits.Add64", "math/bits.Sub64"], recurses := true, named := ["trailhead/digest.starts", "trailhead/digest.steps", "math/bits.divideError", "math/bits.overflowError"], plainKeys := false, apart := false, laid := [("trailhead/digest.steps", laid_trailhead_digest_steps), ("trailhead/digest.starts", laid_trailhead_digest_starts)] }
def PresyncRoomSaid : Prop := presyncRoomRow.holds Tryz.pinned (OpenSpec.ofChange presyncRoomSpec)

/-- ITS FALSE NEIGHBOUR: 'it returns false'. Refute it at one input. -/
def presyncRoomWrong : ChangeSpec := { name := "presyncRoom", fn := fun _ => fun
  | [d1, d2] => { results := [.lit (.bool false)], args := [d1, d2] }
  | _ => none }
def PresyncRoomWrongFalsely : Prop := presyncRoomRow.holds Tryz.pinned (OpenSpec.ofChange presyncRoomWrong)

/-- 'trailheadlaw19.PresyncDown': WHATEVER THE INPUT: true; the input reads as it did. -/
def presyncDownSpec : ChangeSpec := { name := "presyncDown", fn := fun _ => fun
  | [d1, d2, d3] => { results := [.lit (.bool true)], args := [d1, d2, d3] }
  | _ => none }
def presyncDownRow : OpenClaim := { program := "ytcgdbcfflaphhaagreatdoor", sum := "e83105f904a665963dcddd7ded95d997ecea39dec6f103da14ad0cc635ffc613", func := "trailhead/trailheadlaw19.PresyncDown", spec := "presyncDown", inPlace := ["math/bits.Add64", "math/bits.Sub64"], recurses := true, named := ["trailhead/digest.starts", "trailhead/digest.steps", "math/bits.divideError", "math/bits.overflowError"], plainKeys := false, apart := false, laid := [("trailhead/digest.steps", laid_trailhead_digest_steps), ("trailhead/digest.starts", laid_trailhead_digest_starts)] }
def PresyncDownSaid : Prop := presyncDownRow.holds Tryz.pinned (OpenSpec.ofChange presyncDownSpec)

/-- ITS FALSE NEIGHBOUR: 'it returns false'. Refute it at one input. -/
def presyncDownWrong : ChangeSpec := { name := "presyncDown", fn := fun _ => fun
  | [d1, d2, d3] => { results := [.lit (.bool false)], args := [d1, d2, d3] }
  | _ => none }
def PresyncDownWrongFalsely : Prop := presyncDownRow.holds Tryz.pinned (OpenSpec.ofChange presyncDownWrong)

/-- 'trailheadlaw19.PresyncDoes': WHATEVER THE INPUT: true; the input reads as it did. -/
def presyncDoesSpec : ChangeSpec := { name := "presyncDoes", fn := fun _ => fun
  | [d1, d2] => { results := [.lit (.bool true)], args := [d1, d2] }
  | _ => none }
def presyncDoesRow : OpenClaim := { program := "ytcgdbcfflaphhaagreatdoor", sum := "e83105f904a665963dcddd7ded95d997ecea39dec6f103da14ad0cc635ffc613", func := "trailhead/trailheadlaw19.PresyncDoes", spec := "presyncDoes", inPlace := ["math/bits.Add64", "math/bits.Sub64"], recurses := true, named := ["trailhead/digest.starts", "trailhead/digest.steps", "math/bits.divideError", "math/bits.overflowError"], plainKeys := false, apart := false, laid := [("trailhead/digest.steps", laid_trailhead_digest_steps), ("trailhead/digest.starts", laid_trailhead_digest_starts)] }
def PresyncDoesSaid : Prop := presyncDoesRow.holds Tryz.pinned (OpenSpec.ofChange presyncDoesSpec)

/-- ITS FALSE NEIGHBOUR: 'it returns false'. Refute it at one input. -/
def presyncDoesWrong : ChangeSpec := { name := "presyncDoes", fn := fun _ => fun
  | [d1, d2] => { results := [.lit (.bool false)], args := [d1, d2] }
  | _ => none }
def PresyncDoesWrongFalsely : Prop := presyncDoesRow.holds Tryz.pinned (OpenSpec.ofChange presyncDoesWrong)

/-- 'trailheadlaw16.MarkFails': WHATEVER THE INPUT: true; the input reads as it did. -/
def markFailsSpec : ChangeSpec := { name := "markFails", fn := fun _ => fun
  | [d1, d2, d3] => { results := [.lit (.bool true)], args := [d1, d2, d3] }
  | _ => none }
def markFailsRow : OpenClaim := { program := "ytcgdbcfflaphhaagreatdoor", sum := "e83105f904a665963dcddd7ded95d997ecea39dec6f103da14ad0cc635ffc613", func := "trailhead/trailheadlaw16.MarkFails", spec := "markFails", inPlace := ["math/bits.Add64", "math/bits.Sub64"], unfollowed := true, recurses := true, named := ["trailhead/digest.starts", "trailhead/digest.steps", "math/bits.divideError", "math/bits.overflowError"], plainKeys := false, apart := false, laid := [("trailhead/digest.steps", laid_trailhead_digest_steps), ("trailhead/digest.starts", laid_trailhead_digest_starts)] }
def MarkFailsSaid : Prop := markFailsRow.holds Tryz.pinned (OpenSpec.ofChange markFailsSpec)

/-- ITS FALSE NEIGHBOUR: 'it returns false'. Refute it at one input. -/
def markFailsWrong : ChangeSpec := { name := "markFails", fn := fun _ => fun
  | [d1, d2, d3] => { results := [.lit (.bool false)], args := [d1, d2, d3] }
  | _ => none }
def MarkFailsWrongFalsely : Prop := markFailsRow.holds Tryz.pinned (OpenSpec.ofChange markFailsWrong)

/- THE SECOND FORM. 'bulk': how many values and letters a reading holds, each counted each time it is reached (what is shared counts as often as it is met; a slice's spare places count too). A statement '..UptoSaid' is the law's where the arguments, and the package variables that the reading takes, are together of bulk at most 1048576: NARROWER than '..Said'. Prove '..Said' where nothing that the law and all that it calls make is longer than what came in: it says more and counts as full. Else prove '..UptoSaid'. A law counts once. -/
mutual
def uptoBulk {H : Type} : DataW H → Nat
  | .lit (.string bytes) => bytes.length + 1
  | .lit _ => 1
  | .nil => 1
  | .ptr d => uptoBulk d + 1
  | .slice elems spare => uptoBulkAll elems + uptoBulkAll spare + 1
  | .agg parts => uptoBulkAll parts + 1
  | .iface _ d => uptoBulk d + 1
  | .map entries => uptoBulkEntries entries + 1
  | .held _ => 1
def uptoBulkAll {H : Type} : List (DataW H) → Nat
  | [] => 0
  | d :: r => uptoBulk d + uptoBulkAll r
def uptoBulkEntries {H : Type} : List (Lit × DataW H) → Nat
  | [] => 0
  | x :: r => uptoBulkEntry x + uptoBulkEntries r
def uptoBulkEntry {H : Type} : Lit × DataW H → Nat
  | (.string bytes, d) => bytes.length + uptoBulk d + 1
  | (_, d) => uptoBulk d + 1
 end
def uptoSmall : (H : Type) → List (DataW H) → Bool := fun _ ds => decide (uptoBulkAll ds ≤ 1048576)
def OpenSpec.upto (s : _root_.Go.ChangeSpec) : _root_.Go.OpenSpec := { _root_.Go.OpenSpec.ofChange s with cond := some uptoSmall }

/-- 'trailheadlaw14.LocateAnswers', WHERE WHAT IT READS IS OF BULK AT MOST 1048576: true; the input reads as it did. -/
def locateAnswersUptoRow : OpenClaim := { program := "ytcgdbcfflaphhaagreatdoor", sum := "e83105f904a665963dcddd7ded95d997ecea39dec6f103da14ad0cc635ffc613", func := "trailhead/trailheadlaw14.LocateAnswers", spec := "locateAnswers", inPlace := ["math/bits.Add64", "math/bits.Sub64"], recurses := true, named := ["trailhead/digest.starts", "trailhead/digest.steps", "math/bits.divideError", "math/bits.overflowError"], plainKeys := false, apart := false, laid := [("trailhead/digest.steps", laid_trailhead_digest_steps), ("trailhead/digest.starts", laid_trailhead_digest_starts)], narrowed := true }
def LocateAnswersUptoSaid : Prop := locateAnswersUptoRow.holds Tryz.pinned (OpenSpec.upto locateAnswersSpec)

/-- 'trailheadlaw13.SkipStores', WHERE WHAT IT READS IS OF BULK AT MOST 1048576: true; the input reads as it did. -/
def skipStoresUptoRow : OpenClaim := { program := "ytcgdbcfflaphhaagreatdoor", sum := "e83105f904a665963dcddd7ded95d997ecea39dec6f103da14ad0cc635ffc613", func := "trailhead/trailheadlaw13.SkipStores", spec := "skipStores", inPlace := ["math/bits.Add64", "math/bits.Sub64"], recurses := true, named := ["trailhead/digest.starts", "trailhead/digest.steps", "math/bits.divideError", "math/bits.overflowError"], plainKeys := false, apart := false, laid := [("trailhead/digest.steps", laid_trailhead_digest_steps), ("trailhead/digest.starts", laid_trailhead_digest_starts)], narrowed := true }
def SkipStoresUptoSaid : Prop := skipStoresUptoRow.holds Tryz.pinned (OpenSpec.upto skipStoresSpec)

/-- 'trailheadlaw14.LocateForks', WHERE WHAT IT READS IS OF BULK AT MOST 1048576: true; the input reads as it did. -/
def locateForksUptoRow : OpenClaim := { program := "ytcgdbcfflaphhaagreatdoor", sum := "e83105f904a665963dcddd7ded95d997ecea39dec6f103da14ad0cc635ffc613", func := "trailhead/trailheadlaw14.LocateForks", spec := "locateForks", inPlace := ["math/bits.Add64", "math/bits.Sub64"], recurses := true, named := ["trailhead/digest.starts", "trailhead/digest.steps", "math/bits.divideError", "math/bits.overflowError"], plainKeys := false, apart := false, laid := [("trailhead/digest.steps", laid_trailhead_digest_steps), ("trailhead/digest.starts", laid_trailhead_digest_starts)], narrowed := true }
def LocateForksUptoSaid : Prop := locateForksUptoRow.holds Tryz.pinned (OpenSpec.upto locateForksSpec)

/-- 'trailheadlaw14.LocateSelf', WHERE WHAT IT READS IS OF BULK AT MOST 1048576: true; the input reads as it did. -/
def locateSelfUptoRow : OpenClaim := { program := "ytcgdbcfflaphhaagreatdoor", sum := "e83105f904a665963dcddd7ded95d997ecea39dec6f103da14ad0cc635ffc613", func := "trailhead/trailheadlaw14.LocateSelf", spec := "locateSelf", inPlace := ["math/bits.Add64", "math/bits.Sub64"], recurses := true, named := ["trailhead/digest.starts", "trailhead/digest.steps", "math/bits.divideError", "math/bits.overflowError"], plainKeys := false, apart := false, laid := [("trailhead/digest.steps", laid_trailhead_digest_steps), ("trailhead/digest.starts", laid_trailhead_digest_starts)], narrowed := true }
def LocateSelfUptoSaid : Prop := locateSelfUptoRow.holds Tryz.pinned (OpenSpec.upto locateSelfSpec)

/-- 'trailheadlaw13.SkipAncestors', WHERE WHAT IT READS IS OF BULK AT MOST 1048576: true; the input reads as it did. -/
def skipAncestorsUptoRow : OpenClaim := { program := "ytcgdbcfflaphhaagreatdoor", sum := "e83105f904a665963dcddd7ded95d997ecea39dec6f103da14ad0cc635ffc613", func := "trailhead/trailheadlaw13.SkipAncestors", spec := "skipAncestors", inPlace := ["math/bits.Add64", "math/bits.Sub64"], recurses := true, named := ["trailhead/digest.starts", "trailhead/digest.steps", "math/bits.divideError", "math/bits.overflowError"], plainKeys := false, apart := false, laid := [("trailhead/digest.steps", laid_trailhead_digest_steps), ("trailhead/digest.starts", laid_trailhead_digest_starts)], narrowed := true }
def SkipAncestorsUptoSaid : Prop := skipAncestorsUptoRow.holds Tryz.pinned (OpenSpec.upto skipAncestorsSpec)

/-- 'trailheadlaw14.LocateNames', WHERE WHAT IT READS IS OF BULK AT MOST 1048576: true; the input reads as it did. -/
def locateNamesUptoRow : OpenClaim := { program := "ytcgdbcfflaphhaagreatdoor", sum := "e83105f904a665963dcddd7ded95d997ecea39dec6f103da14ad0cc635ffc613", func := "trailhead/trailheadlaw14.LocateNames", spec := "locateNames", inPlace := ["math/bits.Add64", "math/bits.Sub64"], recurses := true, named := ["trailhead/digest.starts", "trailhead/digest.steps", "math/bits.divideError", "math/bits.overflowError"], plainKeys := false, apart := false, laid := [("trailhead/digest.steps", laid_trailhead_digest_steps), ("trailhead/digest.starts", laid_trailhead_digest_starts)], narrowed := true }
def LocateNamesUptoSaid : Prop := locateNamesUptoRow.holds Tryz.pinned (OpenSpec.upto locateNamesSpec)

/-- 'trailheadlaw19.PresyncStores', WHERE WHAT IT READS IS OF BULK AT MOST 1048576: true; the input reads as it did. -/
def presyncStoresUptoRow : OpenClaim := { program := "ytcgdbcfflaphhaagreatdoor", sum := "e83105f904a665963dcddd7ded95d997ecea39dec6f103da14ad0cc635ffc613", func := "trailhead/trailheadlaw19.PresyncStores", spec := "presyncStores", inPlace := ["math/bits.Add64", "math/bits.Sub64"], recurses := true, named := ["trailhead/digest.starts", "trailhead/digest.steps", "math/bits.divideError", "math/bits.overflowError"], plainKeys := false, apart := false, laid := [("trailhead/digest.steps", laid_trailhead_digest_steps), ("trailhead/digest.starts", laid_trailhead_digest_starts)], narrowed := true }
def PresyncStoresUptoSaid : Prop := presyncStoresUptoRow.holds Tryz.pinned (OpenSpec.upto presyncStoresSpec)

/-- 'trailheadlaw19.PresyncHonest', WHERE WHAT IT READS IS OF BULK AT MOST 1048576: true; the input reads as it did. -/
def presyncHonestUptoRow : OpenClaim := { program := "ytcgdbcfflaphhaagreatdoor", sum := "e83105f904a665963dcddd7ded95d997ecea39dec6f103da14ad0cc635ffc613", func := "trailhead/trailheadlaw19.PresyncHonest", spec := "presyncHonest", inPlace := ["math/bits.Add64", "math/bits.Sub64"], recurses := true, named := ["trailhead/digest.starts", "trailhead/digest.steps", "math/bits.divideError", "math/bits.overflowError"], plainKeys := false, apart := false, laid := [("trailhead/digest.steps", laid_trailhead_digest_steps), ("trailhead/digest.starts", laid_trailhead_digest_starts)], narrowed := true }
def PresyncHonestUptoSaid : Prop := presyncHonestUptoRow.holds Tryz.pinned (OpenSpec.upto presyncHonestSpec)

/-- 'trailheadlaw19.PresyncRoom', WHERE WHAT IT READS IS OF BULK AT MOST 1048576: true; the input reads as it did. -/
def presyncRoomUptoRow : OpenClaim := { program := "ytcgdbcfflaphhaagreatdoor", sum := "e83105f904a665963dcddd7ded95d997ecea39dec6f103da14ad0cc635ffc613", func := "trailhead/trailheadlaw19.PresyncRoom", spec := "presyncRoom", inPlace := ["math/bits.Add64", "math/bits.Sub64"], recurses := true, named := ["trailhead/digest.starts", "trailhead/digest.steps", "math/bits.divideError", "math/bits.overflowError"], plainKeys := false, apart := false, laid := [("trailhead/digest.steps", laid_trailhead_digest_steps), ("trailhead/digest.starts", laid_trailhead_digest_starts)], narrowed := true }
def PresyncRoomUptoSaid : Prop := presyncRoomUptoRow.holds Tryz.pinned (OpenSpec.upto presyncRoomSpec)

/-- 'trailheadlaw19.PresyncDown', WHERE WHAT IT READS IS OF BULK AT MOST 1048576: true; the input reads as it did. -/
def presyncDownUptoRow : OpenClaim := { program := "ytcgdbcfflaphhaagreatdoor", sum := "e83105f904a665963dcddd7ded95d997ecea39dec6f103da14ad0cc635ffc613", func := "trailhead/trailheadlaw19.PresyncDown", spec := "presyncDown", inPlace := ["math/bits.Add64", "math/bits.Sub64"], recurses := true, named := ["trailhead/digest.starts", "trailhead/digest.steps", "math/bits.divideError", "math/bits.overflowError"], plainKeys := false, apart := false, laid := [("trailhead/digest.steps", laid_trailhead_digest_steps), ("trailhead/digest.starts", laid_trailhead_digest_starts)], narrowed := true }
def PresyncDownUptoSaid : Prop := presyncDownUptoRow.holds Tryz.pinned (OpenSpec.upto presyncDownSpec)

/-- 'trailheadlaw19.PresyncDoes', WHERE WHAT IT READS IS OF BULK AT MOST 1048576: true; the input reads as it did. -/
def presyncDoesUptoRow : OpenClaim := { program := "ytcgdbcfflaphhaagreatdoor", sum := "e83105f904a665963dcddd7ded95d997ecea39dec6f103da14ad0cc635ffc613", func := "trailhead/trailheadlaw19.PresyncDoes", spec := "presyncDoes", inPlace := ["math/bits.Add64", "math/bits.Sub64"], recurses := true, named := ["trailhead/digest.starts", "trailhead/digest.steps", "math/bits.divideError", "math/bits.overflowError"], plainKeys := false, apart := false, laid := [("trailhead/digest.steps", laid_trailhead_digest_steps), ("trailhead/digest.starts", laid_trailhead_digest_starts)], narrowed := true }
def PresyncDoesUptoSaid : Prop := presyncDoesUptoRow.holds Tryz.pinned (OpenSpec.upto presyncDoesSpec)

/-- 'trailheadlaw16.MarkFails', WHERE WHAT IT READS IS OF BULK AT MOST 1048576: true; the input reads as it did. -/
def markFailsUptoRow : OpenClaim := { program := "ytcgdbcfflaphhaagreatdoor", sum := "e83105f904a665963dcddd7ded95d997ecea39dec6f103da14ad0cc635ffc613", func := "trailhead/trailheadlaw16.MarkFails", spec := "markFails", inPlace := ["math/bits.Add64", "math/bits.Sub64"], unfollowed := true, recurses := true, named := ["trailhead/digest.starts", "trailhead/digest.steps", "math/bits.divideError", "math/bits.overflowError"], plainKeys := false, apart := false, laid := [("trailhead/digest.steps", laid_trailhead_digest_steps), ("trailhead/digest.starts", laid_trailhead_digest_starts)], narrowed := true }
def MarkFailsUptoSaid : Prop := markFailsUptoRow.holds Tryz.pinned (OpenSpec.upto markFailsSpec)

end Rows
end Go.Proofs.YtcgdbcfflaphhaaGreatDoor
