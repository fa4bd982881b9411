/-
  NARROWER THAN 'FOR EVERY INPUT', by the rows' own cells (each row's printed sentence says how): MarkLead: laid · MarkChild: laid · MarkDoes: laid · MarkSteps: laid · MarkBack: laid · MarkFails: laid.
  DERIVED. THE GIVEN ROWS OF THIS SEAT. 6 by the template 'for every input the law returns true; each argument reads behind the call as it read before'; 0 by the template 'total and deterministic' (their statements: YtbijmojagnjgcaaGreatDoorTotals.lean).
  GIVEN WITH THE SEED: the statements are not yours to turn. If you find one false, say at which input.
  Laid BY PROGRAM, IN A SANDBOX (cutbox-rows.mjs): the forced cells as the released guide's own fill.sh prints them over the translation 32164ab111a8d38d… (all of the seat's roots in one cut). By AI agents, Wed Nov 11 2026. No macro, syntax, notation, axiom, sorry.
-/
import Derived.Test.YtbijmojagnjgcaaGreatDoorChecked
import GoSem.Claim
import GoSem.ClaimJoined
import GoSem.ClaimMapViews
import Derived.JoinedTies
import Derived.KernelRfl
namespace Go.Proofs.YtbijmojagnjgcaaGreatDoor
/- THE CELL 'sum', in the pinned program and in every row, IS THE sha256 OF THE DUMP (.gsa) THAT YtbijmojagnjgcaaGreatDoorProg.lean LOADS. Nothing in Lean hashes anything: it is a label: what it is worth is what the hold of that sum in a sandbox is worth. -/
noncomputable def Tryz.pinned : Pinned := { name := "ytbijmojagnjgcaagreatdoor", sum := "32164ab111a8d38d6d3aaf97f1bda84aef9faf4f16103fa4ed2df592bb48e9c1", checked := Tryz.checked }
namespace Rows
def none {H : Type} : Left H := { results := [], args := [] }

/- WHAT THE LISTED PACKAGE-LEVEL VARIABLES READ AS WHEN THE CALL BEGINS. Each datum BY PROGRAM (the guide's laid-datum.mjs) off the statement by which the dump's own 'gosem.cut.vars' lays the variable. In a bare row this is a premise. The card (YtbijmojagnjgcaaGreatDoorCards.lean) ties it to the program's text. -/
def laid_trailhead_digest_steps {H : Type} : DataW H := .agg [.lit (.int .u32 1116352408), .lit (.int .u32 1899447441), .lit (.int .u32 3049323471), .lit (.int .u32 3921009573), .lit (.int .u32 961987163), .lit (.int .u32 1508970993), .lit (.int .u32 2453635748), .lit (.int .u32 2870763221), .lit (.int .u32 3624381080), .lit (.int .u32 310598401), .lit (.int .u32 607225278), .lit (.int .u32 1426881987), .lit (.int .u32 1925078388), .lit (.int .u32 2162078206), .lit (.int .u32 2614888103), .lit (.int .u32 3248222580), .lit (.int .u32 3835390401), .lit (.int .u32 4022224774), .lit (.int .u32 264347078), .lit (.int .u32 604807628), .lit (.int .u32 770255983), .lit (.int .u32 1249150122), .lit (.int .u32 1555081692), .lit (.int .u32 1996064986), .lit (.int .u32 2554220882), .lit (.int .u32 2821834349), .lit (.int .u32 2952996808), .lit (.int .u32 3210313671), .lit (.int .u32 3336571891), .lit (.int .u32 3584528711), .lit (.int .u32 113926993), .lit (.int .u32 338241895), .lit (.int .u32 666307205), .lit (.int .u32 773529912), .lit (.int .u32 1294757372), .lit (.int .u32 1396182291), .lit (.int .u32 1695183700), .lit (.int .u32 1986661051), .lit (.int .u32 2177026350), .lit (.int .u32 2456956037), .lit (.int .u32 2730485921), .lit (.int .u32 2820302411), .lit (.int .u32 3259730800), .lit (.int .u32 3345764771), .lit (.int .u32 3516065817), .lit (.int .u32 3600352804), .lit (.int .u32 4094571909), .lit (.int .u32 275423344), .lit (.int .u32 430227734), .lit (.int .u32 506948616), .lit (.int .u32 659060556), .lit (.int .u32 883997877), .lit (.int .u32 958139571), .lit (.int .u32 1322822218), .lit (.int .u32 1537002063), .lit (.int .u32 1747873779), .lit (.int .u32 1955562222), .lit (.int .u32 2024104815), .lit (.int .u32 2227730452), .lit (.int .u32 2361852424), .lit (.int .u32 2428436474), .lit (.int .u32 2756734187), .lit (.int .u32 3204031479), .lit (.int .u32 3329325298)]
def laid_trailhead_digest_starts {H : Type} : DataW H := .agg [.lit (.int .u32 1779033703), .lit (.int .u32 3144134277), .lit (.int .u32 1013904242), .lit (.int .u32 2773480762), .lit (.int .u32 1359893119), .lit (.int .u32 2600822924), .lit (.int .u32 528734635), .lit (.int .u32 1541459225)]

/-- 'trailheadlaw16.MarkLead': WHATEVER THE INPUT: true; the input reads as it did. -/
def markLeadSpec : ChangeSpec := { name := "markLead", fn := fun _ => fun
  | [d1, d2] => { results := [.lit (.bool true)], args := [d1, d2] }
  | _ => none }
def markLeadRow : OpenClaim := { program := "ytbijmojagnjgcaagreatdoor", sum := "32164ab111a8d38d6d3aaf97f1bda84aef9faf4f16103fa4ed2df592bb48e9c1", func := "trailhead/trailheadlaw16.MarkLead", spec := "markLead", inPlace := ["math/bits.Add64", "math/bits.Sub64"], unfollowed := true, recurses := true, named := ["trailhead/digest.starts", "trailhead/digest.steps", "math/bits.divideError", "math/bits.overflowError"], plainKeys := false, apart := false, laid := [("trailhead/digest.steps", laid_trailhead_digest_steps), ("trailhead/digest.starts", laid_trailhead_digest_starts)] }
def MarkLeadSaid : Prop := markLeadRow.holds Tryz.pinned (OpenSpec.ofChange markLeadSpec)

/-- ITS FALSE NEIGHBOUR: 'it returns false'. Refute it at one input. -/
def markLeadWrong : ChangeSpec := { name := "markLead", fn := fun _ => fun
  | [d1, d2] => { results := [.lit (.bool false)], args := [d1, d2] }
  | _ => none }
def MarkLeadWrongFalsely : Prop := markLeadRow.holds Tryz.pinned (OpenSpec.ofChange markLeadWrong)

/-- 'trailheadlaw16.MarkChild': WHATEVER THE INPUT: true; the input reads as it did. -/
def markChildSpec : ChangeSpec := { name := "markChild", fn := fun _ => fun
  | [d1, d2, d3, d4] => { results := [.lit (.bool true)], args := [d1, d2, d3, d4] }
  | _ => none }
def markChildRow : OpenClaim := { program := "ytbijmojagnjgcaagreatdoor", sum := "32164ab111a8d38d6d3aaf97f1bda84aef9faf4f16103fa4ed2df592bb48e9c1", func := "trailhead/trailheadlaw16.MarkChild", spec := "markChild", inPlace := ["math/bits.Add64", "math/bits.Sub64"], unfollowed := true, recurses := true, named := ["trailhead/digest.starts", "trailhead/digest.steps", "math/bits.divideError", "math/bits.overflowError"], plainKeys := false, apart := false, laid := [("trailhead/digest.steps", laid_trailhead_digest_steps), ("trailhead/digest.starts", laid_trailhead_digest_starts)] }
def MarkChildSaid : Prop := markChildRow.holds Tryz.pinned (OpenSpec.ofChange markChildSpec)

/-- ITS FALSE NEIGHBOUR: 'it returns false'. Refute it at one input. -/
def markChildWrong : ChangeSpec := { name := "markChild", fn := fun _ => fun
  | [d1, d2, d3, d4] => { results := [.lit (.bool false)], args := [d1, d2, d3, d4] }
  | _ => none }
def MarkChildWrongFalsely : Prop := markChildRow.holds Tryz.pinned (OpenSpec.ofChange markChildWrong)

/-- 'trailheadlaw16.MarkDoes': WHATEVER THE INPUT: true; the input reads as it did. -/
def markDoesSpec : ChangeSpec := { name := "markDoes", fn := fun _ => fun
  | [d1, d2] => { results := [.lit (.bool true)], args := [d1, d2] }
  | _ => none }
def markDoesRow : OpenClaim := { program := "ytbijmojagnjgcaagreatdoor", sum := "32164ab111a8d38d6d3aaf97f1bda84aef9faf4f16103fa4ed2df592bb48e9c1", func := "trailhead/trailheadlaw16.MarkDoes", spec := "markDoes", inPlace := ["math/bits.Add64", "math/bits.Sub64"], unfollowed := true, recurses := true, named := ["trailhead/digest.starts", "trailhead/digest.steps", "math/bits.divideError", "math/bits.overflowError"], plainKeys := false, apart := false, laid := [("trailhead/digest.steps", laid_trailhead_digest_steps), ("trailhead/digest.starts", laid_trailhead_digest_starts)] }
def MarkDoesSaid : Prop := markDoesRow.holds Tryz.pinned (OpenSpec.ofChange markDoesSpec)

/-- ITS FALSE NEIGHBOUR: 'it returns false'. Refute it at one input. -/
def markDoesWrong : ChangeSpec := { name := "markDoes", fn := fun _ => fun
  | [d1, d2] => { results := [.lit (.bool false)], args := [d1, d2] }
  | _ => none }
def MarkDoesWrongFalsely : Prop := markDoesRow.holds Tryz.pinned (OpenSpec.ofChange markDoesWrong)

/-- 'trailheadlaw16.MarkSteps': WHATEVER THE INPUT: true; the input reads as it did. -/
def markStepsSpec : ChangeSpec := { name := "markSteps", fn := fun _ => fun
  | [d1, d2] => { results := [.lit (.bool true)], args := [d1, d2] }
  | _ => none }
def markStepsRow : OpenClaim := { program := "ytbijmojagnjgcaagreatdoor", sum := "32164ab111a8d38d6d3aaf97f1bda84aef9faf4f16103fa4ed2df592bb48e9c1", func := "trailhead/trailheadlaw16.MarkSteps", spec := "markSteps", inPlace := ["math/bits.Add64", "math/bits.Sub64"], unfollowed := true, recurses := true, named := ["trailhead/digest.starts", "trailhead/digest.steps", "math/bits.divideError", "math/bits.overflowError"], plainKeys := false, apart := false, laid := [("trailhead/digest.steps", laid_trailhead_digest_steps), ("trailhead/digest.starts", laid_trailhead_digest_starts)] }
def MarkStepsSaid : Prop := markStepsRow.holds Tryz.pinned (OpenSpec.ofChange markStepsSpec)

/-- ITS FALSE NEIGHBOUR: 'it returns false'. Refute it at one input. -/
def markStepsWrong : ChangeSpec := { name := "markSteps", fn := fun _ => fun
  | [d1, d2] => { results := [.lit (.bool false)], args := [d1, d2] }
  | _ => none }
def MarkStepsWrongFalsely : Prop := markStepsRow.holds Tryz.pinned (OpenSpec.ofChange markStepsWrong)

/-- 'trailheadlaw16.MarkBack': WHATEVER THE INPUT: true; the input reads as it did. -/
def markBackSpec : ChangeSpec := { name := "markBack", fn := fun _ => fun
  | [d1, d2, d3] => { results := [.lit (.bool true)], args := [d1, d2, d3] }
  | _ => none }
def markBackRow : OpenClaim := { program := "ytbijmojagnjgcaagreatdoor", sum := "32164ab111a8d38d6d3aaf97f1bda84aef9faf4f16103fa4ed2df592bb48e9c1", func := "trailhead/trailheadlaw16.MarkBack", spec := "markBack", inPlace := ["math/bits.Add64", "math/bits.Sub64"], unfollowed := true, recurses := true, named := ["trailhead/digest.starts", "trailhead/digest.steps", "math/bits.divideError", "math/bits.overflowError"], plainKeys := false, apart := false, laid := [("trailhead/digest.steps", laid_trailhead_digest_steps), ("trailhead/digest.starts", laid_trailhead_digest_starts)] }
def MarkBackSaid : Prop := markBackRow.holds Tryz.pinned (OpenSpec.ofChange markBackSpec)

/-- ITS FALSE NEIGHBOUR: 'it returns false'. Refute it at one input. -/
def markBackWrong : ChangeSpec := { name := "markBack", fn := fun _ => fun
  | [d1, d2, d3] => { results := [.lit (.bool false)], args := [d1, d2, d3] }
  | _ => none }
def MarkBackWrongFalsely : Prop := markBackRow.holds Tryz.pinned (OpenSpec.ofChange markBackWrong)

/-- 'trailheadlaw16.MarkFails': WHATEVER THE INPUT: true; the input reads as it did. -/
def markFailsSpec : ChangeSpec := { name := "markFails", fn := fun _ => fun
  | [d1, d2, d3] => { results := [.lit (.bool true)], args := [d1, d2, d3] }
  | _ => none }
def markFailsRow : OpenClaim := { program := "ytbijmojagnjgcaagreatdoor", sum := "32164ab111a8d38d6d3aaf97f1bda84aef9faf4f16103fa4ed2df592bb48e9c1", func := "trailhead/trailheadlaw16.MarkFails", spec := "markFails", inPlace := ["math/bits.Add64", "math/bits.Sub64"], unfollowed := true, recurses := true, named := ["trailhead/digest.starts", "trailhead/digest.steps", "math/bits.divideError", "math/bits.overflowError"], plainKeys := false, apart := false, laid := [("trailhead/digest.steps", laid_trailhead_digest_steps), ("trailhead/digest.starts", laid_trailhead_digest_starts)] }
def MarkFailsSaid : Prop := markFailsRow.holds Tryz.pinned (OpenSpec.ofChange markFailsSpec)

/-- ITS FALSE NEIGHBOUR: 'it returns false'. Refute it at one input. -/
def markFailsWrong : ChangeSpec := { name := "markFails", fn := fun _ => fun
  | [d1, d2, d3] => { results := [.lit (.bool false)], args := [d1, d2, d3] }
  | _ => none }
def MarkFailsWrongFalsely : Prop := markFailsRow.holds Tryz.pinned (OpenSpec.ofChange markFailsWrong)

/- THE SECOND FORM. 'bulk': how many values and letters a reading holds, each counted each time it is reached (what is shared counts as often as it is met; a slice's spare places count too). A statement '..UptoSaid' is the law's where the arguments, and the package variables that the reading takes, are together of bulk at most 1048576: NARROWER than '..Said'. Prove '..Said' where nothing that the law and all that it calls make is longer than what came in: it says more and counts as full. Else prove '..UptoSaid'. A law counts once. -/
mutual
def uptoBulk {H : Type} : DataW H → Nat
  | .lit (.string bytes) => bytes.length + 1
  | .lit _ => 1
  | .nil => 1
  | .ptr d => uptoBulk d + 1
  | .slice elems spare => uptoBulkAll elems + uptoBulkAll spare + 1
  | .agg parts => uptoBulkAll parts + 1
  | .iface _ d => uptoBulk d + 1
  | .map entries => uptoBulkEntries entries + 1
  | .held _ => 1
def uptoBulkAll {H : Type} : List (DataW H) → Nat
  | [] => 0
  | d :: r => uptoBulk d + uptoBulkAll r
def uptoBulkEntries {H : Type} : List (Lit × DataW H) → Nat
  | [] => 0
  | x :: r => uptoBulkEntry x + uptoBulkEntries r
def uptoBulkEntry {H : Type} : Lit × DataW H → Nat
  | (.string bytes, d) => bytes.length + uptoBulk d + 1
  | (_, d) => uptoBulk d + 1
 end
def uptoSmall : (H : Type) → List (DataW H) → Bool := fun _ ds => decide (uptoBulkAll ds ≤ 1048576)
def OpenSpec.upto (s : _root_.Go.ChangeSpec) : _root_.Go.OpenSpec := { _root_.Go.OpenSpec.ofChange s with cond := some uptoSmall }

/-- 'trailheadlaw16.MarkLead', WHERE WHAT IT READS IS OF BULK AT MOST 1048576: true; the input reads as it did. -/
def markLeadUptoRow : OpenClaim := { program := "ytbijmojagnjgcaagreatdoor", sum := "32164ab111a8d38d6d3aaf97f1bda84aef9faf4f16103fa4ed2df592bb48e9c1", func := "trailhead/trailheadlaw16.MarkLead", spec := "markLead", inPlace := ["math/bits.Add64", "math/bits.Sub64"], unfollowed := true, recurses := true, named := ["trailhead/digest.starts", "trailhead/digest.steps", "math/bits.divideError", "math/bits.overflowError"], plainKeys := false, apart := false, laid := [("trailhead/digest.steps", laid_trailhead_digest_steps), ("trailhead/digest.starts", laid_trailhead_digest_starts)], narrowed := true }
def MarkLeadUptoSaid : Prop := markLeadUptoRow.holds Tryz.pinned (OpenSpec.upto markLeadSpec)

/-- 'trailheadlaw16.MarkChild', WHERE WHAT IT READS IS OF BULK AT MOST 1048576: true; the input reads as it did. -/
def markChildUptoRow : OpenClaim := { program := "ytbijmojagnjgcaagreatdoor", sum := "32164ab111a8d38d6d3aaf97f1bda84aef9faf4f16103fa4ed2df592bb48e9c1", func := "trailhead/trailheadlaw16.MarkChild", spec := "markChild", inPlace := ["math/bits.Add64", "math/bits.Sub64"], unfollowed := true, recurses := true, named := ["trailhead/digest.starts", "trailhead/digest.steps", "math/bits.divideError", "math/bits.overflowError"], plainKeys := false, apart := false, laid := [("trailhead/digest.steps", laid_trailhead_digest_steps), ("trailhead/digest.starts", laid_trailhead_digest_starts)], narrowed := true }
def MarkChildUptoSaid : Prop := markChildUptoRow.holds Tryz.pinned (OpenSpec.upto markChildSpec)

/-- 'trailheadlaw16.MarkDoes', WHERE WHAT IT READS IS OF BULK AT MOST 1048576: true; the input reads as it did. -/
def markDoesUptoRow : OpenClaim := { program := "ytbijmojagnjgcaagreatdoor", sum := "32164ab111a8d38d6d3aaf97f1bda84aef9faf4f16103fa4ed2df592bb48e9c1", func := "trailhead/trailheadlaw16.MarkDoes", spec := "markDoes", inPlace := ["math/bits.Add64", "math/bits.Sub64"], unfollowed := true, recurses := true, named := ["trailhead/digest.starts", "trailhead/digest.steps", "math/bits.divideError", "math/bits.overflowError"], plainKeys := false, apart := false, laid := [("trailhead/digest.steps", laid_trailhead_digest_steps), ("trailhead/digest.starts", laid_trailhead_digest_starts)], narrowed := true }
def MarkDoesUptoSaid : Prop := markDoesUptoRow.holds Tryz.pinned (OpenSpec.upto markDoesSpec)

/-- 'trailheadlaw16.MarkSteps', WHERE WHAT IT READS IS OF BULK AT MOST 1048576: true; the input reads as it did. -/
def markStepsUptoRow : OpenClaim := { program := "ytbijmojagnjgcaagreatdoor", sum := "32164ab111a8d38d6d3aaf97f1bda84aef9faf4f16103fa4ed2df592bb48e9c1", func := "trailhead/trailheadlaw16.MarkSteps", spec := "markSteps", inPlace := ["math/bits.Add64", "math/bits.Sub64"], unfollowed := true, recurses := true, named := ["trailhead/digest.starts", "trailhead/digest.steps", "math/bits.divideError", "math/bits.overflowError"], plainKeys := false, apart := false, laid := [("trailhead/digest.steps", laid_trailhead_digest_steps), ("trailhead/digest.starts", laid_trailhead_digest_starts)], narrowed := true }
def MarkStepsUptoSaid : Prop := markStepsUptoRow.holds Tryz.pinned (OpenSpec.upto markStepsSpec)

/-- 'trailheadlaw16.MarkBack', WHERE WHAT IT READS IS OF BULK AT MOST 1048576: true; the input reads as it did. -/
def markBackUptoRow : OpenClaim := { program := "ytbijmojagnjgcaagreatdoor", sum := "32164ab111a8d38d6d3aaf97f1bda84aef9faf4f16103fa4ed2df592bb48e9c1", func := "trailhead/trailheadlaw16.MarkBack", spec := "markBack", inPlace := ["math/bits.Add64", "math/bits.Sub64"], unfollowed := true, recurses := true, named := ["trailhead/digest.starts", "trailhead/digest.steps", "math/bits.divideError", "math/bits.overflowError"], plainKeys := false, apart := false, laid := [("trailhead/digest.steps", laid_trailhead_digest_steps), ("trailhead/digest.starts", laid_trailhead_digest_starts)], narrowed := true }
def MarkBackUptoSaid : Prop := markBackUptoRow.holds Tryz.pinned (OpenSpec.upto markBackSpec)

/-- 'trailheadlaw16.MarkFails', WHERE WHAT IT READS IS OF BULK AT MOST 1048576: true; the input reads as it did. -/
def markFailsUptoRow : OpenClaim := { program := "ytbijmojagnjgcaagreatdoor", sum := "32164ab111a8d38d6d3aaf97f1bda84aef9faf4f16103fa4ed2df592bb48e9c1", func := "trailhead/trailheadlaw16.MarkFails", spec := "markFails", inPlace := ["math/bits.Add64", "math/bits.Sub64"], unfollowed := true, recurses := true, named := ["trailhead/digest.starts", "trailhead/digest.steps", "math/bits.divideError", "math/bits.overflowError"], plainKeys := false, apart := false, laid := [("trailhead/digest.steps", laid_trailhead_digest_steps), ("trailhead/digest.starts", laid_trailhead_digest_starts)], narrowed := true }
def MarkFailsUptoSaid : Prop := markFailsUptoRow.holds Tryz.pinned (OpenSpec.upto markFailsSpec)

end Rows
end Go.Proofs.YtbijmojagnjgcaaGreatDoor
