/- ScoreDoes answers true, of all scripts and peers; the package-level variable starts as the program's text lays it. -/
import Derived.Test.YtgminfbhlipobaaDoorRows
import Derived.Test.YtgminfbhlipobaaDoorTie
import Derived.Test.YtgminfbhlipobaaDoorCards
import Derived.Test.YtgminfbhlipobaaDoorScoDoes
import Derived.WalkKit
import Derived.ProofKit
import Derived.OpenShut
import Derived.ShutString
import Derived.ChangeOld
import Derived.Below
import Derived.SizedLaws
import Derived.LaidLaws
import Derived.LaidHandle
import Derived.SevenTiedAt
namespace Go.Proofs.YtgminfbhlipobaaDoor.scoreDoes
open Go.ChangeShapes Go.WideShapes Go.ChangeAt Go.RowKit Go.Dn
open Go.ChangeMaps (open_string shut_string)
set_option linter.unusedVariables false
theorem own : ownKnob Tryd.prog.godebug = none := by kernel_rfl
theorem laidOut : laidOutB Tryd.prog = true := by kernel_rfl
noncomputable def laidWorld (os : Os) : World :=
  let w0 := World.holding Tryd.prog os ⟨#[], #[], []⟩
  { w0 with heap := (w0.heap.modify 0 fun
      | .cells _ t frozen => .cells ((Dn.F.glob_score_points.map (Value.int .i64)).toArray) t frozen
      | o => o) }
theorem laidWorld_met (os : Os) (args : Array Value) : laidMetH Tryd.prog Rows.scoreDoesRow.laid ((laidWorld os).forCall (fun _ _ => 0) ⟨#[], args, []⟩).memory :=
  (laidMet_of_run' 4 (by kernel_rfl) (by kernel_rfl) : laidMet Tryd.prog Rows.scoreDoesRow.laid ((laidWorld os).forCall (fun _ _ => 0) ⟨#[], args, []⟩).memory)
theorem glR {W : World} (hL : laidMetH Tryd.prog Rows.scoreDoesRow.laid W) : GlR (lawG W) W := by
  have h' : laidMet Tryd.prog Rows.scoreDoesRow.laid W := hL
  obtain ⟨ps, h, _, _⟩ := h'
  obtain ⟨k0, q0, h⟩ := laid_glob h Dn.F.glob_score_points (g := 0) (t := 51) (e := 3) (n := 8) (k := .i64) (by kernel_rfl) (by kernel_rfl) Tryd.underlying51 Tryd.underlying3 (by kernel_rfl) (by kernel_rfl) (by kernel_rfl) (by omega)
  intro k c hk
  simp only [Globs.gc] at hk
  split at hk
  · cases hk; exact k0
  · cases hk
set_option maxRecDepth 100000 in
theorem lifted (os : Os) (started : os.Started) (H : Type) (enc : TypeId × Value → H) :
    ReturnsInHanded {} Tryd.checked os 6 .any (fun w args => (Rows.scoreDoesSpec.pre enc Tryd.prog Tryd.f6 Rows.scoreDoesRow.domain false w args ∧ laidMetH Tryd.prog Rows.scoreDoesRow.laid w) ∧ sizedMet enc Tryd.prog Tryd.f6 (OpenSpec.ofChange Rows.scoreDoesSpec) false w args) (Rows.scoreDoesSpec.post enc Tryd.prog Tryd.f6 false true false false) := by
  refine returnsInHanded_of_change_and (C := Tryd.checked) (X := fun w _ => laidMetH Tryd.prog Rows.scoreDoesRow.laid w) (fun _ _ _ hh h => laidMet.of_heap hh h) own started (by kernel_rfl) Tryd.func6
    (ChangeSpec.witness_at (enc := enc) (C := Tryd.checked) (os := os) (X := fun w _ => laidMetH Tryd.prog Rows.scoreDoesRow.laid w) false (laidWorld os) #[.slice none 0 0, .int .i64 0] 8 rfl (by kernel_rfl) (by kernel_rfl) (by kernel_rfl) (by kernel_rfl) (by kernel_rfl) (laidWorld_met os _)) ?_
  intro W base args ds gs before hval0 hW hcnd hsz0 hL _
  have hval : ∀ (j : Nat) t v, Tryd.f6.params[j]? = some t → args[j]? = some v → Value.okWide Tryd.prog W .any base t v := hval0
  have hW' := hW
  obtain ⟨p, q, hA0, hV, rfl, hfz, hnd⟩ := hW
  have hA : DataW.TrodAll enc Tryd.prog W 0 (fun _ => true) true Tryd.f6.params.toList args.toList ds p := hA0
  rw [Tryd.params6] at hA hval
  obtain ⟨v0, vs0, d0, ds0, p0, q0, hargs, rfl, rfl, h0, r0⟩ := trodAll_cons hA
  obtain ⟨v1, vs1, d1, ds1, p1, q1, rfl, rfl, rfl, h1, r1⟩ := trodAll_cons r0
  obtain ⟨rfl, rfl, rfl⟩ := trodAll_nil r1
  obtain rfl : args = #[v0, v1] := by cases args; simp_all
  obtain ⟨rfl, rfl⟩ := trodVars_none hV
  obtain ⟨a0, c0, w0, l0⟩ := law_rows 0 4 (ts := [.int .i64, .int .i64, .sl 1 [.int .i64]]) Tryd.underlying22 (by kernel_rfl) (of_decide_eq_true (by kernel_rfl)) (hval 0 22 v0 rfl rfl) h0
  have hlt0 : ∀ x ∈ p0, x.block < W.heap.size := fun x hx => hW'.lt x (by simp [hx])
  obtain ⟨a1, rfl, rfl, rfl, w1⟩ := open_int Tryd.underlying3 (hval 1 3 v1 rfl rfl) h1
  refine (law_true ((Dn.F.ScoreDoes_true' a0 a1 w0 l0 w1).choose_spec) (glR hL) (law_cons c0 (law_cons law_int law_nil))).mono fun e W' ⟨he, bel⟩ => ?_
  subst he
  exact ⟨_, rfl, _, _, _, [], _, [], hW', trodAll_mk1 (shut_bool Tryd.underlying4 _), (trodAll_cons_mk (Below.trod laidOut (by kernel_rfl) (of_decide_eq_true (by kernel_rfl)) h0 bel hlt0) (trodAll_cons_mk (shut_int Tryd.underlying3 w1) trodAll_mk0)), rfl, bel.frame _, fun h => by cases h⟩
theorem over : Rows.scoreDoesRow.holds Tryd.pinned (OpenSpec.ofChange Rows.scoreDoesSpec) :=
  OpenClaim.holds_of_wide 6 Tryd.f6 rfl rfl rfl rfl rfl rfl rfl ⟨rfl, rfl, rfl, rfl, rfl⟩ rfl rfl rfl rfl rfl (by kernel_rfl) Tryd.func6 (by kernel_rfl)
    (of_decide_eq_true (by kernel_rfl)) (by unfold Func.isWrapper; first | (rw [if_pos (by decide +kernel)]; kernel_rfl) | (rw [if_neg (by decide +kernel)]; exact ⟨rfl, rfl⟩))
    (fun os started H enc _ => lifted os started H enc)
theorem proved : Rows.ScoreDoesCardSaid :=
  Claim7.holds_tied_plain_at .later [] [.data] true Rows.scoreDoesCard.stood.harness false
    over (fun _ h => by cases h) (by kernel_rfl) (fun _ h => by cases h) scoreDoes_row_tie rfl ⟨rfl, rfl⟩ (by kernel_rfl) rfl
    (fun f fn hf hfn => by
      obtain rfl : f = 6 := Option.some.inj ((show Tryd.prog.funcNamed Rows.scoreDoesRow.func = some 6 by kernel_rfl).symm.trans hf) |>.symm
      obtain rfl : fn = Tryd.f6 := (Option.some.inj (Tryd.func6.symm.trans hfn)).symm
      refine ⟨by kernel_rfl, fun j t ht => ?_⟩
      have hall : Tryd.f6.params.toList.all (fun t => Tryd.prog.wantsStandIn t == false) = true := by kernel_rfl
      have hm : t ∈ Tryd.f6.params.toList := by
        rw [Array.mem_toList_iff]
        exact Array.mem_of_getElem? ht
      exact beq_iff_eq.1 (List.all_eq_true.1 hall t hm))
    (by kernel_rfl)
end Go.Proofs.YtgminfbhlipobaaDoor.scoreDoes
namespace Go.Proofs.YtgminfbhlipobaaDoor
/-- The row, under a short name, for the claim. -/
theorem scoreDoes_holds : Rows.ScoreDoesCardSaid := scoreDoes.proved
end Go.Proofs.YtgminfbhlipobaaDoor
