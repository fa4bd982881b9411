import Derived.Test.YthiibbfaabjpgaaGreatDoorRows
import Derived.Test.YthiibbfaabjpgaaGreatDoorTie
import Derived.Test.YthiibbfaabjpgaaGreatDoorCards
import Derived.Test.YthiibbfaabjpgaaGreatDoorAs
import Derived.WalkKit
import Derived.ProofKit
import Derived.OpenShut
import Derived.ShutString
import Derived.ChangeOld
import Derived.Below
import Derived.SizedLaws
import Derived.LaidLaws
import Derived.LaidHandle
import Derived.SevenTiedAt
set_option linter.all false
open Go.Proofs.Tryz renaming prog->zC
open List renaming replicate->zB
noncomputable section
namespace Go.Proofs.YthiibbfaabjpgaaGreatDoor.chainCalm
open Go.ChangeShapes Go.WideShapes Go.ChangeAt Go.RowKit Go.Dn
open Go.ChangeMaps (open_string shut_string)
theorem own:ownKnob Tryz.prog.godebug=none:=by kernel_rfl
theorem Zug:laidOutB zC=true:=by kernel_rfl
def ZmA (os:Os):World:=
 let w0:=World.holding zC os ⟨#[],#[],[]⟩
 { w0 with heap:=((w0.heap.modify 1 fun
   | .cells _ t frozen=>.cells ((F.glob_digest_steps.map (Value.int .u32)).toArray) t frozen
   | o=>o).modify 0 fun
   | .cells _ t frozen=>.cells ((F.glob_digest_starts.map (Value.int .u32)).toArray) t frozen
   | o=>o)}
theorem ZoF (os:Os) (args:Array Value):laidMetH zC Rows.chainCalmRow.laid ((ZmA os).forCall (fun _ _=>0) ⟨#[],args,[]⟩).memory:=
 (laidMet_of_run' 4 aQ aQ:laidMet zC Rows.chainCalmRow.laid ((ZmA os).forCall (fun _ _=>0) ⟨#[],args,[]⟩).memory)
theorem glR {W:World} (hL:laidMetH zC Rows.chainCalmRow.laid W):GlR (Zmz W) W:=by
 have h':laidMet zC Rows.chainCalmRow.laid W:=hL;obtain ⟨ps,h,_,_⟩:=h';obtain ⟨k1,q0,h⟩:=ZpZ h F.glob_digest_steps (g:=1) (t:=179) (e:=176) (n:=64) (k:=.u32) aQ aQ Tryz.underlying179 Tryz.underlying176 aQ aQ aQ aF;obtain ⟨k0,q1,h⟩:=ZpZ h F.glob_digest_starts (g:=0) (t:=177) (e:=176) (n:=8) (k:=.u32) aQ aQ Tryz.underlying177 Tryz.underlying176 aQ aQ aQ aF;intro k c hk;simp only [Globs.gc] at hk;split at hk
 ·cases hk;exact k0
 ·cases hk;exact k1
 cases hk
set_option maxRecDepth 100000 in
theorem lifted (os:Os) (started:os.Started) (H:Type) (enc:TypeId×Value->H) :
  ReturnsInHanded {} Tryz.checked os 3 .any (fun w args=>(Rows.chainCalmSpec.pre enc zC Tryz.f3 Rows.chainCalmRow.domain false w args/\laidMetH zC Rows.chainCalmRow.laid w)/\sizedMet enc zC Tryz.f3 (OpenSpec.ofChange Rows.chainCalmSpec) false w args) (Rows.chainCalmSpec.post enc zC Tryz.f3 false true false false):=by
 refine returnsInHanded_of_change_and (C:=Tryz.checked) (X:=fun w _=>laidMetH zC Rows.chainCalmRow.laid w) (fun _ _ _ hh h=>laidMet.of_heap hh h) own started aQ Tryz.func3
  (ChangeSpec.witness_at (enc:=enc) (C:=Tryz.checked) (os:=os) (X:=fun w _=>laidMetH zC Rows.chainCalmRow.laid w) false (ZmA os) #[(.agg (zB 4 (Value.int .i64 0)++zB 1 (Value.bool false)++zB 2 (Value.slice none 0 0)++zB 8 (Value.int .u64 0)++zB 1 (Value.int .i64 0)++zB 64 (Value.int .u8 0)++zB 3 (Value.int .i64 0)).toArray),.slice none 0 0] 8 rfl aQ aQ aQ aQ aQ (ZoF os _)) ?_
 intro W base args ds gs before hval0 hW hcnd hsz0 hL _;have hval : ∀(j:Nat) t v,Tryz.f3.params[j]? = some t->args[j]? = some v->Value.okWide zC W .any base t v:=hval0;have hW':=hW;obtain ⟨p,q,hA0,hV,rfl,hfz,hnd⟩:=hW;have hA:DataW.TrodAll enc zC W 0 (fun _=>true) true Tryz.f3.params.toList args.toList ds p:=hA0;rw [Tryz.params3] at hA hval;obtain ⟨v0,vs0,d0,ds0,p0,q0,hargs,rfl,rfl,h0,r0⟩:=trodAll_cons hA;obtain ⟨v1,vs1,d1,ds1,p1,q1,rfl,rfl,rfl,h1,r1⟩:=trodAll_cons r0;obtain ⟨rfl,rfl,rfl⟩:=trodAll_nil r1;obtain rfl:args = #[v0,v1]:=by cases args;simp_all
 obtain ⟨rfl,rfl⟩:=trodVars_none hV;obtain ⟨a0,c0,w0⟩:=ZsT 0 6 (tys:=F.tysP) Tryz.underlying32 aQ (hval 0 32 v0 rfl rfl) h0;have hlt0 : ∀x∈p0,x.block<W.heap.size:=fun x hx=>hW'.lt x (by simp [hx]);obtain ⟨a1,c1,w1,l1⟩:=law_rows 1 6 (ts:=F.tysAc7) Tryz.underlying33 aQ (of_decide_eq_true aQ) (hval 1 33 v1 rfl rfl) h1;have hlt1 : ∀x∈p1,x.block<W.heap.size:=fun x hx=>hW'.lt x (by simp [hx]);refine (law_true ((F.ChainCalm_true a1 w0 w1 l1).choose_spec) (glR hL) (ZrY c0 (ZrY c1 law_nil))).mono fun e W' ⟨he,bel⟩=>?_;subst he;exact ⟨_,rfl,_,_,_,[],_,[],hW',trodAll_mk1 (shut_bool Tryz.underlying4 _),(trodAll_cons_mk (Below.trod Zug aQ (of_decide_eq_true aQ) h0 bel hlt0) (trodAll_cons_mk (Below.trod Zug aQ (of_decide_eq_true aQ) h1 bel hlt1) trodAll_mk0)),rfl,bel.frame _,fun h=>by cases h⟩
theorem k1:(Rows.chainCalmRow.inPlace==Tryz.prog.inPlace 3)=true:=by kernel_rfl
theorem k2:(Rows.chainCalmRow.unfollowed==Tryz.prog.unfollowed 3)=true:=by kernel_rfl
theorem k3:(Rows.chainCalmRow.recurses==Tryz.prog.recurses 3)=true:=by kernel_rfl
theorem k4:(Rows.chainCalmRow.named==Tryz.prog.varsNamed 3)=true:=by kernel_rfl
theorem closed:joinedFacts zC 3 Tryz.f3 Rows.chainCalmSpec Rows.chainCalmRow=true:=by
 unfold joinedFacts;rw [k1,k2,k3,k4]
 kernel_rfl
theorem over:Rows.chainCalmRow.holds Tryz.pinned (OpenSpec.ofChange Rows.chainCalmSpec):=
 OpenClaim.holds_of_wide 3 Tryz.f3 rfl rfl rfl rfl rfl rfl rfl ⟨rfl,rfl,rfl,rfl,rfl⟩ rfl rfl rfl rfl rfl aQ Tryz.func3 closed
  (of_decide_eq_true aQ) (by unfold Func.isWrapper;first | (rw [aD (by decide +kernel)];kernel_rfl) | (rw [aE (by decide +kernel)];exact ⟨rfl,rfl⟩))
  (fun os started H enc _=>lifted os started H enc)
theorem m1:Rows.chainCalmRow.wfByText (OpenSpec.ofChange Rows.chainCalmSpec)=true:=by kernel_rfl
theorem m2:Tryz.pinned.checked.prog.mainIs=some (Rows.chainCalmCard.stood.harness.1,Rows.chainCalmCard.stood.harness.2.toList):=by kernel_rfl
theorem m3:false=Rows.chainCalmRow.goesBy Tryz.pinned.checked.prog:=by kernel_rfl
theorem m4:Tryz.pinned.checked.prog.funcNamed Rows.chainCalmRow.func=some 3:=by kernel_rfl
theorem m5:Tryz.f3.params.toList.all (fun t=>Tryz.pinned.checked.prog.wantsStandIn t==false)=true:=by kernel_rfl
theorem m6:false=Tryz.pinned.checked.prog.looks []:=by kernel_rfl
theorem m7:((!Rows.chainCalmCard.stood.harness.1)&&Rows.chainCalmCard.stood.harness.2.isEmpty && !false)=false:=by kernel_rfl
theorem proved:Rows.ChainCalmCardSaid:=
 Claim7.holds_tied_plain_at .later [] [.data,.data] true Rows.chainCalmCard.stood.harness false
  over (fun _ h=>by cases h) m1 (fun _ h=>by cases h) chainCalm_row_tie rfl ⟨rfl,rfl⟩ m2 m7
  (fun f fn hf hfn=>by
   obtain rfl:f=3:=Option.some.inj (m4.symm.trans hf) |>.symm
   obtain rfl:fn=Tryz.f3:=(Option.some.inj (Eq.trans (Eq.symm Tryz.func3) hfn)).symm;refine ⟨m6,fun j t ht=>?_⟩;have hm:t∈Tryz.f3.params.toList:=by
    rw [Array.mem_toList_iff];exact Array.mem_of_getElem? ht
   exact beq_iff_eq.1 (List.all_eq_true.1 m5 t hm))
  m3
end Go.Proofs.YthiibbfaabjpgaaGreatDoor.chainCalm
namespace Go.Proofs.YthiibbfaabjpgaaGreatDoor
theorem chainCalm_holds:Rows.ChainCalmCardSaid:=chainCalm.proved
end Go.Proofs.YthiibbfaabjpgaaGreatDoor
end
