import Derived.Test.YtbijmojagnjgcaaGreatDoorRows
import Derived.Test.YtbijmojagnjgcaaGreatDoorTie
import Derived.Test.YtbijmojagnjgcaaGreatDoorCards
import Derived.Test.YtbijmojagnjgcaaGreatDoorAr
import Derived.WalkKit
import Derived.ProofKit
import Derived.OpenShut
import Derived.ShutString
import Derived.ChangeOld
import Derived.Below
import Derived.SizedLaws
import Derived.LaidLaws
import Derived.LaidHandle
import Derived.SevenTiedAt
set_option linter.all false
open Go.Proofs.Tryz renaming prog→zB
open List renaming replicate→zC
noncomputable section
namespace Go.Proofs.YtbijmojagnjgcaaGreatDoor.markDoes
open Go.ChangeShapes Go.WideShapes Go.ChangeAt Go.RowKit Go.Dn
open Go.ChangeMaps (open_string shut_string)
theorem own:ownKnob Tryz.prog.godebug=none:=by kernel_rfl
theorem ZtF:laidOutB zB=true:=by kernel_rfl
def ZlV (os:Os):World:=
 let w0:=World.holding zB os ⟨#[],#[],[]⟩
 { w0 with heap:=((w0.heap.modify 1 fun
   | .cells _ t frozen=>.cells ((F.glob_digest_steps.map (Value.int .u32)).toArray) t frozen
   | o=>o).modify 0 fun
   | .cells _ t frozen=>.cells ((F.glob_digest_starts.map (Value.int .u32)).toArray) t frozen
   | o=>o)}
theorem Zok (os:Os) (args:Array Value):laidMetH zB Rows.markDoesRow.laid ((ZlV os).forCall (fun _ _=>0) ⟨#[],args,[]⟩).memory:=
 (laidMet_of_run' 4 (by kernel_rfl) (by kernel_rfl):laidMet zB Rows.markDoesRow.laid ((ZlV os).forCall (fun _ _=>0) ⟨#[],args,[]⟩).memory)
theorem glR {W:World} (hL:laidMetH zB Rows.markDoesRow.laid W):GlR (ZlU W) W:=by
 have h':laidMet zB Rows.markDoesRow.laid W:=hL;obtain ⟨ps,h,_,_⟩:=h';obtain ⟨k1,q0,h⟩:=ZpE h F.glob_digest_steps (g:=1) (t:=172) (e:=169) (n:=64) (k:=.u32) (by kernel_rfl) (by kernel_rfl) Tryz.underlying172 Tryz.underlying169 (by kernel_rfl) (by kernel_rfl) (by kernel_rfl) (by omega);obtain ⟨k0,q1,h⟩:=ZpE h F.glob_digest_starts (g:=0) (t:=170) (e:=169) (n:=8) (k:=.u32) (by kernel_rfl) (by kernel_rfl) Tryz.underlying170 Tryz.underlying169 (by kernel_rfl) (by kernel_rfl) (by kernel_rfl) (by omega);intro k c hk;simp only [Globs.gc] at hk;split at hk
 ·cases hk;exact k0
 ·cases hk;exact k1
 cases hk
set_option maxRecDepth 100000 in
theorem lifted (os:Os) (started:os.Started) (H:Type) (enc:TypeId×Value→H) :
  ReturnsInHanded {} Tryz.checked os 5 .any (fun w args=>(Rows.markDoesSpec.pre enc zB Tryz.f5 Rows.markDoesRow.domain false w args∧laidMetH zB Rows.markDoesRow.laid w)∧sizedMet enc zB Tryz.f5 (OpenSpec.ofChange Rows.markDoesSpec) false w args) (Rows.markDoesSpec.post enc zB Tryz.f5 false true false false):=by
 refine returnsInHanded_of_change_and (C:=Tryz.checked) (X:=fun w _=>laidMetH zB Rows.markDoesRow.laid w) (fun _ _ _ hh h=>laidMet.of_heap hh h) own started (by kernel_rfl) Tryz.func5
  (ChangeSpec.witness_at (enc:=enc) (C:=Tryz.checked) (os:=os) (X:=fun w _=>laidMetH zB Rows.markDoesRow.laid w) false (ZlV os) #[(.agg (zC 4 (Value.int .i64 0)++zC 1 (Value.bool false)++zC 2 (Value.slice none 0 0)++zC 8 (Value.int .u64 0)++zC 1 (Value.int .i64 0)++zC 64 (Value.int .u8 0)++zC 3 (Value.int .i64 0)).toArray),.slice none 0 0] 8 rfl (by kernel_rfl) (by kernel_rfl) (by kernel_rfl) (by kernel_rfl) (by kernel_rfl) (Zok os _)) ?_
 intro W base args ds gs before hval0 hW hcnd hsz0 hL _;have hval : ∀(j:Nat) t v,Tryz.f5.params[j]? = some t→args[j]? = some v→Value.okWide zB W .any base t v:=hval0;have hW':=hW;obtain ⟨p,q,hA0,hV,rfl,hfz,hnd⟩:=hW;have hA:DataW.TrodAll enc zB W 0 (fun _=>true) true Tryz.f5.params.toList args.toList ds p:=hA0;rw [Tryz.params5] at hA hval;obtain ⟨v0,vs0,d0,ds0,p0,q0,hargs,rfl,rfl,h0,r0⟩:=trodAll_cons hA;obtain ⟨v1,vs1,d1,ds1,p1,q1,rfl,rfl,rfl,h1,r1⟩:=trodAll_cons r0;obtain ⟨rfl,rfl,rfl⟩:=trodAll_nil r1;obtain rfl:args = #[v0,v1]:=by cases args;simp_all
 obtain ⟨rfl,rfl⟩:=trodVars_none hV;obtain ⟨a0,c0,w0⟩:=Zss 0 6 (tys:=F.tysP) Tryz.underlying32 (by kernel_rfl) (hval 0 32 v0 rfl rfl) h0;have hlt0 : ∀x∈p0,x.block<W.heap.size:=fun x hx=>hW'.lt x (by simp [hx]);obtain ⟨a1,c1,w1,l1⟩:=law_rows 1 6 (ts:=F.tysAct) Tryz.underlying33 (by kernel_rfl) (of_decide_eq_true (by kernel_rfl)) (hval 1 33 v1 rfl rfl) h1;have hlt1 : ∀x∈p1,x.block<W.heap.size:=fun x hx=>hW'.lt x (by simp [hx]);refine (law_true ((F.MarkDoes_true a1 w0 w1 l1).choose_spec) (glR hL) (Zrv c0 (Zrv c1 law_nil))).mono fun e W' ⟨he,bel⟩=>?_;subst he;exact ⟨_,rfl,_,_,_,[],_,[],hW',trodAll_mk1 (shut_bool Tryz.underlying4 _),(trodAll_cons_mk (Below.trod ZtF (by kernel_rfl) (of_decide_eq_true (by kernel_rfl)) h0 bel hlt0) (trodAll_cons_mk (Below.trod ZtF (by kernel_rfl) (of_decide_eq_true (by kernel_rfl)) h1 bel hlt1) trodAll_mk0)),rfl,bel.frame _,fun h=>by cases h⟩
theorem k1:(Rows.markDoesRow.inPlace==Tryz.prog.inPlace 5)=true:=by kernel_rfl
theorem k2:(Rows.markDoesRow.unfollowed==Tryz.prog.unfollowed 5)=true:=by kernel_rfl
theorem k3:(Rows.markDoesRow.recurses==Tryz.prog.recurses 5)=true:=by kernel_rfl
theorem k4:(Rows.markDoesRow.named==Tryz.prog.varsNamed 5)=true:=by kernel_rfl
theorem closed:joinedFacts zB 5 Tryz.f5 Rows.markDoesSpec Rows.markDoesRow=true:=by
 unfold joinedFacts;rw [k1,k2,k3,k4]
 kernel_rfl
theorem over:Rows.markDoesRow.holds Tryz.pinned (OpenSpec.ofChange Rows.markDoesSpec):=
 OpenClaim.holds_of_wide 5 Tryz.f5 rfl rfl rfl rfl rfl rfl rfl ⟨rfl,rfl,rfl,rfl,rfl⟩ rfl rfl rfl rfl rfl (by kernel_rfl) Tryz.func5 closed
  (of_decide_eq_true (by kernel_rfl)) (by unfold Func.isWrapper;first | (rw [aD (by decide +kernel)];kernel_rfl) | (rw [aE (by decide +kernel)];exact ⟨rfl,rfl⟩))
  (fun os started H enc _=>lifted os started H enc)
theorem m1:Rows.markDoesRow.wfByText (OpenSpec.ofChange Rows.markDoesSpec)=true:=by kernel_rfl
theorem m2:Tryz.pinned.checked.prog.mainIs=some (Rows.markDoesCard.stood.harness.1,Rows.markDoesCard.stood.harness.2.toList):=by kernel_rfl
theorem m3:false=Rows.markDoesRow.goesBy Tryz.pinned.checked.prog:=by kernel_rfl
theorem m4:Tryz.pinned.checked.prog.funcNamed Rows.markDoesRow.func=some 5:=by kernel_rfl
theorem m5:Tryz.f5.params.toList.all (fun t=>Tryz.pinned.checked.prog.wantsStandIn t==false)=true:=by kernel_rfl
theorem m6:false=Tryz.pinned.checked.prog.looks []:=by kernel_rfl
theorem m7:((!Rows.markDoesCard.stood.harness.1)&&Rows.markDoesCard.stood.harness.2.isEmpty && !false)=false:=by kernel_rfl
theorem proved:Rows.MarkDoesCardSaid:=
 Claim7.holds_tied_plain_at .later [] [.data,.data] true Rows.markDoesCard.stood.harness false
  over (fun _ h=>by cases h) m1 (fun _ h=>by cases h) markDoes_row_tie rfl ⟨rfl,rfl⟩ m2 m7
  (fun f fn hf hfn=>by
   obtain rfl:f=5:=Option.some.inj (m4.symm.trans hf) |>.symm
   obtain rfl:fn=Tryz.f5:=(Option.some.inj (Eq.trans (Eq.symm Tryz.func5) hfn)).symm;refine ⟨m6,fun j t ht=>?_⟩;have hm:t∈Tryz.f5.params.toList:=by
    rw [Array.mem_toList_iff];exact Array.mem_of_getElem? ht
   exact beq_iff_eq.1 (List.all_eq_true.1 m5 t hm))
  m3
end Go.Proofs.YtbijmojagnjgcaaGreatDoor.markDoes
namespace Go.Proofs.YtbijmojagnjgcaaGreatDoor
theorem markDoes_holds:Rows.MarkDoesCardSaid:=markDoes.proved
end Go.Proofs.YtbijmojagnjgcaaGreatDoor
end
