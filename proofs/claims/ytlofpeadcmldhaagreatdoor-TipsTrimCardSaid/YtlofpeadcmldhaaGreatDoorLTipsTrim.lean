import Derived.Test.YtlofpeadcmldhaaGreatDoorRows
import Derived.Test.YtlofpeadcmldhaaGreatDoorTie
import Derived.Test.YtlofpeadcmldhaaGreatDoorCards
import Derived.Test.YtlofpeadcmldhaaGreatDoorAr
import Derived.WalkKit
import Derived.ProofKit
import Derived.OpenShut
import Derived.ShutString
import Derived.ChangeOld
import Derived.Below
import Derived.SizedLaws
import Derived.LaidLaws
import Derived.LaidHandle
import Derived.SevenTiedAt
set_option linter.all false
open Go.Proofs.Tryz renaming prog→zF
open List renaming replicate→zC
noncomputable section
namespace Go.Proofs.YtlofpeadcmldhaaGreatDoor.tipsTrim
open Go.ChangeShapes Go.WideShapes Go.ChangeAt Go.RowKit Go.Dn
open Go.ChangeMaps (open_string shut_string)
theorem own:ownKnob Tryz.prog.godebug=none:=by kernel_rfl
theorem ZmB:laidOutB zF=true:=by kernel_rfl
def ZiY (os:Os):World:=
 let w0:=World.holding zF os ⟨#[],#[],[]⟩
 { w0 with heap:=((w0.heap.modify 1 fun
   | .cells _ t frozen=>.cells ((F.glob_digest_steps.map (Value.int .u32)).toArray) t frozen
   | o=>o).modify 0 fun
   | .cells _ t frozen=>.cells ((F.glob_digest_starts.map (Value.int .u32)).toArray) t frozen
   | o=>o)}
theorem Zkx (os:Os) (args:Array Value):laidMetH zF Rows.tipsTrimRow.laid ((ZiY os).forCall (fun _ _=>0) ⟨#[],args,[]⟩).memory:=
 (laidMet_of_run' 4 (by kernel_rfl) (by kernel_rfl):laidMet zF Rows.tipsTrimRow.laid ((ZiY os).forCall (fun _ _=>0) ⟨#[],args,[]⟩).memory)
theorem glR {W:World} (hL:laidMetH zF Rows.tipsTrimRow.laid W):GlR (ZiX W) W:=by
 have h':laidMet zF Rows.tipsTrimRow.laid W:=hL
 obtain ⟨ps,h,_,_⟩:=h'
 obtain ⟨k1,q0,h⟩:=ZlI h F.glob_digest_steps (g:=1) (t:=167) (e:=164) (n:=64) (k:=.u32) (by kernel_rfl) (by kernel_rfl) Tryz.underlying167 Tryz.underlying164 (by kernel_rfl) (by kernel_rfl) (by kernel_rfl) (by omega)
 obtain ⟨k0,q1,h⟩:=ZlI h F.glob_digest_starts (g:=0) (t:=165) (e:=164) (n:=8) (k:=.u32) (by kernel_rfl) (by kernel_rfl) Tryz.underlying165 Tryz.underlying164 (by kernel_rfl) (by kernel_rfl) (by kernel_rfl) (by omega)
 intro k c hk
 simp only [Globs.gc] at hk
 split at hk
 ·cases hk;exact k0
 ·cases hk;exact k1
 ·cases hk
set_option maxRecDepth 100000 in
theorem lifted (os:Os) (started:os.Started) (H:Type) (enc:TypeId×Value→H) :
  ReturnsInHanded {} Tryz.checked os 4 .any (fun w args=>(Rows.tipsTrimSpec.pre enc zF Tryz.f4 Rows.tipsTrimRow.domain false w args∧laidMetH zF Rows.tipsTrimRow.laid w)∧sizedMet enc zF Tryz.f4 (OpenSpec.ofChange Rows.tipsTrimSpec) false w args) (Rows.tipsTrimSpec.post enc zF Tryz.f4 false true false false):=by
 refine returnsInHanded_of_change_and (C:=Tryz.checked) (X:=fun w _=>laidMetH zF Rows.tipsTrimRow.laid w) (fun _ _ _ hh h=>laidMet.of_heap hh h) own started (by kernel_rfl) Tryz.func4
  (ChangeSpec.witness_at (enc:=enc) (C:=Tryz.checked) (os:=os) (X:=fun w _=>laidMetH zF Rows.tipsTrimRow.laid w) false (ZiY os) #[(.agg (zC 4 (Value.int .i64 0)++zC 1 (Value.bool false)++zC 2 (Value.slice none 0 0)++zC 8 (Value.int .u64 0)++zC 1 (Value.int .i64 0)++zC 64 (Value.int .u8 0)++zC 3 (Value.int .i64 0)).toArray),.slice none 0 0,.slice none 0 0,.int .i64 0] 8 rfl (by kernel_rfl) (by kernel_rfl) (by kernel_rfl) (by kernel_rfl) (by kernel_rfl) (Zkx os _)) ?_
 intro W base args ds gs before hval0 hW hcnd hsz0 hL _
 have hval : ∀(j:Nat) t v,Tryz.f4.params[j]? = some t→args[j]? = some v→Value.okWide zF W .any base t v:=hval0
 have hW':=hW
 obtain ⟨p,q,hA0,hV,rfl,hfz,hnd⟩:=hW
 have hA:DataW.TrodAll enc zF W 0 (fun _=>true) true Tryz.f4.params.toList args.toList ds p:=hA0
 rw [Tryz.params4] at hA hval
 obtain ⟨v0,vs0,d0,ds0,p0,q0,hargs,rfl,rfl,h0,r0⟩:=trodAll_cons hA
 obtain ⟨v1,vs1,d1,ds1,p1,q1,rfl,rfl,rfl,h1,r1⟩:=trodAll_cons r0
 obtain ⟨v2,vs2,d2,ds2,p2,q2,rfl,rfl,rfl,h2,r2⟩:=trodAll_cons r1
 obtain ⟨v3,vs3,d3,ds3,p3,q3,rfl,rfl,rfl,h3,r3⟩:=trodAll_cons r2
 obtain ⟨rfl,rfl,rfl⟩:=trodAll_nil r3
 obtain rfl:args = #[v0,v1,v2,v3]:=by cases args;simp_all
 obtain ⟨rfl,rfl⟩:=trodVars_none hV
 obtain ⟨a0,c0,w0⟩:=Zob 0 6 (tys:=F.tysP) Tryz.underlying32 (by kernel_rfl) (hval 0 32 v0 rfl rfl) h0
 have hlt0 : ∀x∈p0,x.block<W.heap.size:=fun x hx=>hW'.lt x (by simp [hx])
 obtain ⟨a1,c1,w1,l1⟩:=Znk 1 6 (ts:=F.tysAc5) Tryz.underlying33 (by kernel_rfl) (of_decide_eq_true (by kernel_rfl)) (hval 1 33 v1 rfl rfl) h1
 have hlt1 : ∀x∈p1,x.block<W.heap.size:=fun x hx=>hW'.lt x (by simp [hx])
 obtain ⟨a2,c2,w2,l2⟩:=Znk 2 6 (ts:=[Ty.int .i64]) Tryz.underlying34 (by kernel_rfl) (of_decide_eq_true (by kernel_rfl)) (hval 2 34 v2 rfl rfl) h2
 have hlt2 : ∀x∈p2,x.block<W.heap.size:=fun x hx=>hW'.lt x (by simp [hx])
 obtain ⟨a3,rfl,rfl,rfl,w3⟩:=open_int Tryz.underlying3 (hval 3 3 v3 rfl rfl) h3
 refine (law_true ((F.TipsTrim_true a1 a2 a3 w0 w1 l1 w2 l2 w3).choose_spec) (glR hL) (Ziw c0 (Ziw c1 (Ziw c2 (Ziw law_int law_nil))))).mono fun e W' ⟨he,bel⟩=>?_
 subst he
 exact ⟨_,rfl,_,_,_,[],_,[],hW',trodAll_mk1 (shut_bool Tryz.underlying4 _),(trodAll_cons_mk (Below.trod ZmB (by kernel_rfl) (of_decide_eq_true (by kernel_rfl)) h0 bel hlt0) (trodAll_cons_mk (Below.trod ZmB (by kernel_rfl) (of_decide_eq_true (by kernel_rfl)) h1 bel hlt1) (trodAll_cons_mk (Below.trod ZmB (by kernel_rfl) (of_decide_eq_true (by kernel_rfl)) h2 bel hlt2) (trodAll_cons_mk (shut_int Tryz.underlying3 w3) trodAll_mk0)))),rfl,bel.frame _,fun h=>by cases h⟩
theorem k1:(Rows.tipsTrimRow.inPlace==Tryz.prog.inPlace 4)=true:=by kernel_rfl
theorem k2:(Rows.tipsTrimRow.unfollowed==Tryz.prog.unfollowed 4)=true:=by kernel_rfl
theorem k3:(Rows.tipsTrimRow.recurses==Tryz.prog.recurses 4)=true:=by kernel_rfl
theorem k4:(Rows.tipsTrimRow.named==Tryz.prog.varsNamed 4)=true:=by kernel_rfl
theorem closed:joinedFacts zF 4 Tryz.f4 Rows.tipsTrimSpec Rows.tipsTrimRow=true:=by
 unfold joinedFacts
 rw [k1,k2,k3,k4]
 kernel_rfl
theorem over:Rows.tipsTrimRow.holds Tryz.pinned (OpenSpec.ofChange Rows.tipsTrimSpec):=
 OpenClaim.holds_of_wide 4 Tryz.f4 rfl rfl rfl rfl rfl rfl rfl ⟨rfl,rfl,rfl,rfl,rfl⟩ rfl rfl rfl rfl rfl (by kernel_rfl) Tryz.func4 closed
  (of_decide_eq_true (by kernel_rfl)) (by unfold Func.isWrapper;first | (rw [if_pos (by decide +kernel)];kernel_rfl) | (rw [if_neg (by decide +kernel)];exact ⟨rfl,rfl⟩))
  (fun os started H enc _=>lifted os started H enc)
theorem m1:Rows.tipsTrimRow.wfByText (OpenSpec.ofChange Rows.tipsTrimSpec)=true:=by kernel_rfl
theorem m2:Tryz.pinned.checked.prog.mainIs=some (Rows.tipsTrimCard.stood.harness.1,Rows.tipsTrimCard.stood.harness.2.toList):=by kernel_rfl
theorem m3:false=Rows.tipsTrimRow.goesBy Tryz.pinned.checked.prog:=by kernel_rfl
theorem m4:Tryz.pinned.checked.prog.funcNamed Rows.tipsTrimRow.func=some 4:=by kernel_rfl
theorem m5:Tryz.f4.params.toList.all (fun t=>Tryz.pinned.checked.prog.wantsStandIn t==false)=true:=by kernel_rfl
theorem m6:false=Tryz.pinned.checked.prog.looks []:=by kernel_rfl
theorem m7:((!Rows.tipsTrimCard.stood.harness.1)&&Rows.tipsTrimCard.stood.harness.2.isEmpty && !false)=false:=by kernel_rfl
theorem proved:Rows.TipsTrimCardSaid:=
 Claim7.holds_tied_plain_at .later [] [.data,.data] true Rows.tipsTrimCard.stood.harness false
  over (fun _ h=>by cases h) m1 (fun _ h=>by cases h) tipsTrim_row_tie rfl ⟨rfl,rfl⟩ m2 m7
  (fun f fn hf hfn=>by
   obtain rfl:f=4:=Option.some.inj (m4.symm.trans hf) |>.symm
   obtain rfl:fn=Tryz.f4:=(Option.some.inj (Eq.trans (Eq.symm Tryz.func4) hfn)).symm
   refine ⟨m6,fun j t ht=>?_⟩
   have hm:t∈Tryz.f4.params.toList:=by
    rw [Array.mem_toList_iff]
    exact Array.mem_of_getElem? ht
   exact beq_iff_eq.1 (List.all_eq_true.1 m5 t hm))
  m3
end Go.Proofs.YtlofpeadcmldhaaGreatDoor.tipsTrim
namespace Go.Proofs.YtlofpeadcmldhaaGreatDoor
theorem tipsTrim_holds:Rows.TipsTrimCardSaid:=tipsTrim.proved
end Go.Proofs.YtlofpeadcmldhaaGreatDoor
end
