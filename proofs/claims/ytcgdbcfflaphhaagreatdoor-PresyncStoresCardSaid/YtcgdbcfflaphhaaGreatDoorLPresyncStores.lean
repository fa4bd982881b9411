/- PresyncStores answers true, of all cases and messages; the package-level variables start as the program's text lays them. -/
import Derived.Test.YtcgdbcfflaphhaaGreatDoorRows
import Derived.Test.YtcgdbcfflaphhaaGreatDoorTie
import Derived.Test.YtcgdbcfflaphhaaGreatDoorCards
import Derived.Test.YtcgdbcfflaphhaaGreatDoorAr
import Derived.WalkKit
import Derived.ProofKit
import Derived.OpenShut
import Derived.ShutString
import Derived.ChangeOld
import Derived.Below
import Derived.SizedLaws
import Derived.LaidLaws
import Derived.LaidHandle
import Derived.SevenTiedAt
namespace Go.Proofs.YtcgdbcfflaphhaaGreatDoor.presyncStores
open Go.ChangeShapes Go.WideShapes Go.ChangeAt Go.RowKit Go.Dn
open Go.ChangeMaps (open_string shut_string)
set_option linter.unusedVariables false
theorem own:ownKnob Tryz.prog.godebug=none:=by kernel_rfl
theorem laidOut:laidOutB Tryz.prog=true:=by kernel_rfl
noncomputable def laidWorld (os:Os):World:=
 let w0:=World.holding Tryz.prog os ⟨#[],#[],[]⟩
 { w0 with heap:=((w0.heap.modify 1 fun
   | .cells _ t frozen=>.cells ((F.glob_digest_steps.map (Value.int .u32)).toArray) t frozen
   | o=>o).modify 0 fun
   | .cells _ t frozen=>.cells ((F.glob_digest_starts.map (Value.int .u32)).toArray) t frozen
   | o=>o)}
theorem Zjh (os:Os) (args:Array Value):laidMetH Tryz.prog Rows.presyncStoresRow.laid ((laidWorld os).forCall (fun _ _=>0) ⟨#[],args,[]⟩).memory:=
 (laidMet_of_run' 4 (by kernel_rfl) (by kernel_rfl):laidMet Tryz.prog Rows.presyncStoresRow.laid ((laidWorld os).forCall (fun _ _=>0) ⟨#[],args,[]⟩).memory)
theorem glR {W:World} (hL:laidMetH Tryz.prog Rows.presyncStoresRow.laid W):GlR (lawG W) W:=by
 have h':laidMet Tryz.prog Rows.presyncStoresRow.laid W:=hL
 obtain ⟨ps,h,_,_⟩:=h'
 obtain ⟨k1,q0,h⟩:=ZjZ h F.glob_digest_steps (g:=1) (t:=264) (e:=261) (n:=64) (k:=.u32) (by kernel_rfl) (by kernel_rfl) Tryz.underlying264 Tryz.underlying261 (by kernel_rfl) (by kernel_rfl) (by kernel_rfl) (by omega)
 obtain ⟨k0,q1,h⟩:=ZjZ h F.glob_digest_starts (g:=0) (t:=262) (e:=261) (n:=8) (k:=.u32) (by kernel_rfl) (by kernel_rfl) Tryz.underlying262 Tryz.underlying261 (by kernel_rfl) (by kernel_rfl) (by kernel_rfl) (by omega)
 intro k c hk
 simp only [Globs.gc] at hk
 split at hk
 ·cases hk;exact k0
 ·cases hk;exact k1
 ·cases hk
set_option maxRecDepth 100000 in
theorem lifted (os:Os) (started:os.Started) (H:Type) (enc:TypeId×Value→H) :
  ReturnsInHanded {} Tryz.checked os 9 .any (fun w args=>(Rows.presyncStoresSpec.pre enc Tryz.prog Tryz.f9 Rows.presyncStoresRow.domain false w args∧laidMetH Tryz.prog Rows.presyncStoresRow.laid w)∧sizedMet enc Tryz.prog Tryz.f9 (OpenSpec.ofChange Rows.presyncStoresSpec) false w args) (Rows.presyncStoresSpec.post enc Tryz.prog Tryz.f9 false true false false):=by
 refine returnsInHanded_of_change_and (C:=Tryz.checked) (X:=fun w _=>laidMetH Tryz.prog Rows.presyncStoresRow.laid w) (fun _ _ _ hh h=>laidMet.of_heap hh h) own started (by kernel_rfl) Tryz.func9
  (ChangeSpec.witness_at (enc:=enc) (C:=Tryz.checked) (os:=os) (X:=fun w _=>laidMetH Tryz.prog Rows.presyncStoresRow.laid w) false (laidWorld os) #[(.agg (List.replicate 4 (Value.int .i64 0)++List.replicate 1 (Value.bool false)++List.replicate 2 (Value.slice none 0 0)++List.replicate 8 (Value.int .u64 0)++List.replicate 1 (Value.int .i64 0)++List.replicate 64 (Value.int .u8 0)++List.replicate 3 (Value.int .i64 0)++List.replicate 1 (Value.slice none 0 0)++List.replicate 5 (Value.int .i64 0)).toArray),.slice none 0 0] 8 rfl (by kernel_rfl) (by kernel_rfl) (by kernel_rfl) (by kernel_rfl) (by kernel_rfl) (Zjh os _)) ?_
 intro W base args ds gs before hval0 hW hcnd hsz0 hL _
 have hval : ∀(j:Nat) t v,Tryz.f9.params[j]? = some t→args[j]? = some v→Value.okWide Tryz.prog W .any base t v:=hval0
 have hW':=hW
 obtain ⟨p,q,hA0,hV,rfl,hfz,hnd⟩:=hW
 have hA:DataW.TrodAll enc Tryz.prog W 0 (fun _=>true) true Tryz.f9.params.toList args.toList ds p:=hA0
 rw [Tryz.params9] at hA hval
 obtain ⟨v0,vs0,d0,ds0,p0,q0,hargs,rfl,rfl,h0,r0⟩:=trodAll_cons hA
 obtain ⟨v1,vs1,d1,ds1,p1,q1,rfl,rfl,rfl,h1,r1⟩:=trodAll_cons r0
 obtain ⟨rfl,rfl,rfl⟩:=trodAll_nil r1
 obtain rfl:args = #[v0,v1]:=by cases args;simp_all
 obtain ⟨rfl,rfl⟩:=trodVars_none hV
 obtain ⟨a0,c0,w0⟩:=ZlM 0 6 (tys:=F.tysCase) Tryz.underlying101 (by kernel_rfl) (hval 0 101 v0 rfl rfl) h0
 have hlt0 : ∀x∈p0,x.block<W.heap.size:=fun x hx=>hW'.lt x (by simp [hx])
 obtain ⟨a1,c1,w1,l1⟩:=law_rows 1 6 (ts:=F.tysMsg) Tryz.underlying102 (by kernel_rfl) (of_decide_eq_true (by kernel_rfl)) (hval 1 102 v1 rfl rfl) h1
 have hlt1 : ∀x∈p1,x.block<W.heap.size:=fun x hx=>hW'.lt x (by simp [hx])
 refine (law_true ((F.PresyncStores_true a1 w0 w1 l1).choose_spec) (glR hL) (Zlo c0 (Zlo c1 law_nil))).mono fun e W' ⟨he,bel⟩=>?_
 subst he
 exact ⟨_,rfl,_,_,_,[],_,[],hW',trodAll_mk1 (shut_bool Tryz.underlying4 _),(trodAll_cons_mk (Below.trod laidOut (by kernel_rfl) (of_decide_eq_true (by kernel_rfl)) h0 bel hlt0) (trodAll_cons_mk (Below.trod laidOut (by kernel_rfl) (of_decide_eq_true (by kernel_rfl)) h1 bel hlt1) trodAll_mk0)),rfl,bel.frame _,fun h=>by cases h⟩
theorem k1:(Rows.presyncStoresRow.inPlace==Tryz.prog.inPlace 9)=true:=by kernel_rfl
theorem k2:(Rows.presyncStoresRow.unfollowed==Tryz.prog.unfollowed 9)=true:=by kernel_rfl
theorem k3:(Rows.presyncStoresRow.recurses==Tryz.prog.recurses 9)=true:=by kernel_rfl
theorem k4:(Rows.presyncStoresRow.named==Tryz.prog.varsNamed 9)=true:=by kernel_rfl
theorem closed:joinedFacts Tryz.prog 9 Tryz.f9 Rows.presyncStoresSpec Rows.presyncStoresRow=true:=by
 unfold joinedFacts
 rw [k1,k2,k3,k4]
 kernel_rfl
theorem over:Rows.presyncStoresRow.holds Tryz.pinned (OpenSpec.ofChange Rows.presyncStoresSpec):=
 OpenClaim.holds_of_wide 9 Tryz.f9 rfl rfl rfl rfl rfl rfl rfl ⟨rfl,rfl,rfl,rfl,rfl⟩ rfl rfl rfl rfl rfl (by kernel_rfl) Tryz.func9 closed
  (of_decide_eq_true (by kernel_rfl)) (by unfold Func.isWrapper;first | (rw [if_pos (by decide +kernel)];kernel_rfl) | (rw [if_neg (by decide +kernel)];exact ⟨rfl,rfl⟩))
  (fun os started H enc _=>lifted os started H enc)
theorem m1:Rows.presyncStoresRow.wfByText (OpenSpec.ofChange Rows.presyncStoresSpec)=true:=by kernel_rfl
theorem m2:Tryz.pinned.checked.prog.mainIs=some (Rows.presyncStoresCard.stood.harness.1,Rows.presyncStoresCard.stood.harness.2.toList):=by kernel_rfl
theorem m3:false=Rows.presyncStoresRow.goesBy Tryz.pinned.checked.prog:=by kernel_rfl
theorem m4:Tryz.pinned.checked.prog.funcNamed Rows.presyncStoresRow.func=some 9:=by kernel_rfl
theorem m5:Tryz.f9.params.toList.all (fun t=>Tryz.pinned.checked.prog.wantsStandIn t==false)=true:=by kernel_rfl
theorem m6:false=Tryz.pinned.checked.prog.looks []:=by kernel_rfl
theorem m7:((!Rows.presyncStoresCard.stood.harness.1)&&Rows.presyncStoresCard.stood.harness.2.isEmpty && !false)=false:=by kernel_rfl
theorem proved:Rows.PresyncStoresCardSaid:=
 Claim7.holds_tied_plain_at .later [] [.data,.data] true Rows.presyncStoresCard.stood.harness false
  over (fun _ h=>by cases h) m1 (fun _ h=>by cases h) presyncStores_row_tie rfl ⟨rfl,rfl⟩ m2 m7
  (fun f fn hf hfn=>by
   obtain rfl:f=9:=Option.some.inj (m4.symm.trans hf) |>.symm
   obtain rfl:fn=Tryz.f9:=(Option.some.inj (Eq.trans (Eq.symm Tryz.func9) hfn)).symm
   refine ⟨m6,fun j t ht=>?_⟩
   have hm:t∈Tryz.f9.params.toList:=by
    rw [Array.mem_toList_iff]
    exact Array.mem_of_getElem? ht
   exact beq_iff_eq.1 (List.all_eq_true.1 m5 t hm))
  m3
end Go.Proofs.YtcgdbcfflaphhaaGreatDoor.presyncStores
namespace Go.Proofs.YtcgdbcfflaphhaaGreatDoor
theorem presyncStores_holds:Rows.PresyncStoresCardSaid:=presyncStores.proved
end Go.Proofs.YtcgdbcfflaphhaaGreatDoor
