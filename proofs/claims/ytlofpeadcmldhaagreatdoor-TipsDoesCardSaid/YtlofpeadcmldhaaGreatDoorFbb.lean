import Derived.Test.YtlofpeadcmldhaaGreatDoorFba
set_option linter.all false
open Go.Dn.L renaming int→zM,arr→zK,sl→vR,bool→xP,ptr→yN,bx→wJ,own→yT
open Go.Proofs.Tryz renaming prog→zE
open Int renaming tdiv→zR,tmod→yA,toNat→zC,natCast_nonneg→tE
open List renaming getD→zF,set→zQ,replicate→zB,length→zG,take→yO,drop→wE
open Nat renaming zero_le→yP,le_refl→zJ
open Option renaming isNone→wY
noncomputable section
set_option maxRecDepth 100000
namespace Go.Dn.F
open Go.Proofs
variable {N:Nat} {g0:G} {w0:World} {R:Exit→Act→World→Prop}
def Zak.B:Code:=Tryz.f144.body.getD .skip
def Zak.rs (r:Int×Int):List CV:=[.one (zM .u64 r.1),.one (zM .u64 r.2)]
def Zak.p6 (N:Nat) (A2 x1 A1 A4 A0 A7:Int):Option (Int×Int):= chk (0≤(v64 (x1)))<| some (v64 ((v64 (A4*4294967296))+A7),Zbn .u64 (v64 ((v64 ((v64 ((v64 ((v64 ((v64 ((ZaG .or .u64 (ZbB .u64 A0 (v64 (x1))) (Zbn .u64 A1 (v64 (64-(v64 (x1))))))*4294967296))+(Zbn .u64 (ZbB .u64 A1 (v64 (x1))) 32)))-(v64 (A4*(ZbB .u64 A2 (v64 (x1)))))))*4294967296))+(ZaG .and .u64 (ZbB .u64 A1 (v64 (x1))) 4294967295)))-(v64 (A7*(ZbB .u64 A2 (v64 (x1))))))) (v64 (x1)))
def Zak.p5 (N:Nat) (c4_:(Int×Int)→Option (Int×Int)) (A2 x1 A1 A4 A5 A0 A6:Int):Option (Int×Int):= if (decide ((v64 (A5+(Zbn .u64 (ZbB .u64 A2 (v64 (x1))) 32)))≥4294967296))=true then Zak.p6 N A2 x1 A1 A4 A0 (v64 (A6-1)) else c4_ (v64 (A5+(Zbn .u64 (ZbB .u64 A2 (v64 (x1))) 32)),v64 (A6-1))
def Zak.p4 (N:Nat) (A2 x1 A1 A4 A0:Int) (c4_:(Int×Int)→Option (Int×Int)):(Int×Int)→Option (Int×Int):=fun (A5,A6)=> if (decide (A6≥4294967296))=true then Zak.p5 N c4_ A2 x1 A1 A4 A5 A0 A6 else if (decide ((v64 (A6*(ZaG .and .u64 (ZbB .u64 A2 (v64 (x1))) 4294967295)))>(v64 ((v64 (4294967296*A5))+(ZaG .and .u64 (ZbB .u64 A1 (v64 (x1))) 4294967295)))))=true then Zak.p5 N c4_ A2 x1 A1 A4 A5 A0 A6 else Zak.p6 N A2 x1 A1 A4 A0 A6
def Zak.p3 (N:Nat) (A2 x1 A0 A1 A4:Int):Option (Int×Int):= chk ((Zbn .u64 (ZbB .u64 A2 (v64 (x1))) 32)≠0)<| loopN (Zak.p4 N A2 x1 A1 A4 A0) N (v64 ((v64 ((v64 ((v64 ((ZaG .or .u64 (ZbB .u64 A0 (v64 (x1))) (Zbn .u64 A1 (v64 (64-(v64 (x1))))))*4294967296))+(Zbn .u64 (ZbB .u64 A1 (v64 (x1))) 32)))-(v64 (A4*(ZbB .u64 A2 (v64 (x1)))))))-(v64 ((v64 (zR (v64 ((v64 ((v64 ((ZaG .or .u64 (ZbB .u64 A0 (v64 (x1))) (Zbn .u64 A1 (v64 (64-(v64 (x1))))))*4294967296))+(Zbn .u64 (ZbB .u64 A1 (v64 (x1))) 32)))-(v64 (A4*(ZbB .u64 A2 (v64 (x1))))))) (Zbn .u64 (ZbB .u64 A2 (v64 (x1))) 32)))*(Zbn .u64 (ZbB .u64 A2 (v64 (x1))) 32)))),v64 (zR (v64 ((v64 ((v64 ((ZaG .or .u64 (ZbB .u64 A0 (v64 (x1))) (Zbn .u64 A1 (v64 (64-(v64 (x1))))))*4294967296))+(Zbn .u64 (ZbB .u64 A1 (v64 (x1))) 32)))-(v64 (A4*(ZbB .u64 A2 (v64 (x1))))))) (Zbn .u64 (ZbB .u64 A2 (v64 (x1))) 32)))
def Zak.p2 (N:Nat) (c1_:(Int×Int)→Option (Int×Int)) (A2 x1 A0 A1 F2 A3:Int):Option (Int×Int):= if (decide ((v64 (A3+(Zbn .u64 (ZbB .u64 A2 (v64 (x1))) 32)))≥4294967296))=true then Zak.p3 N A2 x1 A0 A1 (v64 (F2-1)) else c1_ (v64 (F2-1),v64 (A3+(Zbn .u64 (ZbB .u64 A2 (v64 (x1))) 32)))
def Zak.p1 (N:Nat) (A2 x1 A0 A1:Int) (c1_:(Int×Int)→Option (Int×Int)):(Int×Int)→Option (Int×Int):=fun (F2,A3)=> if (decide (F2≥4294967296))=true then Zak.p2 N c1_ A2 x1 A0 A1 F2 A3 else if (decide ((v64 (F2*(ZaG .and .u64 (ZbB .u64 A2 (v64 (x1))) 4294967295)))>(v64 ((v64 (4294967296*A3))+(Zbn .u64 (ZbB .u64 A1 (v64 (x1))) 32)))))=true then Zak.p2 N c1_ A2 x1 A0 A1 F2 A3 else Zak.p3 N A2 x1 A0 A1 F2
def Zak (N:Nat) (A0 A1 A2:Int):Option (Int×Int):= if (A2==0)=true then none else if (decide (A2≤A0))=true then none else if (A0==0)=true then chk (A2≠0)<| some (v64 (zR A1 A2),yA A1 A2) else Zbj (ZbP N A2) fun x1=> chk (0≤(v64 (x1)))<| chk (0≤(v64 (64-(v64 (x1)))))<| chk ((Zbn .u64 (ZbB .u64 A2 (v64 (x1))) 32)≠0)<| loopN (Zak.p1 N A2 x1 A0 A1) N (v64 (zR (ZaG .or .u64 (ZbB .u64 A0 (v64 (x1))) (Zbn .u64 A1 (v64 (64-(v64 (x1)))))) (Zbn .u64 (ZbB .u64 A2 (v64 (x1))) 32)),v64 ((ZaG .or .u64 (ZbB .u64 A0 (v64 (x1))) (Zbn .u64 A1 (v64 (64-(v64 (x1))))))-(v64 ((v64 (zR (ZaG .or .u64 (ZbB .u64 A0 (v64 (x1))) (Zbn .u64 A1 (v64 (64-(v64 (x1)))))) (Zbn .u64 (ZbB .u64 A2 (v64 (x1))) 32)))*(Zbn .u64 (ZbB .u64 A2 (v64 (x1))) 32)))))
def Zak.p6.S (A2 x1 A1 A4 A0 A7:Int) (st:LL):S:=mkS 135 [(2,.one (.l (zM .u64 (ZbB .u64 A2 (v64 (x1)))))),(8,.one (.l (zM .u64 (v64 (x1))))),(14,.one (.l (zM .u64 (ZaG .and .u64 (ZbB .u64 A1 (v64 (x1))) 4294967295)))),(15,.one (.l (zM .u64 A4))),(17,.one (.l (zM .u64 (v64 ((v64 ((v64 ((ZaG .or .u64 (ZbB .u64 A0 (v64 (x1))) (Zbn .u64 A1 (v64 (64-(v64 (x1))))))*4294967296))+(Zbn .u64 (ZbB .u64 A1 (v64 (x1))) 32)))-(v64 (A4*(ZbB .u64 A2 (v64 (x1)))))))))),(18,.one (.l (zM .u64 A7)))] [] st
def Zak.p5.S (A2 x1 A1 A4 A5 A0 A6:Int) (st:LL):S:=mkS 135 [(2,.one (.l (zM .u64 (ZbB .u64 A2 (v64 (x1)))))),(8,.one (.l (zM .u64 (v64 (x1))))),(9,.one (.l (zM .u64 (Zbn .u64 (ZbB .u64 A2 (v64 (x1))) 32)))),(10,.one (.l (zM .u64 (ZaG .and .u64 (ZbB .u64 A2 (v64 (x1))) 4294967295)))),(14,.one (.l (zM .u64 (ZaG .and .u64 (ZbB .u64 A1 (v64 (x1))) 4294967295)))),(15,.one (.l (zM .u64 A4))),(16,.one (.l (zM .u64 A5))),(17,.one (.l (zM .u64 (v64 ((v64 ((v64 ((ZaG .or .u64 (ZbB .u64 A0 (v64 (x1))) (Zbn .u64 A1 (v64 (64-(v64 (x1))))))*4294967296))+(Zbn .u64 (ZbB .u64 A1 (v64 (x1))) 32)))-(v64 (A4*(ZbB .u64 A2 (v64 (x1)))))))))),(18,.one (.l (zM .u64 A6)))] [] st
def Zak.p4.S (A2 x1 A1 A4 A5 A0 A6:Int) (st:LL):S:=mkS 135 [(2,.one (.l (zM .u64 (ZbB .u64 A2 (v64 (x1)))))),(8,.one (.l (zM .u64 (v64 (x1))))),(9,.one (.l (zM .u64 (Zbn .u64 (ZbB .u64 A2 (v64 (x1))) 32)))),(10,.one (.l (zM .u64 (ZaG .and .u64 (ZbB .u64 A2 (v64 (x1))) 4294967295)))),(14,.one (.l (zM .u64 (ZaG .and .u64 (ZbB .u64 A1 (v64 (x1))) 4294967295)))),(15,.one (.l (zM .u64 A4))),(16,.one (.l (zM .u64 A5))),(17,.one (.l (zM .u64 (v64 ((v64 ((v64 ((ZaG .or .u64 (ZbB .u64 A0 (v64 (x1))) (Zbn .u64 A1 (v64 (64-(v64 (x1))))))*4294967296))+(Zbn .u64 (ZbB .u64 A1 (v64 (x1))) 32)))-(v64 (A4*(ZbB .u64 A2 (v64 (x1)))))))))),(18,.one (.l (zM .u64 A6)))] [] st
def Zak.p3.S (A2 x1 A0 A1 A4:Int) (st:LL):S:=mkS 135 [(2,.one (.l (zM .u64 (ZbB .u64 A2 (v64 (x1)))))),(8,.one (.l (zM .u64 (v64 (x1))))),(9,.one (.l (zM .u64 (Zbn .u64 (ZbB .u64 A2 (v64 (x1))) 32)))),(10,.one (.l (zM .u64 (ZaG .and .u64 (ZbB .u64 A2 (v64 (x1))) 4294967295)))),(11,.one (.l (zM .u64 (ZaG .or .u64 (ZbB .u64 A0 (v64 (x1))) (Zbn .u64 A1 (v64 (64-(v64 (x1))))))))),(13,.one (.l (zM .u64 (Zbn .u64 (ZbB .u64 A1 (v64 (x1))) 32)))),(14,.one (.l (zM .u64 (ZaG .and .u64 (ZbB .u64 A1 (v64 (x1))) 4294967295)))),(15,.one (.l (zM .u64 A4)))] [] st
def Zak.p2.S (A2 x1 A0 A1 F2 A3:Int) (st:LL):S:=mkS 135 [(2,.one (.l (zM .u64 (ZbB .u64 A2 (v64 (x1)))))),(8,.one (.l (zM .u64 (v64 (x1))))),(9,.one (.l (zM .u64 (Zbn .u64 (ZbB .u64 A2 (v64 (x1))) 32)))),(10,.one (.l (zM .u64 (ZaG .and .u64 (ZbB .u64 A2 (v64 (x1))) 4294967295)))),(11,.one (.l (zM .u64 (ZaG .or .u64 (ZbB .u64 A0 (v64 (x1))) (Zbn .u64 A1 (v64 (64-(v64 (x1))))))))),(13,.one (.l (zM .u64 (Zbn .u64 (ZbB .u64 A1 (v64 (x1))) 32)))),(14,.one (.l (zM .u64 (ZaG .and .u64 (ZbB .u64 A1 (v64 (x1))) 4294967295)))),(15,.one (.l (zM .u64 F2))),(16,.one (.l (zM .u64 A3)))] [] st
def Zak.p1.S (A2 x1 A0 A1 F2 A3:Int) (st:LL):S:=mkS 135 [(2,.one (.l (zM .u64 (ZbB .u64 A2 (v64 (x1)))))),(8,.one (.l (zM .u64 (v64 (x1))))),(9,.one (.l (zM .u64 (Zbn .u64 (ZbB .u64 A2 (v64 (x1))) 32)))),(10,.one (.l (zM .u64 (ZaG .and .u64 (ZbB .u64 A2 (v64 (x1))) 4294967295)))),(11,.one (.l (zM .u64 (ZaG .or .u64 (ZbB .u64 A0 (v64 (x1))) (Zbn .u64 A1 (v64 (64-(v64 (x1))))))))),(13,.one (.l (zM .u64 (Zbn .u64 (ZbB .u64 A1 (v64 (x1))) 32)))),(14,.one (.l (zM .u64 (ZaG .and .u64 (ZbB .u64 A1 (v64 (x1))) 4294967295)))),(15,.one (.l (zM .u64 F2))),(16,.one (.l (zM .u64 A3)))] [] st
theorem Zak.p6_ok {A2 x1 A1 A4 A0 A7 st r} (h:Zak.p6 N A2 x1 A1 A4 A0 A7=some r) (hE:En Tryz.f144 g0 w0 (Zak.rs r) st R):At g0 w0 (Zak.p6.S A2 x1 A1 A4 A0 A7 st) (XK zE R [cK Zak.B [1,1,1,1,1,1,1,1,1,1,1,1,1,1,1,1,1,1,1]]):=by
 unfold Zak.p6 at h;obtain ⟨c16,h1⟩:=ZaW h;exact xS fol h1 hE [rZ] c16
theorem Zak.p5_ok {A2 x1 A1 A4 A5 A0 A6 st r c4_ J4} (h:Zak.p5 N c4_ A2 x1 A1 A4 A5 A0 A6=some r) (hE:En Tryz.f144 g0 w0 (Zak.rs r) st R) (hc4 : ∀A5 A6,c4_ (A5,A6)=some r→At g0 w0 (Zak.p4.S A2 x1 A1 A4 A5 A0 A6 st) J4):At g0 w0 (Zak.p5.S A2 x1 A1 A4 A5 A0 A6 st) (XK zE R [cK Zak.B [1,1,1,1,1,1,1,1,1,1,1,1,1,1,1,1,1,1,0,0,0,1],.h J4,.b 2,cK Zak.B [1,1,1,1,1,1,1,1,1,1,1,1,1,1,1,1,1,1,1]]):=by
 unfold Zak.p5 at h;refine Zba h (fun c15 h2=>?_) (fun c15 h3=>?_)
 ·exact aq fol [rZ,rZ,rZ,cT,.s 1] [2,8,14,15,17,18] [] c15 (Zak.p6_ok h2 hE)
 exact an fol [rZ,rZ,rZ,cF] [2,8,9,10,14,15,16,17,18] [] c15 (hc4 (v64 (A5+(Zbn .u64 (ZbB .u64 A2 (v64 (x1))) 32))) (v64 (A6-1)) h3)
theorem Zak.p4_ok {A2 x1 A1 A4 A5 A0 A6 st r c4_ J4} (h:Zak.p4 N A2 x1 A1 A4 A0 c4_ (A5,A6)=some r) (hE:En Tryz.f144 g0 w0 (Zak.rs r) st R) (hc4 : ∀A5 A6,c4_ (A5,A6)=some r→At g0 w0 (Zak.p4.S A2 x1 A1 A4 A5 A0 A6 st) J4):At g0 w0 (Zak.p4.S A2 x1 A1 A4 A5 A0 A6 st) (XK zE R (cK Zak.B [1,1,1,1,1,1,1,1,1,1,1,1,1,1,1,1,1,1,0,0,0] :: .h J4 :: [.b 2,cK Zak.B [1,1,1,1,1,1,1,1,1,1,1,1,1,1,1,1,1,1,1]])):=by
 unfold Zak.p4 at h;refine Zba h (fun c13 h4=>?_) (fun c13 h5=>?_)
 ·exact aq fol [.r [(3,wF),(4,wF),(5,wF),(6,wF),(7,wF),(8,wF),(9,wF),(10,wF)],cT,.s 4] [2,8,9,10,14,15,16,17,18] [] (aO c13 c13 c13 c13 c13 c13 c13 (aJ c13 c13 eT)) (Zak.p5_ok h4 hE hc4)
 have t1 {Q:Prop} (q:Q):=aO c13 c13 c13 c13 c13 c13 c13 (aJ c13 c13 q);refine Zba h5 (fun c14 h6=>?_) (fun c14 h7=>?_)
 ·exact aq fol [.r [(11,yF)],cT,.s 4] [2,8,9,10,14,15,16,17,18] [] (t1 c14) (Zak.p5_ok h6 hE hc4)
 exact aq fol [.r [(11,yF)],cF,.s 1] [2,8,14,15,17,18] [] (t1 c14) (Zak.p6_ok h7 hE)
theorem Zak.p3_ok {A2 x1 A0 A1 A4 st r} (h:Zak.p3 N A2 x1 A0 A1 A4=some r) (hE:En Tryz.f144 g0 w0 (Zak.rs r) st R):At g0 w0 (Zak.p3.S A2 x1 A0 A1 A4 st) (XK zE R [cK Zak.B [1,1,1,1,1,1,1,1,1,1,1,1,1,1,1]]):=by
 unfold Zak.p3 at h;obtain ⟨c12,h8⟩:=ZaW h;exact aq fol [rZ,rZ,rZ] [2,8,9,10,14,15,16,17,18] [] c12 (At.loop N (At.loopN (fun y:Int×Int=>Zak.p4.S A2 x1 A1 A4 y.1 A0 y.2 st) (fun c J hc y h=>Zak.p4_ok (A5:=y.1) (A6:=y.2) h hE (fun A5 A6=>hc (A5,A6))) N (v64 ((v64 ((v64 ((v64 ((ZaG .or .u64 (ZbB .u64 A0 (v64 (x1))) (Zbn .u64 A1 (v64 (64-(v64 (x1))))))*4294967296))+(Zbn .u64 (ZbB .u64 A1 (v64 (x1))) 32)))-(v64 (A4*(ZbB .u64 A2 (v64 (x1)))))))-(v64 ((v64 (zR (v64 ((v64 ((v64 ((ZaG .or .u64 (ZbB .u64 A0 (v64 (x1))) (Zbn .u64 A1 (v64 (64-(v64 (x1))))))*4294967296))+(Zbn .u64 (ZbB .u64 A1 (v64 (x1))) 32)))-(v64 (A4*(ZbB .u64 A2 (v64 (x1))))))) (Zbn .u64 (ZbB .u64 A2 (v64 (x1))) 32)))*(Zbn .u64 (ZbB .u64 A2 (v64 (x1))) 32)))),v64 (zR (v64 ((v64 ((v64 ((ZaG .or .u64 (ZbB .u64 A0 (v64 (x1))) (Zbn .u64 A1 (v64 (64-(v64 (x1))))))*4294967296))+(Zbn .u64 (ZbB .u64 A1 (v64 (x1))) 32)))-(v64 (A4*(ZbB .u64 A2 (v64 (x1))))))) (Zbn .u64 (ZbB .u64 A2 (v64 (x1))) 32))) h8))
theorem Zak.p2_ok {A2 x1 A0 A1 F2 A3 st r c1_ J1} (h:Zak.p2 N c1_ A2 x1 A0 A1 F2 A3=some r) (hE:En Tryz.f144 g0 w0 (Zak.rs r) st R) (hc1 : ∀F2 A3,c1_ (F2,A3)=some r→At g0 w0 (Zak.p1.S A2 x1 A0 A1 F2 A3 st) J1):At g0 w0 (Zak.p2.S A2 x1 A0 A1 F2 A3 st) (XK zE R [cK Zak.B [1,1,1,1,1,1,1,1,1,1,1,1,1,1,0,0,0,1],.h J1,.b 0,cK Zak.B [1,1,1,1,1,1,1,1,1,1,1,1,1,1,1]]):=by
 unfold Zak.p2 at h;refine Zba h (fun c11 h9=>?_) (fun c11 h10=>?_)
 ·exact aq fol [rZ,rZ,rZ,cT,.s 1] [2,8,9,10,11,13,14,15] [] c11 (Zak.p3_ok h9 hE)
 exact an fol [rZ,rZ,rZ,cF] [2,8,9,10,11,13,14,15,16] [] c11 (hc1 (v64 (F2-1)) (v64 (A3+(Zbn .u64 (ZbB .u64 A2 (v64 (x1))) 32))) h10)
theorem Zak.p1_ok {A2 x1 A0 A1 F2 A3 st r c1_ J1} (h:Zak.p1 N A2 x1 A0 A1 c1_ (F2,A3)=some r) (hE:En Tryz.f144 g0 w0 (Zak.rs r) st R) (hc1 : ∀F2 A3,c1_ (F2,A3)=some r→At g0 w0 (Zak.p1.S A2 x1 A0 A1 F2 A3 st) J1):At g0 w0 (Zak.p1.S A2 x1 A0 A1 F2 A3 st) (XK zE R (cK Zak.B [1,1,1,1,1,1,1,1,1,1,1,1,1,1,0,0,0] :: .h J1 :: [.b 0,cK Zak.B [1,1,1,1,1,1,1,1,1,1,1,1,1,1,1]])):=by
 unfold Zak.p1 at h;refine Zba h (fun c9 h11=>?_) (fun c9 h12=>?_)
 ·exact aq fol [.r [(3,wF),(4,wF),(5,wF),(6,wF),(7,wF),(8,wF),(9,wF),(10,wF)],cT,.s 4] [2,8,9,10,11,13,14,15,16] [] (aO c9 c9 c9 c9 c9 c9 c9 (aJ c9 c9 eT)) (Zak.p2_ok h11 hE hc1)
 refine Zba h12 (fun c10 h13=>?_) (fun c10 h14=>?_)
 ·exact aq fol [.r [(11,yF)],cT,.s 4] [2,8,9,10,11,13,14,15,16] [] (aO c9 c9 c9 c9 c9 c9 c9 (aJ c9 c9 c10)) (Zak.p2_ok h13 hE hc1)
 exact aq fol [.r [(11,yF)],cF,.s 1] [2,8,9,10,11,13,14,15] [] (aO c9 c9 c9 c9 c9 c9 c9 (aJ c9 c9 c10)) (Zak.p3_ok h14 hE)
theorem Zak.snd {A0 A1 A2:Int} {r:Int×Int} (h:Zak N A0 A1 A2=some r):Zdo zE 144 [.one (zM .u64 A0),.one (zM .u64 A1),.one (zM .u64 A2)] (Zak.rs r):=fun st=>
 sO Zak.B Tryz.func144 fun g0 w0 R hE=>by
  unfold Zak at h;let o1:List PS:=[rZ,rZ,cF,rZ,cF,rZ]
  refine Zba h (fun c1 h15=>?_) (fun c1 h16=>?_)
  ·cases h15
  refine Zba h16 (fun c2 h17=>?_) (fun c2 h18=>?_)
  ·cases h17
  refine Zba h18 (fun c3 h19=>?_) (fun c3 h20=>?_)
  ·obtain ⟨c4,h21⟩:=ZaW h19;exact xSd fol h21 hE (o1++[cT,.d {ds:=[],hv:=0,Hs:=[]}]) (aL c1 c2 c3 c4 c4)
  obtain ⟨x1,c5,h22⟩:=Zae h20;obtain ⟨c6,c7,c8,h23⟩:=ck3 h22;exact aq fol (o1++[cF,.r [(1,q1 [oI x1])],rZ,rZ,rZ,rZ,rZ,rZ,rZ,rZ,rZ]) [2,8,9,10,11,13,14,15,16] [] (aO c1 c2 c3 (ZbP.snd c5) c6 (leI 0 32) c6 (aK c7 c6 (leI 0 32) c8)) (At.loop N (At.loopN (fun y:Int×Int=>Zak.p1.S A2 x1 A0 A1 y.1 y.2 st) (fun c J hc y h=>Zak.p1_ok (F2:=y.1) (A3:=y.2) h hE (fun F2 A3=>hc (F2,A3))) N (v64 (zR (ZaG .or .u64 (ZbB .u64 A0 (v64 (x1))) (Zbn .u64 A1 (v64 (64-(v64 (x1)))))) (Zbn .u64 (ZbB .u64 A2 (v64 (x1))) 32)),v64 ((ZaG .or .u64 (ZbB .u64 A0 (v64 (x1))) (Zbn .u64 A1 (v64 (64-(v64 (x1))))))-(v64 ((v64 (zR (ZaG .or .u64 (ZbB .u64 A0 (v64 (x1))) (Zbn .u64 A1 (v64 (64-(v64 (x1)))))) (Zbn .u64 (ZbB .u64 A2 (v64 (x1))) 32)))*(Zbn .u64 (ZbB .u64 A2 (v64 (x1))) 32))))) h23))
def Zcs.B:Code:=Tryz.f133.body.getD .skip
def Zcs.rs (r:(List Int)×Int):List CV:=[.agg [zK .u64 4 r.1],.one (zM .u64 r.2)]
def Zcs.p1 (N:Nat) (F1:Int) (c1_:(Int×Int×(List Int))→Option ((List Int)×Int)):(Int×Int×(List Int))→Option ((List Int)×Int):=fun (A1,A2,A5)=> if (decide (A2≥0))=true then chk (0≤A2)<| chk (A2<4)<| Zbj (Zak N A1 (zF A5 (zC A2) 0) F1) fun (x6,x7)=> c1_ (x7,w64 (A2-1),zQ A5 (zC A2) x6) else some (A5,A1)
def Zcs (N:Nat) (A0_0:List Int) (F1:Int):Option ((List Int)×Int):= if (F1==0)=true then some (zB 4 0,0) else loopN (Zcs.p1 N F1) N (0,3,A0_0)
def Zcs.p1.S (F1 A1 A2:Int) (A5:List Int) (st:LL):S:=mkS 28 [(1,.one (.l (zM .u64 F1))),(2,sA 2),(4,sA 4),(6,.one (.l (zM .u64 A1))),(7,sI A2)] [(2,.cells [zK .u64 4 A5]),(4,.cells [zK .u64 4 (zB 4 0)])] st
theorem Zcs.p1_ok {F1 A1 A2 A5 st r c1_ J1} (h:Zcs.p1 N F1 c1_ (A1,A2,A5)=some r) (hE:En Tryz.f133 g0 w0 (Zcs.rs r) st R) (hc1 : ∀A1 A2 A5,c1_ (A1,A2,A5)=some r→At g0 w0 (Zcs.p1.S F1 A1 A2 A5 st) J1):At g0 w0 (Zcs.p1.S F1 A1 A2 A5 st) (XK zE R (cK Zcs.B [1,1,1,0,1,0,0] :: .h J1 :: [.b 0,cK Zcs.B [1,1,1,1]])):=by
 unfold Zcs.p1 at h;refine Zba h (fun c6 h1=>?_) (fun c6 h2=>?_)
 ·obtain ⟨c7,c8,h3⟩:=ck2 h1;obtain ⟨⟨x6,x7⟩,c9,h4⟩:=Zae h3;exact an fol [rZ,cT,.r [(6,q1 [.one (zM .u64 x6),.one (zM .u64 x7)])],rZ] [1,2,4,6,7] [2,4] (aM c6 c7 c8 (Zak.snd c9) c7 c8) (hc1 x7 (w64 (A2-1)) (zQ A5 (zC A2) x6) h4)
 exact xS fol h2 hE [rZ,cF,rZ] c6
theorem Zcs.snd {A0_0:List Int} {F1:Int} {r:(List Int)×Int} (h:Zcs N A0_0 F1=some r):Zdo zE 133 [.agg [zK .u64 4 A0_0],.one (zM .u64 F1)] (Zcs.rs r):=fun st=>
 sO Zcs.B Tryz.func133 fun g0 w0 R hE=>by
  unfold Zcs at h;refine Zba h (fun c1 h5=>?_) (fun c1 h6=>?_)
  ·exact xS fol h5 hE [rZ,rZ,cT,rZ] c1
  exact aq fol [rZ,rZ,cF,rZ,rZ] [1,2,4,6,7] [2,4] c1 (At.loop N (At.loopN (fun y:Int×Int×(List Int)=>Zcs.p1.S F1 y.1 y.2.1 y.2.2 st) (fun c J hc y h=>Zcs.p1_ok (A1:=y.1) (A2:=y.2.1) (A5:=y.2.2) h hE (fun A1 A2 A5=>hc (A1,A2,A5))) N (0,3,A0_0) h6))
def ZcJ.B:Code:=Tryz.f145.body.getD .skip
def ZcJ.rs (r:Int×Int):List CV:=[.one (zM .u64 r.1),.one (zM .u64 r.2)]
def ZcJ (N:Nat) (A0 A1:Int):Option (Int×Int):= some (v64 ((v64 ((v64 ((Zbn .u64 A0 32)*(Zbn .u64 A1 32)))+(Zbn .u64 (v64 ((v64 ((Zbn .u64 A0 32)*(ZaG .and .u64 A1 4294967295)))+(Zbn .u64 (v64 ((ZaG .and .u64 A0 4294967295)*(ZaG .and .u64 A1 4294967295))) 32))) 32)))+(Zbn .u64 (v64 ((ZaG .and .u64 (v64 ((v64 ((Zbn .u64 A0 32)*(ZaG .and .u64 A1 4294967295)))+(Zbn .u64 (v64 ((ZaG .and .u64 A0 4294967295)*(ZaG .and .u64 A1 4294967295))) 32))) 4294967295)+(v64 ((ZaG .and .u64 A0 4294967295)*(Zbn .u64 A1 32))))) 32)),v64 (A0*A1))
theorem ZcJ.snd {A0 A1:Int} {r:Int×Int} (h:ZcJ N A0 A1=some r):Zdo zE 145 [.one (zM .u64 A0),.one (zM .u64 A1)] (ZcJ.rs r):=fun st=>
 sO ZcJ.B Tryz.func145 fun g0 w0 R hE=>by
  unfold ZcJ at h;exact xS fol h hE [rZ,rZ,rZ,rZ,rZ,rZ,rZ,rZ,rZ,rZ,rZ,rZ] (aL (leI 0 32) (leI 0 32) (leI 0 32) (leI 0 32) (leI 0 32))
def ZbX.B:Code:=Tryz.f134.body.getD .skip
def ZbX.rs (r:(List Int)×Bool):List CV:=[.agg [zK .u64 4 r.1],oB r.2]
def ZbX.p1 (N:Nat) (F1:Int) (c1_:(Int×Int×(List Int))→Option ((List Int)×Bool)):(Int×Int×(List Int))→Option ((List Int)×Bool):=fun (A1,v2,A7)=> if (decide (v2<4))=true then chk (0≤v2)<| Zbj (ZcJ N (zF A7 (zC v2) 0) F1) fun (x8,x9)=> Zbj (ZdW N x9 A1 0) fun (x10,x11)=> c1_ (v64 (x8+x11),w64 (v2+1),zQ A7 (zC v2) x10) else some (A7,A1 != 0)
def ZbX (N:Nat) (A0_0:List Int) (F1:Int):Option ((List Int)×Bool):= loopN (ZbX.p1 N F1) N (0,0,A0_0)
def ZbX.p1.S (F1 A1 v2:Int) (A7:List Int) (st:LL):S:=mkS 37 [(1,.one (.l (zM .u64 F1))),(2,sA 2),(4,sA 4),(6,.one (.l (zM .u64 A1))),(11,sI v2)] [(2,.cells [zK .u64 4 A7]),(4,.cells [zK .u64 4 (zB 4 0)])] st
theorem ZbX.p1_ok {F1 A1 v2 A7 st r c1_ J1} (h:ZbX.p1 N F1 c1_ (A1,v2,A7)=some r) (hE:En Tryz.f134 g0 w0 (ZbX.rs r) st R) (hc1 : ∀A1 v2 A7,c1_ (A1,v2,A7)=some r→At g0 w0 (ZbX.p1.S F1 A1 v2 A7 st) J1):At g0 w0 (ZbX.p1.S F1 A1 v2 A7 st) (XK zE R (cK ZbX.B [1,1,0,1,0,0] :: .h J1 :: [.b 0,cK ZbX.B [1,1,1]])):=by
 unfold ZbX.p1 at h;refine Zba h (fun c5 h1=>?_) (fun c5 h2=>?_)
 ·obtain ⟨c6,h3⟩:=ZaW h1;obtain ⟨⟨x8,x9⟩,c7,h4⟩:=Zae h3;obtain ⟨⟨x10,x11⟩,c8,h5⟩:=Zae h4;exact an fol [rZ,cT,rZ,.r [(4,q1 [.one (zM .u64 x8),.one (zM .u64 x9)])],rZ,.r [(3,{rs:=[.one (zM .u64 x10),.one (zM .u64 x11)],m:=4})],rZ,rZ] [1,2,4,6,11] [2,4] (aN c5 c6 (oD c5) (ZcJ.snd c7) (ZdW.snd c8) c6 (oD c5)) (hc1 (v64 (x8+x11)) (w64 (v2+1)) (zQ A7 (zC v2) x10) h5)
 exact xS fol h2 hE [rZ,cF,rZ] c5
theorem ZbX.snd {A0_0:List Int} {F1:Int} {r:(List Int)×Bool} (h:ZbX N A0_0 F1=some r):Zdo zE 134 [.agg [zK .u64 4 A0_0],.one (zM .u64 F1)] (ZbX.rs r):=fun st=>
 sO ZbX.B Tryz.func134 fun g0 w0 R hE=>by
  unfold ZbX at h;exact aq fol [rZ,rZ,rZ] [1,2,4,6,11] [2,4] trivial (At.loop N (At.loopN (fun y:Int×Int×(List Int)=>ZbX.p1.S F1 y.1 y.2.1 y.2.2 st) (fun c J hc y h=>ZbX.p1_ok (A1:=y.1) (v2:=y.2.1) (A7:=y.2.2) h hE (fun A1 v2 A7=>hc (A1,v2,A7))) N (0,0,A0_0) h))
def ZaV.B:Code:=Tryz.f135.body.getD .skip
def ZaV.rs (r:Int):List CV:=[oI r]
def ZaV.p2 (N:Nat) (A5 A6:Int):Option Int:= some (ZaG .or .i64 (ZbB .i64 A5 24) A6)
def ZaV.p1 (N:Nat) (x1 A4:Int):Option Int:= if ((ZaG .and .i64 A4 8388608) != 0)=true then ZaV.p2 N (w64 ((w64 (zR (w64 (x1+7)) 8))+1)) (Zbn .i64 A4 8) else ZaV.p2 N (w64 (zR (w64 (x1+7)) 8)) A4
def ZaV (N:Nat) (A0_0:List Int):Option Int:= Zbj (Zcw N A0_0) fun x1=> if (decide ((w64 (zR (w64 (x1+7)) 8))≤3))=true then Zbj (ZbI N A0_0 (w64 (8*(w64 (3-(w64 (zR (w64 (x1+7)) 8))))))) fun x2=> ZaV.p1 N x1 (w64 (zF x2 0 0)) else Zbj (Zbk N A0_0 (w64 (8*(w64 ((w64 (zR (w64 (x1+7)) 8))-3))))) fun x3=> ZaV.p1 N x1 (w64 (zF x3 0 0))
def ZaV.p2.S (A5 A6:Int) (st:LL):S:=mkS 36 [(3,sI A5),(4,sI A6)] [] st
def ZaV.p1.S (x1 A4:Int) (st:LL):S:=mkS 36 [(3,sI (w64 (zR (w64 (x1+7)) 8))),(4,sI A4)] [] st
theorem ZaV.p2_ok {A5 A6 st r} (h:ZaV.p2 N A5 A6=some r) (hE:En Tryz.f135 g0 w0 (ZaV.rs r) st R):At g0 w0 (ZaV.p2.S A5 A6 st) (XK zE R [cK ZaV.B [1,1,1,1,1]]):=by
 unfold ZaV.p2 at h;exact xS fol h hE [rZ] (leI 0 24)
theorem ZaV.p1_ok {x1 A4 st r} (h:ZaV.p1 N x1 A4=some r) (hE:En Tryz.f135 g0 w0 (ZaV.rs r) st R):At g0 w0 (ZaV.p1.S x1 A4 st) (XK zE R [cK ZaV.B [1,1,1,1]]):=by
 unfold ZaV.p1 at h;refine Zba h (fun c5 h1=>?_) (fun c5 h2=>?_)
 ·exact aq fol [rZ,cT,rZ,rZ,.s 1] [3,4] [] (aI c5 (leI 0 8)) (ZaV.p2_ok h1 hE)
 exact aq fol [rZ,cF,.s 1] [3,4] [] c5 (ZaV.p2_ok h2 hE)
theorem ZaV.snd {A0_0:List Int} {r:Int} (h:ZaV N A0_0=some r):Zdo zE 135 [.agg [zK .u64 4 A0_0]] (ZaV.rs r):=fun st=>
 sO ZaV.B Tryz.func135 fun g0 w0 R hE=>by
  unfold ZaV at h;obtain ⟨x1,c1,h3⟩:=Zae h;let o1:List PS:=[rZ,.r [(1,q1 [oI x1])],rZ,rZ]
  refine Zba h3 (fun c2 h4=>?_) (fun c2 h5=>?_)
  ·obtain ⟨x2,c3,h6⟩:=Zae h4;exact aq fol (o1++[cT,.r [(4,q1 [.agg [zK .u64 4 x2]])],.s 1]) [3,4] [] (aM (Zcw.snd c1) (neI 8) c2 (ZbI.snd c3) (leI 0 0) (ltI 0 4)) (ZaV.p1_ok h6 hE)
  obtain ⟨x3,c4,h7⟩:=Zae h5;exact aq fol (o1++[cF,.r [(4,q1 [.agg [zK .u64 4 x3]])],.s 1]) [3,4] [] (aM (Zcw.snd c1) (neI 8) c2 (Zbk.snd c4) (leI 0 0) (ltI 0 4)) (ZaV.p1_ok h7 hE)
def ZbF.B:Code:=Tryz.f112.body.getD .skip
def ZbF.rs (r:Int):List CV:=[oI r]
def ZbF.p1 (N:Nat) (A17:List Int):Option Int:= Zbj (ZaV N A17) fun x18=> some x18
def ZbF (N:Nat) (A0:Zah) (A1 A2 A3:Int):Option Int:= Zbj (Zcu N A1 A0.Limit) fun (x1,x2)=> Zbj (Zeq N A0) fun x3=> if (!x3)=true then some A0.Limit else if (!x2)=true then some A0.Limit else Zbj (ZeT N A0 A2 A3) fun x4=> Zbj (Zcs N x1 (v64 (w64 (A0.Interval*A0.Spacing)))) fun (x5,x6)=> Zbj (ZbX N x5 (v64 (x4))) fun (x7,x8)=> chk ((v64 (w64 (A0.Interval*A0.Spacing)))≠0)<| Zbj (Zdp N (v64 (zR (v64 (x6*(v64 (x4)))) (v64 (w64 (A0.Interval*A0.Spacing)))))) fun x9=> Zbj (ZbT N x7 x9) fun (x10,x11)=> Zbj (Zcu N A0.Limit A0.Limit) fun (x12,x13)=> if x8=true then some A0.Limit else if x11=true then some A0.Limit else Zbj (Zdf N x12 x10) fun x14=> if x14=true then some A0.Limit else Zbj (ZcT N x10) fun x15=> if x15=true then Zbj (Zdp N 1) fun x16=> ZbF.p1 N x16 else ZbF.p1 N x10
def ZbF.p1.S (A17:List Int) (st:LL):S:=mkS 94 [(15,sA 15)] [(15,.cells [zK .u64 4 A17])] st
theorem ZbF.p1_ok {A17 st r} (h:ZbF.p1 N A17=some r) (hE:En Tryz.f112 g0 w0 (ZbF.rs r) st R):At g0 w0 (ZbF.p1.S A17 st) (XK zE R [cK ZbF.B [1,1,1,1,1,1,1,1,1,1,1]]):=by
 unfold ZbF.p1 at h;obtain ⟨x18,c19,h1⟩:=Zae h;exact xS fol h1 hE [.r [(1,q1 [oI x18])]] (ZaV.snd c19)
theorem ZbF.snd {A0:Zah} {A1 A2 A3:Int} {r:Int} (h:ZbF N A0 A1 A2 A3=some r):Zdo zE 112 [.agg A0.ls,oI A1,oI A2,oI A3] (ZbF.rs r):=fun st=>
 sO ZbF.B Tryz.func112 fun g0 w0 R hE=>by
  unfold ZbF at h;obtain ⟨⟨x1,x2⟩,c1,h2⟩:=Zae h;obtain ⟨x3,c2,h3⟩:=Zae h2;let o1:List PS:=[rZ,.r [(3,q1 [.agg [zK .u64 4 x1],oB x2])]]
  have t1 {Q:Prop} (q:Q):=aJ (Zcu.snd c1) (Zeq.snd c2) q;refine Zba h3 (fun c3 h4=>?_) (fun c3 h5=>?_)
  ·exact xS fol h4 hE (o1++[.r [(1,q1 [oB x3]),(4,wF),(5,wF)],cT,rZ]) (t1 (aK (not_false (ZbN c3)) (not_false (ZbN c3)) (not_false (ZbN c3)) eT))
  let o2:List PS:=o1++[.r [(1,q1 [oB x3]),(6,yF)]]
  have t2 {Q:Prop} (q:Q):=t1 (aK (not_true (ZbO c3)) (not_true (ZbO c3)) (not_true (ZbO c3)) q);refine Zba h5 (fun c4 h6=>?_) (fun c4 h7=>?_)
  ·exact xS fol h6 hE (o2++[cT,rZ]) (t2 c4)
  obtain ⟨x4,c5,h8⟩:=Zae h7;obtain ⟨⟨x5,x6⟩,c6,h9⟩:=Zae h8;obtain ⟨⟨x7,x8⟩,c7,h10⟩:=Zae h9;obtain ⟨c8,h11⟩:=ZaW h10;obtain ⟨x9,c9,h12⟩:=Zae h11;obtain ⟨⟨x10,x11⟩,c10,h13⟩:=Zae h12;obtain ⟨⟨x12,x13⟩,c11,h14⟩:=Zae h13;let o3:List PS:=o2++[cF,rZ,.r [(3,q1 [oI x4])],.r [(2,q1 [.agg [zK .u64 4 x5],.one (zM .u64 x6)])],.r [(2,q1 [.agg [zK .u64 4 x7],oB x8])],.d {ds:=[(6,q1 [.agg [zK .u64 4 x9]]),(7,q1 [.agg [zK .u64 4 x10],oB x11])],hv:=2048,Hs:=[2048]},.r [(4,q1 [.agg [zK .u64 4 x12],oB x13])]]
  have t3 {Q:Prop} (q:Q):=t2 (aO c4 (ZeT.snd c5) (Zcs.snd c6) (ZbX.snd c7) c8 (Zdp.snd c9) (ZbT.snd c10) (aI (Zcu.snd c11) q));refine Zba h14 (fun c12 h15=>?_) (fun c12 h16=>?_)
  ·exact xSd fol h15 hE (o3++[.r [(2,wF),(5,wF),(6,wF),(7,wF)],cT,rZ]) (t3 (aN c12 c12 eT eT eT eT eT))
  refine Zba h16 (fun c13 h17=>?_) (fun c13 h18=>?_)
  ·exact xSd fol h17 hE (o3++[.r [(3,yF),(5,wF),(6,wF),(7,wF)],cT,rZ]) (t3 (aN c12 c12 c13 c13 c13 c13 eT))
  obtain ⟨x14,c14,h19⟩:=Zae h18;let o4:List PS:=o3++[.r [(3,yF),(7,q1 [oB x14]),(8,yF)]]
  have t4 {Q:Prop} (q:Q):=t3 (aO c12 c12 c13 c13 c13 (Zdf.snd c14) c13 q);refine Zba h19 (fun c15 h20=>?_) (fun c15 h21=>?_)
  ·exact xSd fol h20 hE (o4++[cT,rZ]) (t4 c15)
  obtain ⟨x15,c16,h22⟩:=Zae h21;let o5:List PS:=o4++[cF,.r [(1,q1 [oB x15])]]
  refine Zba h22 (fun c17 h23=>?_) (fun c17 h24=>?_)
  ·obtain ⟨x16,c18,h25⟩:=Zae h23;exact aqd fol (o5++[cT,.r [(0,q1 [.agg [zK .u64 4 x16]])],.s 1]) [15] [15] (t4 (aK c15 (ZcT.snd c16) c17 (Zdp.snd c18))) (ZbF.p1_ok h25 hE)
  exact aqd fol (o5++[cF,.s 1]) [15] [15] (t4 (aJ c15 (ZcT.snd c16) c17)) (ZbF.p1_ok h24 hE)
def ZeU.B:Code:=Tryz.f84.body.getD .skip
def ZeU.rs (r:Int):List CV:=[oI r]
def ZeU (N:Nat) (A0:Zah) (A1:Zdy) (A2:Int):Option Int:= if (decide (A1.Height≤0))=true then some A0.Limit else Zbj (Zdk N A0 A1.Height) fun x1=> if x1=true then Zbj (ZbF N A0 A1.Bits A1.First A1.Time) fun x2=> some x2 else if (!A0.Easy)=true then some A1.Bits else if (decide ((w64 (A2-A1.Time))>(w64 (2*A0.Spacing))))=true then some A0.Limit else some A1.Hard
theorem ZeU.snd {A0:Zah} {A1:Zdy} {A2:Int} {r:Int} (h:ZeU N A0 A1 A2=some r):Zdo zE 84 [.agg A0.ls,.agg A1.ls,oI A2] (ZeU.rs r):=fun st=>
 sO ZeU.B Tryz.func84 fun g0 w0 R hE=>by
  unfold ZeU at h;refine Zba h (fun c1 h1=>?_) (fun c1 h2=>?_)
  ·exact xS fol h1 hE [rZ,rZ,cT,rZ] c1
  obtain ⟨x1,c2,h3⟩:=Zae h2;let o1:List PS:=[rZ,rZ,cF,.r [(3,q1 [oB x1])]]
  have t1 {Q:Prop} (q:Q):=aJ c1 (Zdk.snd c2) q;refine Zba h3 (fun c3 h4=>?_) (fun c3 h5=>?_)
  ·obtain ⟨x2,c4,h6⟩:=Zae h4;exact xS fol h6 hE (o1++[cT,.r [(7,q1 [oI x2])]]) (t1 (aI c3 (ZbF.snd c4)))
  refine Zba h5 (fun c5 h7=>?_) (fun c5 h8=>?_)
  ·exact xS fol h7 hE (o1++[cF,rZ,cT,rZ]) (t1 (aI c3 c5))
  refine Zba h8 (fun c6 h9=>?_) (fun c6 h10=>?_)
  ·exact xS fol h9 hE (o1++[cF,rZ,cF,rZ,cT,rZ]) (t1 (aJ c3 c5 c6))
  exact xS fol h10 hE (o1++[cF,rZ,cF,rZ,cF,rZ]) (t1 (aJ c3 c5 c6))
def ZbC.B:Code:=Tryz.f136.body.getD .skip
def ZbC.rs (r:(List Int)):List CV:=[.agg [zK .u64 4 r]]
def ZbC.p1 (N:Nat) (A0_0:List Int) (c1_:(Int×(List Int))→Option (List Int)):(Int×(List Int))→Option (List Int):=fun (v1,A2)=> if (decide (v1<32))=true then chk (0≤v1)<| chk (0≤(w64 (zR v1 8)))<| chk ((w64 (zR v1 8))<4)<| chk (0≤(w64 (8*(yA v1 8))))<| c1_ (w64 (v1+1),zQ A2 (zC (w64 (zR v1 8))) (ZaG .or .u64 (zF A2 (zC (w64 (zR v1 8))) 0) (ZbB .u64 (v64 (zF A0_0 (zC v1) 0)) (w64 (8*(yA v1 8)))))) else some A2
def ZbC (N:Nat) (A0_0:List Int):Option (List Int):= loopN (ZbC.p1 N A0_0) N (0,zB 4 0)
def ZbC.p1.S (A0_0:List Int) (v1:Int) (A2:List Int) (st:LL):S:=mkS 25 [(2,sA 2),(3,sA 3),(6,.agg [.l (zK .u8 32 A0_0)]),(7,sI v1)] [(2,.cells [zK .u64 4 (zB 4 0)]),(3,.cells [zK .u64 4 A2])] st
theorem ZbC.p1_ok {A0_0 v1 A2 st r c1_ J1} (h:ZbC.p1 N A0_0 c1_ (v1,A2)=some r) (hE:En Tryz.f136 g0 w0 (ZbC.rs r) st R) (hc1 : ∀v1 A2,c1_ (v1,A2)=some r→At g0 w0 (ZbC.p1.S A0_0 v1 A2 st) J1):At g0 w0 (ZbC.p1.S A0_0 v1 A2 st) (XK zE R (cK ZbC.B [1,1,0,1,0,0] :: .h J1 :: [.b 0,cK ZbC.B [1,1,1]])):=by
 unfold ZbC.p1 at h;refine Zba h (fun c6 h1=>?_) (fun c6 h2=>?_)
 ·obtain ⟨c7,c8,c9,c10,h3⟩:=ck4 h1;exact ZkD fol [rZ,cT,rZ,.d {ds:=[],hv:=4096,Hs:=[4096]},rZ] [2,3,6,7] [2,3] (aO c6 c7 (oD c6) (neI 8) c8 c9 (neI 8) (aJ c10 c8 c9)) (hc1 (w64 (v1+1)) (zQ A2 (zC (w64 (zR v1 8))) (ZaG .or .u64 (zF A2 (zC (w64 (zR v1 8))) 0) (ZbB .u64 (v64 (zF A0_0 (zC v1) 0)) (w64 (8*(yA v1 8)))))) h3)
 exact xS fol h2 hE [rZ,cF,rZ] c6
theorem ZbC.snd {A0_0:List Int} {r:(List Int)} (h:ZbC N A0_0=some r):Zdo zE 136 [.agg [zK .u8 32 A0_0]] (ZbC.rs r):=fun st=>
 sO ZbC.B Tryz.func136 fun g0 w0 R hE=>by
  unfold ZbC at h;exact aq fol [rZ,rZ,rZ] [2,3,6,7] [2,3] trivial (At.loop N (At.loopN (fun y:Int×(List Int)=>ZbC.p1.S A0_0 y.1 y.2 st) (fun c J hc y h=>ZbC.p1_ok (v1:=y.1) (A2:=y.2) h hE (fun v1 A2=>hc (v1,A2))) N (0,zB 4 0) h))
def Zdt.B:Code:=Tryz.f113.body.getD .skip
def Zdt.rs (r:Bool):List CV:=[oB r]
def Zdt (N:Nat) (A0_0 A1_0:List Int):Option Bool:= Zbj (ZbC N A0_0) fun x1=> Zbj (Zdf N A1_0 x1) fun x2=> some (!x2)
theorem Zdt.snd {A0_0 A1_0:List Int} {r:Bool} (h:Zdt N A0_0 A1_0=some r):Zdo zE 113 [.agg [zK .u8 32 A0_0],.agg [zK .u64 4 A1_0]] (Zdt.rs r):=fun st=>
 sO Zdt.B Tryz.func113 fun g0 w0 R hE=>by
  unfold Zdt at h;obtain ⟨x1,c1,h1⟩:=Zae h;obtain ⟨x2,c2,h2⟩:=Zae h1;exact xSd fol h2 hE [rZ,.d {ds:=[(2,q1 [.agg [zK .u64 4 x1]]),(3,q1 [oB x2])],hv:=0,Hs:=[]}] (aI (ZbC.snd c1) (Zdf.snd c2))
def Zeb.B:Code:=Tryz.f85.body.getD .skip
def Zeb.rs (r:Int):List CV:=[oI r]
def Zeb (N:Nat) (A0:Zah) (A1:Zal):Option Int:= Zbj (Zcx N A1) fun x1=> if (!x1)=true then some 1 else Zbj (Zcu N A1.Bits A0.Limit) fun (x2,x3)=> if (!x3)=true then some 4 else Zbj (ZdU N A1) fun x4=> Zbj (Zdt N x4 x2) fun x5=> if (!x5)=true then some 4 else some 0
theorem Zeb.snd {A0:Zah} {A1:Zal} {r:Int} (h:Zeb N A0 A1=some r):Zdo zE 85 [.agg A0.ls,.agg A1.ls] (Zeb.rs r):=fun st=>
 sO Zeb.B Tryz.func85 fun g0 w0 R hE=>by
  unfold Zeb at h;obtain ⟨x1,c1,h1⟩:=Zae h;let o1:List PS:=[rZ,.r [(1,q1 [oB x1])]]
  have t1 {Q:Prop} (q:Q):=aI (Zcx.snd c1) q;refine Zba h1 (fun c2 h2=>?_) (fun c2 h3=>?_)
  ·exact xS fol h2 hE (o1++[cT,rZ]) (t1 c2)
  obtain ⟨⟨x2,x3⟩,c3,h4⟩:=Zae h3;let o2:List PS:=o1++[cF,.r [(4,q1 [.agg [zK .u64 4 x2],oB x3])]]
  have t2 {Q:Prop} (q:Q):=t1 (aJ c2 (Zcu.snd c3) q);refine Zba h4 (fun c4 h5=>?_) (fun c4 h6=>?_)
  ·exact xSd fol h5 hE (o2++[.d {ds:=[(3,wF),(4,wF),(5,wF),(6,wF),(7,wF)],hv:=0,Hs:=[]},cT,rZ]) (t2 (aN (not_false (ZbN c4)) (not_false (ZbN c4)) (not_false (ZbN c4)) (not_false (ZbN c4)) (not_false (ZbN c4)) (not_false (ZbN c4)) eT))
  obtain ⟨x4,c5,h7⟩:=Zae h6;obtain ⟨x5,c6,h8⟩:=Zae h7;let o3:List PS:=o2++[.d {ds:=[(4,q1 [.agg [zK .u8 32 x4]]),(6,q1 [oB x5]),(8,yF)],hv:=0,Hs:=[]}]
  have t3 {Q:Prop} (q:Q):=t2 (aO (not_true (ZbO c4)) (not_true (ZbO c4)) (ZdU.snd c5) (not_true (ZbO c4)) (not_true (ZbO c4)) (Zdt.snd c6) (not_true (ZbO c4)) (aI (not_true (ZbO c4)) q));refine Zba h8 (fun c7 h9=>?_) (fun c7 h10=>?_)
  ·exact xSd fol h9 hE (o3++[cT,rZ]) (t3 c7)
  exact xSd fol h10 hE (o3++[cF,rZ]) (t3 c7)
def ZeW.B:Code:=Tryz.f114.body.getD .skip
def ZeW.rs (r:Int):List CV:=[oI r]
def ZeW (N:Nat) (A0:LL):Option Int:= chk (0≤(if (11:Int)<(len A0) then 11 else (len A0)))<| chk ((zC (if (11:Int)<(len A0) then 11 else (len A0)))≤(zG A0))<| Zbj (Zbm N (yO (zC (if (11:Int)<(len A0) then 11 else (len A0))) (wE 0 A0))) fun x1=> if ((len x1)==0)=true then some 0 else chk (isI x1=true)<| chk (zG x1<4611686018427387904)<| chk (0≤(w64 (zR (len x1) 2)))<| chk ((w64 (zR (len x1) 2))<(len x1))<| ZcS ((ZkX x1)[0+(zC (w64 (zR (len x1) 2)))]?) ZcW fun x2=> some x2
theorem ZeW.snd {A0:LL} {r:Int} (h:ZeW N A0=some r):Zdo zE 114 [.one (vR 1 A0)] (ZeW.rs r):=fun st=>
 sO ZeW.B Tryz.func114 fun g0 w0 R hE=>by
  unfold ZeW at h;obtain ⟨c1,c2,h1⟩:=ck2 h;obtain ⟨x1,c3,h2⟩:=Zae h1;let o1:List PS:=[rZ,.r [(5,{rs:=[.row true 1 x1],ns:=[9],m:=1})],rZ]
  have t1 {Q:Prop} (q:Q):=aL c1 (yP (zC (if (11:Int)<(len A0) then 11 else (len A0)))) c2 (Zbm.snd c3) q;refine Zba h2 (fun c4 h3=>?_) (fun c4 h4=>?_)
  ·exact xS fol h3 hE (o1++[cT,rZ]) (t1 c4)
  obtain ⟨c5,c6,c7,c8,h5⟩:=ck4 h4;obtain ⟨x2,c9,h6⟩:=Zci h5;exact xS fol h6 hE (o1++[cF,.r [(1,{m:=7})],.r [(5,{oe:=[zM .i64 x2]})]]) (t1 (aO c4 z0 (@rfl _ (zG x1):(zG x1)=(zG x1)) c5 c6 slices_Sort_int.snd (neI 2) (aJ c7 c8 c9)))
def Zdz.B:Code:=Tryz.f86.body.getD .skip
def Zdz.rs (r:Bool):List CV:=[oB r]
def Zdz (N:Nat) (A0:Int) (A1:LL):Option Bool:= if ((len A1)==0)=true then some true else Zbj (ZeW N A1) fun x1=> some (decide (A0>x1))
theorem Zdz.snd {A0:Int} {A1:LL} {r:Bool} (h:Zdz N A0 A1=some r):Zdo zE 86 [oI A0,.one (vR 1 A1)] (Zdz.rs r):=fun st=>
 sO Zdz.B Tryz.func86 fun g0 w0 R hE=>by
  unfold Zdz at h;refine Zba h (fun c1 h1=>?_) (fun c1 h2=>?_)
  ·exact xS fol h1 hE [rZ,.r [(4,wF),(5,wF),(6,wF),(7,wF)]] (aL c1 c1 c1 c1 c1)
  obtain ⟨x1,c2,h3⟩:=Zae h2;exact xS fol h3 hE [rZ,.r [(6,q1 [oI x1]),(8,yF)]] (aM c1 c1 c1 (ZeW.snd c2) c1 c1)
def Zec.B:Code:=Tryz.f87.body.getD .skip
def Zec.rs (r:Bool):List CV:=[oB r]
def Zec (N:Nat) (A0 A1 A2:Int):Option Bool:= if (decide (A2≥0))=true then if (decide (A0≤A1))=true then some true else some (decide ((w64 (A0-A1))≤A2)) else some false
theorem Zec.snd {A0 A1 A2:Int} {r:Bool} (h:Zec N A0 A1 A2=some r):Zdo zE 87 [oI A0,oI A1,oI A2] (Zec.rs r):=fun st=>
 sO Zec.B Tryz.func87 fun g0 w0 R hE=>by
  unfold Zec at h;refine Zba h (fun c1 h1=>?_) (fun c1 h2=>?_)
  ·refine Zba h1 (fun c2 h3=>?_) (fun c2 h4=>?_)
   ·exact xS fol h3 hE [rZ,.r [(7,wF),(8,wF),(9,wF),(10,wF),(11,wF)]] (aO c1 c1 c1 c1 c2 c2 c2 (aL c2 c2 c1 c2 c1))
   exact xS fol h4 hE [rZ,.r [(12,yF)]] (aO c1 c1 c1 c1 c2 c2 c2 (aL c2 c2 c1 c2 c1))
  exact xS fol h2 hE [rZ,.r [(3,wF),(4,wF),(5,wF),(6,wF),(12,wF),(13,yF)]] (aM c1 c1 c1 c1 c1 c1)
def Zbd.B:Code:=Tryz.f88.body.getD .skip
def Zbd.rs (r:Int):List CV:=[oI r]
def Zbd.p2 (N:Nat) (c1_:(Int×Int)→Option Int) (A0 A4:Int) (A1:LL) (v2:Int):Option Int:= c1_ (A4,w64 (v2+1))
def Zbd.p1 (N:Nat) (A0:Int) (A1:LL) (c1_:(Int×Int)→Option Int):(Int×Int)→Option Int:=fun (F1,v2)=> if (decide (v2<(len A1)))=true then chk (0≤v2)<| ZcS (A1[zC v2]?) Zez fun x3=> if (decide (A0≥x3.Height))=true then Zbd.p2 N c1_ A0 (if x3.Version>F1 then x3.Version else F1) A1 v2 else Zbd.p2 N c1_ A0 F1 A1 v2 else some F1
def Zbd (N:Nat) (A0:Int) (A1:LL):Option Int:= loopN (Zbd.p1 N A0 A1) N ((-2147483648),0)
def Zbd.p2.S (A0 A4:Int) (A1:LL) (v2:Int) (st:LL):S:=mkS 24 [(0,sI A0),(5,sI A4),(8,sV 2 A1),(9,sI (len A1)),(10,sI v2)] [] st
def Zbd.p1.S (A0 F1:Int) (A1:LL) (v2:Int) (st:LL):S:=mkS 24 [(0,sI A0),(5,sI F1),(8,sV 2 A1),(9,sI (len A1)),(10,sI v2)] [] st
theorem Zbd.p2_ok {A0 A4 A1 v2 st r c1_ J1} (h:Zbd.p2 N c1_ A0 A4 A1 v2=some r) (hE:En Tryz.f88 g0 w0 (Zbd.rs r) st R) (hc1 : ∀F1 v2,c1_ (F1,v2)=some r→At g0 w0 (Zbd.p1.S A0 F1 A1 v2 st) J1):At g0 w0 (Zbd.p2.S A0 A4 A1 v2 st) (XK zE R [cK Zbd.B [1,1,0,1,0,0,1,1,1],.h J1,.b 0,cK Zbd.B [1,1,1]]):=by
 unfold Zbd.p2 at h;exact an fol [rZ] [0,5,8,9,10] [] trivial (hc1 A4 (w64 (v2+1)) h)
theorem Zbd.p1_ok {A0 F1 A1 v2 st r c1_ J1} (h:Zbd.p1 N A0 A1 c1_ (F1,v2)=some r) (hE:En Tryz.f88 g0 w0 (Zbd.rs r) st R) (hc1 : ∀F1 v2,c1_ (F1,v2)=some r→At g0 w0 (Zbd.p1.S A0 F1 A1 v2 st) J1):At g0 w0 (Zbd.p1.S A0 F1 A1 v2 st) (XK zE R (cK Zbd.B [1,1,0,1,0,0] :: .h J1 :: [.b 0,cK Zbd.B [1,1,1]])):=by
 unfold Zbd.p1 at h;refine Zba h (fun c1 h1=>?_) (fun c1 h2=>?_)
 ·obtain ⟨c2,h3⟩:=ZaW h1;obtain ⟨x3,c3,h4⟩:=ZeE h3;let o1:List PS:=[rZ,cT,.r [(1,{oe:=x3.ls})],rZ]
  refine Zba h4 (fun c4 h5=>?_) (fun c4 h6=>?_)
  ·exact aq fol (o1++[cT,rZ,.s 4]) [0,5,8,9,10] [] (aL c1 c2 (oD c1) c3 c4) (Zbd.p2_ok h5 hE hc1)
  exact aq fol (o1++[cF,.s 4]) [0,5,8,9,10] [] (aL c1 c2 (oD c1) c3 c4) (Zbd.p2_ok h6 hE hc1)
 exact xS fol h2 hE [rZ,cF,rZ] c1
theorem Zbd.snd {A0:Int} {A1:LL} {r:Int} (h:Zbd N A0 A1=some r):Zdo zE 88 [oI A0,.one (vR 2 A1)] (Zbd.rs r):=fun st=>
 sO Zbd.B Tryz.func88 fun g0 w0 R hE=>by
  unfold Zbd at h;exact aq fol [rZ,rZ,rZ] [0,5,8,9,10] [] trivial (At.loop N (At.loopN (fun y:Int×Int=>Zbd.p1.S A0 y.1 A1 y.2 st) (fun c J hc y h=>Zbd.p1_ok (F1:=y.1) (v2:=y.2) h hE (fun F1 v2=>hc (F1,v2))) N ((-2147483648),0) h))
def ZbU.B:Code:=Tryz.f89.body.getD .skip
def ZbU.rs (r:Bool):List CV:=[oB r]
def ZbU.p1 (N:Nat) (A0:Int) (A2:LL) (A1_0:List Int) (c1_:Int→Option Bool):Int→Option Bool:=fun v1=> if (decide (v1<(len A2)))=true then chk (0≤v1)<| ZcS (A2[zC v1]?) Zeo fun x2=> if (x2.Height==A0)=true then if (!(x2.Id==A1_0))=true then some false else c1_ (w64 (v1+1)) else c1_ (w64 (v1+1)) else some true
def ZbU (N:Nat) (A0:Int) (A1_0:List Int) (A2:LL):Option Bool:= loopN (ZbU.p1 N A0 A2 A1_0) N 0
def ZbU.p1.S (A0:Int) (A2:LL) (v1:Int) (A1_0:List Int) (st:LL):S:=mkS 26 [(0,sI A0),(4,sA 4),(9,sV 33 A2),(10,sI (len A2)),(11,sI v1)] [(4,.cells [zK .u8 32 A1_0])] st
theorem ZbU.p1_ok {A0 A2 v1 A1_0 st r c1_ J1} (h:ZbU.p1 N A0 A2 A1_0 c1_ v1=some r) (hE:En Tryz.f89 g0 w0 (ZbU.rs r) st R) (hc1 : ∀v1,c1_ v1=some r→At g0 w0 (ZbU.p1.S A0 A2 v1 A1_0 st) J1):At g0 w0 (ZbU.p1.S A0 A2 v1 A1_0 st) (XK zE R (cK ZbU.B [1,0,1,0,0] :: .h J1 :: [.b 0,cK ZbU.B [1,1]])):=by
 unfold ZbU.p1 at h;refine Zba h (fun c1 h1=>?_) (fun c1 h2=>?_)
 ·obtain ⟨c2,h3⟩:=ZaW h1;obtain ⟨x2,c3,h4⟩:=Zev h3;let o1:List PS:=[rZ,cT,.r [(1,{oe:=x2.ls})]]
  refine Zba h4 (fun c4 h5=>?_) (fun c4 h6=>?_)
  ·have t1 {Q:Prop} (q:Q):=aO c1 c2 (oD c1) c3 c4 c4 c4 (aJ c4 c4 q);refine Zba h5 (fun c5 h7=>?_) (fun c5 h8=>?_)
   ·exact xS fol h7 hE (o1++[rZ,cT,rZ]) (t1 c5)
   exact an fol (o1++[rZ,cF,rZ]) [0,4,9,10,11] [4] (t1 c5) (hc1 (w64 (v1+1)) h8)
  exact an fol (o1++[.r [(5,wF),(6,wF),(7,wF),(8,wF),(9,yF)],cF,rZ]) [0,4,9,10,11] [4] (aO c1 c2 (oD c1) c3 c4 c4 c4 (aJ c4 c4 eF)) (hc1 (w64 (v1+1)) h6)
 exact xS fol h2 hE [rZ,cF,rZ] c1
theorem ZbU.snd {A0:Int} {A1_0:List Int} {A2:LL} {r:Bool} (h:ZbU N A0 A1_0 A2=some r):Zdo zE 89 [oI A0,.agg [zK .u8 32 A1_0],.one (vR 33 A2)] (ZbU.rs r):=fun st=>
 sO ZbU.B Tryz.func89 fun g0 w0 R hE=>by
  unfold ZbU at h;exact aq fol [rZ,rZ] [0,4,9,10,11] [4] trivial (At.loop N (At.loopN (fun y:Int=>ZbU.p1.S A0 A2 y A1_0 st) (fun c J hc y h=>ZbU.p1_ok h hE (fun v1=>hc v1)) N 0 h))
def Zep.B:Code:=Tryz.f54.body.getD .skip
def Zep.rs (r:Int):List CV:=[oI r]
def Zep (N:Nat) (A0:Zah) (A1:ZaT) (h_2:Zal) (A3:Int):Option Int:= Zbj (Zcx N h_2) fun x1=> if (!x1)=true then some 1 else if (!(h_2.Prev==A1.Prev))=true then some 2 else Zbj (ZeU N A0 A1.Point h_2.Time) fun x2=> if (h_2.Bits != x2)=true then some 3 else Zbj (Zeb N A0 h_2) fun x3=> if (x3 != 0)=true then some 4 else Zbj (Zdz N h_2.Time A1.Times) fun x4=> if (!x4)=true then some 5 else Zbj (Zec N h_2.Time A3 A0.Future) fun x5=> if (!x5)=true then some 6 else Zbj (Zbd N A1.Point.Height A0.Gates) fun x6=> if (decide (h_2.Version<x6))=true then some 7 else Zbj (ZdU N h_2) fun x7=> Zbj (ZbU N A1.Point.Height x7 A0.Checks) fun x8=> if (!x8)=true then some 8 else some 0
theorem Zep.snd {A0:Zah} {A1:ZaT} {h_2:Zal} {A3:Int} {r:Int} (h:Zep N A0 A1 h_2 A3=some r):Zdo zE 54 [.agg A0.ls,.agg A1.ls,.agg h_2.ls,oI A3] (Zep.rs r):=fun st=>
 sO Zep.B Tryz.func54 fun g0 w0 R hE=>by
  unfold Zep at h;obtain ⟨x1,c1,h1⟩:=Zae h;let o1:List PS:=[rZ,.r [(1,q1 [oB x1])]]
  have t1 {Q:Prop} (q:Q):=aI (Zcx.snd c1) q;refine Zba h1 (fun c2 h2=>?_) (fun c2 h3=>?_)
  ·exact xS fol h2 hE (o1++[cT,rZ]) (t1 c2)
  let o2:List PS:=o1++[cF,rZ]
  refine Zba h3 (fun c3 h4=>?_) (fun c3 h5=>?_)
  ·exact xS fol h4 hE (o2++[cT,rZ]) (t1 (aI c2 c3))
  obtain ⟨x2,c4,h6⟩:=Zae h5;let o3:List PS:=o2++[cF,.d {ds:=[(7,q1 [oI x2])],hv:=0,Hs:=[]}]
  have t2 {Q:Prop} (q:Q):=t1 (aK c2 c3 (ZeU.snd c4) q);refine Zba h6 (fun c5 h7=>?_) (fun c5 h8=>?_)
  ·exact xSd fol h7 hE (o3++[cT,rZ]) (t2 c5)
  obtain ⟨x3,c6,h9⟩:=Zae h8;let o4:List PS:=o3++[cF,.r [(2,q1 [oI x3])]]
  have t3 {Q:Prop} (q:Q):=t2 (aJ c5 (Zeb.snd c6) q);refine Zba h9 (fun c7 h10=>?_) (fun c7 h11=>?_)
  ·exact xSd fol h10 hE (o4++[cT,rZ]) (t3 c7)
  obtain ⟨x4,c8,h12⟩:=Zae h11;let o5:List PS:=o4++[cF,.r [(4,q1 [oB x4])]]
  have t4 {Q:Prop} (q:Q):=t3 (aJ c7 (Zdz.snd c8) q);refine Zba h12 (fun c9 h13=>?_) (fun c9 h14=>?_)
  ·exact xSd fol h13 hE (o5++[cT,rZ]) (t4 c9)
  obtain ⟨x5,c10,h15⟩:=Zae h14;let o6:List PS:=o5++[cF,.r [(5,q1 [oB x5])]]
  have t5 {Q:Prop} (q:Q):=t4 (aJ c9 (Zec.snd c10) q);refine Zba h15 (fun c11 h16=>?_) (fun c11 h17=>?_)
  ·exact xSd fol h16 hE (o6++[cT,rZ]) (t5 c11)
  obtain ⟨x6,c12,h18⟩:=Zae h17;let o7:List PS:=o6++[cF,.d {ds:=[(7,q1 [oI x6])],hv:=0,Hs:=[]}]
  have t6 {Q:Prop} (q:Q):=t5 (aJ c11 (Zbd.snd c12) q);refine Zba h18 (fun c13 h19=>?_) (fun c13 h20=>?_)
  ·exact xSd fol h19 hE (o7++[cT,rZ]) (t6 c13)
  obtain ⟨x7,c14,h21⟩:=Zae h20;obtain ⟨x8,c15,h22⟩:=Zae h21;let o8:List PS:=o7++[cF,.d {ds:=[(4,q1 [.agg [zK .u8 32 x7]]),(7,q1 [oB x8])],hv:=0,Hs:=[]}]
  have t7 {Q:Prop} (q:Q):=t6 (aK c13 (ZdU.snd c14) (ZbU.snd c15) q);refine Zba h22 (fun c16 h23=>?_) (fun c16 h24=>?_)
  ·exact xSd fol h23 hE (o8++[cT,rZ]) (t7 c16)
  exact xSd fol h24 hE (o8++[cF,rZ]) (t7 c16)
def ZaK.B:Code:=Tryz.f26.body.getD .skip
def ZaK.rs (r:Int×Int×Int×LL):List CV:=[oI r.1,oI r.2.1,oI r.2.2.1]
def ZaK.p2 (N:Nat) (i2:Nat) (A2 A12:Int) (A13:Bool) (A1:Zal) (st:LL):Option (Int×Int×Int×LL):= if (!A13)=true then some ((-1),2,5,st) else ZcS (st[i2]?) Zby fun x14=> chk (0≤A12)<| chk (A12<(len x14.spots))<| ZcS (x14.spots[0+(zC A12)]?) Zgf fun x15=> Zbj (Zep N x14.rules x15 A1 A2) fun x16=> if (x16 != 0)=true then some ((-1),x16,8,st) else if (decide ((len x14.list)≥x14.room))=true then some ((-1),0,6,st) else Zbj (ZdD N x14.rules x15 A1) fun x17=> Zbj (ZaZ N (some i2) A1 A12 x17 st) fun (x18,st19)=> some (x18,0,0,st19)
def ZaK.p1 (N:Nat) (i2:Nat) (A2 A7:Int) (A8:Bool) (A1:Zal) (st:LL):Option (Int×Int×Int×LL):= if A8=true then some (A7,0,0,st) else ZcS (st[i2]?) Zby fun x9=> optM (ZhT x9.places (zK .u8 32 A1.Prev)) (fun j10 e=>ZcW [e] fun x11=> ZaK.p2 N i2 A2 x11 true A1 st) ( ZaK.p2 N i2 A2 0 false A1 st)
def ZaK (N:Nat) (A0:Option Nat) (A1:Zal) (A2:Int) (st:LL):Option (Int×Int×Int×LL):= if (wY A0)=true then some ((-1),0,2,st) else Zbj (Zcx N A1) fun x1=> if (!x1)=true then some ((-1),1,8,st) else Zbj A0 fun i2=> ZcS (st[i2]?) Zby fun x3=> Zbj (ZdU N A1) fun x4=> optM (ZhT x3.places (zK .u8 32 x4)) (fun j5 e=>ZcW [e] fun x6=> ZaK.p1 N i2 A2 x6 true A1 st) ( ZaK.p1 N i2 A2 0 false A1 st)
def ZaK.p2.S (i2:Nat) (A2 A12:Int) (A13:Bool) (A1:Zal) (st:LL):S:=mkS 87 [(0,sP (some i2)),(2,sI A2),(4,sA 4),(11,sI A12),(12,.one (.l (xP A13)))] [(4,.cells A1.ls)] st
def ZaK.p1.S (i2:Nat) (A2 A7:Int) (A8:Bool) (A1:Zal) (st:LL):S:=mkS 87 [(0,sP (some i2)),(2,sI A2),(4,sA 4),(9,sI A7),(10,.one (.l (xP A8)))] [(4,.cells A1.ls)] st
theorem ZaK.p2_ok {i2 A2 A12 A13 A1 st r} (h:ZaK.p2 N i2 A2 A12 A13 A1 st=some r) (hE:En Tryz.f26 g0 w0 (ZaK.rs r) r.2.2.2 R):At g0 w0 (ZaK.p2.S i2 A2 A12 A13 A1 st) (XK zE R [cK ZaK.B [1,1,1,1,1]]):=by
 unfold ZaK.p2 at h;refine Zba h (fun c11 h1=>?_) (fun c11 h2=>?_)
 ·exact xV fol h1 hE [rZ,cT,rZ] c11
 obtain ⟨x14,c12,h3⟩:=Zbl h2;obtain ⟨c13,c14,h4⟩:=ck2 h3;obtain ⟨x15,c15,h5⟩:=Zkb h4;obtain ⟨x16,c16,h6⟩:=Zae h5;let o1:List PS:=[rZ,cF,.d {ds:=[(3,{oc:=x14.lo}),(7,{oc:=x14.lo}),(10,{oc:=x14.lo,oe:=x15.ls}),(13,q1 [oI x16])],hv:=0,Hs:=[]},rZ]
 have t1 {Q:Prop} (q:Q):=aO c11 c12 c12 c13 c14 c15 c12 (aI (Zep.snd c16) q);refine Zba h6 (fun c17 h7=>?_) (fun c17 h8=>?_)
 ·exact xVd fol h7 hE (o1++[cT,rZ]) (t1 c17)
 let o2:List PS:=o1++[cF,.d {ds:=[(3,{oc:=x14.lo}),(8,{oc:=x14.lo})],hv:=0,Hs:=[]}]
 refine Zba h8 (fun c18 h9=>?_) (fun c18 h10=>?_)
 ·exact xVd fol h9 hE (o2++[cT,rZ]) (t1 (aK c17 c12 c12 c18))
 obtain ⟨x17,c19,h11⟩:=Zae h10;obtain ⟨⟨x18,st19⟩,c20,h12⟩:=Zae h11;exact xVd fol h12 hE (o2++[cF,.d {ds:=[(6,{oc:=x14.lo}),(10,{oc:=x14.lo}),(13,{oc:=x14.lo,oe:=x15.ls}),(15,q1 [.agg x17.ls]),(16,{rs:=[oI x18],st:=st19})],hv:=65536,Hs:=[65536]}]) (t1 (aO c17 c12 c12 c18 c12 c12 c13 (aL c14 c15 c12 (ZdD.snd c19) (ZaZ.snd c20))))
theorem ZaK.p1_ok {i2 A2 A7 A8 A1 st r} (h:ZaK.p1 N i2 A2 A7 A8 A1 st=some r) (hE:En Tryz.f26 g0 w0 (ZaK.rs r) r.2.2.2 R):At g0 w0 (ZaK.p1.S i2 A2 A7 A8 A1 st) (XK zE R [cK ZaK.B [1,1,1,0,1],cK ZaK.B [1,1,1,1]]):=by
 unfold ZaK.p1 at h;refine Zba h (fun c8 h13=>?_) (fun c8 h14=>?_)
 ·exact xV fol h13 hE [rZ,cT,rZ] c8
 obtain ⟨x9,c9,h15⟩:=Zbl h14;rcases Znh h15 with ⟨j10,h19,c10,h16⟩ | ⟨c10,h17⟩
 ·obtain ⟨x11,h20,h18⟩:=ZiP h16;obtain rfl:=ZjO h20;exact aqd fol [rZ,cF,.d {ds:=[(3,{oc:=x9.lo}),(6,{oc:=x9.lo,oe:=[zM .i64 x11]})],hv:=0,Hs:=[]},.s 1] [0,2,4,11,12] [4] (aK c8 c9 (ZsW c10) c9) (ZaK.p2_ok h18 hE)
 exact aqd fol [rZ,cF,.d {ds:=[(3,{oc:=x9.lo}),(6,{oc:=x9.lo,yes:=false})],hv:=0,Hs:=[]},.s 1] [0,2,4,11,12] [4] (aK c8 c9 c10 c9) (ZaK.p2_ok h17 hE)
theorem ZaK.snd {A0:Option Nat} {A1:Zal} {A2:Int} {st:LL} {r:Int×Int×Int×LL} (h:ZaK N A0 A1 A2 st=some r):Snd zE 26 [.one (yN A0),.agg A1.ls,oI A2] st (ZaK.rs r) r.2.2.2:=
 sO ZaK.B Tryz.func26 fun g0 w0 R hE=>by
  unfold ZaK at h;refine Zba h (fun c1 h21=>?_) (fun c1 h22=>?_)
  ·exact xV fol h21 hE [rZ,rZ,cT,rZ] c1
  obtain ⟨x1,c2,h23⟩:=Zae h22;let o3:List PS:=[rZ,rZ,cF,.r [(1,q1 [oB x1])]]
  have t2 {Q:Prop} (q:Q):=aJ c1 (Zcx.snd c2) q;refine Zba h23 (fun c3 h24=>?_) (fun c3 h25=>?_)
  ·exact xV fol h24 hE (o3++[cT,rZ]) (t2 c3)
  obtain ⟨i2,rfl,h26⟩:=Zae h25;obtain ⟨x3,c5,h27⟩:=Zbl h26;obtain ⟨x4,c6,h28⟩:=Zae h27;rcases Znh h28 with ⟨j5,h32,c7,h29⟩ | ⟨c7,h30⟩
  ·obtain ⟨x6,h33,h31⟩:=ZiP h29;obtain rfl:=ZjO h33;exact aqd fol (o3++[cF,.d {ds:=[(3,{oc:=x3.lo}),(5,q1 [.agg [zK .u8 32 x4]]),(6,{oc:=x3.lo,oe:=[zM .i64 x6]})],hv:=0,Hs:=[]},.s 2]) [0,2,4,9,10] [4] (t2 (aL c3 c5 (ZdU.snd c6) (ZsW c7) c5)) (ZaK.p1_ok h31 hE)
  exact aqd fol (o3++[cF,.d {ds:=[(3,{oc:=x3.lo}),(5,q1 [.agg [zK .u8 32 x4]]),(6,{oc:=x3.lo,yes:=false})],hv:=0,Hs:=[]},.s 2]) [0,2,4,9,10] [4] (t2 (aL c3 c5 (ZdU.snd c6) c7 c5)) (ZaK.p1_ok h30 hE)
def ZbW.B:Code:=Tryz.f27.body.getD .skip
def ZbW.rs (r:ZbY×Bool):List CV:=[.agg r.1.ls,oB r.2]
def ZbW (N:Nat) (A0:ZaF) (A1:Int):Option (ZbY×Bool):= Zbj (ZbE N A0 A1) fun x1=> if (!x1)=true then some (ZbY.mk (Zal.mk 0 (zB 32 0) (zB 32 0) 0 0 0) (zB 32 0) (-1) 0 (zB 4 0),false) else chk (0≤A1)<| chk (A1<(len A0.list))<| ZcS (A0.list[zC A1]?) Zed fun x2=> some (x2,true)
theorem ZbW.snd {A0:ZaF} {A1:Int} {r:ZbY×Bool} (h:ZbW N A0 A1=some r):Zdo zE 27 [.one (wJ 87 A0.ls),oI A1] (ZbW.rs r):=fun st=>
 sO ZbW.B Tryz.func27 fun g0 w0 R hE=>by
  unfold ZbW at h;obtain ⟨x1,c1,h1⟩:=Zae h;let o1:List PS:=[rZ,.r [(2,q0 [oB x1])]]
  refine Zba h1 (fun c2 h2=>?_) (fun c2 h3=>?_)
  ·exact xS fol h2 hE (o1++[cT,rZ]) (aI (ZbE.snd c1) c2)
  obtain ⟨c3,c4,h4⟩:=ck2 h3;obtain ⟨x2,c5,h5⟩:=ZeD h4;exact xS fol h5 hE (o1++[cF,.r [(3,{oe:=A0.ls}),(6,{oe:=x2.ls})]]) (aM (ZbE.snd c1) c2 (eO A0.ls) c3 c4 c5)
def ZdG.B:Code:=Tryz.f59.body.getD .skip
def ZdG.rs (r:Int):List CV:=[oI r]
def ZdG (N:Nat) (A0:Int):Option Int:= some (ZaG .and .i64 A0 (w64 (A0-1)))
theorem ZdG.snd {A0:Int} {r:Int} (h:ZdG N A0=some r):Zdo zE 59 [oI A0] (ZdG.rs r):=fun st=>
 sO ZdG.B Tryz.func59 fun g0 w0 R hE=>by
  unfold ZdG at h;exact xS fol h hE [rZ,rZ] trivial
def Zea.B:Code:=Tryz.f29.body.getD .skip
def Zea.rs (r:Int):List CV:=[oI r]
def Zea (N:Nat) (h_0:Int):Option Int:= if (decide (h_0<2))=true then some 0 else if ((ZaG .and .i64 h_0 1)==0)=true then Zbj (ZdG N h_0) fun x1=> some x1 else Zbj (ZdG N (w64 (h_0-1))) fun x2=> Zbj (ZdG N x2) fun x3=> some (w64 (x3+1))
theorem Zea.snd {h_0:Int} {r:Int} (h:Zea N h_0=some r):Zdo zE 29 [oI h_0] (Zea.rs r):=fun st=>
 sO Zea.B Tryz.func29 fun g0 w0 R hE=>by
  unfold Zea at h;refine Zba h (fun c1 h1=>?_) (fun c1 h2=>?_)
  ·exact xS fol h1 hE [rZ,rZ,cT,rZ] c1
  refine Zba h2 (fun c2 h3=>?_) (fun c2 h4=>?_)
  ·obtain ⟨x1,c3,h5⟩:=Zae h3;exact xS fol h5 hE [rZ,rZ,cF,rZ,cT,.r [(1,q1 [oI x1])]] (aJ c1 c2 (ZdG.snd c3))
  obtain ⟨x2,c4,h6⟩:=Zae h4;obtain ⟨x3,c5,h7⟩:=Zae h6;exact xS fol h7 hE [rZ,rZ,cF,rZ,cF,.r [(2,q1 [oI x2]),(3,q1 [oI x3])]] (aK c1 c2 (ZdG.snd c4) (ZdG.snd c5))
def Zck.B:Code:=Tryz.f58.body.getD .skip
def Zck.rs (r:ZbY×Bool):List CV:=[.agg r.1.ls,oB r.2]
def Zck (N:Nat) (A0:Zau) (A1:Int):Option (ZbY×Bool):= Zbj (ZbW N A0.store A1) fun (x1,x2)=> some (x1,x2)
theorem Zck.snd {A0:Zau} {A1:Int} {r:ZbY×Bool} (h:Zck N A0 A1=some r):Zdo zE 58 [.one (wJ 2 A0.ls),oI A1] (Zck.rs r):=fun st=>
 sO Zck.B Tryz.func58 fun g0 w0 R hE=>by
  unfold Zck at h;obtain ⟨⟨x1,x2⟩,c1,h1⟩:=Zae h;exact xS fol h1 hE [rZ,rZ,cF,.r [(3,{oe:=A0.ls}),(5,q0 [.agg x1.ls,oB x2])]] (aJ eF (eO A0.ls) (ZbW.snd c1))
def Zbf.B:Code:=Tryz.f57.body.getD .skip
def Zbf.rs (r:Int):List CV:=[oI r]
def Zbf (N:Nat) (A0:Zau) (A1:Int):Option Int:= Zbj (Zck N A0 A1) fun (x1,x2)=> if (!x2)=true then some (-1) else some x1.Height
theorem Zbf.snd {A0:Zau} {A1:Int} {r:Int} (h:Zbf N A0 A1=some r):Zdo zE 57 [.one (wJ 2 A0.ls),oI A1] (Zbf.rs r):=fun st=>
 sO Zbf.B Tryz.func57 fun g0 w0 R hE=>by
  unfold Zbf at h;obtain ⟨⟨x1,x2⟩,c1,h1⟩:=Zae h;let o1:List PS:=[rZ,.r [(2,q0 [.agg x1.ls,oB x2])],rZ]
  refine Zba h1 (fun c2 h2=>?_) (fun c2 h3=>?_)
  ·exact xS fol h2 hE (o1++[cT,rZ]) (aI (Zck.snd c1) c2)
  exact xS fol h3 hE (o1++[cF,rZ]) (aI (Zck.snd c1) c2)
def Zaz.B:Code:=Tryz.f28.body.getD .skip
def Zaz.rs (r:Int):List CV:=[oI r]
def Zaz.p2 (N:Nat) (c1_:(Int×Int)→Option Int) (A0:Zau) (F2 A8 x6 x7:Int):Option Int:= Zbj (Zbf N A0 A8) fun x9=> c1_ (A8,x9)
def Zaz.p1 (N:Nat) (A0:Zau) (F2:Int) (c1_:(Int×Int)→Option Int):(Int×Int)→Option Int:=fun (A2,h_3)=> if (decide (h_3>F2))=true then Zbj (Zck N A0 A2) fun (x4,x5)=> chk (0≤A2)<| chk (A2<(len A0.leaps))<| ZcS (A0.leaps[zC A2]?) ZcW fun x6=> if (x6 != (-1))=true then Zbj (Zbf N A0 x6) fun x7=> if (decide (x7≥F2))=true then Zaz.p2 N c1_ A0 F2 x6 x6 x7 else Zaz.p2 N c1_ A0 F2 x4.Ahead x6 x7 else Zbj (Zbf N A0 x4.Ahead) fun x10=> c1_ (x4.Ahead,x10) else some A2
def Zaz (N:Nat) (A0:Zau) (A1 F2:Int):Option Int:= Zbj (Zbf N A0 A1) fun x1=> if (decide (F2<0))=true then some (-1) else if (decide (F2>x1))=true then some (-1) else loopN (Zaz.p1 N A0 F2) N (A1,x1)
def Zaz.p2.S (A0:Zau) (F2 A8 x6 x7:Int) (st:LL):S:=mkS 55 [(0,.one (.l (wJ 2 A0.ls))),(2,sI F2),(10,sI A8),(43,.one (.l (wJ 2 A0.ls))),(44,sI x6),(45,sI x7),(46,sI F2),(47,.one (.l (xP (decide (x7≥F2)))))] [] st
def Zaz.p1.S (A0:Zau) (A2 F2 h_3:Int) (st:LL):S:=mkS 55 [(0,.one (.l (wJ 2 A0.ls))),(1,sI A2),(2,sI F2),(7,sI h_3)] [] st
theorem Zaz.p2_ok {A0 F2 A8 x6 x7 st r c1_ J1} (h:Zaz.p2 N c1_ A0 F2 A8 x6 x7=some r) (hE:En Tryz.f28 g0 w0 (Zaz.rs r) st R) (hc1 : ∀A2 h_3,c1_ (A2,h_3)=some r→At g0 w0 (Zaz.p1.S A0 A2 F2 h_3 st) J1):At g0 w0 (Zaz.p2.S A0 F2 A8 x6 x7 st) (XK zE R [cK Zaz.B [1,1,1,0,0,0,1,0,1,1,1],.b 1,.h J1,.b 0,cK Zaz.B [1,1,1,1]]):=by
 unfold Zaz.p2 at h;obtain ⟨x9,c12,h1⟩:=Zae h;exact an fol [.r [(3,q0 [oI x9])]] [0,1,2,7] [] (Zbf.snd c12) (hc1 A8 x9 h1)
theorem Zaz.p1_ok {A0 A2 F2 h_3 st r c1_ J1} (h:Zaz.p1 N A0 F2 c1_ (A2,h_3)=some r) (hE:En Tryz.f28 g0 w0 (Zaz.rs r) st R) (hc1 : ∀A2 h_3,c1_ (A2,h_3)=some r→At g0 w0 (Zaz.p1.S A0 A2 F2 h_3 st) J1):At g0 w0 (Zaz.p1.S A0 A2 F2 h_3 st) (XK zE R (cK Zaz.B [1,1,1,0,0,0] :: .h J1 :: [.b 0,cK Zaz.B [1,1,1,1]])):=by
 unfold Zaz.p1 at h;refine Zba h (fun c4 h2=>?_) (fun c4 h3=>?_)
 ·obtain ⟨⟨x4,x5⟩,c5,h4⟩:=Zae h2;obtain ⟨c6,c7,h5⟩:=ck2 h4;obtain ⟨x6,c8,h6⟩:=Zci h5;let o1:List PS:=[rZ,cT,.r [(2,q0 [.agg x4.ls,oB x5])],rZ,.r [(3,{oe:=A0.ls}),(6,{oe:=[zM .i64 x6]})]]
  have t1 {Q:Prop} (q:Q):=aN c4 (Zck.snd c5) (eO A0.ls) c6 c7 c8 q;refine Zba h6 (fun c9 h7=>?_) (fun c9 h8=>?_)
  ·obtain ⟨x7,c10,h9⟩:=Zae h7;let o2:List PS:=o1++[.r [(5,q0 [oI x7])]]
   have t2 {Q:Prop} (q:Q):=t1 (aO c9 c9 c9 (Zbf.snd c10) c9 c9 c9 q);refine Zba h9 (fun c11 h10=>?_) (fun c11 h11=>?_)
   ·exact aq fol (o2++[cT,rZ,.s 5]) [0,2,10,43,44,45,46,47] [] (t2 c11) (Zaz.p2_ok h10 hE hc1)
   exact aq fol (o2++[cF,.s 5]) [0,2,10,43,44,45,46,47] [] (t2 c11) (Zaz.p2_ok h11 hE hc1)
  obtain ⟨x10,c13,h12⟩:=Zae h8;exact an fol (o1++[.r [(3,wF),(4,wF),(5,wF),(6,wF),(7,wF),(8,yF)],cF,.r [(3,q0 [oI x10])]]) [0,1,2,7] [] (t1 (aO c9 c9 c9 c9 c9 c9 eF (Zbf.snd c13))) (hc1 x4.Ahead x10 h12)
 exact xS fol h3 hE [rZ,cF,rZ] c4
theorem Zaz.snd {A0:Zau} {A1 F2:Int} {r:Int} (h:Zaz N A0 A1 F2=some r):Zdo zE 28 [.one (wJ 2 A0.ls),oI A1,oI F2] (Zaz.rs r):=fun st=>
 sO Zaz.B Tryz.func28 fun g0 w0 R hE=>by
  unfold Zaz at h;obtain ⟨x1,c1,h13⟩:=Zae h;let o3:List PS:=[rZ,.r [(2,q0 [oI x1])]]
  have t3 {Q:Prop} (q:Q):=aI (Zbf.snd c1) q;refine Zba h13 (fun c2 h14=>?_) (fun c2 h15=>?_)
  ·exact xS fol h14 hE (o3++[.r [(3,wF),(4,wF),(5,wF)],cT,rZ]) (t3 (aL c2 c2 c2 c2 eT))
  refine Zba h15 (fun c3 h16=>?_) (fun c3 h17=>?_)
  ·exact xS fol h16 hE (o3++[.r [(6,yF)],cT,rZ]) (t3 (aL c2 c2 c2 c2 c3))
  exact aq fol (o3++[.r [(6,yF)],cF]) [0,1,2,7] [] (t3 (aL c2 c2 c2 c2 c3)) (At.loop N (At.loopN (fun y:Int×Int=>Zaz.p1.S A0 y.1 F2 y.2 st) (fun c J hc y h=>Zaz.p1_ok (A2:=y.1) (h_3:=y.2) h hE (fun A2 h_3=>hc (A2,h_3))) N (A1,x1) h17))
def ZdQ.B:Code:=Tryz.f58.body.getD .skip
def ZdQ.rs (r:ZbY×Bool×LL):List CV:=[.agg r.1.ls,oB r.2.1]
def ZdQ (N:Nat) (A0:Option Nat) (A1:Int) (st:LL):Option (ZbY×Bool×LL):= if (wY A0)=true then some (ZbY.mk (Zal.mk 0 (zB 32 0) (zB 32 0) 0 0 0) (zB 32 0) (-1) 0 (zB 4 0),false,st) else Zbj A0 fun i1=> ZcS (st[i1]?) Zbw fun x2 x3=> Zbj x2 fun i4=> ZcS (st[i4]?) Zby fun x5=> Zbj (ZbW N x5 A1) fun (x6,x7)=> some (x6,x7,st)
theorem ZdQ.snd {A0:Option Nat} {A1:Int} {st:LL} {r:ZbY×Bool×LL} (h:ZdQ N A0 A1 st=some r):Snd zE 58 [.one (yN A0),oI A1] st (ZdQ.rs r) r.2.2:=
 sO ZdQ.B Tryz.func58 fun g0 w0 R hE=>by
  unfold ZdQ at h;refine Zba h (fun c1 h1=>?_) (fun c1 h2=>?_)
  ·exact xU fol h1 hE [rZ,rZ,cT,rZ] c1
  obtain ⟨i1,rfl,h3⟩:=Zae h2;obtain ⟨x2,x3,c3,h4⟩:=Zbe h3;obtain ⟨i4,rfl,h5⟩:=Zae h4;obtain ⟨x5,c5,h6⟩:=Zbl h5;obtain ⟨⟨x6,x7⟩,c6,h7⟩:=Zae h6;exact xU fol h7 hE [rZ,rZ,cF,.r [(3,{oc:=[yN (some i4),yT true 1 x3]}),(5,{rs:=[.agg x6.ls,oB x7],m:=10,cv:=[.one (wJ 87 x5.ls)]})]] (aK c1 c3 (bO 87 c5 (ZaF.bv x5)) (ZbW.snd c6))
def Zdi.B:Code:=Tryz.f57.body.getD .skip
def Zdi.rs (r:Int×LL):List CV:=[oI r.1]
def Zdi (N:Nat) (A0:Option Nat) (A1:Int) (st:LL):Option (Int×LL):= Zbj (ZdQ N A0 A1 st) fun (x1,x2,st3)=> if (!x2)=true then some ((-1),st3) else some (x1.Height,st3)
theorem Zdi.snd {A0:Option Nat} {A1:Int} {st:LL} {r:Int×LL} (h:Zdi N A0 A1 st=some r):Snd zE 57 [.one (yN A0),oI A1] st (Zdi.rs r) r.2:=
 sO Zdi.B Tryz.func57 fun g0 w0 R hE=>by
  unfold Zdi at h;obtain ⟨⟨x1,x2,st3⟩,c1,h1⟩:=Zae h;let o1:List PS:=[rZ,.r [(2,{rs:=[.agg x1.ls,oB x2],st:=st3})],rZ]
  refine Zba h1 (fun c2 h2=>?_) (fun c2 h3=>?_)
  ·exact xT fol h2 hE (o1++[cT,rZ]) (aI (ZdQ.snd c1) c2)
  exact xT fol h3 hE (o1++[cF,rZ]) (aI (ZdQ.snd c1) c2)
def ZaL.B:Code:=Tryz.f28.body.getD .skip
def ZaL.rs (r:Int×LL):List CV:=[oI r.1]
def ZaL.p2 (N:Nat) (c1_:((Option Nat)×Int×Int×LL)→Option (Int×LL)) (i26:Nat) (F2 A35 x33 x34:Int) (st25:LL):Option (Int×LL):= ZcS (st25[i26]?) Zbw fun x36 x37=> Zbj x36 fun i38=> ZcS (st25[i38]?) Zby fun x39=> Zbj (Zbf N (Zau.mk x39 x37) A35) fun x40=> c1_ ((some i26),A35,x40,st25)
def ZaL.p1 (N:Nat) (F2:Int) (c1_:((Option Nat)×Int×Int×LL)→Option (Int×LL)):((Option Nat)×Int×Int×LL)→Option (Int×LL):=fun (A24,A3,A4,st25)=> if (decide (A4>F2))=true then Zbj A24 fun i26=> ZcS (st25[i26]?) Zbw fun x27 x28=> Zbj x27 fun i29=> ZcS (st25[i29]?) Zby fun x30=> Zbj (Zck N (Zau.mk x30 x28) A3) fun (x31,x32)=> chk (0≤A3)<| chk (A3<(len x28))<| ZcS (x28[0+(zC A3)]?) ZcW fun x33=> if (x33 != (-1))=true then Zbj (Zbf N (Zau.mk x30 x28) x33) fun x34=> if (decide (x34≥F2))=true then ZaL.p2 N c1_ i26 F2 x33 x33 x34 st25 else ZaL.p2 N c1_ i26 F2 x31.Ahead x33 x34 st25 else Zbj (Zbf N (Zau.mk x30 x28) x31.Ahead) fun x41=> c1_ ((some i26),x31.Ahead,x41,st25) else some (A3,st25)
def ZaL (N:Nat) (A0:Option Nat) (A1 F2:Int) (st:LL):Option (Int×LL):= Zbj (Zdi N A0 A1 st) fun (x1,st2)=> if (decide (F2<0))=true then some ((-1),st2) else if (decide (F2>x1))=true then some ((-1),st2) else loopN (ZaL.p1 N F2) N (A0,A1,x1,st2)
def ZaL.p2.S (i26:Nat) (F2 A35 x33 x34:Int) (st25:LL):S:=mkS 55 [(0,sP (some i26)),(2,sI F2),(10,sI A35),(43,sP (some i26)),(44,sI x33),(45,sI x34),(46,sI F2),(47,.one (.l (xP (decide (x34≥F2)))))] [] st25
def ZaL.p1.S (A24:Option Nat) (A3 F2 A4:Int) (st25:LL):S:=mkS 55 [(0,sP A24),(1,sI A3),(2,sI F2),(7,sI A4)] [] st25
theorem ZaL.p2_ok {i26 F2 A35 x33 x34 st25 r c1_ J1} (h:ZaL.p2 N c1_ i26 F2 A35 x33 x34 st25=some r) (hE:En Tryz.f28 g0 w0 (ZaL.rs r) r.2 R) (hc1 : ∀A24 A3 A4 st25,c1_ (A24,A3,A4,st25)=some r→At g0 w0 (ZaL.p1.S A24 A3 F2 A4 st25) J1):At g0 w0 (ZaL.p2.S i26 F2 A35 x33 x34 st25) (XK zE R [cK ZaL.B [1,1,1,0,0,0,1,0,1,1,1],.b 1,.h J1,.b 0,cK ZaL.B [1,1,1,1]]):=by
 unfold ZaL.p2 at h;obtain ⟨x36,x37,c35,h1⟩:=Zbe h;obtain ⟨i38,rfl,h2⟩:=Zae h1;obtain ⟨x39,c37,h3⟩:=Zbl h2;obtain ⟨x40,c38,h4⟩:=Zae h3;exact an fol [.r [(3,{rs:=[oI x40],m:=10,cv:=[.one (wJ 2 (Zau.ls (Zau.mk x39 x37)))]})]] [0,1,2,7] [] (aI (bO 2 c35 ((bC 87 c37 (ZaF.bv x39) (bW bN)):BVs st25 [yN (some i38),yT true 1 x37] (Zau.ls (Zau.mk x39 x37)))) (Zbf.snd c38)) (hc1 (some i26) A35 x40 st25 h4)
theorem ZaL.p1_ok {A24 A3 F2 A4 st25 r c1_ J1} (h:ZaL.p1 N F2 c1_ (A24,A3,A4,st25)=some r) (hE:En Tryz.f28 g0 w0 (ZaL.rs r) r.2 R) (hc1 : ∀A24 A3 A4 st25,c1_ (A24,A3,A4,st25)=some r→At g0 w0 (ZaL.p1.S A24 A3 F2 A4 st25) J1):At g0 w0 (ZaL.p1.S A24 A3 F2 A4 st25) (XK zE R (cK ZaL.B [1,1,1,0,0,0] :: .h J1 :: [.b 0,cK ZaL.B [1,1,1,1]])):=by
 unfold ZaL.p1 at h;refine Zba h (fun c23 h5=>?_) (fun c23 h6=>?_)
 ·obtain ⟨i26,rfl,h7⟩:=Zae h5;obtain ⟨x27,x28,c25,h8⟩:=Zbe h7;obtain ⟨i29,rfl,h9⟩:=Zae h8;obtain ⟨x30,c27,h10⟩:=Zbl h9;obtain ⟨⟨x31,x32⟩,c28,h11⟩:=Zae h10;obtain ⟨c29,c30,h12⟩:=ck2 h11;obtain ⟨x33,c31,h13⟩:=Zci h12;let o1:List PS:=[rZ,cT,.r [(2,{rs:=[.agg x31.ls,oB x32],m:=10,cv:=[.one (wJ 2 (Zau.ls (Zau.mk x30 x28)))]})],rZ,.r [(3,{oc:=[yN (some i29),yT true 1 x28]}),(6,{oc:=[yN (some i29),yT true 1 x28],oe:=[zM .i64 x33]})]]
  have t1 {Q:Prop} (q:Q):=aO c23 (bO 2 c25 ((bC 87 c27 (ZaF.bv x30) (bW bN)):BVs st25 [yN (some i29),yT true 1 x28] (Zau.ls (Zau.mk x30 x28)))) (Zck.snd c28) c25 c29 c30 c31 (aI c25 q);refine Zba h13 (fun c32 h14=>?_) (fun c32 h15=>?_)
  ·obtain ⟨x34,c33,h16⟩:=Zae h14;let o2:List PS:=o1++[.r [(5,{rs:=[oI x34],m:=10,cv:=[.one (wJ 2 (Zau.ls (Zau.mk x30 x28)))]})]]
   have t2 {Q:Prop} (q:Q):=t1 (aO c32 c32 c32 (bO 2 c25 ((bC 87 c27 (ZaF.bv x30) (bW bN)):BVs st25 [yN (some i29),yT true 1 x28] (Zau.ls (Zau.mk x30 x28)))) (Zbf.snd c33) c32 c32 (aI c32 q));refine Zba h16 (fun c34 h17=>?_) (fun c34 h18=>?_)
   ·exact aq fol (o2++[cT,rZ,.s 5]) [0,2,10,43,44,45,46,47] [] (t2 c34) (ZaL.p2_ok h17 hE hc1)
   exact aq fol (o2++[cF,.s 5]) [0,2,10,43,44,45,46,47] [] (t2 c34) (ZaL.p2_ok h18 hE hc1)
  obtain ⟨x41,c39,h19⟩:=Zae h15;exact an fol (o1++[.r [(3,wF),(4,wF),(5,wF),(6,wF),(7,wF),(8,yF)],cF,.r [(3,{rs:=[oI x41],m:=10,cv:=[.one (wJ 2 (Zau.ls (Zau.mk x30 x28)))]})]]) [0,1,2,7] [] (t1 (aO c32 c32 c32 c32 c32 c32 eF (aI (bO 2 c25 ((bC 87 c27 (ZaF.bv x30) (bW bN)):BVs st25 [yN (some i29),yT true 1 x28] (Zau.ls (Zau.mk x30 x28)))) (Zbf.snd c39)))) (hc1 (some i26) x31.Ahead x41 st25 h19)
 exact xT fol h6 hE [rZ,cF,rZ] c23
theorem ZaL.snd {A0:Option Nat} {A1 F2:Int} {st:LL} {r:Int×LL} (h:ZaL N A0 A1 F2 st=some r):Snd zE 28 [.one (yN A0),oI A1,oI F2] st (ZaL.rs r) r.2:=
 sO ZaL.B Tryz.func28 fun g0 w0 R hE=>by
  unfold ZaL at h;obtain ⟨⟨x1,st2⟩,c1,h20⟩:=Zae h;let o3:List PS:=[rZ,.r [(2,{rs:=[oI x1],st:=st2})]]
  have t3 {Q:Prop} (q:Q):=aI (Zdi.snd c1) q;refine Zba h20 (fun c2 h21=>?_) (fun c2 h22=>?_)
  ·exact xT fol h21 hE (o3++[.r [(3,wF),(4,wF),(5,wF)],cT,rZ]) (t3 (aL c2 c2 c2 c2 eT))
  refine Zba h22 (fun c3 h23=>?_) (fun c3 h24=>?_)
  ·exact xT fol h23 hE (o3++[.r [(6,yF)],cT,rZ]) (t3 (aL c2 c2 c2 c2 c3))
  exact aq fol (o3++[.r [(6,yF)],cF]) [0,1,2,7] [] (t3 (aL c2 c2 c2 c2 c3)) (At.loop N (At.loopN (fun y:(Option Nat)×Int×Int×LL=>ZaL.p1.S y.1 y.2.1 F2 y.2.2.1 y.2.2.2) (fun c J hc y h=>ZaL.p1_ok (A24:=y.1) (A3:=y.2.1) (A4:=y.2.2.1) (st25:=y.2.2.2) h hE (fun A24 A3 A4 st25=>hc (A24,A3,A4,st25))) N (A0,A1,x1,st2) h24))
def ZbQ.B:Code:=Tryz.f9.body.getD .skip
def ZbQ.rs (r:Int×Int×Int×LL):List CV:=[oI r.1,oI r.2.1,oI r.2.2.1]
def ZbQ.p1 (N:Nat) (x4 x5 x6:Int) (st16:LL):Option (Int×Int×Int×LL):= some (x4,x5,x6,st16)
def ZbQ (N:Nat) (A0:Option Nat) (A1:Zal) (A2:Int) (st:LL):Option (Int×Int×Int×LL):= if (wY A0)=true then some ((-1),0,2,st) else Zbj A0 fun i1=> ZcS (st[i1]?) Zbw fun x2 x3=> Zbj (ZaK N x2 A1 A2 st) fun (x4,x5,x6,st7)=> if (x6==0)=true then ZcS (st7[i1]?) Zbw fun x8 x9=> if (x4==(len x9))=true then Zbj x8 fun i10=> ZcS (st7[i10]?) Zby fun x11=> Zbj (ZbW N x11 x4) fun (x12,x13)=> Zbj (Zea N x12.Height) fun x14=> Zbj (Zaz N (Zau.mk x11 x9) x12.Ahead x14) fun x15=> chk (zG (x9++[[zM .i64 x15]])*8≤140737488355328)<| ZbQ.p1 N x4 x5 x6 (zQ (zQ st7 i1 [yN (some i10),L.gone]) i1 [yN (some i10),yT true 1 (x9++[[zM .i64 x15]])]) else ZbQ.p1 N x4 x5 x6 st7 else some (x4,x5,x6,st7)
def ZbQ.p1.S (x4 x5 x6:Int) (st16:LL):S:=mkS 66 [(9,sI x4),(10,sI x5),(11,sI x6)] [] st16
theorem ZbQ.p1_ok {x4 x5 x6 st16 r} (h:ZbQ.p1 N x4 x5 x6 st16=some r) (hE:En Tryz.f9 g0 w0 (ZbQ.rs r) r.2.2.2 R):At g0 w0 (ZbQ.p1.S x4 x5 x6 st16) (XK zE R [cK ZbQ.B [1,1,1,1]]):=by
 unfold ZbQ.p1 at h;exact xV fol h hE [rZ] trivial
theorem ZbQ.snd {A0:Option Nat} {A1:Zal} {A2:Int} {st:LL} {r:Int×Int×Int×LL} (h:ZbQ N A0 A1 A2 st=some r):Snd zE 9 [.one (yN A0),.agg A1.ls,oI A2] st (ZbQ.rs r) r.2.2.2:=
 sO ZbQ.B Tryz.func9 fun g0 w0 R hE=>by
  unfold ZbQ at h;refine Zba h (fun c1 h1=>?_) (fun c1 h2=>?_)
  ·exact xV fol h1 hE [rZ,rZ,cT,rZ] c1
  obtain ⟨i1,rfl,h3⟩:=Zae h2;obtain ⟨x2,x3,c3,h4⟩:=Zbe h3;obtain ⟨⟨x4,x5,x6,st7⟩,c4,h5⟩:=Zae h4;let o1:List PS:=[rZ,rZ,cF,.d {ds:=[(3,{oc:=[yN x2,yT true 1 x3]}),(6,{rs:=[oI x4,oI x5,oI x6],st:=st7})],hv:=64,Hs:=[64]}]
  have t1 {Q:Prop} (q:Q):=aK c1 c3 (ZaK.snd c4) q;refine Zba h5 (fun c5 h6=>?_) (fun c5 h7=>?_)
  ·obtain ⟨x8,x9,c6,h8⟩:=Zbe h6;refine Zba h8 (fun c7 h9=>?_) (fun c7 h10=>?_)
   ·obtain ⟨i10,rfl,h11⟩:=Zae h9;obtain ⟨x11,c9,h12⟩:=Zbl h11;obtain ⟨⟨x12,x13⟩,c10,h13⟩:=Zae h12;obtain ⟨x14,c11,h14⟩:=Zae h13;obtain ⟨x15,c12,h15⟩:=Zae h14;obtain ⟨c13,h16⟩:=ZaW h15;exact aqd fol (o1++[.r [(7,{oc:=[yN (some i10),yT true 1 x9]})],cT,.r [(3,{oc:=[yN (some i10),yT true 1 x9]}),(5,{rs:=[.agg x12.ls,oB x13],m:=10,cv:=[.one (wJ 87 x11.ls)]})],.d {ds:=[(4,{oc:=[yN (some i10),yT true 1 x9]}),(10,q1 [oI x14]),(11,{rs:=[oI x15],m:=10,cv:=[.one (wJ 2 (Zau.ls (Zau.mk x11 x9)))]}),(13,{oe:=[yN (some i10),yT true 1 x9]}),(16,{oc:=[yN (some i10),L.gone],mv:=[60]})],hv:=79872,Hs:=[2048,6144,14336,79872]},.s 1]) [9,10,11] [] (t1 (aO c5 c5 c5 c5 c5 c6 c5 (aO c5 c5 c7 c6 (bO 87 c9 (ZaF.bv x11)) (ZbW.snd c10) c6 (aO c6 c6 (Zea.snd c11) (bO 2 c6 ((bC 87 c9 (ZaF.bv x11) (bW bN)):BVs st7 [yN (some i10),yT true 1 x9] (Zau.ls (Zau.mk x11 x9)))) (Zaz.snd c12) z0 (eN (zG x9)) (aN c6 z0 (eN (1)) c13 (Zap c6 [yN (some i10),L.gone]) z0 (eN (zG (x9++[[zM .i64 x15]])))))))) (ZbQ.p1_ok h16 hE)
   exact aqd fol (o1++[.r [(7,{oc:=[yN x8,yT true 1 x9]})],cF,.s 1]) [9,10,11] [] (t1 (aO c5 c5 c5 c5 c5 c6 c5 (aJ c5 c5 c7))) (ZbQ.p1_ok h10 hE)
  exact xVd fol h7 hE (o1++[.r [(3,wF),(4,wF),(5,wF),(6,wF),(7,wF),(8,wF),(9,wF),(10,yF)],cF,rZ]) (t1 (aO c5 c5 c5 c5 c5 c5 c5 (aI c5 eF)))
def Zbo.B:Code:=Tryz.f42.body.getD .skip
def Zbo.rs (r:Int):List CV:=[oI r]
def Zbo.p1 (N:Nat) (A0:Zac) (A1_0:List Int) (c1_:Int→Option Int):Int→Option Int:=fun v1=> if (decide (v1<(len A0.Ids)))=true then chk (0≤v1)<| ZcS (A0.Ids[zC v1]?) ZgW fun x2=> if (x2==A1_0)=true then some v1 else c1_ (w64 (v1+1)) else some (-1)
def Zbo (N:Nat) (A0:Zac) (A1_0:List Int):Option Int:= loopN (Zbo.p1 N A0 A1_0) N 0
def Zbo.p1.S (A0:Zac) (v1:Int) (A1_0:List Int) (st:LL):S:=mkS 22 [(3,sA 3),(10,sV 32 A0.Ids),(11,sI (len A0.Ids)),(12,sI v1)] [(3,.cells [zK .u8 32 A1_0])] st
theorem Zbo.p1_ok {A0 v1 A1_0 st r c1_ J1} (h:Zbo.p1 N A0 A1_0 c1_ v1=some r) (hE:En Tryz.f42 g0 w0 (Zbo.rs r) st R) (hc1 : ∀v1,c1_ v1=some r→At g0 w0 (Zbo.p1.S A0 v1 A1_0 st) J1):At g0 w0 (Zbo.p1.S A0 v1 A1_0 st) (XK zE R (cK Zbo.B [1,0,1,0,0] :: .h J1 :: [.b 0,cK Zbo.B [1,1]])):=by
 unfold Zbo.p1 at h;refine Zba h (fun c1 h1=>?_) (fun c1 h2=>?_)
 ·obtain ⟨c2,h3⟩:=ZaW h1;obtain ⟨x2,c3,h4⟩:=Zho h3;let o1:List PS:=[rZ,cT,.r [(2,{oe:=[zK .u8 32 x2]})],rZ]
  refine Zba h4 (fun c4 h5=>?_) (fun c4 h6=>?_)
  ·exact xS fol h5 hE (o1++[cT,rZ]) (aL c1 c2 (oD c1) c3 c4)
  exact an fol (o1++[cF,rZ]) [3,10,11,12] [3] (aL c1 c2 (oD c1) c3 c4) (hc1 (w64 (v1+1)) h6)
 exact xS fol h2 hE [rZ,cF,rZ] c1
theorem Zbo.snd {A0:Zac} {A1_0:List Int} {r:Int} (h:Zbo N A0 A1_0=some r):Zdo zE 42 [.one (wJ 88 A0.ls),.agg [zK .u8 32 A1_0]] (Zbo.rs r):=fun st=>
 sO Zbo.B Tryz.func42 fun g0 w0 R hE=>by
  unfold Zbo at h;exact aq fol [rZ,.r [(3,{oe:=A0.ls})]] [3,10,11,12] [3] (eO A0.ls) (At.loop N (At.loopN (fun y:Int=>Zbo.p1.S A0 y A1_0 st) (fun c J hc y h=>Zbo.p1_ok h hE (fun v1=>hc v1)) N 0 h))
def ZaU.B:Code:=Tryz.f44.body.getD .skip
def ZaU.rs (r:LL):List CV:=[.row true 68 r]
def ZaU.p1 (N:Nat) (A0:Zac) (c1_:(LL×Int)→Option LL):(LL×Int)→Option LL:=fun (A4,F1)=> if (decide (F1≥0))=true then chk (0≤F1)<| chk (F1<(len A0.List_))<| ZcS (A0.List_[zC F1]?) ZdR fun x5=> chk (zG ([x5.ls]++A4)*96≤140737488355328)<| chk (F1<(len A0.Ahead))<| ZcS (A0.Ahead[zC F1]?) ZcW fun x6=> c1_ ([x5.ls]++A4,x6) else some A4
def ZaU (N:Nat) (A0:Zac) (A1:Int):Option LL:= loopN (ZaU.p1 N A0) N ([],A1)
def ZaU.p1.S (A0:Zac) (A4:LL) (F1:Int) (st:LL):S:=mkS 28 [(0,.one (.l (wJ 88 A0.ls))),(5,.one (.h (.row 5 0) 68 0 (zG A4))),(6,sI F1)] [(5,.row 0 true 68 A4)] st
theorem ZaU.p1_ok {A0 A4 F1 st r c1_ J1} (h:ZaU.p1 N A0 c1_ (A4,F1)=some r) (hE:En Tryz.f44 g0 w0 (ZaU.rs r) st R) (hc1 : ∀A4 F1,c1_ (A4,F1)=some r→At g0 w0 (ZaU.p1.S A0 A4 F1 st) J1):At g0 w0 (ZaU.p1.S A0 A4 F1 st) (XK zE R (cK ZaU.B [1,1,0,1,0,0] :: .h J1 :: [.b 0,cK ZaU.B [1,1,1]])):=by
 unfold ZaU.p1 at h;refine Zba h (fun c8 h1=>?_) (fun c8 h2=>?_)
 ·obtain ⟨c9,c10,h3⟩:=ck2 h1;obtain ⟨x5,c11,h4⟩:=Zen h3;obtain ⟨c12,c13,h5⟩:=ck2 h4;obtain ⟨x6,c14,h6⟩:=Zci h5;exact an fol [rZ,cT,.r [(3,{oe:=A0.ls}),(6,{oe:=x5.ls}),(10,{m:=4})],.r [(3,{oe:=A0.ls}),(6,{oe:=[zM .i64 x6]})]] [0,5,6] [5] (aO c8 (eO A0.ls) c9 c10 c11 z0 (eN (1)) (aN z0 (eN (zG A4)) c12 (eO A0.ls) c9 c13 c14)) (hc1 ([x5.ls]++A4) x6 h6)
 obtain rfl:=Zad h2;exact af fol hE [rZ,cF,rZ] [] 0 [0] (aJ c8 z0 (eN (zG A4)))
theorem ZaU.snd {A0:Zac} {A1:Int} {r:LL} (h:ZaU N A0 A1=some r):Zdo zE 44 [.one (wJ 88 A0.ls),oI A1] (ZaU.rs r):=fun st=>
 sO ZaU.B Tryz.func44 fun g0 w0 R hE=>by
  unfold ZaU at h;exact aq fol [.r [(0,{m:=2})],.r [(0,{m:=1})],rZ] [0,5,6] [5] trivial (At.loop N (At.loopN (fun y:LL×Int=>ZaU.p1.S A0 y.1 y.2 st) (fun c J hc y h=>ZaU.p1_ok (A4:=y.1) (F1:=y.2) h hE (fun A4 F1=>hc (A4,F1))) N ([],A1) h))
def Zaw.B:Code:=Tryz.f138.body.getD .skip
def Zaw.rs (r:(List Int)×Bool):List CV:=[.agg [zK .u64 4 r.1],oB r.2]
def Zaw.p2 (N:Nat) (c1_:(Int×Int×(List Int))→Option ((List Int)×Bool)) (F1 F2 A1 A2 A12:Int) (A0_0 A11:List Int):Option ((List Int)×Bool):= chk (0≤A2)<| chk (A2<10)<| c1_ (w64 (zR (w64 ((w64 (A12*F1))+A1)) 4294967296),w64 (A2+1),zQ A11 (zC A2) (yA (w64 ((w64 (A12*F1))+A1)) 4294967296))
def Zaw.p4 (N:Nat) (A17:List Int) (c4_:(Int×(List Int))→Option ((List Int)×Bool)):(Int×(List Int))→Option ((List Int)×Bool):=fun (A18,A19)=> if (decide (A18<8))=true then chk (0≤(w64 (zR A18 2)))<| chk ((w64 (zR A18 2))<4)<| chk (0≤A18)<| chk (A18<10)<| chk (0≤(v64 (w64 (32*(yA A18 2)))))<| c4_ (w64 (A18+1),zQ A19 (zC (w64 (zR A18 2))) (v64 ((zF A19 (zC (w64 (zR A18 2))) 0)+(ZbB .u64 (v64 (zF A17 (zC A18) 0)) (v64 (w64 (32*(yA A18 2)))))))) else if ((zF A17 8 0)==0)=true then some (A19,(zF A17 9 0)==0) else some (A19,false)
def Zaw.p3 (N:Nat) (F2:Int) (A11:List Int) (c3_:(Int×Int×(List Int))→Option ((List Int)×Bool)):(Int×Int×(List Int))→Option ((List Int)×Bool):=fun (A13,A14,A17)=> if (decide (A14≥0))=true then chk (0≤A14)<| chk (A14<10)<| chk (F2≠0)<| c3_ (yA (w64 ((w64 (A13*4294967296))+(zF A11 (zC A14) 0))) F2,w64 (A14-1),zQ A17 (zC A14) (w64 (zR (w64 ((w64 (A13*4294967296))+(zF A11 (zC A14) 0))) F2))) else loopN (Zaw.p4 N A17) N (0,zB 4 0)
def Zaw.p1 (N:Nat) (F1 F2:Int) (A0_0:List Int) (c1_:(Int×Int×(List Int))→Option ((List Int)×Bool)):(Int×Int×(List Int))→Option ((List Int)×Bool):=fun (A1,A2,A11)=> if (decide (A2<10))=true then if (decide (A2<8))=true then chk (0≤(w64 (zR A2 2)))<| chk ((w64 (zR A2 2))<4)<| chk (0≤(v64 (w64 (32*(yA A2 2)))))<| Zaw.p2 N c1_ F1 F2 A1 A2 (w64 (yA (Zbn .u64 (zF A0_0 (zC (w64 (zR A2 2))) 0) (v64 (w64 (32*(yA A2 2))))) 4294967296)) A0_0 A11 else Zaw.p2 N c1_ F1 F2 A1 A2 0 A0_0 A11 else loopN (Zaw.p3 N F2 A11) N (0,9,zB 10 0)
def Zaw (N:Nat) (A0_0:List Int) (F1 F2:Int):Option ((List Int)×Bool):= loopN (Zaw.p1 N F1 F2 A0_0) N (0,0,zB 10 0)
def Zaw.p2.S (F1 F2 A1 A2 A12:Int) (A0_0 A11:List Int) (st:LL):S:=mkS 96 [(1,sI F1),(2,sI F2),(3,sA 3),(6,sA 6),(8,sA 8),(9,sI A1),(10,sI A2),(11,sI A12)] [(3,.cells [zK .u64 4 A0_0]),(6,.cells [zK .u64 4 (zB 4 0)]),(8,.cells [zK .i64 10 A11])] st
def Zaw.p4.S (A18:Int) (A17 A19:List Int) (st:LL):S:=mkS 96 [(6,sA 6),(14,sA 14),(17,sA 17),(18,sI A18)] [(6,.cells [zK .u64 4 (zB 4 0)]),(14,.cells [zK .i64 10 A17]),(17,.cells [zK .u64 4 A19])] st
def Zaw.p3.S (F2 A13 A14:Int) (A11 A17:List Int) (st:LL):S:=mkS 96 [(2,sI F2),(6,sA 6),(8,sA 8),(13,sI A13),(14,sA 14),(15,sI A14)] [(6,.cells [zK .u64 4 (zB 4 0)]),(8,.cells [zK .i64 10 A11]),(14,.cells [zK .i64 10 A17])] st
def Zaw.p1.S (F1 F2 A1 A2:Int) (A0_0 A11:List Int) (st:LL):S:=mkS 96 [(1,sI F1),(2,sI F2),(3,sA 3),(6,sA 6),(8,sA 8),(9,sI A1),(10,sI A2)] [(3,.cells [zK .u64 4 A0_0]),(6,.cells [zK .u64 4 (zB 4 0)]),(8,.cells [zK .i64 10 A11])] st
theorem Zaw.p2_ok {F1 F2 A1 A2 A12 A0_0 A11 st r c1_ J1} (h:Zaw.p2 N c1_ F1 F2 A1 A2 A12 A0_0 A11=some r) (hE:En Tryz.f138 g0 w0 (Zaw.rs r) st R) (hc1 : ∀A1 A2 A11,c1_ (A1,A2,A11)=some r→At g0 w0 (Zaw.p1.S F1 F2 A1 A2 A0_0 A11 st) J1):At g0 w0 (Zaw.p2.S F1 F2 A1 A2 A12 A0_0 A11 st) (XK zE R [cK Zaw.B [1,1,1,0,1,0,0,1,0,0,1,1],.b 1,cK Zaw.B [1,1,1,0,1,0,0,1,1],.h J1,.b 0,cK Zaw.B [1,1,1,1]]):=by
 unfold Zaw.p2 at h;obtain ⟨c49,c50,h1⟩:=ck2 h;exact an fol [rZ,rZ,rZ,rZ] [1,2,3,6,8,9,10] [3,6,8] (aK (neI 4294967296) c49 c50 (neI 4294967296)) (hc1 (w64 (zR (w64 ((w64 (A12*F1))+A1)) 4294967296)) (w64 (A2+1)) (zQ A11 (zC A2) (yA (w64 ((w64 (A12*F1))+A1)) 4294967296)) h1)
theorem Zaw.p4_ok {A18 A17 A19 st r c4_ J4} (h:Zaw.p4 N A17 c4_ (A18,A19)=some r) (hE:En Tryz.f138 g0 w0 (Zaw.rs r) st R) (hc4 : ∀A18 A19,c4_ (A18,A19)=some r→At g0 w0 (Zaw.p4.S A18 A17 A19 st) J4):At g0 w0 (Zaw.p4.S A18 A17 A19 st) (XK zE R (cK Zaw.B [1,1,1,1,1,1,1,1,0,1,0,0] :: .h J4 :: [.b 4,cK Zaw.B [1,1,1,1,1,1,1,1,1]])):=by
 unfold Zaw.p4 at h;refine Zba h (fun c80 h2=>?_) (fun c80 h3=>?_)
 ·obtain ⟨c81,c82,c83,c84,c85,h4⟩:=ck5 h2;exact ZkD fol [rZ,cT,.d {ds:=[],hv:=131072,Hs:=[131072]},rZ] [6,14,17,18] [6,14,17] (aO c80 (neI 2) (neI 2) c81 c82 c83 c84 (aK (neI 2) c85 c81 c82)) (hc4 (w64 (A18+1)) (zQ A19 (zC (w64 (zR A18 2))) (v64 ((zF A19 (zC (w64 (zR A18 2))) 0)+(ZbB .u64 (v64 (zF A17 (zC A18) 0)) (v64 (w64 (32*(yA A18 2)))))))) h4)
 refine Zba h3 (fun c86 h5=>?_) (fun c86 h6=>?_)
 ·exact xSd fol h5 hE [rZ,cF,.d {ds:=[],hv:=512,Hs:=[512]}] (aI c80 (ix 8 10 (aI c86 (ix 9 10 (aI c86 (ix 9 10 (aM c86 c86 c86 c86 c86 c86)))))))
 exact xSd fol h6 hE [rZ,cF,.d {ds:=[(5,wF),(6,wF),(7,wF),(8,yF)],hv:=512,Hs:=[512]}] (aI c80 (ix 8 10 (aO c86 c86 c86 c86 c86 c86 c86 c86)))
theorem Zaw.p3_ok {F2 A13 A14 A11 A17 st r c3_ J3} (h:Zaw.p3 N F2 A11 c3_ (A13,A14,A17)=some r) (hE:En Tryz.f138 g0 w0 (Zaw.rs r) st R) (hc3 : ∀A13 A14 A17,c3_ (A13,A14,A17)=some r→At g0 w0 (Zaw.p3.S F2 A13 A14 A11 A17 st) J3):At g0 w0 (Zaw.p3.S F2 A13 A14 A11 A17 st) (XK zE R (cK Zaw.B [1,1,1,1,1,1,0,1,0,0] :: .h J3 :: [.b 2,cK Zaw.B [1,1,1,1,1,1,1]])):=by
 unfold Zaw.p3 at h;refine Zba h (fun c69 h7=>?_) (fun c69 h8=>?_)
 ·obtain ⟨c70,c71,c72,h9⟩:=ck3 h7;exact an fol [rZ,cT,rZ,rZ,rZ,rZ] [2,6,8,13,14,15] [6,8,14] (aN c69 c70 c71 c72 c70 c71 c72) (hc3 (yA (w64 ((w64 (A13*4294967296))+(zF A11 (zC A14) 0))) F2) (w64 (A14-1)) (zQ A17 (zC A14) (w64 (zR (w64 ((w64 (A13*4294967296))+(zF A11 (zC A14) 0))) F2))) h9)
 exact aq fol [rZ,cF,rZ,rZ] [6,14,17,18] [6,14,17] c69 (At.loop N (At.loopN (fun y:Int×(List Int)=>Zaw.p4.S y.1 A17 y.2 st) (fun c J hc y h=>Zaw.p4_ok (A18:=y.1) (A19:=y.2) h hE (fun A18 A19=>hc (A18,A19))) N (0,zB 4 0) h8))
theorem Zaw.p1_ok {F1 F2 A1 A2 A0_0 A11 st r c1_ J1} (h:Zaw.p1 N F1 F2 A0_0 c1_ (A1,A2,A11)=some r) (hE:En Tryz.f138 g0 w0 (Zaw.rs r) st R) (hc1 : ∀A1 A2 A11,c1_ (A1,A2,A11)=some r→At g0 w0 (Zaw.p1.S F1 F2 A1 A2 A0_0 A11 st) J1):At g0 w0 (Zaw.p1.S F1 F2 A1 A2 A0_0 A11 st) (XK zE R (cK Zaw.B [1,1,1,0,1,0,0] :: .h J1 :: [.b 0,cK Zaw.B [1,1,1,1]])):=by
 unfold Zaw.p1 at h;refine Zba h (fun c44 h10=>?_) (fun c44 h11=>?_)
 ·refine Zba h10 (fun c45 h12=>?_) (fun c45 h13=>?_)
  ·obtain ⟨c46,c47,c48,h14⟩:=ck3 h12;exact aq fol [rZ,cT,rZ,rZ,cT,rZ,.s 6] [1,2,3,6,8,9,10,11] [3,6,8] (aO c44 c45 (neI 2) c46 c47 (neI 2) c48 (neI 4294967296)) (Zaw.p2_ok h14 hE hc1)
  exact aq fol [rZ,cT,rZ,rZ,cF,.s 6] [1,2,3,6,8,9,10,11] [3,6,8] (aI c44 c45) (Zaw.p2_ok h13 hE hc1)
 exact aq fol [rZ,cF,rZ,rZ,rZ] [2,6,8,13,14,15] [6,8,14] c44 (At.loop N (At.loopN (fun y:Int×Int×(List Int)=>Zaw.p3.S F2 y.1 y.2.1 A11 y.2.2 st) (fun c J hc y h=>Zaw.p3_ok (A13:=y.1) (A14:=y.2.1) (A17:=y.2.2) h hE (fun A13 A14 A17=>hc (A13,A14,A17))) N (0,9,zB 10 0) h11))
theorem Zaw.snd {A0_0:List Int} {F1 F2:Int} {r:(List Int)×Bool} (h:Zaw N A0_0 F1 F2=some r):Zdo zE 138 [.agg [zK .u64 4 A0_0],oI F1,oI F2] (Zaw.rs r):=fun st=>
 sO Zaw.B Tryz.func138 fun g0 w0 R hE=>by
  unfold Zaw at h;exact aq fol [rZ,rZ,rZ,rZ] [1,2,3,6,8,9,10] [3,6,8] trivial (At.loop N (At.loopN (fun y:Int×Int×(List Int)=>Zaw.p1.S F1 F2 y.1 y.2.1 A0_0 y.2.2 st) (fun c J hc y h=>Zaw.p1_ok (A1:=y.1) (A2:=y.2.1) (A11:=y.2.2) h hE (fun A1 A2 A11=>hc (A1,A2,A11))) N (0,0,zB 10 0) h))
def ZaA.B:Code:=Tryz.f139.body.getD .skip
def ZaA.rs (r:Int):List CV:=[oI r]
def ZaA.p2 (N:Nat) (c1_:(Int×Int)→Option Int) (A4 A2:Int) (A0_0:List Int):Option Int:= c1_ (A4,w64 (A2+1))
def ZaA.p4 (N:Nat) (A8 A9:Int):Option Int:= some (w64 ((w64 (A8*16777216))+A9))
def ZaA.p3 (N:Nat) (A1 A7:Int):Option Int:= if (decide (A7≥8388608))=true then ZaA.p4 N (w64 (A1+1)) (w64 (zR A7 256)) else ZaA.p4 N A1 A7
def ZaA.p1 (N:Nat) (A0_0:List Int) (c1_:(Int×Int)→Option Int):(Int×Int)→Option Int:=fun (A1,A2)=> if (decide (A2<32))=true then Zbj (Zao N A0_0 (w64 ((-8)*A2))) fun x3=> if (decide ((yA (zF x3 0 0) 256)>0))=true then ZaA.p2 N c1_ (w64 (A2+1)) A2 A0_0 else ZaA.p2 N c1_ A1 A2 A0_0 else Zbj (Zao N A0_0 (w64 (8*(w64 (3-A1))))) fun x5=> if (decide (A1>3))=true then Zbj (Zao N A0_0 (w64 ((-8)*(w64 (A1-3))))) fun x6=> ZaA.p3 N A1 (w64 (yA (zF x6 0 0) 16777216)) else ZaA.p3 N A1 (w64 (yA (zF x5 0 0) 16777216))
def ZaA (N:Nat) (A0_0:List Int):Option Int:= loopN (ZaA.p1 N A0_0) N (0,0)
def ZaA.p2.S (A4 A2:Int) (A0_0:List Int) (st:LL):S:=mkS 49 [(1,sA 1),(3,sI A4),(4,sI A2)] [(1,.cells [zK .u64 4 A0_0])] st
def ZaA.p4.S (A8 A9:Int) (st:LL):S:=mkS 49 [(3,sI A8),(6,sI A9)] [] st
def ZaA.p3.S (A1 A7:Int) (st:LL):S:=mkS 49 [(3,sI A1),(6,sI A7)] [] st
def ZaA.p1.S (A1 A2:Int) (A0_0:List Int) (st:LL):S:=mkS 49 [(1,sA 1),(3,sI A1),(4,sI A2)] [(1,.cells [zK .u64 4 A0_0])] st
theorem ZaA.p2_ok {A4 A2 A0_0 st r c1_ J1} (h:ZaA.p2 N c1_ A4 A2 A0_0=some r) (hE:En Tryz.f139 g0 w0 (ZaA.rs r) st R) (hc1 : ∀A1 A2,c1_ (A1,A2)=some r→At g0 w0 (ZaA.p1.S A1 A2 A0_0 st) J1):At g0 w0 (ZaA.p2.S A4 A2 A0_0 st) (XK zE R [cK ZaA.B [1,1,0,1,0,0,1,1],.h J1,.b 0,cK ZaA.B [1,1,1]]):=by
 unfold ZaA.p2 at h;exact an fol [rZ] [1,3,4] [1] trivial (hc1 A4 (w64 (A2+1)) h)
theorem ZaA.p4_ok {A8 A9 st r} (h:ZaA.p4 N A8 A9=some r) (hE:En Tryz.f139 g0 w0 (ZaA.rs r) st R):At g0 w0 (ZaA.p4.S A8 A9 st) (XK zE R [cK ZaA.B [1,1,1,1,1,1]]):=by
 unfold ZaA.p4 at h;exact xS fol h hE [rZ] trivial
theorem ZaA.p3_ok {A1 A7 st r} (h:ZaA.p3 N A1 A7=some r) (hE:En Tryz.f139 g0 w0 (ZaA.rs r) st R):At g0 w0 (ZaA.p3.S A1 A7 st) (XK zE R [cK ZaA.B [1,1,1,1,1]]):=by
 unfold ZaA.p3 at h;refine Zba h (fun c7 h1=>?_) (fun c7 h2=>?_)
 ·exact aq fol [rZ,cT,rZ,rZ,.s 1] [3,6] [] (aI c7 (neI 256)) (ZaA.p4_ok h1 hE)
 exact aq fol [rZ,cF,.s 1] [3,6] [] c7 (ZaA.p4_ok h2 hE)
theorem ZaA.p1_ok {A1 A2 A0_0 st r c1_ J1} (h:ZaA.p1 N A0_0 c1_ (A1,A2)=some r) (hE:En Tryz.f139 g0 w0 (ZaA.rs r) st R) (hc1 : ∀A1 A2,c1_ (A1,A2)=some r→At g0 w0 (ZaA.p1.S A1 A2 A0_0 st) J1):At g0 w0 (ZaA.p1.S A1 A2 A0_0 st) (XK zE R (cK ZaA.B [1,1,0,1,0,0] :: .h J1 :: [.b 0,cK ZaA.B [1,1,1]])):=by
 unfold ZaA.p1 at h;refine Zba h (fun c1 h3=>?_) (fun c1 h4=>?_)
 ·obtain ⟨x3,c2,h5⟩:=Zae h3;let o1:List PS:=[rZ,cT,.r [(3,q1 [.agg [zK .u64 4 x3]])],rZ]
  have t1 {Q:Prop} (q:Q):=aJ c1 (Zao.snd c2) (ix 0 4 (aI (neI 256) q));refine Zba h5 (fun c3 h6=>?_) (fun c3 h7=>?_)
  ·exact aq fol (o1++[cT,rZ,.s 4]) [1,3,4] [1] (t1 c3) (ZaA.p2_ok h6 hE hc1)
  exact aq fol (o1++[cF,.s 4]) [1,3,4] [1] (t1 c3) (ZaA.p2_ok h7 hE hc1)
 obtain ⟨x5,c4,h8⟩:=Zae h4;let o2:List PS:=[rZ,cF,.r [(4,q1 [.agg [zK .u64 4 x5]])],rZ]
 have t2 {Q:Prop} (q:Q):=aJ c1 (Zao.snd c4) (ix 0 4 (aI (neI 16777216) q));refine Zba h8 (fun c5 h9=>?_) (fun c5 h10=>?_)
 ·obtain ⟨x6,c6,h11⟩:=Zae h9;exact aq fol (o2++[cT,.r [(4,q1 [.agg [zK .u64 4 x6]])],.s 1]) [3,6] [] (t2 (aJ c5 (Zao.snd c6) (ix 0 4 (neI 16777216)))) (ZaA.p3_ok h11 hE)
 exact aq fol (o2++[cF,.s 1]) [3,6] [] (t2 c5) (ZaA.p3_ok h10 hE)
theorem ZaA.snd {A0_0:List Int} {r:Int} (h:ZaA N A0_0=some r):Zdo zE 139 [.agg [zK .u64 4 A0_0]] (ZaA.rs r):=fun st=>
 sO ZaA.B Tryz.func139 fun g0 w0 R hE=>by
  unfold ZaA at h;exact aq fol [rZ,rZ,rZ] [1,3,4] [1] trivial (At.loop N (At.loopN (fun y:Int×Int=>ZaA.p1.S y.1 y.2 A0_0 st) (fun c J hc y h=>ZaA.p1_ok (A1:=y.1) (A2:=y.2) h hE (fun A1 A2=>hc (A1,A2))) N (0,0) h))
def ZaC.B:Code:=Tryz.f119.body.getD .skip
def ZaC.rs (r:Int):List CV:=[oI r]
def ZaC.p3 (N:Nat) (A11:List Int):Option Int:= Zbj (ZaA N A11) fun x12=> some x12
def ZaC.p2 (N:Nat) (A0:Zah) (A5:Int) (x1:List Int):Option Int:= Zbj (Zaw N x1 A5 (w64 (A0.Interval*A0.Spacing))) fun (x6,x7)=> Zbj (Zcz N A0.Limit A0.Limit) fun (x8,x9)=> if (!x7)=true then some A0.Limit else Zbj (Zbt N x8 x6) fun x10=> if x10=true then some A0.Limit else if (x6==(zB 4 0))=true then ZaC.p3 N [1,0,0,0] else ZaC.p3 N x6
def ZaC.p1 (N:Nat) (A0:Zah) (A4:Int) (x1:List Int):Option Int:= if (decide (A4>(w64 ((w64 (A0.Interval*A0.Spacing))*4))))=true then ZaC.p2 N A0 (w64 ((w64 (A0.Interval*A0.Spacing))*4)) x1 else ZaC.p2 N A0 A4 x1
def ZaC (N:Nat) (A0:Zah) (A1 A2 A3:Int):Option Int:= Zbj (Zcz N A1 A0.Limit) fun (x1,x2)=> Zbj (ZdA N A0) fun x3=> if (!x3)=true then some A0.Limit else if (!x2)=true then some A0.Limit else if (decide ((w64 (A3-A2))<(w64 (zR (w64 (A0.Interval*A0.Spacing)) 4))))=true then ZaC.p1 N A0 (w64 (zR (w64 (A0.Interval*A0.Spacing)) 4)) x1 else ZaC.p1 N A0 (w64 (A3-A2)) x1
def ZaC.p3.S (A11:List Int) (st:LL):S:=mkS 83 [(13,sA 13)] [(13,.cells [zK .u64 4 A11])] st
def ZaC.p2.S (A0:Zah) (A5:Int) (x1:List Int) (st:LL):S:=mkS 83 [(4,sA 4),(9,sA 9),(11,sI (w64 (A0.Interval*A0.Spacing))),(12,sI A5)] [(4,.cells A0.ls),(9,.cells [zK .u64 4 x1])] st
def ZaC.p1.S (A0:Zah) (A4:Int) (x1:List Int) (st:LL):S:=mkS 83 [(4,sA 4),(9,sA 9),(11,sI (w64 (A0.Interval*A0.Spacing))),(12,sI A4)] [(4,.cells A0.ls),(9,.cells [zK .u64 4 x1])] st
theorem ZaC.p3_ok {A11 st r} (h:ZaC.p3 N A11=some r) (hE:En Tryz.f119 g0 w0 (ZaC.rs r) st R):At g0 w0 (ZaC.p3.S A11 st) (XK zE R [cK ZaC.B [1,1,1,1,1,1,1,1,1,1,1]]):=by
 unfold ZaC.p3 at h;obtain ⟨x12,c13,h1⟩:=Zae h;exact xS fol h1 hE [.r [(1,q1 [oI x12])]] (ZaA.snd c13)
theorem ZaC.p2_ok {A0 A5 x1 st r} (h:ZaC.p2 N A0 A5 x1=some r) (hE:En Tryz.f119 g0 w0 (ZaC.rs r) st R):At g0 w0 (ZaC.p2.S A0 A5 x1 st) (XK zE R [cK ZaC.B [1,1,1,1,1,1,1]]):=by
 unfold ZaC.p2 at h;obtain ⟨⟨x6,x7⟩,c7,h2⟩:=Zae h;obtain ⟨⟨x8,x9⟩,c8,h3⟩:=Zae h2;let o1:List PS:=[.r [(3,q1 [.agg [zK .u64 4 x6],oB x7])],.r [(4,q1 [.agg [zK .u64 4 x8],oB x9])]]
 have t1 {Q:Prop} (q:Q):=aJ (Zaw.snd c7) (Zcz.snd c8) q;refine Zba h3 (fun c9 h4=>?_) (fun c9 h5=>?_)
 ·exact xS fol h4 hE (o1++[.r [(3,wF),(4,wF),(5,wF)],cT,rZ]) (t1 (aL (not_false (ZbN c9)) (not_false (ZbN c9)) (not_false (ZbN c9)) (not_false (ZbN c9)) eT))
 obtain ⟨x10,c10,h6⟩:=Zae h5;let o2:List PS:=o1++[.r [(5,q1 [oB x10]),(6,yF)]]
 have t2 {Q:Prop} (q:Q):=t1 (aM (not_true (ZbO c9)) (not_true (ZbO c9)) (not_true (ZbO c9)) (Zbt.snd c10) (not_true (ZbO c9)) q);refine Zba h6 (fun c11 h7=>?_) (fun c11 h8=>?_)
 ·exact xS fol h7 hE (o2++[cT,rZ]) (t2 c11)
 refine Zba h8 (fun c12 h9=>?_) (fun c12 h10=>?_)
 ·exact aq fol (o2++[cF,rZ,cT,.r [(0,{m:=3})],.s 1]) [13] [13] (t2 (aI c11 c12)) (ZaC.p3_ok h9 hE)
 exact aq fol (o2++[cF,rZ,cF,.s 1]) [13] [13] (t2 (aI c11 c12)) (ZaC.p3_ok h10 hE)
theorem ZaC.p1_ok {A0 A4 x1 st r} (h:ZaC.p1 N A0 A4 x1=some r) (hE:En Tryz.f119 g0 w0 (ZaC.rs r) st R):At g0 w0 (ZaC.p1.S A0 A4 x1 st) (XK zE R [cK ZaC.B [1,1,1,1,1,1]]):=by
 unfold ZaC.p1 at h;refine Zba h (fun c6 h11=>?_) (fun c6 h12=>?_)
 ·exact aq fol [rZ,cT,rZ,.s 1] [4,9,11,12] [4,9] c6 (ZaC.p2_ok h11 hE)
 exact aq fol [rZ,cF,.s 1] [4,9,11,12] [4,9] c6 (ZaC.p2_ok h12 hE)
theorem ZaC.snd {A0:Zah} {A1 A2 A3:Int} {r:Int} (h:ZaC N A0 A1 A2 A3=some r):Zdo zE 119 [.agg A0.ls,oI A1,oI A2,oI A3] (ZaC.rs r):=fun st=>
 sO ZaC.B Tryz.func119 fun g0 w0 R hE=>by
  unfold ZaC at h;obtain ⟨⟨x1,x2⟩,c1,h13⟩:=Zae h;obtain ⟨x3,c2,h14⟩:=Zae h13;let o3:List PS:=[rZ,.r [(3,q1 [.agg [zK .u64 4 x1],oB x2])]]
  have t3 {Q:Prop} (q:Q):=aJ (Zcz.snd c1) (ZdA.snd c2) q;refine Zba h14 (fun c3 h15=>?_) (fun c3 h16=>?_)
  ·exact xS fol h15 hE (o3++[.r [(1,q1 [oB x3]),(4,wF),(5,wF)],cT,rZ]) (t3 (aK (not_false (ZbN c3)) (not_false (ZbN c3)) (not_false (ZbN c3)) eT))
  let o4:List PS:=o3++[.r [(1,q1 [oB x3]),(6,yF)]]
  have t4 {Q:Prop} (q:Q):=t3 (aK (not_true (ZbO c3)) (not_true (ZbO c3)) (not_true (ZbO c3)) q);refine Zba h16 (fun c4 h17=>?_) (fun c4 h18=>?_)
  ·exact xS fol h17 hE (o4++[cT,rZ]) (t4 c4)
  refine Zba h18 (fun c5 h19=>?_) (fun c5 h20=>?_)
  ·exact aq fol (o4++[cF,rZ,rZ,rZ,cT,rZ,.s 1]) [4,9,11,12] [4,9] (t4 (aK c4 (neI 4) c5 (neI 4))) (ZaC.p1_ok h19 hE)
  exact aq fol (o4++[cF,rZ,rZ,rZ,cF,.s 1]) [4,9,11,12] [4,9] (t4 (aJ c4 (neI 4) c5)) (ZaC.p1_ok h20 hE)
def Zco.B:Code:=Tryz.f99.body.getD .skip
def Zco.rs (r:Int):List CV:=[oI r]
def Zco.p1 (N:Nat) (A2 A3 A5 A6:Int) (A0:Zah):Option Int:= if (!A0.Easy)=true then some A2 else if (decide ((w64 (A6-A3))>(w64 (2*A0.Spacing))))=true then some A0.Limit else some A5
def Zco (N:Nat) (A0:Zah) (A1 A2 A3 A4 A5 A6:Int):Option Int:= if (decide (A1≤0))=true then some A0.Limit else if (decide (A0.Interval>0))=true then chk (A0.Interval≠0)<| if ((yA A1 A0.Interval)==0)=true then Zbj (ZaC N A0 A2 A4 A3) fun x1=> some x1 else Zco.p1 N A2 A3 A5 A6 A0 else Zco.p1 N A2 A3 A5 A6 A0
def Zco.p1.S (A2 A3 A5 A6:Int) (A0:Zah) (st:LL):S:=mkS 48 [(2,sI A2),(3,sI A3),(5,sI A5),(6,sI A6),(7,sA 7)] [(7,.cells A0.ls)] st
theorem Zco.p1_ok {A2 A3 A5 A6 A0 st r} (h:Zco.p1 N A2 A3 A5 A6 A0=some r) (hE:En Tryz.f99 g0 w0 (Zco.rs r) st R):At g0 w0 (Zco.p1.S A2 A3 A5 A6 A0 st) (XK zE R [cK Zco.B [1,1,1]]):=by
 unfold Zco.p1 at h;refine Zba h (fun c6 h1=>?_) (fun c6 h2=>?_)
 ·exact xS fol h1 hE [rZ,cT,rZ] c6
 refine Zba h2 (fun c7 h3=>?_) (fun c7 h4=>?_)
 ·exact xS fol h3 hE [rZ,cF,rZ,cT,rZ] (aI c6 c7)
 exact xS fol h4 hE [rZ,cF,rZ,cF,rZ] (aI c6 c7)
theorem Zco.snd {A0:Zah} {A1 A2 A3 A4 A5 A6:Int} {r:Int} (h:Zco N A0 A1 A2 A3 A4 A5 A6=some r):Zdo zE 99 [.agg A0.ls,oI A1,oI A2,oI A3,oI A4,oI A5,oI A6] (Zco.rs r):=fun st=>
 sO Zco.B Tryz.func99 fun g0 w0 R hE=>by
  unfold Zco at h;refine Zba h (fun c1 h5=>?_) (fun c1 h6=>?_)
  ·exact xS fol h5 hE [rZ,rZ,cT,rZ] c1
  let o1:List PS:=[rZ,rZ,cF]
  refine Zba h6 (fun c2 h7=>?_) (fun c2 h8=>?_)
  ·obtain ⟨c3,h9⟩:=ZaW h7;refine Zba h9 (fun c4 h10=>?_) (fun c4 h11=>?_)
   ·obtain ⟨x1,c5,h12⟩:=Zae h10;exact xS fol h12 hE (o1++[rZ,cT,.r [(4,q1 [oI x1])]]) (aO c1 c2 c2 c2 c2 c3 c2 (aJ c2 c4 (ZaC.snd c5)))
   exact aq fol (o1++[rZ,cF,.s 1]) [2,3,5,6,7] [7] (aO c1 c2 c2 c2 c2 c3 c2 (aI c2 c4)) (Zco.p1_ok h11 hE)
  exact aq fol (o1++[.r [(4,wF),(5,wF),(6,wF),(7,wF),(8,wF),(9,yF)],cF,.s 1]) [2,3,5,6,7] [7] (aO c1 c2 c2 c2 c2 c2 c2 eF) (Zco.p1_ok h8 hE)
def ZaE.B:Code:=Tryz.f70.body.getD .skip
def ZaE.rs (r:Int):List CV:=[oI r]
def ZaE.p4 (N:Nat) (c1_:(Int×Int×Int)→Option Int) (A2:Int) (A1:LL) (A7 A8 v4:Int) (A0:Zah) (x1:Zal):Option Int:= c1_ (A7,A8,w64 (v4+1))
def ZaE.p3 (N:Nat) (c1_:(Int×Int×Int)→Option Int) (A2:Int) (A1:LL) (A7 A3:Int) (A6:Bool) (v4:Int) (A0:Zah) (x1 x5:Zal):Option Int:= if (!A0.Easy)=true then ZaE.p4 N c1_ A2 A1 A7 x5.Bits v4 A0 x1 else if (x5.Bits != A0.Limit)=true then ZaE.p4 N c1_ A2 A1 A7 x5.Bits v4 A0 x1 else if A6=true then ZaE.p4 N c1_ A2 A1 A7 x5.Bits v4 A0 x1 else ZaE.p4 N c1_ A2 A1 A7 A3 v4 A0 x1
def ZaE.p2 (N:Nat) (c1_:(Int×Int×Int)→Option Int) (A2:Int) (A1:LL) (F2 A3:Int) (A6:Bool) (v4:Int) (A0:Zah) (x1 x5:Zal):Option Int:= if A6=true then ZaE.p3 N c1_ A2 A1 x5.Time A3 A6 v4 A0 x1 x5 else ZaE.p3 N c1_ A2 A1 F2 A3 A6 v4 A0 x1 x5
def ZaE.p1 (N:Nat) (A2:Int) (A1:LL) (A0:Zah) (x1:Zal) (c1_:(Int×Int×Int)→Option Int):(Int×Int×Int)→Option Int:=fun (F2,A3,v4)=> if (decide (v4<(len A1)))=true then chk (0≤v4)<| ZcS (A1[zC v4]?) ZdR fun x5=> if (decide (A0.Interval>0))=true then chk (A0.Interval≠0)<| ZaE.p2 N c1_ A2 A1 F2 A3 ((yA v4 A0.Interval)==0) v4 A0 x1 x5 else ZaE.p2 N c1_ A2 A1 F2 A3 false v4 A0 x1 x5 else Zbj (Zco N A0 (len A1) x1.Bits x1.Time F2 A3 A2) fun x9=> some x9
def ZaE (N:Nat) (A0:Zah) (A1:LL) (A2:Int):Option Int:= if ((len A1)==0)=true then some A0.Limit else chk (0≤(w64 ((len A1)-1)))<| chk ((w64 ((len A1)-1))<(len A1))<| ZcS (A1[zC (w64 ((len A1)-1))]?) ZdR fun x1=> loopN (ZaE.p1 N A2 A1 A0 x1) N (0,A0.Limit,0)
def ZaE.p4.S (A2:Int) (A1:LL) (A7 A8 v4:Int) (A0:Zah) (x1:Zal) (st:LL):S:=mkS 73 [(2,sI A2),(3,sA 3),(7,sI (len A1)),(8,sA 8),(9,sI A7),(10,sI A8),(27,sV 68 A1),(28,sI (len A1)),(29,sI v4)] [(3,.cells A0.ls),(8,.cells x1.ls)] st
def ZaE.p3.S (A2:Int) (A1:LL) (A7 A3:Int) (A6:Bool) (v4:Int) (A0:Zah) (x1 x5:Zal) (st:LL):S:=mkS 73 [(2,sI A2),(3,sA 3),(7,sI (len A1)),(8,sA 8),(9,sI A7),(10,sI A3),(12,sA 12),(13,.one (.l (xP A6))),(27,sV 68 A1),(28,sI (len A1)),(29,sI v4)] [(3,.cells A0.ls),(8,.cells x1.ls),(12,.cells x5.ls)] st
def ZaE.p2.S (A2:Int) (A1:LL) (F2 A3:Int) (A6:Bool) (v4:Int) (A0:Zah) (x1 x5:Zal) (st:LL):S:=mkS 73 [(2,sI A2),(3,sA 3),(7,sI (len A1)),(8,sA 8),(9,sI F2),(10,sI A3),(12,sA 12),(13,.one (.l (xP A6))),(27,sV 68 A1),(28,sI (len A1)),(29,sI v4)] [(3,.cells A0.ls),(8,.cells x1.ls),(12,.cells x5.ls)] st
def ZaE.p1.S (A2:Int) (A1:LL) (F2 A3 v4:Int) (A0:Zah) (x1:Zal) (st:LL):S:=mkS 73 [(2,sI A2),(3,sA 3),(7,sI (len A1)),(8,sA 8),(9,sI F2),(10,sI A3),(27,sV 68 A1),(28,sI (len A1)),(29,sI v4)] [(3,.cells A0.ls),(8,.cells x1.ls)] st
theorem ZaE.p4_ok {A2 A1 A7 A8 v4 A0 x1 st r c1_ J1} (h:ZaE.p4 N c1_ A2 A1 A7 A8 v4 A0 x1=some r) (hE:En Tryz.f70 g0 w0 (ZaE.rs r) st R) (hc1 : ∀F2 A3 v4,c1_ (F2,A3,v4)=some r→At g0 w0 (ZaE.p1.S A2 A1 F2 A3 v4 A0 x1 st) J1):At g0 w0 (ZaE.p4.S A2 A1 A7 A8 v4 A0 x1 st) (XK zE R [cK ZaE.B [1,1,1,1,1,1,0,1,0,0,1,1,1],.h J1,.b 0,cK ZaE.B [1,1,1,1,1,1,1]]):=by
 unfold ZaE.p4 at h;exact an fol [rZ] [2,3,7,8,9,10,27,28,29] [3,8] trivial (hc1 A7 A8 (w64 (v4+1)) h)
theorem ZaE.p3_ok {A2 A1 A7 A3 A6 v4 A0 x1 x5 st r c1_ J1} (h:ZaE.p3 N c1_ A2 A1 A7 A3 A6 v4 A0 x1 x5=some r) (hE:En Tryz.f70 g0 w0 (ZaE.rs r) st R) (hc1 : ∀F2 A3 v4,c1_ (F2,A3,v4)=some r→At g0 w0 (ZaE.p1.S A2 A1 F2 A3 v4 A0 x1 st) J1):At g0 w0 (ZaE.p3.S A2 A1 A7 A3 A6 v4 A0 x1 x5 st) (XK zE R [cK ZaE.B [1,1,1,1,1,1,0,1,0,0,1,1,0,0,1,1,1],.b 1,cK ZaE.B [1,1,1,1,1,1,0,1,0,0,1,1,1],.h J1,.b 0,cK ZaE.B [1,1,1,1,1,1,1]]):=by
 unfold ZaE.p3 at h;refine Zba h (fun c11 h1=>?_) (fun c11 h2=>?_)
 ·exact aq fol [.r [(4,wF),(5,wF),(6,wF),(7,wF),(8,wF),(11,wF)],cT,rZ,.s 4] [2,3,7,8,9,10,27,28,29] [3,8] (aO (not_false (ZbN c11)) (not_false (ZbN c11)) (not_false (ZbN c11)) (not_false (ZbN c11)) (not_false (ZbN c11)) (not_false (ZbN c11)) eT (aI eT eT)) (ZaE.p4_ok h1 hE hc1)
 have t1 {Q:Prop} (q:Q):=aN (not_true (ZbO c11)) (not_true (ZbO c11)) (not_true (ZbO c11)) (not_true (ZbO c11)) (not_true (ZbO c11)) (not_true (ZbO c11)) q;refine Zba h2 (fun c12 h3=>?_) (fun c12 h4=>?_)
 ·exact aq fol [.r [(9,yF),(11,wF)],cT,rZ,.s 4] [2,3,7,8,9,10,27,28,29] [3,8] (t1 (aJ c12 c12 eT)) (ZaE.p4_ok h3 hE hc1)
 let o1:List PS:=[.r [(9,yF),(12,yF)]]
 refine Zba h4 (fun c13 h5=>?_) (fun c13 h6=>?_)
 ·exact aq fol (o1++[cT,rZ,.s 4]) [2,3,7,8,9,10,27,28,29] [3,8] (t1 (aJ c12 c12 c13)) (ZaE.p4_ok h5 hE hc1)
 exact aq fol (o1++[cF,.s 4]) [2,3,7,8,9,10,27,28,29] [3,8] (t1 (aJ c12 c12 c13)) (ZaE.p4_ok h6 hE hc1)
theorem ZaE.p2_ok {A2 A1 F2 A3 A6 v4 A0 x1 x5 st r c1_ J1} (h:ZaE.p2 N c1_ A2 A1 F2 A3 A6 v4 A0 x1 x5=some r) (hE:En Tryz.f70 g0 w0 (ZaE.rs r) st R) (hc1 : ∀F2 A3 v4,c1_ (F2,A3,v4)=some r→At g0 w0 (ZaE.p1.S A2 A1 F2 A3 v4 A0 x1 st) J1):At g0 w0 (ZaE.p2.S A2 A1 F2 A3 A6 v4 A0 x1 x5 st) (XK zE R [cK ZaE.B [1,1,1,1,1,1,0,1,0,0,1,1,0,0,1,1],.b 1,cK ZaE.B [1,1,1,1,1,1,0,1,0,0,1,1,1],.h J1,.b 0,cK ZaE.B [1,1,1,1,1,1,1]]):=by
 unfold ZaE.p2 at h;refine Zba h (fun c10 h7=>?_) (fun c10 h8=>?_)
 ·exact aq fol [rZ,cT,rZ,.s 6] [2,3,7,8,9,10,12,13,27,28,29] [3,8,12] c10 (ZaE.p3_ok h7 hE hc1)
 exact aq fol [rZ,cF,.s 6] [2,3,7,8,9,10,12,13,27,28,29] [3,8,12] c10 (ZaE.p3_ok h8 hE hc1)
theorem ZaE.p1_ok {A2 A1 F2 A3 v4 A0 x1 st r c1_ J1} (h:ZaE.p1 N A2 A1 A0 x1 c1_ (F2,A3,v4)=some r) (hE:En Tryz.f70 g0 w0 (ZaE.rs r) st R) (hc1 : ∀F2 A3 v4,c1_ (F2,A3,v4)=some r→At g0 w0 (ZaE.p1.S A2 A1 F2 A3 v4 A0 x1 st) J1):At g0 w0 (ZaE.p1.S A2 A1 F2 A3 v4 A0 x1 st) (XK zE R (cK ZaE.B [1,1,1,1,1,1,0,1,0,0] :: .h J1 :: [.b 0,cK ZaE.B [1,1,1,1,1,1,1]])):=by
 unfold ZaE.p1 at h;refine Zba h (fun c5 h9=>?_) (fun c5 h10=>?_)
 ·obtain ⟨c6,h11⟩:=ZaW h9;obtain ⟨x5,c7,h12⟩:=Zen h11;let o2:List PS:=[rZ,cT,.r [(2,{oe:=x5.ls})]]
  refine Zba h12 (fun c8 h13=>?_) (fun c8 h14=>?_)
  ·obtain ⟨c9,h15⟩:=ZaW h13;exact aq fol (o2++[rZ,.s 6]) [2,3,7,8,9,10,12,13,27,28,29] [3,8,12] (aO c5 c6 (oD c5) c7 c8 c8 c8 (aK c8 c9 c8 c8)) (ZaE.p2_ok h15 hE hc1)
  exact aq fol (o2++[.r [(4,wF),(5,wF),(6,wF),(7,wF),(8,wF),(9,yF)],.s 6]) [2,3,7,8,9,10,12,13,27,28,29] [3,8,12] (aO c5 c6 (oD c5) c7 c8 c8 c8 (aJ c8 c8 c8)) (ZaE.p2_ok h14 hE hc1)
 obtain ⟨x9,c14,h16⟩:=Zae h10;exact xS fol h16 hE [rZ,cF,.r [(9,q1 [oI x9])]] (aI c5 (Zco.snd c14))
theorem ZaE.snd {A0:Zah} {A1:LL} {A2:Int} {r:Int} (h:ZaE N A0 A1 A2=some r):Zdo zE 70 [.agg A0.ls,.one (vR 68 A1),oI A2] (ZaE.rs r):=fun st=>
 sO ZaE.B Tryz.func70 fun g0 w0 R hE=>by
  unfold ZaE at h;refine Zba h (fun c1 h17=>?_) (fun c1 h18=>?_)
  ·exact xS fol h17 hE [rZ,rZ,rZ,cT,rZ] c1
  obtain ⟨c2,c3,h19⟩:=ck2 h18;obtain ⟨x1,c4,h20⟩:=Zen h19;exact aq fol [rZ,rZ,rZ,cF,.r [(4,{oe:=x1.ls})],rZ,rZ,rZ] [2,3,7,8,9,10,27,28,29] [3,8] (aK c1 c2 c3 c4) (At.loop N (At.loopN (fun y:Int×Int×Int=>ZaE.p1.S A2 A1 y.1 y.2.1 y.2.2 A0 x1 st) (fun c J hc y h=>ZaE.p1_ok (F2:=y.1) (A3:=y.2.1) (v4:=y.2.2) h hE (fun F2 A3 v4=>hc (F2,A3,v4))) N (0,A0.Limit,0) h20))
def ZbG.B:Code:=Tryz.f100.body.getD .skip
def ZbG.rs (r:(List Int)):List CV:=[.agg [zK .u64 4 r]]
def ZbG.p1 (N:Nat) (A0_0:List Int) (c1_:(Int×(List Int))→Option (List Int)):(Int×(List Int))→Option (List Int):=fun (A1,A3)=> if (decide (A1≥0))=true then Zbj (Zao N A3 8) fun x4=> chk (0≤A1)<| chk (A1<32)<| c1_ (w64 (A1-1),zQ x4 0 (v64 ((zF x4 0 0)+(v64 (zF A0_0 (zC A1) 0))))) else some A3
def ZbG (N:Nat) (A0_0:List Int):Option (List Int):= loopN (ZbG.p1 N A0_0) N (31,zB 4 0)
def ZbG.p1.S (A1:Int) (A0_0 A3:List Int) (st:LL):S:=mkS 21 [(1,sA 1),(2,sA 2),(3,sA 3),(4,sI A1)] [(1,.cells [zK .u8 32 A0_0]),(2,.cells [zK .u64 4 (zB 4 0)]),(3,.cells [zK .u64 4 A3])] st
theorem ZbG.p1_ok {A1 A0_0 A3 st r c1_ J1} (h:ZbG.p1 N A0_0 c1_ (A1,A3)=some r) (hE:En Tryz.f100 g0 w0 (ZbG.rs r) st R) (hc1 : ∀A1 A3,c1_ (A1,A3)=some r→At g0 w0 (ZbG.p1.S A1 A0_0 A3 st) J1):At g0 w0 (ZbG.p1.S A1 A0_0 A3 st) (XK zE R (cK ZbG.B [1,1,0,1,0,0] :: .h J1 :: [.b 0,cK ZbG.B [1,1,1]])):=by
 unfold ZbG.p1 at h;refine Zba h (fun c5 h1=>?_) (fun c5 h2=>?_)
 ·obtain ⟨x4,c6,h3⟩:=Zae h1;obtain ⟨c7,c8,h4⟩:=ck2 h3;exact ZkD fol [rZ,cT,.r [(1,q1 [.agg [zK .u64 4 x4]])],.d {ds:=[],hv:=256,Hs:=[256]},rZ] [1,2,3,4] [1,2,3] (aJ c5 (Zao.snd c6) (ix 0 4 (aK c7 c8 (leI 0 0) (ltI 0 4)))) (hc1 (w64 (A1-1)) (zQ x4 0 (v64 ((zF x4 0 0)+(v64 (zF A0_0 (zC A1) 0))))) h4)
 exact xS fol h2 hE [rZ,cF,rZ] c5
theorem ZbG.snd {A0_0:List Int} {r:(List Int)} (h:ZbG N A0_0=some r):Zdo zE 100 [.agg [zK .u8 32 A0_0]] (ZbG.rs r):=fun st=>
 sO ZbG.B Tryz.func100 fun g0 w0 R hE=>by
  unfold ZbG at h;exact aq fol [rZ,rZ,rZ] [1,2,3,4] [1,2,3] trivial (At.loop N (At.loopN (fun y:Int×(List Int)=>ZbG.p1.S y.1 A0_0 y.2 st) (fun c J hc y h=>ZbG.p1_ok (A1:=y.1) (A3:=y.2) h hE (fun A1 A3=>hc (A1,A3))) N (31,zB 4 0) h))
def ZdM.B:Code:=Tryz.f71.body.getD .skip
def ZdM.rs (r:Bool):List CV:=[oB r]
def ZdM (N:Nat) (A0:Zah) (A1:Zal):Option Bool:= Zbj (Zcz N A1.Bits A0.Limit) fun (x1,x2)=> if x2=true then Zbj (ZcZ N A1) fun x3=> Zbj (ZbG N x3) fun x4=> Zbj (Zbt N x1 x4) fun x5=> some (!x5) else some false
theorem ZdM.snd {A0:Zah} {A1:Zal} {r:Bool} (h:ZdM N A0 A1=some r):Zdo zE 71 [.agg A0.ls,.agg A1.ls] (ZdM.rs r):=fun st=>
 sO ZdM.B Tryz.func71 fun g0 w0 R hE=>by
  unfold ZdM at h;obtain ⟨⟨x1,x2⟩,c1,h1⟩:=Zae h;let o1:List PS:=[rZ,.r [(4,q1 [.agg [zK .u64 4 x1],oB x2])]]
  refine Zba h1 (fun c2 h2=>?_) (fun c2 h3=>?_)
  ·obtain ⟨x3,c3,h4⟩:=Zae h2;obtain ⟨x4,c4,h5⟩:=Zae h4;obtain ⟨x5,c5,h6⟩:=Zae h5;exact xSd fol h6 hE (o1++[.d {ds:=[(4,q1 [.agg [zK .u8 32 x3]]),(5,q1 [.agg [zK .u64 4 x4]]),(6,q1 [oB x5])],hv:=0,Hs:=[]}]) (aO (Zcz.snd c1) c2 c2 c2 (ZcZ.snd c3) c2 (ZbG.snd c4) (aK c2 (Zbt.snd c5) c2 c2))
  exact xSd fol h3 hE (o1++[.d {ds:=[(2,wF),(3,wF),(4,wF),(5,wF),(6,wF),(7,wF),(8,yF)],hv:=0,Hs:=[]}]) (aO (Zcz.snd c1) c2 c2 c2 c2 c2 c2 c2)
def Zcp.B:Code:=Tryz.f73.body.getD .skip
def Zcp.rs (r:LL):List CV:=[.row true 1 r]
def Zcp.p1 (N:Nat) (A0:LL) (c1_:(LL×Int)→Option LL):(LL×Int)→Option LL:=fun (A3,A1)=> if (decide (A1≥0))=true then if (decide ((len A3)<11))=true then chk (0≤A1)<| chk (A1<(len A0))<| ZcS (A0[zC A1]?) ZcW fun x4=> chk (zG (A3++[[zM .i64 x4]])*8≤140737488355328)<| c1_ (A3++[[zM .i64 x4]],w64 (A1-1)) else some A3 else some A3
def Zcp (N:Nat) (A0:LL):Option LL:= loopN (Zcp.p1 N A0) N ([],w64 ((len A0)-1))
def Zcp.p1.S (A0 A3:LL) (A1:Int) (st:LL):S:=mkS 25 [(0,sV 1 A0),(3,.one (.h (.row 3 0) 1 0 (zG A3))),(4,sI A1)] [(3,.row 0 true 1 A3)] st
theorem Zcp.p1_ok {A0 A3 A1 st r c1_ J1} (h:Zcp.p1 N A0 c1_ (A3,A1)=some r) (hE:En Tryz.f73 g0 w0 (Zcp.rs r) st R) (hc1 : ∀A3 A1,c1_ (A3,A1)=some r→At g0 w0 (Zcp.p1.S A0 A3 A1 st) J1):At g0 w0 (Zcp.p1.S A0 A3 A1 st) (XK zE R (cK Zcp.B [1,1,0,1,0,0] :: .h J1 :: [.b 0,cK Zcp.B [1,1,1]])):=by
 unfold Zcp.p1 at h;refine Zba h (fun c6 h1=>?_) (fun c6 h2=>?_)
 ·refine Zba h1 (fun c7 h3=>?_) (fun c7 h4=>?_)
  ·obtain ⟨c8,c9,h5⟩:=ck2 h3;obtain ⟨x4,c10,h6⟩:=Zci h5;obtain ⟨c11,h7⟩:=ZaW h6;exact an fol [rZ,cT,.r [(4,{oe:=[zM .i64 x4]})],rZ] [0,3,4] [3] (aO c6 c6 c6 c6 c7 c8 c9 (aM c10 z0 (eN (zG A3)) z0 (eN (1)) c11)) (hc1 (A3++[[zM .i64 x4]]) (w64 (A1-1)) h7)
  obtain rfl:=Zad h4;exact af fol hE [rZ,cF,rZ] [] 0 [0] (aN c6 c6 c6 c6 c7 z0 (eN (zG A3)))
 obtain rfl:=Zad h2;exact af fol hE [.r [(3,wF),(4,wF),(5,wF),(6,yF)],cF,rZ] [] 0 [0] (aN c6 c6 c6 c6 eF z0 (eN (zG A3)))
theorem Zcp.snd {A0:LL} {r:LL} (h:Zcp N A0=some r):Zdo zE 73 [.one (vR 1 A0)] (Zcp.rs r):=fun st=>
 sO Zcp.B Tryz.func73 fun g0 w0 R hE=>by
  unfold Zcp at h;exact aq fol [.r [(0,{m:=2})],.r [(0,{m:=1})],rZ] [0,3,4] [3] trivial (At.loop N (At.loopN (fun y:LL×Int=>Zcp.p1.S A0 y.1 y.2 st) (fun c J hc y h=>Zcp.p1_ok (A3:=y.1) (A1:=y.2) h hE (fun A3 A1=>hc (A3,A1))) N ([],w64 ((len A0)-1)) h))
def ZaM.B:Code:=Tryz.f72.body.getD .skip
def ZaM.rs (r:Int):List CV:=[oI r]
def ZaM.p4 (N:Nat) (c2_:(Int×Int×Int)→Option Int) (c1_:Int→Option Int) (A0:LL) (A1 A7 A10 A4:Int):Option Int:= c2_ (A7,A10,w64 (A4+1))
def ZaM.p3 (N:Nat) (c2_:(Int×Int×Int)→Option Int) (c1_:Int→Option Int) (A0:LL) (A1 A7 A3 A4:Int):Option Int:= chk (0≤A4)<| chk (A4<(len A0))<| ZcS (A0[zC A4]?) ZcW fun x8=> chk (0≤A1)<| chk (A1<(len A0))<| ZcS (A0[zC A1]?) ZcW fun x9=> if (x8==x9)=true then ZaM.p4 N c2_ c1_ A0 A1 A7 (w64 (A3+1)) A4 else ZaM.p4 N c2_ c1_ A0 A1 A7 A3 A4
def ZaM.p2 (N:Nat) (c1_:Int→Option Int) (A0:LL) (A1:Int) (c2_:(Int×Int×Int)→Option Int):(Int×Int×Int)→Option Int:=fun (A2,A3,A4)=> if (decide (A4<(if (11:Int)<(len A0) then 11 else (len A0))))=true then chk (0≤A4)<| chk (A4<(len A0))<| ZcS (A0[zC A4]?) ZcW fun x5=> chk (0≤A1)<| chk (A1<(len A0))<| ZcS (A0[zC A1]?) ZcW fun x6=> if (decide (x5<x6))=true then ZaM.p3 N c2_ c1_ A0 A1 (w64 (A2+1)) A3 A4 else ZaM.p3 N c2_ c1_ A0 A1 A2 A3 A4 else if (decide (A2≤(w64 (zR (if (11:Int)<(len A0) then 11 else (len A0)) 2))))=true then if (decide ((w64 (zR (if (11:Int)<(len A0) then 11 else (len A0)) 2))<(w64 (A2+A3))))=true then chk (0≤A1)<| chk (A1<(len A0))<| ZcS (A0[zC A1]?) ZcW fun x11=> some x11 else c1_ (w64 (A1+1)) else c1_ (w64 (A1+1))
def ZaM.p1 (N:Nat) (A0:LL) (c1_:Int→Option Int):Int→Option Int:=fun A1=> if (decide (A1<(if (11:Int)<(len A0) then 11 else (len A0))))=true then loopN (ZaM.p2 N c1_ A0 A1) N (0,0,0) else some 0
def ZaM (N:Nat) (A0:LL):Option Int:= loopN (ZaM.p1 N A0) N 0
def ZaM.p4.S (A0:LL) (A1 A7 A10 A4:Int) (st:LL):S:=mkS 59 [(0,sV 1 A0),(3,sI (if (11:Int)<(len A0) then 11 else (len A0))),(4,sI A1),(5,sI A7),(6,sI A10),(7,sI A4)] [] st
def ZaM.p3.S (A0:LL) (A1 A7 A3 A4:Int) (st:LL):S:=mkS 59 [(0,sV 1 A0),(3,sI (if (11:Int)<(len A0) then 11 else (len A0))),(4,sI A1),(5,sI A7),(6,sI A3),(7,sI A4)] [] st
def ZaM.p2.S (A0:LL) (A1 A2 A3 A4:Int) (st:LL):S:=mkS 59 [(0,sV 1 A0),(3,sI (if (11:Int)<(len A0) then 11 else (len A0))),(4,sI A1),(5,sI A2),(6,sI A3),(7,sI A4)] [] st
def ZaM.p1.S (A0:LL) (A1:Int) (st:LL):S:=mkS 59 [(0,sV 1 A0),(3,sI (if (11:Int)<(len A0) then 11 else (len A0))),(4,sI A1)] [] st
theorem ZaM.p4_ok {A0 A1 A7 A10 A4 st r c2_ c1_ J2 J1} (h:ZaM.p4 N c2_ c1_ A0 A1 A7 A10 A4=some r) (hE:En Tryz.f72 g0 w0 (ZaM.rs r) st R) (hc2 : ∀A2 A3 A4,c2_ (A2,A3,A4)=some r→At g0 w0 (ZaM.p2.S A0 A1 A2 A3 A4 st) J2) (hc1 : ∀A1,c1_ A1=some r→At g0 w0 (ZaM.p1.S A0 A1 st) J1):At g0 w0 (ZaM.p4.S A0 A1 A7 A10 A4 st) (XK zE R [cK ZaM.B [1,1,0,1,0,0,1,0,0,1,1,0,1,0,0,1,1],.h J2,.b 2,cK ZaM.B [1,1,0,1,0,0,1,0,0,1,1,1],.b 1,cK ZaM.B [1,1,0,1,0,0,1,1],.h J1,.b 0,cK ZaM.B [1,1,1]]):=by
 unfold ZaM.p4 at h;exact an fol [rZ] [0,3,4,5,6,7] [] trivial (hc2 A7 A10 (w64 (A4+1)) h)
theorem ZaM.p3_ok {A0 A1 A7 A3 A4 st r c2_ c1_ J2 J1} (h:ZaM.p3 N c2_ c1_ A0 A1 A7 A3 A4=some r) (hE:En Tryz.f72 g0 w0 (ZaM.rs r) st R) (hc2 : ∀A2 A3 A4,c2_ (A2,A3,A4)=some r→At g0 w0 (ZaM.p2.S A0 A1 A2 A3 A4 st) J2) (hc1 : ∀A1,c1_ A1=some r→At g0 w0 (ZaM.p1.S A0 A1 st) J1):At g0 w0 (ZaM.p3.S A0 A1 A7 A3 A4 st) (XK zE R [cK ZaM.B [1,1,0,1,0,0,1,0,0,1,1,0,1,0,0,1,0,0,1],.b 3,cK ZaM.B [1,1,0,1,0,0,1,0,0,1,1,0,1,0,0,1,1],.h J2,.b 2,cK ZaM.B [1,1,0,1,0,0,1,0,0,1,1,1],.b 1,cK ZaM.B [1,1,0,1,0,0,1,1],.h J1,.b 0,cK ZaM.B [1,1,1]]):=by
 unfold ZaM.p3 at h;obtain ⟨c10,c11,h1⟩:=ck2 h;obtain ⟨x8,c12,h2⟩:=Zci h1;obtain ⟨c13,c14,h3⟩:=ck2 h2;obtain ⟨x9,c15,h4⟩:=Zci h3;let o1:List PS:=[.d {ds:=[(3,{oe:=[zM .i64 x8]}),(7,{oe:=[zM .i64 x9]})],hv:=0,Hs:=[]}]
 refine Zba h4 (fun c16 h5=>?_) (fun c16 h6=>?_)
 ·exact aqd fol (o1++[cT,rZ,.s 9]) [0,3,4,5,6,7] [] (aN c10 c11 c12 c13 c14 c15 c16) (ZaM.p4_ok h5 hE hc2 hc1)
 exact aqd fol (o1++[cF,.s 9]) [0,3,4,5,6,7] [] (aN c10 c11 c12 c13 c14 c15 c16) (ZaM.p4_ok h6 hE hc2 hc1)
theorem ZaM.p2_ok {A0 A1 A2 A3 A4 st r c1_ c2_ J1 J2} (h:ZaM.p2 N c1_ A0 A1 c2_ (A2,A3,A4)=some r) (hE:En Tryz.f72 g0 w0 (ZaM.rs r) st R) (hc1 : ∀A1,c1_ A1=some r→At g0 w0 (ZaM.p1.S A0 A1 st) J1) (hc2 : ∀A2 A3 A4,c2_ (A2,A3,A4)=some r→At g0 w0 (ZaM.p2.S A0 A1 A2 A3 A4 st) J2):At g0 w0 (ZaM.p2.S A0 A1 A2 A3 A4 st) (XK zE R (cK ZaM.B [1,1,0,1,0,0,1,0,0,1,1,0,1,0,0] :: .h J2 :: [.b 2,cK ZaM.B [1,1,0,1,0,0,1,0,0,1,1,1],.b 1,cK ZaM.B [1,1,0,1,0,0,1,1],.h J1,.b 0,cK ZaM.B [1,1,1]])):=by
 unfold ZaM.p2 at h;refine Zba h (fun c2 h7=>?_) (fun c2 h8=>?_)
 ·obtain ⟨c3,c4,h9⟩:=ck2 h7;obtain ⟨x5,c5,h10⟩:=Zci h9;obtain ⟨c6,c7,h11⟩:=ck2 h10;obtain ⟨x6,c8,h12⟩:=Zci h11;let o2:List PS:=[rZ,cT,.d {ds:=[(3,{oe:=[zM .i64 x5]}),(7,{oe:=[zM .i64 x6]})],hv:=0,Hs:=[]}]
  refine Zba h12 (fun c9 h13=>?_) (fun c9 h14=>?_)
  ·exact aqd fol (o2++[cT,rZ,.s 11]) [0,3,4,5,6,7] [] (aO c2 c3 c4 c5 c6 c7 c8 c9) (ZaM.p3_ok h13 hE hc2 hc1)
  exact aqd fol (o2++[cF,.s 11]) [0,3,4,5,6,7] [] (aO c2 c3 c4 c5 c6 c7 c8 c9) (ZaM.p3_ok h14 hE hc2 hc1)
 refine Zba h8 (fun c17 h15=>?_) (fun c17 h16=>?_)
 ·have t1 {Q:Prop} (q:Q):=aO c2 (neI 2) c17 c17 (neI 2) c17 c17 (aK c17 c17 c17 q);refine Zba h15 (fun c18 h17=>?_) (fun c18 h18=>?_)
  ·obtain ⟨c19,c20,h19⟩:=ck2 h17;obtain ⟨x11,c21,h20⟩:=Zci h19;exact xS fol h20 hE [rZ,cF,rZ,cT,.r [(3,{oe:=[zM .i64 x11]})]] (t1 (aK c18 c19 c20 c21))
  exact an fol [rZ,cF,rZ,cF,rZ] [0,3,4] [] (t1 c18) (hc1 (w64 (A1+1)) h18)
 exact an fol [rZ,cF,.r [(5,wF),(6,wF),(7,wF),(8,wF),(9,wF),(10,wF),(11,yF)],cF,rZ] [0,3,4] [] (aO c2 (neI 2) c17 c17 c17 c17 c17 (aJ c17 c17 eF)) (hc1 (w64 (A1+1)) h16)
theorem ZaM.p1_ok {A0 A1 st r c1_ J1} (h:ZaM.p1 N A0 c1_ A1=some r) (hE:En Tryz.f72 g0 w0 (ZaM.rs r) st R) (hc1 : ∀A1,c1_ A1=some r→At g0 w0 (ZaM.p1.S A0 A1 st) J1):At g0 w0 (ZaM.p1.S A0 A1 st) (XK zE R (cK ZaM.B [1,1,0,1,0,0] :: .h J1 :: [.b 0,cK ZaM.B [1,1,1]])):=by
 unfold ZaM.p1 at h;refine Zba h (fun c1 h21=>?_) (fun c1 h22=>?_)
 ·exact aq fol [rZ,cT,rZ,rZ,rZ] [0,3,4,5,6,7] [] c1 (At.loop N (At.loopN (fun y:Int×Int×Int=>ZaM.p2.S A0 A1 y.1 y.2.1 y.2.2 st) (fun c J hc y h=>ZaM.p2_ok (A2:=y.1) (A3:=y.2.1) (A4:=y.2.2) h hE hc1 (fun A2 A3 A4=>hc (A2,A3,A4))) N (0,0,0) h21))
 exact xS fol h22 hE [rZ,cF,rZ] c1
theorem ZaM.snd {A0:LL} {r:Int} (h:ZaM N A0=some r):Zdo zE 72 [.one (vR 1 A0)] (ZaM.rs r):=fun st=>
 sO ZaM.B Tryz.func72 fun g0 w0 R hE=>by
  unfold ZaM at h;exact aq fol [rZ,rZ,rZ] [0,3,4] [] trivial (At.loop N (At.loopN (fun y:Int=>ZaM.p1.S A0 y st) (fun c J hc y h=>ZaM.p1_ok h hE (fun A1=>hc A1)) N 0 h))
def Zat.B:Code:=Tryz.f43.body.getD .skip
def Zat.rs (r:Int):List CV:=[oI r]
def Zat.p6 (N:Nat) (A1:LL) (A0:Zah) (h_2:Zal) (c6_:Int→Option Int):Int→Option Int:=fun v21=> if (decide (v21<(len A0.Checks)))=true then chk (0≤v21)<| ZcS (A0.Checks[zC v21]?) Zeo fun x22=> if (x22.Height==(len A1))=true then Zbj (ZcZ N h_2) fun x23=> if (!(x22.Id==x23))=true then some 8 else c6_ (w64 (v21+1)) else c6_ (w64 (v21+1)) else some 0
def Zat.p5 (N:Nat) (A1:LL) (A0:Zah) (h_2:Zal) (c5_:Int→Option Int):Int→Option Int:=fun v19=> if (decide (v19<(len A0.Gates)))=true then chk (0≤v19)<| ZcS (A0.Gates[zC v19]?) Zez fun x20=> if (decide (x20.Height≤(len A1)))=true then if (decide (h_2.Version<x20.Version))=true then some 7 else c5_ (w64 (v19+1)) else c5_ (w64 (v19+1)) else loopN (Zat.p6 N A1 A0 h_2) N 0
def Zat.p4 (N:Nat) (A1:LL) (A0:Zah) (h_2:Zal):Option Int:= loopN (Zat.p5 N A1 A0 h_2) N 0
def Zat.p3 (N:Nat) (A3:Int) (A1:LL) (A0:Zah) (h_2:Zal):Option Int:= if (decide (A0.Future<0))=true then some 6 else if (decide (h_2.Time>A3))=true then if (decide ((w64 (h_2.Time-A3))>A0.Future))=true then some 6 else Zat.p4 N A1 A0 h_2 else Zat.p4 N A1 A0 h_2
def Zat.p2 (N:Nat) (A3:Int) (A1:LL) (A0:Zah) (h_2:Zal) (c2_:(LL×Int)→Option Int):(LL×Int)→Option Int:=fun (A15,v6)=> if (decide (v6<(len A1)))=true then chk (0≤v6)<| ZcS (A1[zC v6]?) ZdR fun x16=> chk (zG (A15++[[zM .i64 x16.Time]])*8≤140737488355328)<| c2_ (A15++[[zM .i64 x16.Time]],w64 (v6+1)) else if (decide ((len A1)>0))=true then Zbj (Zcp N A15) fun x17=> chk (Zee x17=true)<| Zbj (ZaM N x17) fun x18=> if (decide (h_2.Time≤x18))=true then some 5 else Zat.p3 N A3 A1 A0 h_2 else Zat.p3 N A3 A1 A0 h_2
def Zat.p1 (N:Nat) (A1:LL) (A3:Int) (A0:Zah) (h_2:Zal):Option Int:= Zbj (ZaE N A0 A1 h_2.Time) fun x4=> if (h_2.Bits != x4)=true then some 3 else Zbj (ZdM N A0 h_2) fun x5=> if (!x5)=true then some 4 else loopN (Zat.p2 N A3 A1 A0 h_2) N ([],0)
def Zat (N:Nat) (A0:Zah) (A1:LL) (h_2:Zal) (A3:Int):Option Int:= Zbj (ZcR N h_2) fun x1=> if (!x1)=true then some 1 else if (decide ((len A1)>0))=true then chk (0≤(w64 ((len A1)-1)))<| chk ((w64 ((len A1)-1))<(len A1))<| ZcS (A1[zC (w64 ((len A1)-1))]?) ZdR fun x2=> Zbj (ZcZ N x2) fun x3=> if (!(h_2.Prev==x3))=true then some 2 else Zat.p1 N A1 A3 A0 h_2 else Zat.p1 N A1 A3 A0 h_2
def Zat.p6.S (A1:LL) (A0:Zah) (v21:Int) (h_2:Zal) (st:LL):S:=mkS 125 [(6,sA 6),(9,sI (len A1)),(107,sV 33 A0.Checks),(108,sI (len A0.Checks)),(109,sI v21)] [(6,.cells h_2.ls)] st
def Zat.p5.S (A1:LL) (A0:Zah) (v19:Int) (h_2:Zal) (st:LL):S:=mkS 125 [(4,sA 4),(6,sA 6),(9,sI (len A1)),(88,sV 2 A0.Gates),(89,sI (len A0.Gates)),(90,sI v19)] [(4,.cells A0.ls),(6,.cells h_2.ls)] st
def Zat.p4.S (A1:LL) (A0:Zah) (h_2:Zal) (st:LL):S:=mkS 125 [(4,sA 4),(6,sA 6),(9,sI (len A1))] [(4,.cells A0.ls),(6,.cells h_2.ls)] st
def Zat.p3.S (A3:Int) (A1:LL) (A0:Zah) (h_2:Zal) (st:LL):S:=mkS 125 [(3,sI A3),(4,sA 4),(6,sA 6),(9,sI (len A1))] [(4,.cells A0.ls),(6,.cells h_2.ls)] st
def Zat.p2.S (A3:Int) (A1 A15:LL) (v6:Int) (A0:Zah) (h_2:Zal) (st:LL):S:=mkS 125 [(3,sI A3),(4,sA 4),(6,sA 6),(9,sI (len A1)),(10,.one (.h (.row 10 0) 1 0 (zG A15))),(47,sV 68 A1),(48,sI (len A1)),(49,sI v6)] [(4,.cells A0.ls),(6,.cells h_2.ls),(10,.row 0 true 1 A15)] st
def Zat.p1.S (A1:LL) (A3:Int) (A0:Zah) (h_2:Zal) (st:LL):S:=mkS 125 [(1,sV 68 A1),(3,sI A3),(4,sA 4),(6,sA 6),(9,sI (len A1))] [(4,.cells A0.ls),(6,.cells h_2.ls)] st
theorem Zat.p6_ok {A1 A0 v21 h_2 st r c6_ J6} (h:Zat.p6 N A1 A0 h_2 c6_ v21=some r) (hE:En Tryz.f43 g0 w0 (Zat.rs r) st R) (hc6 : ∀v21,c6_ v21=some r→At g0 w0 (Zat.p6.S A1 A0 v21 h_2 st) J6):At g0 w0 (Zat.p6.S A1 A0 v21 h_2 st) (XK zE R (cK Zat.B [1,1,1,1,1,1,1,1,1,1,1,0,1,0,0] :: .h J6 :: [.b 4,cK Zat.B [1,1,1,1,1,1,1,1,1,1,1,1]])):=by
 unfold Zat.p6 at h;refine Zba h (fun c53 h1=>?_) (fun c53 h2=>?_)
 ·obtain ⟨c54,h3⟩:=ZaW h1;obtain ⟨x22,c55,h4⟩:=Zev h3;let o1:List PS:=[rZ,cT,.r [(1,{oe:=x22.ls})]]
  have t1 {Q:Prop} (q:Q):=aL c53 c54 (oD c53) c55 q;refine Zba h4 (fun c56 h5=>?_) (fun c56 h6=>?_)
  ·obtain ⟨x23,c57,h7⟩:=Zae h5;let o2:List PS:=o1++[.d {ds:=[(8,q1 [.agg [zK .u8 32 x23]])],hv:=0,Hs:=[]}]
   have t2 {Q:Prop} (q:Q):=t1 (aO c56 c56 c56 c56 (ZcZ.snd c57) c56 c56 q);refine Zba h7 (fun c58 h8=>?_) (fun c58 h9=>?_)
   ·exact xSd fol h8 hE (o2++[cT,rZ]) (t2 c58)
   exact ZkD fol (o2++[cF,rZ]) [6,9,107,108,109] [6] (t2 c58) (hc6 (w64 (v21+1)) h9)
  exact ZkD fol (o1++[.d {ds:=[(5,wF),(6,wF),(7,wF),(8,wF),(9,wF),(10,yF)],hv:=0,Hs:=[]},cF,rZ]) [6,9,107,108,109] [6] (t1 (aN c56 c56 c56 c56 c56 c56 eF)) (hc6 (w64 (v21+1)) h6)
 exact xS fol h2 hE [rZ,cF,rZ] c53
theorem Zat.p5_ok {A1 A0 v19 h_2 st r c5_ J5} (h:Zat.p5 N A1 A0 h_2 c5_ v19=some r) (hE:En Tryz.f43 g0 w0 (Zat.rs r) st R) (hc5 : ∀v19,c5_ v19=some r→At g0 w0 (Zat.p5.S A1 A0 v19 h_2 st) J5):At g0 w0 (Zat.p5.S A1 A0 v19 h_2 st) (XK zE R (cK Zat.B [1,1,1,1,1,1,1,1,1,1,0,1,0,0] :: .h J5 :: [.b 2,cK Zat.B [1,1,1,1,1,1,1,1,1,1,1]])):=by
 unfold Zat.p5 at h;refine Zba h (fun c48 h10=>?_) (fun c48 h11=>?_)
 ·obtain ⟨c49,h12⟩:=ZaW h10;obtain ⟨x20,c50,h13⟩:=ZeE h12;let o3:List PS:=[rZ,cT,.r [(1,{oe:=x20.ls})]]
  have t3 {Q:Prop} (q:Q):=aL c48 c49 (oD c48) c50 q;refine Zba h13 (fun c51 h14=>?_) (fun c51 h15=>?_)
  ·refine Zba h14 (fun c52 h16=>?_) (fun c52 h17=>?_)
   ·exact xS fol h16 hE (o3++[rZ,cT,rZ]) (t3 (aN c51 c51 c51 c51 c51 c51 c52))
   exact an fol (o3++[rZ,cF,rZ]) [4,6,9,88,89,90] [4,6] (t3 (aN c51 c51 c51 c51 c51 c51 c52)) (hc5 (w64 (v19+1)) h17)
  exact an fol (o3++[.r [(5,wF),(6,wF),(7,wF),(8,wF),(9,wF),(10,yF)],cF,rZ]) [4,6,9,88,89,90] [4,6] (t3 (aN c51 c51 c51 c51 c51 c51 eF)) (hc5 (w64 (v19+1)) h15)
 exact aq fol [rZ,cF,rZ] [6,9,107,108,109] [6] c48 (At.loop N (At.loopN (fun y:Int=>Zat.p6.S A1 A0 y h_2 st) (fun c J hc y h=>Zat.p6_ok h hE (fun v21=>hc v21)) N 0 h11))
theorem Zat.p4_ok {A1 A0 h_2 st r} (h:Zat.p4 N A1 A0 h_2=some r) (hE:En Tryz.f43 g0 w0 (Zat.rs r) st R):At g0 w0 (Zat.p4.S A1 A0 h_2 st) (XK zE R [cK Zat.B [1,1,1,1,1,1,1,1,1,1]]):=by
 unfold Zat.p4 at h;exact aq fol [rZ] [4,6,9,88,89,90] [4,6] trivial (At.loop N (At.loopN (fun y:Int=>Zat.p5.S A1 A0 y h_2 st) (fun c J hc y h=>Zat.p5_ok h hE (fun v19=>hc v19)) N 0 h))
theorem Zat.p3_ok {A3 A1 A0 h_2 st r} (h:Zat.p3 N A3 A1 A0 h_2=some r) (hE:En Tryz.f43 g0 w0 (Zat.rs r) st R):At g0 w0 (Zat.p3.S A3 A1 A0 h_2 st) (XK zE R [cK Zat.B [1,1,1,1,1,1,1,1,1]]):=by
 unfold Zat.p3 at h;refine Zba h (fun c45 h18=>?_) (fun c45 h19=>?_)
 ·exact xS fol h18 hE [.r [(4,wF),(5,wF),(6,wF),(7,wF),(8,wF),(16,wF)],cT,rZ] (aO c45 c45 c45 c45 c45 c45 c45 eT)
 have t4 {Q:Prop} (q:Q):=aM c45 c45 c45 c45 c45 q;refine Zba h19 (fun c46 h20=>?_) (fun c46 h21=>?_)
 ·have t5 {Q:Prop} (q:Q):=t4 (aO c46 c46 c46 c46 c46 c46 c46 (aK c45 c46 c45 q));refine Zba h20 (fun c47 h22=>?_) (fun c47 h23=>?_)
  ·exact xS fol h22 hE [.r [(17,yF)],cT,rZ] (t5 c47)
  exact aq fol [.r [(17,yF)],cF,.s 1] [4,6,9] [4,6] (t5 c47) (Zat.p4_ok h23 hE)
 exact aq fol [.r [(9,wF),(10,wF),(11,wF),(12,wF),(13,wF),(14,wF),(15,wF),(16,yF),(17,yF)],cF,.s 1] [4,6,9] [4,6] (t4 (aO c46 c46 c46 c46 c46 c46 c46 (aK c45 c46 c45 eF))) (Zat.p4_ok h21 hE)
theorem Zat.p2_ok {A3 A1 A15 v6 A0 h_2 st r c2_ J2} (h:Zat.p2 N A3 A1 A0 h_2 c2_ (A15,v6)=some r) (hE:En Tryz.f43 g0 w0 (Zat.rs r) st R) (hc2 : ∀A15 v6,c2_ (A15,v6)=some r→At g0 w0 (Zat.p2.S A3 A1 A15 v6 A0 h_2 st) J2):At g0 w0 (Zat.p2.S A3 A1 A15 v6 A0 h_2 st) (XK zE R (cK Zat.B [1,1,1,1,1,1,1,0,1,0,0] :: .h J2 :: [.b 0,cK Zat.B [1,1,1,1,1,1,1,1]])):=by
 unfold Zat.p2 at h;refine Zba h (fun c36 h24=>?_) (fun c36 h25=>?_)
 ·obtain ⟨c37,h26⟩:=ZaW h24;obtain ⟨x16,c38,h27⟩:=Zen h26;obtain ⟨c39,h28⟩:=ZaW h27;exact an fol [rZ,cT,.r [(1,{oe:=x16.ls})],rZ,rZ] [3,4,6,9,10,47,48,49] [4,6,10] (aO c36 c37 (oD c36) c38 z0 (eN (zG A15)) z0 (aI (eN (1)) c39)) (hc2 (A15++[[zM .i64 x16.Time]]) (w64 (v6+1)) h28)
 refine Zba h25 (fun c40 h29=>?_) (fun c40 h30=>?_)
 ·obtain ⟨x17,c41,h31⟩:=Zae h29;obtain ⟨c42,h32⟩:=ZaW h31;obtain ⟨x18,c43,h33⟩:=Zae h32;let o4:List PS:=[rZ,cF,.d {ds:=[(6,{rs:=[.row true 1 x17],ns:=[65],m:=2}),(7,{rs:=[oI x18],m:=2})],hv:=64,Hs:=[64]}]
  have t6 {Q:Prop} (q:Q):=aO c36 c40 c40 c40 c40 c40 c40 (aO z0 (eN (zG A15)) c42 (Zcp.snd c41) c40 z0 (eN (zG x17)) (aK (ZaM.snd c43) c40 c40 q));refine Zba h33 (fun c44 h34=>?_) (fun c44 h35=>?_)
  ·exact xSd fol h34 hE (o4++[cT,rZ]) (t6 c44)
  exact aqd fol (o4++[cF,.s 1]) [3,4,6,9] [4,6] (t6 c44) (Zat.p3_ok h35 hE)
 exact aqd fol [rZ,cF,.d {ds:=[(3,wF),(4,wF),(5,wF),(6,wF),(7,wF),(8,wF),(9,yF)],hv:=0,Hs:=[]},cF,.s 1] [3,4,6,9] [4,6] (aO c36 c40 c40 c40 c40 c40 c40 (aI c40 eF)) (Zat.p3_ok h30 hE)
theorem Zat.p1_ok {A1 A3 A0 h_2 st r} (h:Zat.p1 N A1 A3 A0 h_2=some r) (hE:En Tryz.f43 g0 w0 (Zat.rs r) st R):At g0 w0 (Zat.p1.S A1 A3 A0 h_2 st) (XK zE R [cK Zat.B [1,1,1,1]]):=by
 unfold Zat.p1 at h;obtain ⟨x4,c9,h36⟩:=Zae h;let o5:List PS:=[.d {ds:=[(6,q1 [oI x4])],hv:=0,Hs:=[]}]
 have t7 {Q:Prop} (q:Q):=aI (ZaE.snd c9) q;refine Zba h36 (fun c10 h37=>?_) (fun c10 h38=>?_)
 ·exact xSd fol h37 hE (o5++[cT,rZ]) (t7 c10)
 obtain ⟨x5,c11,h39⟩:=Zae h38;let o6:List PS:=o5++[cF,.r [(2,q1 [oB x5])]]
 refine Zba h39 (fun c12 h40=>?_) (fun c12 h41=>?_)
 ·exact xSd fol h40 hE (o6++[cT,rZ]) (t7 (aJ c10 (ZdM.snd c11) c12))
 exact aqd fol (o6++[cF,.r [(0,{m:=1})],rZ]) [3,4,6,9,10,47,48,49] [4,6,10] (t7 (aJ c10 (ZdM.snd c11) c12)) (At.loop N (At.loopN (fun y:LL×Int=>Zat.p2.S A3 A1 y.1 y.2 A0 h_2 st) (fun c J hc y h=>Zat.p2_ok (A15:=y.1) (v6:=y.2) h hE (fun A15 v6=>hc (A15,v6))) N ([],0) h41))
theorem Zat.snd {A0:Zah} {A1:LL} {h_2:Zal} {A3:Int} {r:Int} (h:Zat N A0 A1 h_2 A3=some r):Zdo zE 43 [.agg A0.ls,.one (vR 68 A1),.agg h_2.ls,oI A3] (Zat.rs r):=fun st=>
 sO Zat.B Tryz.func43 fun g0 w0 R hE=>by
  unfold Zat at h;obtain ⟨x1,c1,h42⟩:=Zae h;let o7:List PS:=[rZ,rZ,.r [(1,q1 [oB x1])]]
  have t8 {Q:Prop} (q:Q):=aI (ZcR.snd c1) q;refine Zba h42 (fun c2 h43=>?_) (fun c2 h44=>?_)
  ·exact xS fol h43 hE (o7++[cT,rZ]) (t8 c2)
  refine Zba h44 (fun c3 h45=>?_) (fun c3 h46=>?_)
  ·obtain ⟨c4,c5,h47⟩:=ck2 h45;obtain ⟨x2,c6,h48⟩:=Zen h47;obtain ⟨x3,c7,h49⟩:=Zae h48;let o8:List PS:=o7++[cF,.d {ds:=[(9,{oe:=x2.ls}),(10,q1 [.agg [zK .u8 32 x3]])],hv:=0,Hs:=[]}]
   have t9 {Q:Prop} (q:Q):=t8 (aO c2 c3 c3 c3 c3 c3 c3 (aO c4 c5 c3 c6 c3 (ZcZ.snd c7) c3 (aI c3 q)));refine Zba h49 (fun c8 h50=>?_) (fun c8 h51=>?_)
   ·exact xSd fol h50 hE (o8++[cT,rZ]) (t9 c8)
   exact aqd fol (o8++[cF,.s 1]) [1,3,4,6,9] [4,6] (t9 c8) (Zat.p1_ok h51 hE)
  exact aqd fol (o7++[cF,.d {ds:=[(3,wF),(4,wF),(5,wF),(6,wF),(7,wF),(8,wF),(9,wF),(10,wF),(11,wF),(12,yF)],hv:=0,Hs:=[]},cF,.s 1]) [1,3,4,6,9] [4,6] (t8 (aO c2 c3 c3 c3 c3 c3 c3 (aL c3 c3 c3 c3 eF))) (Zat.p1_ok h46 hE)
def Zbb.B:Code:=Tryz.f42.body.getD .skip
def Zbb.rs (r:Int×LL):List CV:=[oI r.1]
def Zbb.p1 (N:Nat) (i1:Nat) (x2:Zac) (A1_0:List Int) (st:LL) (c1_:Int→Option (Int×LL)):Int→Option (Int×LL):=fun v3=> if (decide (v3<(len x2.Ids)))=true then chk (0≤v3)<| ZcS (st[i1]?) ZbL fun x4=> ZcS (x4.Ids[0+(zC v3)]?) ZgW fun x5=> if (x5==A1_0)=true then some (v3,st) else c1_ (w64 (v3+1)) else some ((-1),st)
def Zbb (N:Nat) (A0:Option Nat) (A1_0:List Int) (st:LL):Option (Int×LL):= Zbj A0 fun i1=> ZcS (st[i1]?) ZbL fun x2=> loopN (Zbb.p1 N i1 x2 A1_0 st) N 0
def Zbb.p1.S (i1:Nat) (x2:Zac) (v3:Int) (A1_0:List Int) (st:LL):S:=mkS 22 [(3,sA 3),(10,.one (.h (.mem (.obj i1) 84 0) 32 0 (zG x2.Ids))),(11,sI (len x2.Ids)),(12,sI v3)] [(3,.cells [zK .u8 32 A1_0])] st
theorem Zbb.p1_ok {i1 x2 v3 A1_0 st r c1_ J1} (h:Zbb.p1 N i1 x2 A1_0 st c1_ v3=some r) (hE:En Tryz.f42 g0 w0 (Zbb.rs r) r.2 R) (hc1 : ∀v3,c1_ v3=some r→At g0 w0 (Zbb.p1.S i1 x2 v3 A1_0 st) J1):At g0 w0 (Zbb.p1.S i1 x2 v3 A1_0 st) (XK zE R (cK Zbb.B [1,0,1,0,0] :: .h J1 :: [.b 0,cK Zbb.B [1,1]])):=by
 unfold Zbb.p1 at h;refine Zba h (fun c3 h1=>?_) (fun c3 h2=>?_)
 ·obtain ⟨c4,h3⟩:=ZaW h1;obtain ⟨x4,c5,h4⟩:=Zch h3;obtain ⟨x5,c6,h5⟩:=Zho h4;let o1:List PS:=[rZ,cT,.r [(2,{oc:=x4.lo,oe:=[zK .u8 32 x5]})],rZ]
  refine Zba h5 (fun c7 h6=>?_) (fun c7 h7=>?_)
  ·exact xT fol h6 hE (o1++[cT,rZ]) (aM c3 c4 (oD c3) c6 c5 c7)
  exact an fol (o1++[cF,rZ]) [3,10,11,12] [3] (aM c3 c4 (oD c3) c6 c5 c7) (hc1 (w64 (v3+1)) h7)
 exact xT fol h2 hE [rZ,cF,rZ] c3
theorem Zbb.snd {A0:Option Nat} {A1_0:List Int} {st:LL} {r:Int×LL} (h:Zbb N A0 A1_0 st=some r):Snd zE 42 [.one (yN A0),.agg [zK .u8 32 A1_0]] st (Zbb.rs r) r.2:=
 sO Zbb.B Tryz.func42 fun g0 w0 R hE=>by
  unfold Zbb at h;obtain ⟨i1,rfl,h8⟩:=Zae h;obtain ⟨x2,c2,h9⟩:=Zch h8;exact aq fol [rZ,.r [(3,{oc:=x2.lo})]] [3,10,11,12] [3] c2 (At.loop N (At.loopN (fun y:Int=>Zbb.p1.S i1 x2 y A1_0 st) (fun c J hc y h=>Zbb.p1_ok h hE (fun v3=>hc v3)) N 0 h9))
def Zey.B:Code:=Tryz.f45.body.getD .skip
def Zey.rs (r:(List Int)):List CV:=[.agg [zK .u64 4 r]]
def Zey (N:Nat) (A0_0 A1_0:List Int):Option (List Int):= Zbj (Zbc N A0_0 A1_0) fun (x1,x2)=> if x2=true then Zbj (Zda N ) fun x3=> some x3 else some x1
theorem Zey.snd {A0_0 A1_0:List Int} {r:(List Int)} (h:Zey N A0_0 A1_0=some r):Zdo zE 45 [.agg [zK .u64 4 A0_0],.agg [zK .u64 4 A1_0]] (Zey.rs r):=fun st=>
 sO Zey.B Tryz.func45 fun g0 w0 R hE=>by
  unfold Zey at h;obtain ⟨⟨x1,x2⟩,c1,h1⟩:=Zae h;let o1:List PS:=[rZ,.r [(2,q1 [.agg [zK .u64 4 x1],oB x2])],rZ]
  refine Zba h1 (fun c2 h2=>?_) (fun c2 h3=>?_)
  ·obtain ⟨x3,c3,h4⟩:=Zae h2;exact xS fol h4 hE (o1++[cT,.r [(0,q1 [.agg [zK .u64 4 x3]])]]) (aJ (Zbc.snd c1) c2 (Zda.snd c3))
  exact xS fol h3 hE (o1++[cF,rZ]) (aI (Zbc.snd c1) c2)
def ZcQ.B:Code:=Tryz.f19.body.getD .skip
def ZcQ.rs (r:Int×Int×Int×LL):List CV:=[oI r.1,oI r.2.1,oI r.2.2.1]
def ZcQ (N:Nat) (A0:Option Nat) (A1:Zal) (A2:Int) (st:LL):Option (Int×Int×Int×LL):= Zbj (ZcR N A1) fun x1=> if (!x1)=true then some ((-1),1,8,st) else Zbj (ZcZ N A1) fun x2=> Zbj (Zbb N A0 x2 st) fun (x3,st4)=> if (decide (x3≥0))=true then some (x3,0,0,st4) else Zbj (Zbb N A0 A1.Prev st4) fun (x5,st6)=> if (decide (x5<0))=true then some ((-1),2,5,st6) else Zbj A0 fun i7=> ZcS (st6[i7]?) ZbL fun x8=> Zbj (ZaU N x8 x5) fun x9=> chk (Zee x9=true)<| Zbj (Zat N x8.Rules x9 A1 A2) fun x10=> if (decide (x10>0))=true then some ((-1),x10,8,st6) else if (decide ((len x8.List_)≥x8.Room))=true then some ((-1),0,6,st6) else chk (zG (x8.List_++[A1.ls])*96≤140737488355328)<| chk (zG (x8.Ids++[[zK .u8 32 x2]])*32≤140737488355328)<| chk (0≤x5)<| chk (x5<(len x8.Works))<| ZcS (x8.Works[0+(zC x5)]?) ZgX fun x11=> Zbj (Zcj N A1.Bits) fun x12=> Zbj (Zey N x11 x12) fun x13=> chk (zG (x8.Works++[[zK .u64 4 x13]])*32≤140737488355328)<| chk (zG (x8.Ahead++[[zM .i64 x5]])*8≤140737488355328)<| some (w64 ((len (x8.List_++[A1.ls]))-1),0,0,zQ (zQ (zQ (zQ (zQ (zQ (zQ (zQ st6 i7 (gs x8.lo 15)) i7 (Zac.lo {x8 with List_:=x8.List_++[A1.ls]})) i7 (gs (Zac.lo {x8 with List_:=x8.List_++[A1.ls]}) 16)) i7 (Zac.lo {x8 with List_:=x8.List_++[A1.ls],Ids:=x8.Ids++[[zK .u8 32 x2]]})) i7 (gs (Zac.lo {x8 with List_:=x8.List_++[A1.ls],Ids:=x8.Ids++[[zK .u8 32 x2]]}) 18)) i7 (Zac.lo {x8 with List_:=x8.List_++[A1.ls],Ids:=x8.Ids++[[zK .u8 32 x2]],Works:=x8.Works++[[zK .u64 4 x13]]})) i7 (gs (Zac.lo {x8 with List_:=x8.List_++[A1.ls],Ids:=x8.Ids++[[zK .u8 32 x2]],Works:=x8.Works++[[zK .u64 4 x13]]}) 17)) i7 (Zac.lo (Zac.mk x8.Rules (x8.List_++[A1.ls]) (x8.Ids++[[zK .u8 32 x2]]) (x8.Ahead++[[zM .i64 x5]]) (x8.Works++[[zK .u64 4 x13]]) x8.Room)))
theorem ZcQ.snd {A0:Option Nat} {A1:Zal} {A2:Int} {st:LL} {r:Int×Int×Int×LL} (h:ZcQ N A0 A1 A2 st=some r):Snd zE 19 [.one (yN A0),.agg A1.ls,oI A2] st (ZcQ.rs r) r.2.2.2:=
 sO ZcQ.B Tryz.func19 fun g0 w0 R hE=>by
  unfold ZcQ at h;obtain ⟨x1,c1,h1⟩:=Zae h;let o1:List PS:=[rZ,.r [(1,q1 [oB x1])]]
  have t1 {Q:Prop} (q:Q):=aI (ZcR.snd c1) q;refine Zba h1 (fun c2 h2=>?_) (fun c2 h3=>?_)
  ·exact xV fol h2 hE (o1++[cT,rZ]) (t1 c2)
  obtain ⟨x2,c3,h4⟩:=Zae h3;obtain ⟨⟨x3,st4⟩,c4,h5⟩:=Zae h4;let o2:List PS:=o1++[cF,.r [(2,q1 [.agg [zK .u8 32 x2]]),(3,{rs:=[oI x3],st:=st4})],rZ]
  have t2 {Q:Prop} (q:Q):=t1 (aK c2 (ZcZ.snd c3) (Zbb.snd c4) q);refine Zba h5 (fun c5 h6=>?_) (fun c5 h7=>?_)
  ·exact xV fol h6 hE (o2++[cT,rZ]) (t2 c5)
  obtain ⟨⟨x5,st6⟩,c6,h8⟩:=Zae h7;let o3:List PS:=o2++[cF,.r [(3,{rs:=[oI x5],st:=st6})],rZ]
  have t3 {Q:Prop} (q:Q):=t2 (aJ c5 (Zbb.snd c6) q);refine Zba h8 (fun c7 h9=>?_) (fun c7 h10=>?_)
  ·exact xV fol h9 hE (o3++[cT,rZ]) (t3 c7)
  obtain ⟨i7,rfl,h11⟩:=Zae h10;obtain ⟨x8,c9,h12⟩:=Zch h11;obtain ⟨x9,c10,h13⟩:=Zae h12;obtain ⟨c11,h14⟩:=ZaW h13;obtain ⟨x10,c12,h15⟩:=Zae h14;let o4:List PS:=o3++[cF,.d {ds:=[(3,{oc:=x8.lo}),(6,{rs:=[.row true 68 x9],ns:=[34],m:=10,cv:=[.one (wJ 88 x8.ls)]}),(9,{rs:=[oI x10],m:=2})],hv:=64,Hs:=[64]},rZ]
  have t4 {Q:Prop} (q:Q):=t3 (aO c7 c9 c9 (bO 88 c9 (Zac.bv x8)) c11 (ZaU.snd c10) z0 (aJ (eN (zG x9)) (Zat.snd c12) q));refine Zba h15 (fun c13 h16=>?_) (fun c13 h17=>?_)
  ·exact xVd fol h16 hE (o4++[cT,rZ]) (t4 c13)
  let o5:List PS:=o4++[cF,.d {ds:=[(3,{oc:=x8.lo}),(8,{oc:=x8.lo})],hv:=0,Hs:=[]}]
  refine Zba h17 (fun c14 h18=>?_) (fun c14 h19=>?_)
  ·exact xVd fol h18 hE (o5++[cT,rZ]) (t4 (aK c13 c9 c9 c14))
  obtain ⟨c15,c16,c17,c18,h20⟩:=ck4 h19;obtain ⟨x11,c19,h21⟩:=Zhp h20;obtain ⟨x12,c20,h22⟩:=Zae h21;obtain ⟨x13,c21,h23⟩:=Zae h22;obtain ⟨c22,c23,h24⟩:=ck2 h23;exact xVd fol h24 hE (o5++[cF,.d {ds:=[(4,{oc:=x8.lo}),(7,{oe:=x8.lo}),(10,{oc:=gs x8.lo 15,mv:=[58]})],hv:=1216,Hs:=[64,192,1216]},.d {ds:=[(4,{oc:=Zac.lo {x8 with List_:=x8.List_++[A1.ls]}}),(6,q1 [.agg [zK .u8 32 x2]]),(8,{oe:=Zac.lo {x8 with List_:=x8.List_++[A1.ls]}}),(11,{oc:=gs (Zac.lo {x8 with List_:=x8.List_++[A1.ls]}) 16,mv:=[69]})],hv:=2432,Hs:=[128,384,2432]},.d {ds:=[(4,{oc:=Zac.lo {x8 with List_:=x8.List_++[A1.ls],Ids:=x8.Ids++[[zK .u8 32 x2]]}}),(8,{oc:=Zac.lo {x8 with List_:=x8.List_++[A1.ls],Ids:=x8.Ids++[[zK .u8 32 x2]]}}),(11,{oc:=Zac.lo {x8 with List_:=x8.List_++[A1.ls],Ids:=x8.Ids++[[zK .u8 32 x2]]},oe:=[zK .u64 4 x11]}),(14,q1 [.agg [zK .u64 4 x12]]),(15,q1 [.agg [zK .u64 4 x13]]),(17,{oe:=Zac.lo {x8 with List_:=x8.List_++[A1.ls],Ids:=x8.Ids++[[zK .u8 32 x2]]}}),(20,{oc:=gs (Zac.lo {x8 with List_:=x8.List_++[A1.ls],Ids:=x8.Ids++[[zK .u8 32 x2]]}) 18,mv:=[89]})],hv:=1245184,Hs:=[65536,196608,1245184]},.r [(4,{oc:=Zac.lo {x8 with List_:=x8.List_++[A1.ls],Ids:=x8.Ids++[[zK .u8 32 x2]],Works:=x8.Works++[[zK .u64 4 x13]]}}),(7,{oe:=Zac.lo {x8 with List_:=x8.List_++[A1.ls],Ids:=x8.Ids++[[zK .u8 32 x2]],Works:=x8.Works++[[zK .u64 4 x13]]}}),(10,{oc:=gs (Zac.lo {x8 with List_:=x8.List_++[A1.ls],Ids:=x8.Ids++[[zK .u8 32 x2]],Works:=x8.Works++[[zK .u64 4 x13]]}) 17,mv:=[99]})],.r [(3,{oc:=Zac.lo (Zac.mk x8.Rules (x8.List_++[A1.ls]) (x8.Ids++[[zK .u8 32 x2]]) (x8.Ahead++[[zM .i64 x5]]) (x8.Works++[[zK .u64 4 x13]]) x8.Room)})]]) (t4 (aO c13 c9 c9 c14 c9 c9 z0 (aO (eN (zG x8.List_)) c9 z0 (eN (1)) c15 (Zap c9 (gs x8.lo 15)) z0 (aO (eN (zG (x8.List_++[A1.ls]))) (Zap (Zap c9 (gs x8.lo 15)) (Zac.lo {x8 with List_:=x8.List_++[A1.ls]})) (Zap (Zap c9 (gs x8.lo 15)) (Zac.lo {x8 with List_:=x8.List_++[A1.ls]})) (ZcZ.snd c3) z0 (eN (zG x8.Ids)) (Zap (Zap c9 (gs x8.lo 15)) (Zac.lo {x8 with List_:=x8.List_++[A1.ls]})) (aO z0 (eN (1)) c16 (Zap (Zap (Zap c9 (gs x8.lo 15)) (Zac.lo {x8 with List_:=x8.List_++[A1.ls]})) (gs (Zac.lo {x8 with List_:=x8.List_++[A1.ls]}) 16)) z0 (eN (zG (x8.Ids++[[zK .u8 32 x2]]))) (Zap (Zap (Zap (Zap c9 (gs x8.lo 15)) (Zac.lo {x8 with List_:=x8.List_++[A1.ls]})) (gs (Zac.lo {x8 with List_:=x8.List_++[A1.ls]}) 16)) (Zac.lo {x8 with List_:=x8.List_++[A1.ls],Ids:=x8.Ids++[[zK .u8 32 x2]]})) (aO (Zap (Zap (Zap (Zap c9 (gs x8.lo 15)) (Zac.lo {x8 with List_:=x8.List_++[A1.ls]})) (gs (Zac.lo {x8 with List_:=x8.List_++[A1.ls]}) 16)) (Zac.lo {x8 with List_:=x8.List_++[A1.ls],Ids:=x8.Ids++[[zK .u8 32 x2]]})) (Zap (Zap (Zap (Zap c9 (gs x8.lo 15)) (Zac.lo {x8 with List_:=x8.List_++[A1.ls]})) (gs (Zac.lo {x8 with List_:=x8.List_++[A1.ls]}) 16)) (Zac.lo {x8 with List_:=x8.List_++[A1.ls],Ids:=x8.Ids++[[zK .u8 32 x2]]})) c17 c18 c19 (Zap (Zap (Zap (Zap c9 (gs x8.lo 15)) (Zac.lo {x8 with List_:=x8.List_++[A1.ls]})) (gs (Zac.lo {x8 with List_:=x8.List_++[A1.ls]}) 16)) (Zac.lo {x8 with List_:=x8.List_++[A1.ls],Ids:=x8.Ids++[[zK .u8 32 x2]]})) (Zcj.snd c20) (aO (Zey.snd c21) z0 (eN (zG x8.Works)) (Zap (Zap (Zap (Zap c9 (gs x8.lo 15)) (Zac.lo {x8 with List_:=x8.List_++[A1.ls]})) (gs (Zac.lo {x8 with List_:=x8.List_++[A1.ls]}) 16)) (Zac.lo {x8 with List_:=x8.List_++[A1.ls],Ids:=x8.Ids++[[zK .u8 32 x2]]})) z0 (eN (1)) c22 (aO (Zap (Zap (Zap (Zap (Zap c9 (gs x8.lo 15)) (Zac.lo {x8 with List_:=x8.List_++[A1.ls]})) (gs (Zac.lo {x8 with List_:=x8.List_++[A1.ls]}) 16)) (Zac.lo {x8 with List_:=x8.List_++[A1.ls],Ids:=x8.Ids++[[zK .u8 32 x2]]})) (gs (Zac.lo {x8 with List_:=x8.List_++[A1.ls],Ids:=x8.Ids++[[zK .u8 32 x2]]}) 18)) z0 (eN (zG (x8.Works++[[zK .u64 4 x13]]))) (Zap (Zap (Zap (Zap (Zap (Zap c9 (gs x8.lo 15)) (Zac.lo {x8 with List_:=x8.List_++[A1.ls]})) (gs (Zac.lo {x8 with List_:=x8.List_++[A1.ls]}) 16)) (Zac.lo {x8 with List_:=x8.List_++[A1.ls],Ids:=x8.Ids++[[zK .u8 32 x2]]})) (gs (Zac.lo {x8 with List_:=x8.List_++[A1.ls],Ids:=x8.Ids++[[zK .u8 32 x2]]}) 18)) (Zac.lo {x8 with List_:=x8.List_++[A1.ls],Ids:=x8.Ids++[[zK .u8 32 x2]],Works:=x8.Works++[[zK .u64 4 x13]]})) z0 (eN (zG x8.Ahead)) (Zap (Zap (Zap (Zap (Zap (Zap c9 (gs x8.lo 15)) (Zac.lo {x8 with List_:=x8.List_++[A1.ls]})) (gs (Zac.lo {x8 with List_:=x8.List_++[A1.ls]}) 16)) (Zac.lo {x8 with List_:=x8.List_++[A1.ls],Ids:=x8.Ids++[[zK .u8 32 x2]]})) (gs (Zac.lo {x8 with List_:=x8.List_++[A1.ls],Ids:=x8.Ids++[[zK .u8 32 x2]]}) 18)) (Zac.lo {x8 with List_:=x8.List_++[A1.ls],Ids:=x8.Ids++[[zK .u8 32 x2]],Works:=x8.Works++[[zK .u64 4 x13]]})) (aN z0 (eN (1)) c23 (Zap (Zap (Zap (Zap (Zap (Zap (Zap c9 (gs x8.lo 15)) (Zac.lo {x8 with List_:=x8.List_++[A1.ls]})) (gs (Zac.lo {x8 with List_:=x8.List_++[A1.ls]}) 16)) (Zac.lo {x8 with List_:=x8.List_++[A1.ls],Ids:=x8.Ids++[[zK .u8 32 x2]]})) (gs (Zac.lo {x8 with List_:=x8.List_++[A1.ls],Ids:=x8.Ids++[[zK .u8 32 x2]]}) 18)) (Zac.lo {x8 with List_:=x8.List_++[A1.ls],Ids:=x8.Ids++[[zK .u8 32 x2]],Works:=x8.Works++[[zK .u64 4 x13]]})) (gs (Zac.lo {x8 with List_:=x8.List_++[A1.ls],Ids:=x8.Ids++[[zK .u8 32 x2]],Works:=x8.Works++[[zK .u64 4 x13]]}) 17)) z0 (eN (zG (x8.Ahead++[[zM .i64 x5]]))) (Zap (Zap (Zap (Zap (Zap (Zap (Zap (Zap c9 (gs x8.lo 15)) (Zac.lo {x8 with List_:=x8.List_++[A1.ls]})) (gs (Zac.lo {x8 with List_:=x8.List_++[A1.ls]}) 16)) (Zac.lo {x8 with List_:=x8.List_++[A1.ls],Ids:=x8.Ids++[[zK .u8 32 x2]]})) (gs (Zac.lo {x8 with List_:=x8.List_++[A1.ls],Ids:=x8.Ids++[[zK .u8 32 x2]]}) 18)) (Zac.lo {x8 with List_:=x8.List_++[A1.ls],Ids:=x8.Ids++[[zK .u8 32 x2]],Works:=x8.Works++[[zK .u64 4 x13]]})) (gs (Zac.lo {x8 with List_:=x8.List_++[A1.ls],Ids:=x8.Ids++[[zK .u8 32 x2]],Works:=x8.Works++[[zK .u64 4 x13]]}) 17)) (Zac.lo (Zac.mk x8.Rules (x8.List_++[A1.ls]) (x8.Ids++[[zK .u8 32 x2]]) (x8.Ahead++[[zM .i64 x5]]) (x8.Works++[[zK .u64 4 x13]]) x8.Room))))))))))))
def ZcH.B:Code:=Tryz.f33.body.getD .skip
def ZcH.rs (r:LL):List CV:=[.row true 1 r]
def ZcH (N:Nat) (A0:LL) (A1 A2:Int):Option LL:= chk (0≤A1)<| chk (0≤A2)<| chk ((zC A1)≤(zC A2))<| chk ((zC A2)≤(zC (len A0)))<| chk ((zC (len A0))≤(zG A0))<| if (A1==A2)=true then some A0 else chk ((zC A1)≤(zG A0))<| chk ((zC A2)≤(zG A0))<| chk (((zC A1)+((zG A0)-(zC A2)))≤(zG A0))<| chk (((0+(zC A2))+((zG A0)-(zC A2)))≤(zG A0))<| chk ((zC (((zC A1)+((zG A0)-(zC A2)):Nat):Int))≤(zC (len A0)))<| chk ((0+(zC (len A0)))≤(zG ((yO (zC A1) A0++yO ((zG A0)-(zC A2)) (wE (0+(zC A2)) A0))++wE ((zC A1)+((zG A0)-(zC A2))) A0)))<| chk ((0+(zC (((zC A1)+((zG A0)-(zC A2)):Nat):Int)))+((zC (len A0))-(zC (((zC A1)+((zG A0)-(zC A2)):Nat):Int)))=zG ((yO (zC A1) A0++yO ((zG A0)-(zC A2)) (wE (0+(zC A2)) A0))++wE ((zC A1)+((zG A0)-(zC A2))) A0))<| chk (((zC A1)+((zG A0)-(zC A2)))≤(zG (yO (0+(zC (((zC A1)+((zG A0)-(zC A2)):Nat):Int))) ((yO (zC A1) A0++yO ((zG A0)-(zC A2)) (wE (0+(zC A2)) A0))++wE ((zC A1)+((zG A0)-(zC A2))) A0)++zB ((zC (len A0))-(zC (((zC A1)+((zG A0)-(zC A2)):Nat):Int))) [zM .i64 0])))<| some (yO ((zC A1)+((zG A0)-(zC A2))) (yO (0+(zC (((zC A1)+((zG A0)-(zC A2)):Nat):Int))) ((yO (zC A1) A0++yO ((zG A0)-(zC A2)) (wE (0+(zC A2)) A0))++wE ((zC A1)+((zG A0)-(zC A2))) A0)++zB ((zC (len A0))-(zC (((zC A1)+((zG A0)-(zC A2)):Nat):Int))) [zM .i64 0]))
theorem ZcH.snd {A0:LL} {A1 A2:Int} {r:LL} (h:ZcH N A0 A1 A2=some r):Zdo zE 33 [.row true 1 A0,oI A1,oI A2] (ZcH.rs r):=fun st=>
 sO ZcH.B Tryz.func33 fun g0 w0 R hE=>by
  unfold ZcH at h;obtain ⟨c1,c2,c3,c4,c5,h1⟩:=ck5 h;have t1 {Q:Prop} (q:Q):=aN c1 c2 (tE (zG A0)) c3 c4 c5 q;refine Zba h1 (fun c6 h2=>?_) (fun c6 h3=>?_)
  ·obtain rfl:=Zad h2;exact af fol hE [.r [(0,{m:=2})],rZ,rZ,cT,rZ] [] 0 [0] (t1 (aJ c6 z0 (eN (zG A0))))
  obtain ⟨c7,c8,c9,c10,c11,c12,c13,c14,h4⟩:=ck8 h3;obtain rfl:=Zad h4;exact afd fol hE [.r [(0,{m:=2})],rZ,rZ,cF,rZ,.d {ds:=[(6,{m:=9})],hv:=64,Hs:=[64]},.r [(4,{m:=9})],rZ] [] 2 [0] (t1 (aO c6 c1 (yP (zC A1)) c7 c2 c8 (zJ (zG A0)) (aO z0 c9 c10 (tE ((zC A1)+((zG A0)-(zC A2)))) (tE (zG A0)) c11 c12 (aJ c13 z0 c14))))
def ZaN.B:Code:=Tryz.f12.body.getD .skip
def ZaN.rs (r:Int×LL):List CV:=[oI r.1]
def ZaN.p2 (N:Nat) (c1_:((Option Nat)×Int×Int×LL)→Option (Int×LL)) (A36:Option Nat) (A37:Int) (A1:LL) (v2:Int) (st38:LL):Option (Int×LL):= c1_ (A36,A37,w64 (v2+1),st38)
def ZaN.p1 (N:Nat) (A1:LL) (c1_:((Option Nat)×Int×Int×LL)→Option (Int×LL)):((Option Nat)×Int×Int×LL)→Option (Int×LL):=fun (A20,F1,v2,st21)=> if (decide (v2<(len A1)))=true then chk (0≤v2)<| ZcS (A1[zC v2]?) ZcW fun x22=> Zbj (Zcl N A20 x22 st21) fun (x23,st24)=> if (!x23)=true then ZaN.p2 N c1_ A20 F1 A1 v2 st24 else Zbj A20 fun i25=> ZcS (st24[i25]?) Zbw fun x26 x27=> Zbj x26 fun i28=> ZcS (st24[i28]?) Zbw fun x29 x30=> Zbj x29 fun i31=> ZcS (st24[i31]?) Zby fun x32=> Zbj (Zcr N (ZaS.mk (Zau.mk x32 x30) x27) x22) fun (x33,x34)=> if x34=true then chk ((0+(zG x27))≤(zG x27))<| Zbj (ZcH N (yO (zG x27) (wE 0 x27)) x33 (w64 (x33+1))) fun x35=> ZaN.p2 N c1_ (some i25) (w64 (F1+1)) A1 v2 (zQ (zQ st24 i25 [yN (some i28),L.gone]) i25 [yN (some i28),yT true 1 x35]) else ZaN.p2 N c1_ (some i25) F1 A1 v2 st24 else some (F1,st21)
def ZaN (N:Nat) (A0:Option Nat) (A1 st:LL):Option (Int×LL):= loopN (ZaN.p1 N A1) N (A0,0,0,st)
def ZaN.p2.S (A36:Option Nat) (A37:Int) (A1:LL) (v2:Int) (st38:LL):S:=mkS 42 [(0,sP A36),(5,sI A37),(10,sV 1 A1),(11,sI (len A1)),(12,sI v2)] [] st38
def ZaN.p1.S (A20:Option Nat) (F1:Int) (A1:LL) (v2:Int) (st21:LL):S:=mkS 42 [(0,sP A20),(5,sI F1),(10,sV 1 A1),(11,sI (len A1)),(12,sI v2)] [] st21
theorem ZaN.p2_ok {A36 A37 A1 v2 st38 r c1_ J1} (h:ZaN.p2 N c1_ A36 A37 A1 v2 st38=some r) (hE:En Tryz.f12 g0 w0 (ZaN.rs r) r.2 R) (hc1 : ∀A20 F1 v2 st21,c1_ (A20,F1,v2,st21)=some r→At g0 w0 (ZaN.p1.S A20 F1 A1 v2 st21) J1):At g0 w0 (ZaN.p2.S A36 A37 A1 v2 st38) (XK zE R [cK ZaN.B [1,1,0,1,0,0,1,1,1],.h J1,.b 0,cK ZaN.B [1,1,1]]):=by
 unfold ZaN.p2 at h;exact an fol [rZ] [0,5,10,11,12] [] trivial (hc1 A36 A37 (w64 (v2+1)) st38 h)
theorem ZaN.p1_ok {A20 F1 A1 v2 st21 r c1_ J1} (h:ZaN.p1 N A1 c1_ (A20,F1,v2,st21)=some r) (hE:En Tryz.f12 g0 w0 (ZaN.rs r) r.2 R) (hc1 : ∀A20 F1 v2 st21,c1_ (A20,F1,v2,st21)=some r→At g0 w0 (ZaN.p1.S A20 F1 A1 v2 st21) J1):At g0 w0 (ZaN.p1.S A20 F1 A1 v2 st21) (XK zE R (cK ZaN.B [1,1,0,1,0,0] :: .h J1 :: [.b 0,cK ZaN.B [1,1,1]])):=by
 unfold ZaN.p1 at h;refine Zba h (fun c16 h1=>?_) (fun c16 h2=>?_)
 ·obtain ⟨c17,h3⟩:=ZaW h1;obtain ⟨x22,c18,h4⟩:=Zci h3;obtain ⟨⟨x23,st24⟩,c19,h5⟩:=Zae h4;let o1:List PS:=[rZ,cT,.r [(1,{oe:=[zM .i64 x22]})],.r [(2,{rs:=[oB x23],st:=st24})]]
  have t1 {Q:Prop} (q:Q):=aM c16 c17 (oD c16) c18 (Zcl.snd c19) q;refine Zba h5 (fun c20 h6=>?_) (fun c20 h7=>?_)
  ·exact aq fol (o1++[cT,.s 4]) [0,5,10,11,12] [] (t1 c20) (ZaN.p2_ok h6 hE hc1)
  obtain ⟨i25,rfl,h8⟩:=Zae h7;obtain ⟨x26,x27,c22,h9⟩:=Zbe h8;obtain ⟨i28,rfl,h10⟩:=Zae h9;obtain ⟨x29,x30,c24,h11⟩:=Zbe h10;obtain ⟨i31,rfl,h12⟩:=Zae h11;obtain ⟨x32,c26,h13⟩:=Zbl h12;obtain ⟨⟨x33,x34⟩,c27,h14⟩:=Zae h13;let o2:List PS:=o1++[cF,.r [(2,{rs:=[oI x33,oB x34],m:=10,cv:=[.one (wJ 2 (ZaS.ls (ZaS.mk (Zau.mk x32 x30) x27)))]})],rZ]
  have t2 {Q:Prop} (q:Q):=t1 (aK c20 (bO 2 c22 ((bC 2 c24 ((bC 87 c26 (ZaF.bv x32) (bW bN)):BVs st24 [yN (some i31),yT true 1 x30] (Zau.ls (Zau.mk x32 x30))) (bW bN)):BVs st24 [yN (some i28),yT true 1 x27] (ZaS.ls (ZaS.mk (Zau.mk x32 x30) x27)))) (Zcr.snd c27) q);refine Zba h14 (fun c28 h15=>?_) (fun c28 h16=>?_)
  ·obtain ⟨c29,h17⟩:=ZaW h15;obtain ⟨x35,c30,h18⟩:=Zae h17;exact aq fol (o2++[cT,.r [(4,{oc:=[yN (some i28),yT true 1 x27]}),(8,{oe:=[yN (some i28),yT true 1 x27],rs:=[.row true 1 x35],st:=zQ st24 i25 [yN (some i28),L.gone],m:=6,vm:=1}),(11,{oc:=[yN (some i28),L.gone],mv:=[35]})],rZ,.s 4]) [0,5,10,11,12] [] (t2 (aO c28 c22 c29 c22 (ZcH.snd c30 (zQ st24 i25 [yN (some i28),L.gone])) (Zap c22 [yN (some i28),L.gone]) z0 (eN (zG x35)))) (ZaN.p2_ok h18 hE hc1)
  exact aq fol (o2++[cF,.s 4]) [0,5,10,11,12] [] (t2 c28) (ZaN.p2_ok h16 hE hc1)
 exact xT fol h2 hE [rZ,cF,rZ] c16
theorem ZaN.snd {A0:Option Nat} {A1:LL} {st:LL} {r:Int×LL} (h:ZaN N A0 A1 st=some r):Snd zE 12 [.one (yN A0),.one (vR 1 A1)] st (ZaN.rs r) r.2:=
 sO ZaN.B Tryz.func12 fun g0 w0 R hE=>by
  unfold ZaN at h;exact aq fol [rZ,rZ,rZ] [0,5,10,11,12] [] trivial (At.loop N (At.loopN (fun y:(Option Nat)×Int×Int×LL=>ZaN.p1.S y.1 y.2.1 A1 y.2.2.1 y.2.2.2) (fun c J hc y h=>ZaN.p1_ok (A20:=y.1) (F1:=y.2.1) (v2:=y.2.2.1) (st21:=y.2.2.2) h hE (fun A20 F1 v2 st21=>hc (A20,F1,v2,st21))) N (A0,0,0,st) h))
def Zdw.B:Code:=Tryz.f16.body.getD .skip
def Zdw.rs (r:Bool×LL):List CV:=[oB r.1]
def Zdw (N:Nat) (A0:Option Nat) (A1 A2:Int) (st:LL):Option (Bool×LL):= if (!(wY A0))=true then Zbj A0 fun i1=> ZcS (st[i1]?) Zbw fun x2 x3=> Zbj x2 fun i4=> ZcS (st[i4]?) Zby fun x5=> Zbj (ZbV N x5 A1 A2) fun x6=> some (x6,st) else some (false,st)
theorem Zdw.snd {A0:Option Nat} {A1 A2:Int} {st:LL} {r:Bool×LL} (h:Zdw N A0 A1 A2 st=some r):Snd zE 16 [.one (yN A0),oI A1,oI A2] st (Zdw.rs r) r.2:=
 sO Zdw.B Tryz.func16 fun g0 w0 R hE=>by
  unfold Zdw at h;refine Zba h (fun c1 h1=>?_) (fun c1 h2=>?_)
  ·obtain ⟨i1,rfl,h3⟩:=Zae h1;obtain ⟨x2,x3,c3,h4⟩:=Zbe h3;obtain ⟨i4,rfl,h5⟩:=Zae h4;obtain ⟨x5,c5,h6⟩:=Zbl h5;obtain ⟨x6,c6,h7⟩:=Zae h6;exact xT fol h7 hE [rZ,.r [(6,{oc:=[yN (some i4),yT true 1 x3]}),(9,{rs:=[oB x6],m:=10,cv:=[.one (wJ 87 x5.ls)]})]] (aO eT eT eT eT c3 eT eT (aK eT (bO 87 c5 (ZaF.bv x5)) (ZbV.snd c6) eT))
  exact xT fol h2 hE [rZ,.r [(3,wF),(4,wF),(5,wF),(6,wF),(7,wF),(8,wF),(9,wF),(10,yF)]] (aO c1 c1 c1 c1 c1 c1 c1 c1)
def ZcF.B:Code:=Tryz.f36.body.getD .skip
def ZcF.rs (r:Bool):List CV:=[oB r]
def ZcF (N:Nat) (A0:Int) (A1_0:Zau) (A2_0:Int):Option Bool:= Zbj (Zcc N A1_0 A2_0 A0) fun x1=> some x1
theorem ZcF.snd {A0:Int} {A1_0:Zau} {A2_0:Int} {r:Bool} (h:ZcF N A0 A1_0 A2_0=some r):Zdo zE 36 [oI A0,.one (wJ 1 [wJ 2 [wJ 2 A1_0.ls,L.gone]]),.one (wJ 1 [zM .i64 A2_0])] (ZcF.rs r):=fun st=>
 sO ZcF.B Tryz.func36 fun g0 w0 R hE=>by
  unfold ZcF at h;obtain ⟨x1,c1,h1⟩:=Zae h;exact xSd fol h1 hE [rZ,.d {ds:=[(0,{m:=2}),(3,{oe:=[wJ 2 A1_0.ls,L.gone]}),(4,{m:=2}),(6,q0 [oB x1])],hv:=64,Hs:=[64]}] (aI (eO [wJ 2 A1_0.ls,L.gone]) (Zcc.snd c1))
def Zas.B:Code:=Tryz.f64.body.getD .skip
def Zas.rs (r:Int):List CV:=[oI r]
def Zas.p1 (N:Nat) (A0:LL) (A1_0_0:Zau) (A1_1_0:Int) (c1_:Int→Option Int):Int→Option Int:=fun v1=> if (decide (v1<(len A0)))=true then chk (0≤v1)<| ZcS (A0[zC v1]?) ZcW fun x2=> Zbj (ZcF N x2 A1_0_0 A1_1_0) fun x3=> if x3=true then some v1 else c1_ (w64 (v1+1)) else some (-1)
def Zas (N:Nat) (A0:LL) (A1_0_0:Zau) (A1_1_0:Int):Option Int:= loopN (Zas.p1 N A0 A1_0_0 A1_1_0) N 0
def Zas.p1.S (A0:LL) (A1_0_0:Zau) (A1_1_0 v1:Int) (st:LL):S:=mkS 19 [(0,sV 1 A0),(1,.one (.l (L.fn 36 0 [wJ 1 [wJ 2 [wJ 2 A1_0_0.ls,L.gone]],wJ 1 [zM .i64 A1_1_0]]))),(7,sI (len A0)),(8,sI v1)] [] st
theorem Zas.p1_ok {A0 A1_0_0 A1_1_0 v1 st r c1_ J1} (h:Zas.p1 N A0 A1_0_0 A1_1_0 c1_ v1=some r) (hE:En Tryz.f64 g0 w0 (Zas.rs r) st R) (hc1 : ∀v1,c1_ v1=some r→At g0 w0 (Zas.p1.S A0 A1_0_0 A1_1_0 v1 st) J1):At g0 w0 (Zas.p1.S A0 A1_0_0 A1_1_0 v1 st) (XK zE R (cK Zas.B [1,0,1,0,0] :: .h J1 :: [.b 0,cK Zas.B [1,1]])):=by
 unfold Zas.p1 at h;refine Zba h (fun c1 h1=>?_) (fun c1 h2=>?_)
 ·obtain ⟨c2,h3⟩:=ZaW h1;obtain ⟨x2,c3,h4⟩:=Zci h3;obtain ⟨x3,c4,h5⟩:=Zae h4;let o1:List PS:=[rZ,cT,rZ,.r [(4,{oe:=[zM .i64 x2]}),(5,{rs:=[oB x3],st:=st,m:=5})]]
  have t1 {Q:Prop} (q:Q):=aM c1 c2 (oD c1) c3 (ZcF.snd c4 st) q;refine Zba h5 (fun c5 h6=>?_) (fun c5 h7=>?_)
  ·exact xS fol h6 hE (o1++[cT,rZ]) (t1 c5)
  exact an fol (o1++[cF,rZ]) [0,1,7,8] [] (t1 c5) (hc1 (w64 (v1+1)) h7)
 exact xS fol h2 hE [rZ,cF,rZ] c1
theorem Zas.snd {A0:LL} {A1_0_0:Zau} {A1_1_0:Int} {r:Int} (h:Zas N A0 A1_0_0 A1_1_0=some r):Zdo zE 64 [.one (vR 1 A0),.one (L.fn 36 0 [wJ 1 [wJ 2 [wJ 2 A1_0_0.ls,L.gone]],wJ 1 [zM .i64 A1_1_0]])] (Zas.rs r):=fun st=>
 sO Zas.B Tryz.func64 fun g0 w0 R hE=>by
  unfold Zas at h;exact aq fol [rZ,rZ] [0,1,7,8] [] trivial (At.loop N (At.loopN (fun y:Int=>Zas.p1.S A0 A1_0_0 A1_1_0 y st) (fun c J hc y h=>Zas.p1_ok h hE (fun v1=>hc v1)) N 0 h))
def Zaf.B:Code:=Tryz.f35.body.getD .skip
def Zaf.rs (r:LL):List CV:=[.row true 1 r]
def Zaf.p2 (N:Nat) (c1_:(Int×Int×LL)→Option LL) (A0:LL) (A1_0_0:Zau) (A1_1_0 A12 A3:Int) (A11:LL):Option LL:= c1_ (A12,w64 (A3+1),A11)
def Zaf.p1 (N:Nat) (A0:LL) (A1_0_0:Zau) (A1_1_0:Int) (c1_:(Int×Int×LL)→Option LL):(Int×Int×LL)→Option LL:=fun (A2,A3,A8)=> if (decide (A3<(len A0)))=true then chk (0≤A3)<| ZcS (A8[0+(zC A3)]?) ZcW fun x9=> Zbj (ZcF N x9 A1_0_0 A1_1_0) fun x10=> if (!x10)=true then chk (0≤A2)<| chk (A2<(len A0))<| Zaf.p2 N c1_ A0 A1_0_0 A1_1_0 (w64 (A2+1)) A3 (zQ A8 (0+(zC A2)) [zM .i64 x9]) else Zaf.p2 N c1_ A0 A1_0_0 A1_1_0 A2 A3 A8 else chk (0≤A2)<| chk ((zC A2)≤(zG A0))<| chk ((0+(zC A2))+((zG A0)-(zC A2))=zG A8)<| chk ((0+(zC A2))≤(zG (yO (0+(zC A2)) A8++zB ((zG A0)-(zC A2)) [zM .i64 0])))<| chk ((zC A2)≤(zG (yO (0+(zC A2)) A8++zB ((zG A0)-(zC A2)) [zM .i64 0])))<| some (yO (zC A2) (yO (0+(zC A2)) A8++zB ((zG A0)-(zC A2)) [zM .i64 0]))
def Zaf (N:Nat) (A0:LL) (A1_0_0:Zau) (A1_1_0:Int):Option LL:= Zbj (Zas N A0 A1_0_0 A1_1_0) fun x1=> if (x1==(-1))=true then some A0 else loopN (Zaf.p1 N A0 A1_0_0 A1_1_0) N (x1,w64 (x1+1),A0)
def Zaf.p2.S (A0:LL) (A1_0_0:Zau) (A1_1_0 A12 A3:Int) (A11 st:LL):S:=mkS 42 [(0,.one (.h (.row 0 0) 1 0 (zG A0))),(1,.one (.l (L.fn 36 0 [wJ 1 [wJ 2 [wJ 2 A1_0_0.ls,L.gone]],wJ 1 [zM .i64 A1_1_0]]))),(5,sI A12),(6,sI A3)] [(0,.row 0 true 1 A11)] st
def Zaf.p1.S (A0:LL) (A1_0_0:Zau) (A1_1_0 A2 A3:Int) (A8 st:LL):S:=mkS 42 [(0,.one (.h (.row 0 0) 1 0 (zG A0))),(1,.one (.l (L.fn 36 0 [wJ 1 [wJ 2 [wJ 2 A1_0_0.ls,L.gone]],wJ 1 [zM .i64 A1_1_0]]))),(5,sI A2),(6,sI A3)] [(0,.row 0 true 1 A8)] st
theorem Zaf.p2_ok {A0 A1_0_0 A1_1_0 A12 A3 A11 st r c1_ J1} (h:Zaf.p2 N c1_ A0 A1_0_0 A1_1_0 A12 A3 A11=some r) (hE:En Tryz.f35 g0 w0 (Zaf.rs r) st R) (hc1 : ∀A2 A3 A8,c1_ (A2,A3,A8)=some r→At g0 w0 (Zaf.p1.S A0 A1_0_0 A1_1_0 A2 A3 A8 st) J1):At g0 w0 (Zaf.p2.S A0 A1_0_0 A1_1_0 A12 A3 A11 st) (XK zE R [cK Zaf.B [1,1,1,0,1,0,0,1,1],.h J1,.b 0,cK Zaf.B [1,1,1,1]]):=by
 unfold Zaf.p2 at h;exact an fol [rZ] [0,1,5,6] [0] trivial (hc1 A12 (w64 (A3+1)) A11 h)
theorem Zaf.p1_ok {A0 A1_0_0 A1_1_0 A2 A3 A8 st r c1_ J1} (h:Zaf.p1 N A0 A1_0_0 A1_1_0 c1_ (A2,A3,A8)=some r) (hE:En Tryz.f35 g0 w0 (Zaf.rs r) st R) (hc1 : ∀A2 A3 A8,c1_ (A2,A3,A8)=some r→At g0 w0 (Zaf.p1.S A0 A1_0_0 A1_1_0 A2 A3 A8 st) J1):At g0 w0 (Zaf.p1.S A0 A1_0_0 A1_1_0 A2 A3 A8 st) (XK zE R (cK Zaf.B [1,1,1,0,1,0,0] :: .h J1 :: [.b 0,cK Zaf.B [1,1,1,1]])):=by
 unfold Zaf.p1 at h;refine Zba h (fun c15 h1=>?_) (fun c15 h2=>?_)
 ·obtain ⟨c16,h3⟩:=ZaW h1;obtain ⟨x9,c17,h4⟩:=Zci h3;obtain ⟨x10,c18,h5⟩:=Zae h4;let o1:List PS:=[rZ,cT,.r [(3,{oe:=[zM .i64 x9]})],.r [(2,{rs:=[oB x10],st:=st,m:=5})]]
  have t1 {Q:Prop} (q:Q):=aM c15 c16 (oD c15) c17 (ZcF.snd c18 st) q;refine Zba h5 (fun c19 h6=>?_) (fun c19 h7=>?_)
  ·obtain ⟨c20,c21,h8⟩:=ck2 h6;exact aq fol (o1++[cT,rZ,rZ,.s 4]) [0,1,5,6] [0] (t1 (aJ c19 c20 c21)) (Zaf.p2_ok h8 hE hc1)
  exact aq fol (o1++[cF,.s 4]) [0,1,5,6] [0] (t1 c19) (Zaf.p2_ok h7 hE hc1)
 obtain ⟨c22,c23,c24,c25,c26,h9⟩:=ck5 h2;obtain rfl:=Zad h9;exact af fol hE [rZ,cF,rZ,.r [(2,{m:=9})]] [] 2 [0] (aO c15 c22 c23 (zJ (zG A0)) c24 c22 (yP (zC A2)) (aJ c25 z0 c26))
theorem Zaf.snd {A0:LL} {A1_0_0:Zau} {A1_1_0:Int} {r:LL} (h:Zaf N A0 A1_0_0 A1_1_0=some r):Zdo zE 35 [.row true 1 A0,.one (L.fn 36 0 [wJ 1 [wJ 2 [wJ 2 A1_0_0.ls,L.gone]],wJ 1 [zM .i64 A1_1_0]])] (Zaf.rs r):=fun st=>
 sO Zaf.B Tryz.func35 fun g0 w0 R hE=>by
  unfold Zaf at h;obtain ⟨x1,c1,h10⟩:=Zae h;let o2:List PS:=[.r [(0,{m:=2})],.r [(2,{rs:=[oI x1],m:=2})],rZ]
  have t2 {Q:Prop} (q:Q):=aK z0 (eN (zG A0)) (Zas.snd c1) q;refine Zba h10 (fun c2 h11=>?_) (fun c2 h12=>?_)
  ·obtain rfl:=Zad h11;exact af fol hE (o2++[cT,rZ]) [] 0 [0] (t2 (aJ c2 z0 (eN (zG A0))))
  exact aq fol (o2++[cF,rZ]) [0,1,5,6] [0] (t2 c2) (At.loop N (At.loopN (fun y:Int×Int×LL=>Zaf.p1.S A0 A1_0_0 A1_1_0 y.1 y.2.1 y.2.2 st) (fun c J hc y h=>Zaf.p1_ok (A2:=y.1) (A3:=y.2.1) (A8:=y.2.2) h hE (fun A2 A3 A8=>hc (A2,A3,A8))) N (x1,w64 (x1+1),A0) h12))
def ZcM.B:Code:=Tryz.f15.body.getD .skip
def ZcM.rs (r:Int×LL):List CV:=[oI r.1]
def ZcM (N:Nat) (A0:Option Nat) (A1:Int) (st:LL):Option (Int×LL):= Zbj (Zcl N A0 A1 st) fun (x1,st2)=> if (!x1)=true then some (0,st2) else Zbj A0 fun i3=> ZcS (st2[i3]?) Zbw fun x4 x5=> Zbj x4 fun i6=> ZcS ((zQ st2 i3 [yN (some i6),L.gone])[i6]?) Zbw fun x7 x8=> Zbj x7 fun i9=> ZcS ((zQ st2 i3 [yN (some i6),L.gone])[i9]?) Zby fun x10=> Zbj (Zaf N x5 (Zau.mk x10 x8) A1) fun x11=> chk (isI x11=true)<| some (w64 ((len x5)-(len x11)),zQ (zQ st2 i3 [yN (some i6),L.gone]) i3 [yN (some i6),yT true 1 x11])
theorem ZcM.snd {A0:Option Nat} {A1:Int} {st:LL} {r:Int×LL} (h:ZcM N A0 A1 st=some r):Snd zE 15 [.one (yN A0),oI A1] st (ZcM.rs r) r.2:=
 sO ZcM.B Tryz.func15 fun g0 w0 R hE=>by
  unfold ZcM at h;obtain ⟨⟨x1,st2⟩,c1,h1⟩:=Zae h;let o1:List PS:=[.r [(0,{m:=2}),(1,{m:=2})],.r [(0,{m:=2}),(1,{m:=2}),(2,{rs:=[oB x1],st:=st2})]]
  refine Zba h1 (fun c2 h2=>?_) (fun c2 h3=>?_)
  ·exact xT fol h2 hE (o1++[cT,rZ]) (aI (Zcl.snd c1) c2)
  obtain ⟨i3,rfl,h4⟩:=Zae h3;obtain ⟨x4,x5,c4,h5⟩:=Zbe h4;obtain ⟨i6,rfl,h6⟩:=Zae h5;obtain ⟨x7,x8,c6,h7⟩:=Zbe h6;obtain ⟨i9,rfl,h8⟩:=Zae h7;obtain ⟨x10,c8,h9⟩:=Zbl h8;obtain ⟨x11,c9,h10⟩:=Zae h9;obtain ⟨c10,h11⟩:=ZaW h10;exact xTd fol h11 hE (o1++[cF,.r [(0,{m:=2}),(3,{oc:=[yN (some i6),yT true 1 x5]})],.d {ds:=[(0,{m:=2}),(1,{m:=2}),(4,{oc:=[yN (some i6),yT true 1 x5]}),(6,{oe:=[yN (some i6),yT true 1 x5],rs:=[.row true 1 x11],m:=16,cv:=[.one (L.fn 36 0 [wJ 1 [wJ 2 [wJ 2 (Zau.ls (Zau.mk x10 x8)),L.gone]],wJ 1 [zM .i64 A1]])]}),(9,{oc:=[yN (some i6),L.gone],mv:=[21]})],hv:=576,Hs:=[64,576]},.r [(1,{m:=2}),(4,{oc:=[yN (some i6),yT true 1 x11]})]]) (aO (Zcl.snd c1) c2 c4 c4 z0 (eN (zG x5)) c4 (aN ((BVx.bx _ _ _ _ _ (BVx.obj _ _ _ _ _ _ (Zap c4 [yN (some i6),L.gone]) (BVx.obj _ _ _ _ _ _ c6 (BVx.of _ _ ((bC 87 c8 (ZaF.bv x10) (bW bN)):BVs (zQ st2 i3 [yN (some i6),L.gone]) [yN (some i9),yT true 1 x8] (Zau.ls (Zau.mk x10 x8)))) rfl rfl (BVx.gone _ _ (BVx.of [] [] BVs.nil))) rfl rfl (BVx.of [] [] BVs.nil)) (BVx.bx _ _ _ _ _ (BVx.pl _ _ _ rfl (BVx.of [] [] BVs.nil)) (BVx.of [] [] BVs.nil))):BVx (zQ st2 i3 [yN (some i6),L.gone]) [wJ 1 [yN (some i3)],wJ 1 [zM .i64 A1]] [wJ 1 [wJ 2 [wJ 2 (Zau.ls (Zau.mk x10 x8)),L.gone]],wJ 1 [zM .i64 A1]]) c10 (Zaf.snd c9) (Zap c4 [yN (some i6),L.gone]) z0 (eN (zG x11)) (Zap (Zap c4 [yN (some i6),L.gone]) [yN (some i6),yT true 1 x11])))
def Zcn.B:Code:=Tryz.f46.body.getD .skip
def Zcn.rs (r:(List Int)):List CV:=[.agg [zK .u64 4 r]]
def Zcn (N:Nat) (A0:Zac) (A1:Int):Option (List Int):= chk (0≤A1)<| chk (A1<(len A0.Works))<| ZcS (A0.Works[zC A1]?) ZgX fun x1=> some x1
theorem Zcn.snd {A0:Zac} {A1:Int} {r:(List Int)} (h:Zcn N A0 A1=some r):Zdo zE 46 [.one (wJ 88 A0.ls),oI A1] (Zcn.rs r):=fun st=>
 sO Zcn.B Tryz.func46 fun g0 w0 R hE=>by
  unfold Zcn at h;obtain ⟨c1,c2,h1⟩:=ck2 h;obtain ⟨x1,c3,h2⟩:=Zhp h1;exact xS fol h2 hE [rZ,.r [(3,{oe:=A0.ls}),(6,{oe:=[zK .u64 4 x1]})]] (aK (eO A0.ls) c1 c2 c3)
def ZcD.B:Code:=Tryz.f20.body.getD .skip
def ZcD.rs (r:Bool):List CV:=[oB r]
def ZcD (N:Nat) (A0:Zac) (A1 A2:Int):Option Bool:= Zbj (Zcn N A0 A1) fun x1=> Zbj (Zcn N A0 A2) fun x2=> Zbj (Zbt N x2 x1) fun x3=> if x3=true then some true else if (x1==x2)=true then some (decide (A1<A2)) else some false
theorem ZcD.snd {A0:Zac} {A1 A2:Int} {r:Bool} (h:ZcD N A0 A1 A2=some r):Zdo zE 20 [.one (wJ 88 A0.ls),oI A1,oI A2] (ZcD.rs r):=fun st=>
 sO ZcD.B Tryz.func20 fun g0 w0 R hE=>by
  unfold ZcD at h;obtain ⟨x1,c1,h1⟩:=Zae h;obtain ⟨x2,c2,h2⟩:=Zae h1;obtain ⟨x3,c3,h3⟩:=Zae h2;let o1:List PS:=[rZ,.r [(2,q0 [.agg [zK .u64 4 x1]])],.r [(2,q0 [.agg [zK .u64 4 x2]])]]
  have t1 {Q:Prop} (q:Q):=aK (Zcn.snd c1) (Zcn.snd c2) (Zbt.snd c3) q;refine Zba h3 (fun c4 h4=>?_) (fun c4 h5=>?_)
  ·exact xS fol h4 hE (o1++[.r [(2,q1 [oB x3]),(4,wF),(5,wF),(6,wF),(7,wF),(11,wF)]]) (t1 (aM c4 c4 c4 c4 c4 c4))
  refine Zba h5 (fun c5 h6=>?_) (fun c5 h7=>?_)
  ·exact xS fol h6 hE (o1++[.r [(2,q1 [oB x3]),(12,yF)]]) (t1 (aO c4 c4 c4 c4 c5 c5 c5 (aJ c4 c5 c4)))
  exact xS fol h7 hE (o1++[.r [(2,q1 [oB x3]),(8,wF),(9,wF),(10,wF),(11,yF),(12,yF)]]) (t1 (aO c4 c4 c4 c4 c5 c5 c5 (aJ c4 c5 c4)))
def Zav.B:Code:=Tryz.f21.body.getD .skip
def Zav.rs (r:LL):List CV:=[.row true 1 r]
def Zav.p3 (N:Nat) (c1_:(LL×Int)→Option LL) (A0:Zac) (A1 A12:LL) (v1:Int):Option LL:= c1_ (A12,w64 (v1+1))
def Zav.p2 (N:Nat) (c1_:(LL×Int)→Option LL) (A0:Zac) (A1 A7:LL) (v1:Int) (x8:Bool) (c2_:Int→Option LL):Int→Option LL:=fun A9=> if (decide (A9<(len A7)))=true then chk (0≤A9)<| ZcS (A7[0+(zC A9)]?) ZcW fun x10=> Zbj (ZcD N A0 x10 v1) fun x11=> if x11=true then c2_ (w64 (A9+1)) else chk ((zC A9)≤(zG A7))<| chk (zG ([]++(yO (zC A9) A7))*8≤140737488355328)<| chk (zG (([]++(yO (zC A9) A7))++[[zM .i64 v1]])*8≤140737488355328)<| chk (((0+(zC A9))+((zG A7)-(zC A9)))≤(zG A7))<| chk (zG ((([]++(yO (zC A9) A7))++[[zM .i64 v1]])++(yO ((zG A7)-(zC A9)) (wE (0+(zC A9)) A7)))*8≤140737488355328)<| Zav.p3 N c1_ A0 A1 ((([]++(yO (zC A9) A7))++[[zM .i64 v1]])++(yO ((zG A7)-(zC A9)) (wE (0+(zC A9)) A7))) v1 else chk (0≤A9)<| chk ((zC A9)≤(zG A7))<| chk (zG ([]++(yO (zC A9) A7))*8≤140737488355328)<| chk (zG (([]++(yO (zC A9) A7))++[[zM .i64 v1]])*8≤140737488355328)<| chk (((0+(zC A9))+((zG A7)-(zC A9)))≤(zG A7))<| chk (zG ((([]++(yO (zC A9) A7))++[[zM .i64 v1]])++(yO ((zG A7)-(zC A9)) (wE (0+(zC A9)) A7)))*8≤140737488355328)<| Zav.p3 N c1_ A0 A1 ((([]++(yO (zC A9) A7))++[[zM .i64 v1]])++(yO ((zG A7)-(zC A9)) (wE (0+(zC A9)) A7))) v1
def Zav.p1 (N:Nat) (A0:Zac) (A1:LL) (c1_:(LL×Int)→Option LL):(LL×Int)→Option LL:=fun (A7,v1)=> if (decide (v1<(len A0.List_)))=true then if (decide (v1≥(len A1)))=true then Zav.p3 N c1_ A0 A1 A7 v1 else chk (0≤v1)<| chk (v1<(len A1))<| ZcS (A1[zC v1]?) ZnD fun x8=> if (!x8)=true then Zav.p3 N c1_ A0 A1 A7 v1 else loopN (Zav.p2 N c1_ A0 A1 A7 v1 x8) N 0 else some A7
def Zav (N:Nat) (A0:Zac) (A1:LL):Option LL:= loopN (Zav.p1 N A0 A1) N ([],0)
def Zav.p3.S (A0:Zac) (A1 A12:LL) (v1:Int) (st:LL):S:=mkS 56 [(0,.one (.l (wJ 88 A0.ls))),(1,sV 1 A1),(5,.one (.h (.row 5 0) 1 0 (zG A12))),(12,sI (len A0.List_)),(13,sI v1)] [(5,.row 0 true 1 A12)] st
def Zav.p2.S (A0:Zac) (A1 A7:LL) (v1 A9:Int) (x8:Bool) (st:LL):S:=mkS 56 [(0,.one (.l (wJ 88 A0.ls))),(1,sV 1 A1),(5,.one (.h (.row 5 0) 1 0 (zG A7))),(6,sI v1),(7,sI A9),(12,sI (len A0.List_)),(13,sI v1),(21,sV 1 A1),(22,sI v1),(23,.one (.fadr 1 A1 (zC v1) 0)),(24,.one (.l (xP x8))),(25,.one (.l (xP (!x8))))] [(5,.row 0 true 1 A7)] st
def Zav.p1.S (A0:Zac) (A1 A7:LL) (v1:Int) (st:LL):S:=mkS 56 [(0,.one (.l (wJ 88 A0.ls))),(1,sV 1 A1),(5,.one (.h (.row 5 0) 1 0 (zG A7))),(12,sI (len A0.List_)),(13,sI v1)] [(5,.row 0 true 1 A7)] st
theorem Zav.p3_ok {A0 A1 A12 v1 st r c1_ J1} (h:Zav.p3 N c1_ A0 A1 A12 v1=some r) (hE:En Tryz.f21 g0 w0 (Zav.rs r) st R) (hc1 : ∀A7 v1,c1_ (A7,v1)=some r→At g0 w0 (Zav.p1.S A0 A1 A7 v1 st) J1):At g0 w0 (Zav.p3.S A0 A1 A12 v1 st) (XK zE R [cK Zav.B [1,1,0,1,0,0,1,1,1],.h J1,.b 0,cK Zav.B [1,1,1]]):=by
 unfold Zav.p3 at h;exact an fol [rZ] [0,1,5,12,13] [5] trivial (hc1 A12 (w64 (v1+1)) h)
theorem Zav.p2_ok {A0 A1 A7 v1 A9 x8 st r c1_ c2_ J1 J2} (h:Zav.p2 N c1_ A0 A1 A7 v1 x8 c2_ A9=some r) (hE:En Tryz.f21 g0 w0 (Zav.rs r) st R) (hc1 : ∀A7 v1,c1_ (A7,v1)=some r→At g0 w0 (Zav.p1.S A0 A1 A7 v1 st) J1) (hc2 : ∀A9,c2_ A9=some r→At g0 w0 (Zav.p2.S A0 A1 A7 v1 A9 x8 st) J2):At g0 w0 (Zav.p2.S A0 A1 A7 v1 A9 x8 st) (XK zE R (cK Zav.B [1,1,0,1,0,0,1,1,0,0,1,1,1,0,0,0] :: .h J2 :: [.b 2,cK Zav.B [1,1,0,1,0,0,1,1,0,0,1,1,1,1],.b 1,cK Zav.B [1,1,0,1,0,0,1,1,1],.h J1,.b 0,cK Zav.B [1,1,1]])):=by
 unfold Zav.p2 at h;refine Zba h (fun c29 h1=>?_) (fun c29 h2=>?_)
 ·obtain ⟨c30,h3⟩:=ZaW h1;obtain ⟨x10,c31,h4⟩:=Zci h3;obtain ⟨x11,c32,h5⟩:=Zae h4;let o1:List PS:=[.r [(9,{oe:=[zM .i64 x10]}),(11,q0 [oB x11])]]
  have t1 {Q:Prop} (q:Q):=aO c29 c29 c29 c29 c30 (oD c29) c29 (aM c31 c29 c29 (ZcD.snd c32) c29 q);refine Zba h5 (fun c33 h6=>?_) (fun c33 h7=>?_)
  ·exact an fol (o1++[cT,rZ]) [0,1,5,6,7,12,13,21,22,23,24,25] [5] (t1 c33) (hc2 (w64 (A9+1)) h6)
  obtain ⟨c34,c35,c36,c37,c38,h8⟩:=ck5 h7;exact aqd fol (o1++[cF,.d {ds:=[(4,{wm:=2}),(11,{wm:=3}),(12,{m:=4})],hv:=6353,Hs:=[1,17,64,65,81,209,2257,6353]},.s 4]) [0,1,5,12,13] [5] (t1 (aO c33 c30 (yP (zC A9)) c34 c30 (yP (zC A9)) c34 (aO c30 (yP (zC A9)) c34 c30 (yP (zC A9)) c34 z0 (aO (eN (0)) z0 c34 c35 z0 (eN (0)) z0 (aO c34 c35 z0 (eN (zG ([]++(yO (zC A9) A7)))) z0 (eN (1)) c36 (aO c30 c34 (zJ (zG A7)) c30 c34 (zJ (zG A7)) c30 (aO c34 (zJ (zG A7)) c30 c34 (zJ (zG A7)) c30 c34 (aO (zJ (zG A7)) c30 c34 (zJ (zG A7)) c30 c34 (zJ (zG A7)) (aK z0 (eN (zG (([]++(yO (zC A9) A7))++[[zM .i64 v1]]))) c37 c38))))))))) (Zav.p3_ok h8 hE hc1)
 obtain ⟨c39,c40,c41,c42,c43,c44,h9⟩:=ck6 h2;exact aqd fol [.r [(5,wF),(6,wF),(7,wF),(8,wF),(9,wF),(10,wF),(11,wF),(12,yF)],cF,.d {ds:=[(4,{wm:=2}),(11,{wm:=3}),(12,{m:=4})],hv:=6353,Hs:=[1,17,64,65,81,209,2257,6353]},.s 4] [0,1,5,12,13] [5] (aO c29 c29 c29 c29 c29 c29 c29 (aO c29 eF c39 (yP (zC A9)) c40 c39 (yP (zC A9)) (aO c40 c39 (yP (zC A9)) c40 c39 (yP (zC A9)) c40 (aO z0 (eN (0)) z0 c40 c41 z0 (eN (0)) (aO z0 c40 c41 z0 (eN (zG ([]++(yO (zC A9) A7)))) z0 (eN (1)) (aO c42 c39 c40 (zJ (zG A7)) c39 c40 (zJ (zG A7)) (aO c39 c40 (zJ (zG A7)) c39 c40 (zJ (zG A7)) c39 (aO c40 (zJ (zG A7)) c39 c40 (zJ (zG A7)) c39 c40 (aL (zJ (zG A7)) z0 (eN (zG (([]++(yO (zC A9) A7))++[[zM .i64 v1]]))) c43 c44))))))))) (Zav.p3_ok h9 hE hc1)
theorem Zav.p1_ok {A0 A1 A7 v1 st r c1_ J1} (h:Zav.p1 N A0 A1 c1_ (A7,v1)=some r) (hE:En Tryz.f21 g0 w0 (Zav.rs r) st R) (hc1 : ∀A7 v1,c1_ (A7,v1)=some r→At g0 w0 (Zav.p1.S A0 A1 A7 v1 st) J1):At g0 w0 (Zav.p1.S A0 A1 A7 v1 st) (XK zE R (cK Zav.B [1,1,0,1,0,0] :: .h J1 :: [.b 0,cK Zav.B [1,1,1]])):=by
 unfold Zav.p1 at h;refine Zba h (fun c23 h10=>?_) (fun c23 h11=>?_)
 ·let o2:List PS:=[rZ,cT,rZ]
  refine Zba h10 (fun c24 h12=>?_) (fun c24 h13=>?_)
  ·exact aq fol (o2++[.r [(5,wF),(6,wF),(7,wF),(8,wF),(9,wF)],cT,.s 4]) [0,1,5,12,13] [5] (aO c23 c24 c24 c24 c24 c24 c24 eT) (Zav.p3_ok h12 hE hc1)
  obtain ⟨c25,c26,h14⟩:=ck2 h13;obtain ⟨x8,c27,h15⟩:=Zie h14;let o3:List PS:=o2++[.r [(8,{oe:=[xP x8]}),(10,yF)]]
  have t2 {Q:Prop} (q:Q):=aO c23 c24 c24 c24 c25 c26 c24 (aK c27 c24 c24 q);refine Zba h15 (fun c28 h16=>?_) (fun c28 h17=>?_)
  ·exact aq fol (o3++[cT,.s 4]) [0,1,5,12,13] [5] (t2 c28) (Zav.p3_ok h16 hE hc1)
  exact aq fol (o3++[cF,rZ]) [0,1,5,6,7,12,13,21,22,23,24,25] [5] (t2 c28) (At.loop N (At.loopN (fun y:Int=>Zav.p2.S A0 A1 A7 v1 y x8 st) (fun c J hc y h=>Zav.p2_ok h hE hc1 (fun A9=>hc A9)) N 0 h17))
 obtain rfl:=Zad h11;exact af fol hE [rZ,cF,rZ] [] 0 [0] (aJ c23 z0 (eN (zG A7)))
theorem Zav.snd {A0:Zac} {A1:LL} {r:LL} (h:Zav N A0 A1=some r):Zdo zE 21 [.one (wJ 88 A0.ls),.one (vR 1 A1)] (Zav.rs r):=fun st=>
 sO Zav.B Tryz.func21 fun g0 w0 R hE=>by
  unfold Zav at h;exact aq fol [.r [(0,{m:=2})],.r [(0,{m:=1})],.r [(3,{oe:=A0.ls})]] [0,1,5,12,13] [5] (eO A0.ls) (At.loop N (At.loopN (fun y:LL×Int=>Zav.p1.S A0 A1 y.1 y.2 st) (fun c J hc y h=>Zav.p1_ok (A7:=y.1) (v1:=y.2) h hE (fun A7 v1=>hc (A7,v1))) N ([],0) h))
def Zdh.B:Code:=Tryz.f13.body.getD .skip
def Zdh.rs (r:LL):List CV:=[.row true 1 r]
def Zdh (N:Nat) (A0:ZaS):Option LL:= Zbj (Zbm N A0.list) fun x1=> some x1
theorem Zdh.snd {A0:ZaS} {r:LL} (h:Zdh N A0=some r):Zdo zE 13 [.one (wJ 2 A0.ls)] (Zdh.rs r):=fun st=>
 sO Zdh.B Tryz.func13 fun g0 w0 R hE=>by
  unfold Zdh at h;obtain ⟨x1,c1,h1⟩:=Zae h;obtain rfl:=Zad h1;exact af fol hE [.r [(0,{m:=2})],rZ,cF,.r [(3,{oe:=A0.ls}),(4,{rs:=[.row true 1 x1],ns:=[9],m:=1})]] [] 0 [0] (aL eF (eO A0.ls) (Zbm.snd c1) z0 (eN (zG x1)))
def ZcV.B:Code:=Tryz.f14.body.getD .skip
def ZcV.rs (r:Bool×LL):List CV:=[oB r.1]
def ZcV (N:Nat) (A0:Option Nat) (A1:Int) (st:LL):Option (Bool×LL):= Zbj (Zcl N A0 A1 st) fun (x1,st2)=> if (!x1)=true then some (false,st2) else Zbj A0 fun i3=> ZcS (st2[i3]?) Zbw fun x4 x5=> Zbj x4 fun i6=> ZcS (st2[i6]?) Zbw fun x7 x8=> Zbj x7 fun i9=> ZcS (st2[i9]?) Zby fun x10=> Zbj (Zcr N (ZaS.mk (Zau.mk x10 x8) x5) A1) fun (x11,x12)=> some (x12,st2)
theorem ZcV.snd {A0:Option Nat} {A1:Int} {st:LL} {r:Bool×LL} (h:ZcV N A0 A1 st=some r):Snd zE 14 [.one (yN A0),oI A1] st (ZcV.rs r) r.2:=
 sO ZcV.B Tryz.func14 fun g0 w0 R hE=>by
  unfold ZcV at h;obtain ⟨⟨x1,st2⟩,c1,h1⟩:=Zae h;let o1:List PS:=[rZ,.r [(2,{rs:=[oB x1],st:=st2})]]
  refine Zba h1 (fun c2 h2=>?_) (fun c2 h3=>?_)
  ·exact xT fol h2 hE (o1++[cT,rZ]) (aI (Zcl.snd c1) c2)
  obtain ⟨i3,rfl,h4⟩:=Zae h3;obtain ⟨x4,x5,c4,h5⟩:=Zbe h4;obtain ⟨i6,rfl,h6⟩:=Zae h5;obtain ⟨x7,x8,c6,h7⟩:=Zbe h6;obtain ⟨i9,rfl,h8⟩:=Zae h7;obtain ⟨x10,c8,h9⟩:=Zbl h8;obtain ⟨⟨x11,x12⟩,c9,h10⟩:=Zae h9;exact xT fol h10 hE (o1++[cF,.r [(2,{rs:=[oI x11,oB x12],m:=10,cv:=[.one (wJ 2 (ZaS.ls (ZaS.mk (Zau.mk x10 x8) x5)))]})],rZ]) (aK (Zcl.snd c1) c2 (bO 2 c4 ((bC 2 c6 ((bC 87 c8 (ZaF.bv x10) (bW bN)):BVs st2 [yN (some i9),yT true 1 x8] (Zau.ls (Zau.mk x10 x8))) (bW bN)):BVs st2 [yN (some i6),yT true 1 x5] (ZaS.ls (ZaS.mk (Zau.mk x10 x8) x5)))) (Zcr.snd c9))
def Zdd.B:Code:=Tryz.f22.body.getD .skip
def Zdd.rs (r:Int×LL):List CV:=[oI r.1]
def Zdd (N:Nat) (A0:Option Nat) (st:LL):Option (Int×LL):= if (wY A0)=true then some (0,st) else Zbj A0 fun i1=> ZcS (st[i1]?) Zbw fun x2 x3=> some ((len x3),st)
theorem Zdd.snd {A0:Option Nat} {st:LL} {r:Int×LL} (h:Zdd N A0 st=some r):Snd zE 22 [.one (yN A0)] st (Zdd.rs r) r.2:=
 sO Zdd.B Tryz.func22 fun g0 w0 R hE=>by
  unfold Zdd at h;refine Zba h (fun c1 h1=>?_) (fun c1 h2=>?_)
  ·exact xT fol h1 hE [rZ,rZ,cT,rZ] c1
  obtain ⟨i1,rfl,h3⟩:=Zae h2;obtain ⟨x2,x3,c3,h4⟩:=Zbe h3;exact xT fol h4 hE [rZ,rZ,cF,.r [(3,{oc:=[yN x2,yT true 1 x3]})]] (aI c1 c3)
def ZdB.B:Code:=Tryz.f13.body.getD .skip
def ZdB.rs (r:LL×LL):List CV:=[.row true 1 r.1]
def ZdB (N:Nat) (A0:Option Nat) (st:LL):Option (LL×LL):= if (wY A0)=true then some ([],st) else Zbj A0 fun i1=> ZcS (st[i1]?) Zbw fun x2 x3=> Zbj (Zbm N x3) fun x4=> chk (Zee x4=true)<| some (x4,st)
theorem ZdB.snd {A0:Option Nat} {st:LL} {r:LL×LL} (h:ZdB N A0 st=some r):Snd zE 13 [.one (yN A0)] st (ZdB.rs r) r.2:=
 sO ZdB.B Tryz.func13 fun g0 w0 R hE=>by
  unfold ZdB at h;refine Zba h (fun c1 h1=>?_) (fun c1 h2=>?_)
  ·obtain rfl:=Zad h1;exact af fol hE [.r [(0,{m:=2})],rZ,cT,.r [(0,{m:=2})]] [] 0 [0] c1
  obtain ⟨i1,rfl,h3⟩:=Zae h2;obtain ⟨x2,x3,c3,h4⟩:=Zbe h3;obtain ⟨x4,c4,h5⟩:=Zae h4;obtain ⟨c5,h6⟩:=ZaW h5;obtain rfl:=Zad h6;exact af fol hE [.r [(0,{m:=2})],rZ,cF,.r [(3,{oc:=[yN x2,yT true 1 x3]}),(4,{oc:=[yN x2,yT true 1 x3],rs:=[.row true 1 x4],ns:=[9],m:=2})]] [] 0 [0] (aO c1 c3 z0 (eN (zG x3)) c3 c5 (Zbm.snd c4) (aI z0 (eN (zG x4))))
def Zdq.B:Code:=Tryz.f23.body.getD .skip
def Zdq.rs (r:Int×LL):List CV:=[oI r.1]
def Zdq (N:Nat) (A0:Option Nat) (st:LL):Option (Int×LL):= Zbj (Zdd N A0 st) fun (x1,st2)=> if (x1==0)=true then some ((-1),st2) else Zbj A0 fun i3=> ZcS (st2[i3]?) Zbw fun x4 x5=> chk (0<(len x5))<| ZcS (x5[0]?) ZcW fun x6=> some (x6,st2)
theorem Zdq.snd {A0:Option Nat} {st:LL} {r:Int×LL} (h:Zdq N A0 st=some r):Snd zE 23 [.one (yN A0)] st (Zdq.rs r) r.2:=
 sO Zdq.B Tryz.func23 fun g0 w0 R hE=>by
  unfold Zdq at h;obtain ⟨⟨x1,st2⟩,c1,h1⟩:=Zae h;let o1:List PS:=[rZ,.r [(1,{rs:=[oI x1],st:=st2})]]
  refine Zba h1 (fun c2 h2=>?_) (fun c2 h3=>?_)
  ·exact xT fol h2 hE (o1++[cT,rZ]) (aI (Zdd.snd c1) c2)
  obtain ⟨i3,rfl,h4⟩:=Zae h3;obtain ⟨x4,x5,c4,h5⟩:=Zbe h4;obtain ⟨c5,h6⟩:=ZaW h5;obtain ⟨x6,c6,h7⟩:=Zci h6;exact xT fol h7 hE (o1++[cF,.r [(3,{oc:=[yN x4,yT true 1 x5]}),(5,{oc:=[yN x4,yT true 1 x5],oe:=[zM .i64 x6]})]]) (aN (Zdd.snd c1) c2 c4 (leI 0 0) c5 c6 c4)
end Go.Dn.F
end
