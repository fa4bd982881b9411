/- Contracts of functions of the program, as shallow functions, and their proofs. -/
import Derived.Test.YtcgdbcfflaphhaaGreatDoorFba
set_option linter.all false
set_option maxRecDepth 100000
namespace Go.Dn.F
open Go.Proofs
variable {N:Nat} {g0:G} {w0:World} {R:Exit→Act→World→Prop}
noncomputable def ZcH.B:Code:=Tryz.f27.body.getD .skip
noncomputable def ZcH.rs (r:Int×LL):List CV:=[oI r.1]
noncomputable def ZcH (N:Nat) (a_0:Option Nat) (st:LL):Option (Int×LL):=
 if (Option.isNone a_0)=true then
  some (0,st)
 else
 optE a_0 fun i1=>
 getE (st[i1]?) ZaF fun x2=>
 some ((len x2.list),st)
theorem ZcH.snd {a_0:Option Nat} {st:LL} {r:Int×LL} (h:ZcH N a_0 st=some r):Snd Tryz.prog 27 [.one (L.ptr a_0)] st (ZcH.rs r) r.2:=
 sO ZcH.B Tryz.func27 fun g0 w0 R hE=>by
  unfold ZcH at h
  refine iteB h (fun c1 h1=>?_) (fun c1 h2=>?_)
  ·obtain rfl:=Zaa h1
   exact af fol hE [.r [],.r [],.c true,.r []] [] 0 [] c1
  ·obtain ⟨i1,rfl,h3⟩:=Zac h2
   obtain ⟨x2,c3,h4⟩:=ZaA h3
   obtain rfl:=Zaa h4
   exact af fol hE [.r [],.r [],.c false,.r [(3,{oc:=x2.lo})]] [] 0 [] (aI c1 c3)
noncomputable def Zbn.B:Code:=Tryz.f36.body.getD .skip
noncomputable def Zbn.rs (r:Int):List CV:=[oI r]
noncomputable def Zbn (N:Nat) (a_0:Zal):Option Int:=
 some a_0.room
theorem Zbn.snd {a_0:Zal} {r:Int} (h:Zbn N a_0=some r):SndQ Tryz.prog 36 [.one (L.bx 87 a_0.ls)] (Zbn.rs r):=fun st=>
 sO Zbn.B Tryz.func36 fun g0 w0 R hE=>by
  unfold Zbn at h
  obtain rfl:=Zaa h
  exact af fol hE [.r [],.r [],.c false,.r [(3,{oe:=a_0.ls})]] [] 0 [] (aI eF (eO a_0.ls))
noncomputable def ZbR.B:Code:=Tryz.f35.body.getD .skip
noncomputable def ZbR.rs (r:Int):List CV:=[oI r]
noncomputable def ZbR (N:Nat) (t_0:Zaj):Option Int:=
 optE (Zbn N t_0.store) fun x1=>
 some x1
theorem ZbR.snd {t_0:Zaj} {r:Int} (h:ZbR N t_0=some r):SndQ Tryz.prog 35 [.one (L.bx 2 t_0.ls)] (ZbR.rs r):=fun st=>
 sO ZbR.B Tryz.func35 fun g0 w0 R hE=>by
  unfold ZbR at h
  obtain ⟨x1,c1,h1⟩:=Zac h
  obtain rfl:=Zaa h1
  exact af fol hE [.r [],.r [],.c false,.r [(3,{oe:=t_0.ls}),(4,q0 [oI x1])]] [] 0 [] (aJ eF (eO t_0.ls) (Zbn.snd c1))
noncomputable def ZcO.B:Code:=Tryz.f35.body.getD .skip
noncomputable def ZcO.rs (r:Int×LL):List CV:=[oI r.1]
noncomputable def ZcO (N:Nat) (t_0:Option Nat) (st:LL):Option (Int×LL):=
 if (Option.isNone t_0)=true then
  some (0,st)
 else
 optE t_0 fun i1=>
 getE (st[i1]?) ZbF fun x2 x3=>
 optE x2 fun i4=>
 getE (st[i4]?) ZaF fun x5=>
 optE (Zbn N x5) fun x6=>
 some (x6,st)
theorem ZcO.snd {t_0:Option Nat} {st:LL} {r:Int×LL} (h:ZcO N t_0 st=some r):Snd Tryz.prog 35 [.one (L.ptr t_0)] st (ZcO.rs r) r.2:=
 sO ZcO.B Tryz.func35 fun g0 w0 R hE=>by
  unfold ZcO at h
  refine iteB h (fun c1 h1=>?_) (fun c1 h2=>?_)
  ·obtain rfl:=Zaa h1
   exact af fol hE [.r [],.r [],.c true,.r []] [] 0 [] c1
  ·obtain ⟨i1,rfl,h3⟩:=Zac h2
   obtain ⟨x2,x3,c3,h4⟩:=Zbt h3
   obtain ⟨i4,rfl,h5⟩:=Zac h4
   obtain ⟨x5,c5,h6⟩:=ZaA h5
   obtain ⟨x6,c6,h7⟩:=Zac h6
   obtain rfl:=Zaa h7
   exact af fol hE [.r [],.r [],.c false,.r [(3,{oc:=[L.ptr (some i4),L.own true 1 x3]}),(4,{rs:=[oI x6],m:=10,cv:=[.one (L.bx 87 x5.ls)]})]] [] 0 [] (aK c1 c3 (bO 87 c5 (Zal.bv x5)) (Zbn.snd c6))
noncomputable def Zcw.B:Code:=Tryz.f36.body.getD .skip
noncomputable def Zcw.rs (r:Int×LL):List CV:=[oI r.1]
noncomputable def Zcw (N:Nat) (a_0:Option Nat) (st:LL):Option (Int×LL):=
 if (Option.isNone a_0)=true then
  some (0,st)
 else
 optE a_0 fun i1=>
 getE (st[i1]?) ZaF fun x2=>
 some (x2.room,st)
theorem Zcw.snd {a_0:Option Nat} {st:LL} {r:Int×LL} (h:Zcw N a_0 st=some r):Snd Tryz.prog 36 [.one (L.ptr a_0)] st (Zcw.rs r) r.2:=
 sO Zcw.B Tryz.func36 fun g0 w0 R hE=>by
  unfold Zcw at h
  refine iteB h (fun c1 h1=>?_) (fun c1 h2=>?_)
  ·obtain rfl:=Zaa h1
   exact af fol hE [.r [],.r [],.c true,.r []] [] 0 [] c1
  ·obtain ⟨i1,rfl,h3⟩:=Zac h2
   obtain ⟨x2,c3,h4⟩:=ZaA h3
   obtain rfl:=Zaa h4
   exact af fol hE [.r [],.r [],.c false,.r [(3,{oc:=x2.lo})]] [] 0 [] (aI c1 c3)
noncomputable def Zbh.B:Code:=Tryz.f38.body.getD .skip
noncomputable def Zbh.rs (r:Int):List CV:=[oI r]
noncomputable def Zbh (N:Nat) (a_0:Zal) (id_1_0:List Int):Option Int:=
 optM (mfind a_0.places (L.arr .u8 32 id_1_0)) (fun j1 e=>Zdh [e] fun x2=>
  some x2)
 (
  some (-1))
theorem Zbh.snd {a_0:Zal} {id_1_0:List Int} {r:Int} (h:Zbh N a_0 id_1_0=some r):SndQ Tryz.prog 38 [.one (L.bx 87 a_0.ls),.agg [L.arr .u8 32 id_1_0]] (Zbh.rs r):=fun st=>
 sO Zbh.B Tryz.func38 fun g0 w0 R hE=>by
  unfold Zbh at h
  rcases Zfr h with ⟨j1,h4,c1,h1⟩ | ⟨c1,h2⟩
  ·obtain ⟨x2,h5,h3⟩:=Zec h1
   obtain rfl:=Zek h5
   obtain rfl:=Zaa h3
   exact afd fol hE [.r [],.r [],.c false,.d {ds:=[(3,{oe:=a_0.ls}),(5,{oe:=[L.int .i64 x2]})],hv:=0,Hs:=[]},.r [],.c true,.r []] [] 0 [] (aK eF (eO a_0.ls) (ZhJ c1) eT)
  ·obtain rfl:=Zaa h2
   exact afd fol hE [.r [],.r [],.c false,.d {ds:=[(3,{oe:=a_0.ls}),(5,yF)],hv:=0,Hs:=[]},.r [],.c false,.r []] [] 0 [] (aK eF (eO a_0.ls) c1 eF)
noncomputable def Zcx.B:Code:=Tryz.f38.body.getD .skip
noncomputable def Zcx.rs (r:Int×LL):List CV:=[oI r.1]
noncomputable def Zcx (N:Nat) (a_0:Option Nat) (id_1_0:List Int) (st:LL):Option (Int×LL):=
 if (Option.isNone a_0)=true then
  some ((-1),st)
 else
 optE a_0 fun i1=>
 getE (st[i1]?) ZaF fun x2=>
 optM (mfind x2.places (L.arr .u8 32 id_1_0)) (fun j3 e=>Zdh [e] fun x4=>
  some (x4,st))
 (
  some ((-1),st))
theorem Zcx.snd {a_0:Option Nat} {id_1_0:List Int} {st:LL} {r:Int×LL} (h:Zcx N a_0 id_1_0 st=some r):Snd Tryz.prog 38 [.one (L.ptr a_0),.agg [L.arr .u8 32 id_1_0]] st (Zcx.rs r) r.2:=
 sO Zcx.B Tryz.func38 fun g0 w0 R hE=>by
  unfold Zcx at h
  refine iteB h (fun c1 h1=>?_) (fun c1 h2=>?_)
  ·obtain rfl:=Zaa h1
   exact af fol hE [.r [],.r [],.c true,.r []] [] 0 [] c1
  ·obtain ⟨i1,rfl,h3⟩:=Zac h2
   obtain ⟨x2,c3,h4⟩:=ZaA h3
   rcases Zfr h4 with ⟨j3,h8,c4,h5⟩ | ⟨c4,h6⟩
   ·obtain ⟨x4,h9,h7⟩:=Zec h5
    obtain rfl:=Zek h9
    obtain rfl:=Zaa h7
    exact afd fol hE [.r [],.r [],.c false,.d {ds:=[(3,{oc:=x2.lo}),(5,{oc:=x2.lo,oe:=[L.int .i64 x4]})],hv:=0,Hs:=[]},.r [],.c true,.r []] [] 0 [] (aL c1 c3 (ZhJ c4) c3 eT)
   ·obtain rfl:=Zaa h6
    exact afd fol hE [.r [],.r [],.c false,.d {ds:=[(3,{oc:=x2.lo}),(5,{oc:=x2.lo,yes:=false})],hv:=0,Hs:=[]},.r [],.c false,.r []] [] 0 [] (aL c1 c3 c4 c3 eF)
noncomputable def ZbS.B:Code:=Tryz.f37.body.getD .skip
noncomputable def ZbS.rs (r:Int):List CV:=[oI r]
noncomputable def ZbS (N:Nat) (t_0:Zaj) (id_1_0:List Int):Option Int:=
 optE (Zbh N t_0.store id_1_0) fun x1=>
 some x1
theorem ZbS.snd {t_0:Zaj} {id_1_0:List Int} {r:Int} (h:ZbS N t_0 id_1_0=some r):SndQ Tryz.prog 37 [.one (L.bx 2 t_0.ls),.agg [L.arr .u8 32 id_1_0]] (ZbS.rs r):=fun st=>
 sO ZbS.B Tryz.func37 fun g0 w0 R hE=>by
  unfold ZbS at h
  obtain ⟨x1,c1,h1⟩:=Zac h
  obtain rfl:=Zaa h1
  exact afd fol hE [.r [],.r [],.c false,.d {ds:=[(3,{oe:=t_0.ls}),(5,q0 [oI x1])],hv:=32,Hs:=[32]}] [] 0 [] (aJ eF (eO t_0.ls) (Zbh.snd c1))
noncomputable def ZcP.B:Code:=Tryz.f37.body.getD .skip
noncomputable def ZcP.rs (r:Int×LL):List CV:=[oI r.1]
noncomputable def ZcP (N:Nat) (t_0:Option Nat) (id_1_0:List Int) (st:LL):Option (Int×LL):=
 if (Option.isNone t_0)=true then
  some ((-1),st)
 else
 optE t_0 fun i1=>
 getE (st[i1]?) ZbF fun x2 x3=>
 optE x2 fun i4=>
 getE (st[i4]?) ZaF fun x5=>
 optE (Zbh N x5 id_1_0) fun x6=>
 some (x6,st)
theorem ZcP.snd {t_0:Option Nat} {id_1_0:List Int} {st:LL} {r:Int×LL} (h:ZcP N t_0 id_1_0 st=some r):Snd Tryz.prog 37 [.one (L.ptr t_0),.agg [L.arr .u8 32 id_1_0]] st (ZcP.rs r) r.2:=
 sO ZcP.B Tryz.func37 fun g0 w0 R hE=>by
  unfold ZcP at h
  refine iteB h (fun c1 h1=>?_) (fun c1 h2=>?_)
  ·obtain rfl:=Zaa h1
   exact af fol hE [.r [],.r [],.c true,.r []] [] 0 [] c1
  ·obtain ⟨i1,rfl,h3⟩:=Zac h2
   obtain ⟨x2,x3,c3,h4⟩:=Zbt h3
   obtain ⟨i4,rfl,h5⟩:=Zac h4
   obtain ⟨x5,c5,h6⟩:=ZaA h5
   obtain ⟨x6,c6,h7⟩:=Zac h6
   obtain rfl:=Zaa h7
   exact afd fol hE [.r [],.r [],.c false,.d {ds:=[(3,{oc:=[L.ptr (some i4),L.own true 1 x3]}),(5,{rs:=[oI x6],m:=10,cv:=[.one (L.bx 87 x5.ls)]})],hv:=32,Hs:=[32]}] [] 0 [] (aK c1 c3 (bO 87 c5 (Zal.bv x5)) (Zbh.snd c6))
noncomputable def Zcc.B:Code:=Tryz.f96.body.getD .skip
noncomputable def Zcc.rs (r:Zag):List CV:=[.agg r.ls]
noncomputable def Zcc (N:Nat) (a_0:Zal):Option Zag:=
 chk (List.length ([]++a_0.rules.Gates)*16≤140737488355328)<|
 chk (List.length ([]++a_0.rules.Checks)*40≤140737488355328)<|
 some {a_0.rules with Gates:=[]++a_0.rules.Gates,Checks:=[]++a_0.rules.Checks}
theorem Zcc.snd {a_0:Zal} {r:Zag} (h:Zcc N a_0=some r):SndQ Tryz.prog 96 [.one (L.bx 87 a_0.ls)] (Zcc.rs r):=fun st=>
 sO Zcc.B Tryz.func96 fun g0 w0 R hE=>by
  unfold Zcc at h
  obtain ⟨c1,c2,h1⟩:=ck2 h
  obtain rfl:=Zaa h1
  exact afd fol hE [.r [],.r [],.c false,.r [(3,{oe:=a_0.ls})],.d {ds:=[(7,{fz:=[13]}),(9,{fz:=[16]})],hv:=676,Hs:=[4,36,164,676]},.r []] [] 0 [] (aO eF (eO a_0.ls) c1 c2 z0 (eN (List.length ([]++a_0.rules.Gates))) z0 (eN (List.length ([]++a_0.rules.Checks))))
noncomputable def ZbM.B:Code:=Tryz.f96.body.getD .skip
noncomputable def ZbM.rs (r:Zag×LL):List CV:=[.agg r.1.ls]
noncomputable def ZbM (N:Nat) (a_0:Option Nat) (st:LL):Option (Zag×LL):=
 if (Option.isNone a_0)=true then
  some (Zag.mk 0 0 0 0 false [] [] (List.replicate 4 0) (List.replicate 4 0) (Zan.mk 0 (List.replicate 32 0) (List.replicate 32 0) 0 0 0),st)
 else
 optE a_0 fun i1=>
 getE (st[i1]?) ZaF fun x2=>
 chk (List.length ([]++x2.rules.Gates)*16≤140737488355328)<|
 chk (List.length ([]++x2.rules.Checks)*40≤140737488355328)<|
 some ({x2.rules with Gates:=[]++x2.rules.Gates,Checks:=[]++x2.rules.Checks},st)
theorem ZbM.snd {a_0:Option Nat} {st:LL} {r:Zag×LL} (h:ZbM N a_0 st=some r):Snd Tryz.prog 96 [.one (L.ptr a_0)] st (ZbM.rs r) r.2:=
 sO ZbM.B Tryz.func96 fun g0 w0 R hE=>by
  unfold ZbM at h
  refine iteB h (fun c1 h1=>?_) (fun c1 h2=>?_)
  ·obtain rfl:=Zaa h1
   exact af fol hE [.r [],.r [],.c true,.r []] [] 0 [] c1
  ·obtain ⟨i1,rfl,h3⟩:=Zac h2
   obtain ⟨x2,c3,h4⟩:=ZaA h3
   obtain ⟨c4,c5,h5⟩:=ck2 h4
   obtain rfl:=Zaa h5
   exact afd fol hE [.r [],.r [],.c false,.r [(3,{oc:=x2.lo})],.d {ds:=[(7,{fz:=[13]}),(9,{fz:=[16]})],hv:=676,Hs:=[4,36,164,676]},.r []] [] 0 [] (aO c1 c3 c4 c5 z0 (eN (List.length ([]++x2.rules.Gates))) z0 (eN (List.length ([]++x2.rules.Checks))))
noncomputable def ZbH.B:Code:=Tryz.f39.body.getD .skip
noncomputable def ZbH.rs (r:Zag×LL):List CV:=[.agg r.1.ls]
noncomputable def ZbH (N:Nat) (t_0:Option Nat) (st:LL):Option (Zag×LL):=
 if (Option.isNone t_0)=true then
  some (Zag.mk 0 0 0 0 false [] [] (List.replicate 4 0) (List.replicate 4 0) (Zan.mk 0 (List.replicate 32 0) (List.replicate 32 0) 0 0 0),st)
 else
 optE t_0 fun i1=>
 getE (st[i1]?) ZbF fun x2 x3=>
 optE (ZbM N x2 st) fun (x4,st5)=>
 some (x4,st5)
theorem ZbH.snd {t_0:Option Nat} {st:LL} {r:Zag×LL} (h:ZbH N t_0 st=some r):Snd Tryz.prog 39 [.one (L.ptr t_0)] st (ZbH.rs r) r.2:=
 sO ZbH.B Tryz.func39 fun g0 w0 R hE=>by
  unfold ZbH at h
  refine iteB h (fun c1 h1=>?_) (fun c1 h2=>?_)
  ·obtain rfl:=Zaa h1
   exact af fol hE [.r [],.r [],.c true,.r []] [] 0 [] c1
  ·obtain ⟨i1,rfl,h3⟩:=Zac h2
   obtain ⟨x2,x3,c3,h4⟩:=Zbt h3
   obtain ⟨⟨x4,st5⟩,c4,h5⟩:=Zac h4
   obtain rfl:=Zaa h5
   exact af fol hE [.r [],.r [],.c false,.r [(3,{oc:=[L.ptr x2,L.own true 1 x3]}),(4,{rs:=[.agg x4.ls],st:=st5})]] [] 0 [] (aJ c1 c3 (ZbM.snd c4))
noncomputable def Zat.B:Code:=Tryz.f4.body.getD .skip
noncomputable def Zat.rs (r:Bool×LL):List CV:=[oB r.1]
noncomputable def Zat.p2 (N:Nat) (p_0:Zag) (id_3_0:List Int) (c2_:((Option Nat)×(Option Nat)×Int×LL)→Option (Bool×LL)):((Option Nat)×(Option Nat)×Int×LL)→Option (Bool×LL):=fun (t_158,a_159,i_116,st160)=>
 optE a_159 fun i161=>
 getE (st160[i161]?) ZaF fun x162=>
 optE (Zbi N x162) fun x163=>
 if (decide (i_116≤x163))=true then
  optE t_158 fun i164=>
  getE (st160[i164]?) ZbF fun x165 x166=>
  optE x165 fun i167=>
  getE (st160[i167]?) ZaF fun x168=>
  optE (Zbf N (Zaj.mk x168 x166) i_116) fun (x169,x170)=>
  optE (ZaW N x162 i_116) fun (x171,x172)=>
  optE (ZbW N (some i164) i_116 st160) fun (x173,x174,st175)=>
  optE (Zbz N (some i161) i_116 st175) fun (x176,x177,st178)=>
  if (!(((x169.Header.Version==x171.Header.Version)&&((x169.Header.Prev==x171.Header.Prev)&&((x169.Header.Root==x171.Header.Root)&&((x169.Header.Time==x171.Header.Time)&&((x169.Header.Bits==x171.Header.Bits)&&((x169.Header.Nonce==x171.Header.Nonce)&&true))))))&&((x169.Id==x171.Id)&&((x169.Ahead==x171.Ahead)&&((x169.Height==x171.Height)&&((x169.Work==x171.Work)&&true))))))=true then
   some (false,st178)
  else
  if (!(x170==x172))=true then
   some (false,st178)
  else
  if (!(x174==x177))=true then
   some (false,st178)
  else
  if (!((x173.Point.Height==x176.Point.Height)&&((x173.Point.Bits==x176.Point.Bits)&&((x173.Point.Time==x176.Point.Time)&&((x173.Point.First==x176.Point.First)&&((x173.Point.Hard==x176.Point.Hard)&&true))))))=true then
   some (false,st178)
  else
  if (!(x173.Prev==x176.Prev))=true then
   some (false,st178)
  else
  if ((len x173.Times) != (len x176.Times))=true then
   some (false,st178)
  else
  getE (st178[i164]?) ZbF fun x179 x180=>
  optE x179 fun i181=>
  getE (st178[i181]?) ZaF fun x182=>
  optE (Zbu N (Zaj.mk x182 x180) i_116 0) fun x183=>
  getE (st178[i161]?) ZaF fun x184=>
  optE (ZaS N x184 i_116 0) fun x185=>
  if (!(x183==x185))=true then
   some (false,st178)
  else
  optE (Zbu N (Zaj.mk x182 x180) 1 i_116) fun x186=>
  optE (ZaS N x184 1 i_116) fun x187=>
  if (!(x186==x187))=true then
   some (false,st178)
  else
  c2_ ((some i164),(some i161),w64 (i_116+1),st178)
 else
 optE t_158 fun i188=>
 getE (st160[i188]?) ZbF fun x189 x190=>
 optE x189 fun i191=>
 getE (st160[i191]?) ZaF fun x192=>
 optE (ZbI N (Zaj.mk x192 x190)) fun x193=>
 if (x193==x163)=true then
  optE (ZbR N (Zaj.mk x192 x190)) fun x194=>
  optE (Zbn N x162) fun x195=>
  if (x194==x195)=true then
   optE (ZbS N (Zaj.mk x192 x190) id_3_0) fun x196=>
   optE (Zbh N x162 id_3_0) fun x197=>
   if (x196==x197)=true then
    optE (ZbH N (some i188) st160) fun (x198,st199)=>
    if ((x198.Genesis.Version==p_0.Genesis.Version)&&((x198.Genesis.Prev==p_0.Genesis.Prev)&&((x198.Genesis.Root==p_0.Genesis.Root)&&((x198.Genesis.Time==p_0.Genesis.Time)&&((x198.Genesis.Bits==p_0.Genesis.Bits)&&((x198.Genesis.Nonce==p_0.Genesis.Nonce)&&true))))))=true then
     optE (ZbH N (some i188) st199) fun (x200,st201)=>
     some (x200.Limit==p_0.Limit,st201)
    else
    some (false,st199)
   else
   some (false,st160)
  else
  some (false,st160)
 else
 some (false,st160)
noncomputable def Zat.p1 (N:Nat) (x4 x7:Option Nat) (list_1:LL) (p_0:Zag) (id_3_0:List Int) (c1_:(Int×LL)→Option (Bool×LL)):(Int×LL)→Option (Bool×LL):=fun (v10,st106)=>
 if (decide (v10<(len list_1)))=true then
  chk (0≤v10)<|
  getE (list_1[Int.toNat v10]?) Zci fun x107=>
  optE (Zbd N x4 x107.Header x107.Now st106) fun (x108,x109,x110,st111)=>
  optE (Zas N x7 x107.Header x107.Now st111) fun (x112,x113,x114,st115)=>
  if (x108 != x112)=true then
   some (false,st115)
  else
  if (x109 != x113)=true then
   some (false,st115)
  else
  if (x110 != x114)=true then
   some (false,st115)
  else
  c1_ (w64 (v10+1),st115)
 else
 loopN (Zat.p2 N p_0 id_3_0) N (x4,x7,(-1),st106)
noncomputable def Zat (N:Nat) (p_0:Zag) (list_1:LL) (room_2:Int) (id_3_0:List Int) (st:LL):Option (Bool×LL):=
 optE (Zcq N st) fun (x1,st2)=>
 if (!x1)=true then
  some (false,st2)
 else
 optE (Zbe N p_0 list_1) fun x3=>
 if x3=true then
  some (true,st2)
 else
 optE (Zdl N p_0 room_2 st2) fun (x4,x5,st6)=>
 optE (ZcN N p_0 room_2 st6) fun (x7,x8,st9)=>
 loopN (Zat.p1 N x4 x7 list_1 p_0 id_3_0) N (0,st9)
noncomputable def Zat.p2.S (t_158 a_159:Option Nat) (i_116:Int) (p_0:Zag) (id_3_0:List Int) (st160:LL):S:=mkS 208 [(4,sA 4),(7,sA 7),(9,sP t_158),(11,sP a_159),(21,sI i_116)] [(4,.cells p_0.ls),(7,.cells [L.arr .u8 32 id_3_0])] st160
noncomputable def Zat.p1.S (x4 x7:Option Nat) (list_1:LL) (v10:Int) (p_0:Zag) (id_3_0:List Int) (st106:LL):S:=mkS 208 [(4,sA 4),(7,sA 7),(9,sP x4),(11,sP x7),(47,sV 69 list_1),(48,sI (len list_1)),(49,sI v10)] [(4,.cells p_0.ls),(7,.cells [L.arr .u8 32 id_3_0])] st106
theorem Zat.p2_ok {t_158 a_159 i_116 p_0 id_3_0 st160 r c2_ J2} (h:Zat.p2 N p_0 id_3_0 c2_ (t_158,a_159,i_116,st160)=some r) (hE:En Tryz.f4 g0 w0 (Zat.rs r) r.2 R) (hc2 : ∀t_158 a_159 i_116 st160,c2_ (t_158,a_159,i_116,st160)=some r→At g0 w0 (Zat.p2.S t_158 a_159 i_116 p_0 id_3_0 st160) J2):At g0 w0 (Zat.p2.S t_158 a_159 i_116 p_0 id_3_0 st160) (XK Tryz.prog R (.c (csub Zat.B [1,1,1,1,1,1,0,1,0,0]) :: .h J2 :: [.b 2,.c (csub Zat.B [1,1,1,1,1,1,1])])):=by
 unfold Zat.p2 at h
 obtain ⟨i161,rfl,h1⟩:=Zac h
 obtain ⟨x162,c153,h2⟩:=ZaA h1
 obtain ⟨x163,c154,h3⟩:=Zac h2
 let o1:List PS:=[.r [(2,{rs:=[oI x163],m:=10,cv:=[.one (L.bx 87 x162.ls)]})]]
 have t1 {Q:Prop} (q:Q):=aJ (bO 87 c153 (Zal.bv x162)) (Zbi.snd c154) q
 refine iteB h3 (fun c155 h4=>?_) (fun c155 h5=>?_)
 ·obtain ⟨i164,rfl,h6⟩:=Zac h4
  obtain ⟨x165,x166,c157,h7⟩:=Zbt h6
  obtain ⟨i167,rfl,h8⟩:=Zac h7
  obtain ⟨x168,c159,h9⟩:=ZaA h8
  obtain ⟨⟨x169,x170⟩,c160,h10⟩:=Zac h9
  obtain ⟨⟨x171,x172⟩,c161,h11⟩:=Zac h10
  obtain ⟨⟨x173,x174,st175⟩,c162,h12⟩:=Zac h11
  obtain ⟨⟨x176,x177,st178⟩,c163,h13⟩:=Zac h12
  let o2:List PS:=o1 ++ [.c true,.r [(2,{rs:=[.agg x169.ls,oB x170],m:=10,cv:=[.one (L.bx 2 (Zaj.ls (Zaj.mk x168 x166)))]})],.r [(2,{rs:=[.agg x171.ls,oB x172],m:=10,cv:=[.one (L.bx 87 x162.ls)]})],.r [(2,{rs:=[.agg x173.ls,oB x174],st:=st175})],.r [(2,{rs:=[.agg x176.ls,oB x177],st:=st178})]]
  have t2 {Q:Prop} (q:Q):=t1 (aO c155 (bO 2 c157 ((bC 87 c159 (Zal.bv x168) (bW bN)):BVs st160 [L.ptr (some i167),L.own true 1 x166] (Zaj.ls (Zaj.mk x168 x166)))) (Zbf.snd c160) (bO 87 c153 (Zal.bv x162)) (ZaW.snd c161) (ZbW.snd c162) (Zbz.snd c163) q)
  refine iteB h13 (fun c164 h14=>?_) (fun c164 h15=>?_)
  ·obtain rfl:=Zaa h14
   exact af fol hE (o2 ++ [.r [(4,wF),(5,wF),(6,wF),(9,wF),(10,wF),(11,wF),(14,wF),(15,wF),(16,wF),(17,wF),(18,wF),(21,wF),(22,wF),(23,wF),(24,wF),(25,wF),(28,wF),(29,wF),(30,wF),(31,wF),(32,wF),(33,wF),(34,wF),(37,wF),(38,wF),(39,wF),(40,wF),(41,wF),(42,wF),(43,wF),(46,wF),(47,wF),(48,wF),(49,wF),(50,wF),(51,wF),(52,wF)],.c true,.r []]) [] 0 [] (t2 (aO c164 c164 c164 c164 eT eT eT (aO eT eT eT eT eT eT eT (aO eT eT eT eT eT eT eT (aO eT eT eT eT eT eT eT (aO eT eT eT eT eT eT eT (aO eT eT eT eT eT eT eT (aJ eT eT eT))))))))
  ·have t3 {Q:Prop} (q:Q):=t2 (aL c164 c164 c164 c164 q)
   refine iteB h15 (fun c165 h16=>?_) (fun c165 h17=>?_)
   ·obtain rfl:=Zaa h16
    exact af fol hE (o2 ++ [.r [(7,yF),(9,wF),(10,wF),(11,wF),(14,wF),(15,wF),(16,wF),(17,wF),(18,wF),(21,wF),(22,wF),(23,wF),(24,wF),(25,wF),(28,wF),(29,wF),(30,wF),(31,wF),(32,wF),(33,wF),(34,wF),(37,wF),(38,wF),(39,wF),(40,wF),(41,wF),(42,wF),(43,wF),(46,wF),(47,wF),(48,wF),(49,wF),(50,wF),(51,wF),(52,wF)],.c true,.r []]) [] 0 [] (t3 (aO c165 c165 c165 c165 eT eT eT (aO eT eT eT eT eT eT eT (aO eT eT eT eT eT eT eT (aO eT eT eT eT eT eT eT (aO eT eT eT eT eT eT eT (aM eT eT eT eT eT eT)))))))
   ·have t4 {Q:Prop} (q:Q):=t3 (aL c165 c165 c165 c165 q)
    refine iteB h17 (fun c166 h18=>?_) (fun c166 h19=>?_)
    ·obtain rfl:=Zaa h18
     exact af fol hE (o2 ++ [.r [(7,yF),(12,yF),(14,wF),(15,wF),(16,wF),(17,wF),(18,wF),(21,wF),(22,wF),(23,wF),(24,wF),(25,wF),(28,wF),(29,wF),(30,wF),(31,wF),(32,wF),(33,wF),(34,wF),(37,wF),(38,wF),(39,wF),(40,wF),(41,wF),(42,wF),(43,wF),(46,wF),(47,wF),(48,wF),(49,wF),(50,wF),(51,wF),(52,wF)],.c true,.r []]) [] 0 [] (t4 (aO c166 c166 c166 c166 c166 c166 eT (aO eT eT eT eT eT eT eT (aO eT eT eT eT eT eT eT (aO eT eT eT eT eT eT eT (aO eT eT eT eT eT eT eT (aI eT eT)))))))
    ·have t5 {Q:Prop} (q:Q):=t4 (aN c166 c166 c166 c166 c166 c166 q)
     refine iteB h19 (fun c167 h20=>?_) (fun c167 h21=>?_)
     ·obtain rfl:=Zaa h20
      exact af fol hE (o2 ++ [.r [(7,yF),(12,yF),(19,yF),(21,wF),(22,wF),(23,wF),(24,wF),(25,wF),(28,wF),(29,wF),(30,wF),(31,wF),(32,wF),(33,wF),(34,wF),(37,wF),(38,wF),(39,wF),(40,wF),(41,wF),(42,wF),(43,wF),(46,wF),(47,wF),(48,wF),(49,wF),(50,wF),(51,wF),(52,wF)],.c true,.r []]) [] 0 [] (t5 (aO c167 c167 c167 c167 c167 c167 eT (aO eT eT eT eT eT eT eT (aO eT eT eT eT eT eT eT (aO eT eT eT eT eT eT eT (aJ eT eT eT))))))
     ·have t6 {Q:Prop} (q:Q):=t5 (aN c167 c167 c167 c167 c167 c167 q)
      refine iteB h21 (fun c168 h22=>?_) (fun c168 h23=>?_)
      ·obtain rfl:=Zaa h22
       exact af fol hE (o2 ++ [.r [(7,yF),(12,yF),(19,yF),(26,yF),(28,wF),(29,wF),(30,wF),(31,wF),(32,wF),(33,wF),(34,wF),(37,wF),(38,wF),(39,wF),(40,wF),(41,wF),(42,wF),(43,wF),(46,wF),(47,wF),(48,wF),(49,wF),(50,wF),(51,wF),(52,wF)],.c true,.r []]) [] 0 [] (t6 (aO c168 c168 c168 c168 c168 c168 c168 (aO c168 eT eT eT eT eT eT (aO eT eT eT eT eT eT eT (aK eT eT eT eT)))))
      ·have t7 {Q:Prop} (q:Q):=t6 (aO c168 c168 c168 c168 c168 c168 c168 (aI c168 q))
       refine iteB h23 (fun c169 h24=>?_) (fun c169 h25=>?_)
       ·obtain rfl:=Zaa h24
        exact af fol hE (o2 ++ [.r [(7,yF),(12,yF),(19,yF),(26,yF),(35,yF),(37,wF),(38,wF),(39,wF),(40,wF),(41,wF),(42,wF),(43,wF),(46,wF),(47,wF),(48,wF),(49,wF),(50,wF),(51,wF),(52,wF)],.c true,.r []]) [] 0 [] (t7 (aO c169 c169 c169 c169 c169 c169 c169 (aO c169 eT eT eT eT eT eT (aJ eT eT eT))))
       ·obtain ⟨x179,x180,c170,h26⟩:=Zbt h25
        obtain ⟨i181,rfl,h27⟩:=Zac h26
        obtain ⟨x182,c172,h28⟩:=ZaA h27
        obtain ⟨x183,c173,h29⟩:=Zac h28
        obtain ⟨x184,c174,h30⟩:=ZaA h29
        obtain ⟨x185,c175,h31⟩:=Zac h30
        have t8 {Q:Prop} (q:Q):=t7 (aO c169 c169 c169 (bO 2 c170 ((bC 87 c172 (Zal.bv x182) (bW bN)):BVs st178 [L.ptr (some i181),L.own true 1 x180] (Zaj.ls (Zaj.mk x182 x180)))) (Zbu.snd c173) c169 c169 (aM c169 (bO 87 c174 (Zal.bv x184)) (ZaS.snd c175) c169 c169 q))
        refine iteB h31 (fun c176 h32=>?_) (fun c176 h33=>?_)
        ·obtain rfl:=Zaa h32
         exact af fol hE (o2 ++ [.r [(7,yF),(12,yF),(19,yF),(26,yF),(35,yF),(39,{rs:=[oB x183],m:=10,cv:=[.one (L.bx 2 (Zaj.ls (Zaj.mk x182 x180)))]}),(42,{rs:=[oB x185],m:=10,cv:=[.one (L.bx 87 x184.ls)]}),(44,yF),(46,wF),(47,wF),(48,wF),(49,wF),(50,wF),(51,wF),(52,wF)],.c true,.r []]) [] 0 [] (t8 (aO c176 c176 c176 c176 c176 c176 c176 (aI c176 eT)))
        ·obtain ⟨x186,c177,h34⟩:=Zac h33
         obtain ⟨x187,c178,h35⟩:=Zac h34
         let o3:List PS:=o2 ++ [.r [(7,yF),(12,yF),(19,yF),(26,yF),(35,yF),(39,{rs:=[oB x183],m:=10,cv:=[.one (L.bx 2 (Zaj.ls (Zaj.mk x182 x180)))]}),(42,{rs:=[oB x185],m:=10,cv:=[.one (L.bx 87 x184.ls)]}),(44,yF),(48,{rs:=[oB x186],m:=10,cv:=[.one (L.bx 2 (Zaj.ls (Zaj.mk x182 x180)))]}),(51,{rs:=[oB x187],m:=10,cv:=[.one (L.bx 87 x184.ls)]}),(53,yF)]]
         have t9 {Q:Prop} (q:Q):=t8 (aO c176 c176 c176 (bO 2 c170 ((bC 87 c172 (Zal.bv x182) (bW bN)):BVs st178 [L.ptr (some i181),L.own true 1 x180] (Zaj.ls (Zaj.mk x182 x180)))) (Zbu.snd c177) c176 c176 (aM c176 (bO 87 c174 (Zal.bv x184)) (ZaS.snd c178) c176 c176 q))
         refine iteB h35 (fun c179 h36=>?_) (fun c179 h37=>?_)
         ·obtain rfl:=Zaa h36
          exact af fol hE (o3 ++ [.c true,.r []]) [] 0 [] (t9 c179)
         ·exact an fol (o3 ++ [.c false,.r []]) [4,7,9,11,21] [4,7] (t9 c179) (hc2 (some i164) (some i161) (w64 (i_116+1)) st178 h37)
 ·obtain ⟨i188,rfl,h38⟩:=Zac h5
  obtain ⟨x189,x190,c181,h39⟩:=Zbt h38
  obtain ⟨i191,rfl,h40⟩:=Zac h39
  obtain ⟨x192,c183,h41⟩:=ZaA h40
  obtain ⟨x193,c184,h42⟩:=Zac h41
  have t10 {Q:Prop} (q:Q):=t1 (aM c155 (bO 2 c181 ((bC 87 c183 (Zal.bv x192) (bW bN)):BVs st160 [L.ptr (some i191),L.own true 1 x190] (Zaj.ls (Zaj.mk x192 x190)))) (ZbI.snd c184) (bO 87 c153 (Zal.bv x162)) (Zbi.snd c154) q)
  refine iteB h42 (fun c185 h43=>?_) (fun c185 h44=>?_)
  ·obtain ⟨x194,c186,h45⟩:=Zac h43
   obtain ⟨x195,c187,h46⟩:=Zac h45
   have t11 {Q:Prop} (q:Q):=t10 (aO c185 c185 (bO 2 c181 ((bC 87 c183 (Zal.bv x192) (bW bN)):BVs st160 [L.ptr (some i191),L.own true 1 x190] (Zaj.ls (Zaj.mk x192 x190)))) (ZbR.snd c186) c185 c185 c185 (aL (bO 87 c153 (Zal.bv x162)) (Zbn.snd c187) c185 c185 q))
   refine iteB h46 (fun c188 h47=>?_) (fun c188 h48=>?_)
   ·obtain ⟨x196,c189,h49⟩:=Zac h47
    obtain ⟨x197,c190,h50⟩:=Zac h49
    have t12 {Q:Prop} (q:Q):=t11 (aO c188 c188 c188 (bO 2 c181 ((bC 87 c183 (Zal.bv x192) (bW bN)):BVs st160 [L.ptr (some i191),L.own true 1 x190] (Zaj.ls (Zaj.mk x192 x190)))) (ZbS.snd c189) c188 c188 (aO c188 c188 c188 (bO 87 c153 (Zal.bv x162)) (Zbh.snd c190) c188 c188 q))
    refine iteB h50 (fun c191 h51=>?_) (fun c191 h52=>?_)
    ·obtain ⟨⟨x198,st199⟩,c192,h53⟩:=Zac h51
     have t13 {Q:Prop} (q:Q):=t12 (aO c191 c191 (ZbH.snd c192) c191 c191 c191 c191 (aK c191 c191 c191 q))
     refine iteB h53 (fun c193 h54=>?_) (fun c193 h55=>?_)
     ·obtain ⟨⟨x200,st201⟩,c194,h56⟩:=Zac h54
      obtain rfl:=Zaa h56
      exact afd fol hE (o1 ++ [.c false,.d {ds:=[(1,{rs:=[oI x193],m:=10,cv:=[.one (L.bx 2 (Zaj.ls (Zaj.mk x192 x190)))]}),(3,{rs:=[oI x163],m:=10,cv:=[.one (L.bx 87 x162.ls)]}),(7,{rs:=[oI x194],m:=10,cv:=[.one (L.bx 2 (Zaj.ls (Zaj.mk x192 x190)))]}),(9,{rs:=[oI x195],m:=10,cv:=[.one (L.bx 87 x162.ls)]}),(15,{rs:=[oI x196],m:=10,cv:=[.one (L.bx 2 (Zaj.ls (Zaj.mk x192 x190)))]}),(18,{rs:=[oI x197],m:=10,cv:=[.one (L.bx 87 x162.ls)]}),(23,{rs:=[.agg x198.ls],st:=st199}),(31,{rs:=[.agg x200.ls],st:=st201})],hv:=2156167818,Hs:=[2,10,138,650,33418,295562,8684170,2156167818]}]) [] 0 [] (t13 (aO c193 c193 (ZbH.snd c194) c193 c193 c193 c193 (aJ c193 c193 c193)))
     ·obtain rfl:=Zaa h55
      exact afd fol hE (o1 ++ [.c false,.d {ds:=[(1,{rs:=[oI x193],m:=10,cv:=[.one (L.bx 2 (Zaj.ls (Zaj.mk x192 x190)))]}),(3,{rs:=[oI x163],m:=10,cv:=[.one (L.bx 87 x162.ls)]}),(7,{rs:=[oI x194],m:=10,cv:=[.one (L.bx 2 (Zaj.ls (Zaj.mk x192 x190)))]}),(9,{rs:=[oI x195],m:=10,cv:=[.one (L.bx 87 x162.ls)]}),(15,{rs:=[oI x196],m:=10,cv:=[.one (L.bx 2 (Zaj.ls (Zaj.mk x192 x190)))]}),(18,{rs:=[oI x197],m:=10,cv:=[.one (L.bx 87 x162.ls)]}),(23,{rs:=[.agg x198.ls],st:=st199}),(30,wF),(31,wF),(32,wF),(33,wF),(34,wF),(35,wF),(36,yF)],hv:=8684170,Hs:=[2,10,138,650,33418,295562,8684170]}]) [] 0 [] (t13 (aN c193 c193 c193 c193 c193 c193 c193))
    ·obtain rfl:=Zaa h52
     exact afd fol hE (o1 ++ [.c false,.d {ds:=[(1,{rs:=[oI x193],m:=10,cv:=[.one (L.bx 2 (Zaj.ls (Zaj.mk x192 x190)))]}),(3,{rs:=[oI x163],m:=10,cv:=[.one (L.bx 87 x162.ls)]}),(7,{rs:=[oI x194],m:=10,cv:=[.one (L.bx 2 (Zaj.ls (Zaj.mk x192 x190)))]}),(9,{rs:=[oI x195],m:=10,cv:=[.one (L.bx 87 x162.ls)]}),(15,{rs:=[oI x196],m:=10,cv:=[.one (L.bx 2 (Zaj.ls (Zaj.mk x192 x190)))]}),(18,{rs:=[oI x197],m:=10,cv:=[.one (L.bx 87 x162.ls)]}),(22,wF),(23,wF),(24,wF),(25,wF),(26,wF),(27,wF),(28,yF),(30,wF),(31,wF),(32,wF),(33,wF),(34,wF),(35,wF),(36,yF)],hv:=295562,Hs:=[2,10,138,650,33418,295562]}]) [] 0 [] (t12 (aO c191 c191 c191 c191 c191 c191 c191 (aN eF eF eF eF eF eF eF)))
   ·obtain rfl:=Zaa h48
    exact afd fol hE (o1 ++ [.c false,.d {ds:=[(1,{rs:=[oI x193],m:=10,cv:=[.one (L.bx 2 (Zaj.ls (Zaj.mk x192 x190)))]}),(3,{rs:=[oI x163],m:=10,cv:=[.one (L.bx 87 x162.ls)]}),(7,{rs:=[oI x194],m:=10,cv:=[.one (L.bx 2 (Zaj.ls (Zaj.mk x192 x190)))]}),(9,{rs:=[oI x195],m:=10,cv:=[.one (L.bx 87 x162.ls)]}),(13,wF),(14,wF),(15,wF),(16,wF),(17,wF),(18,wF),(19,wF),(20,yF),(22,wF),(23,wF),(24,wF),(25,wF),(26,wF),(27,wF),(28,yF),(30,wF),(31,wF),(32,wF),(33,wF),(34,wF),(35,wF),(36,yF)],hv:=650,Hs:=[2,10,138,650]}]) [] 0 [] (t11 (aO c188 c188 c188 c188 c188 c188 c188 (aO c188 eF eF eF eF eF eF (aO eF eF eF eF eF eF eF eF))))
  ·obtain rfl:=Zaa h44
   exact afd fol hE (o1 ++ [.c false,.d {ds:=[(1,{rs:=[oI x193],m:=10,cv:=[.one (L.bx 2 (Zaj.ls (Zaj.mk x192 x190)))]}),(3,{rs:=[oI x163],m:=10,cv:=[.one (L.bx 87 x162.ls)]}),(6,wF),(7,wF),(8,wF),(9,wF),(10,wF),(11,yF),(13,wF),(14,wF),(15,wF),(16,wF),(17,wF),(18,wF),(19,wF),(20,yF),(22,wF),(23,wF),(24,wF),(25,wF),(26,wF),(27,wF),(28,yF),(30,wF),(31,wF),(32,wF),(33,wF),(34,wF),(35,wF),(36,yF)],hv:=10,Hs:=[2,10]}]) [] 0 [] (t10 (aO c185 c185 c185 c185 c185 c185 eF (aO eF eF eF eF eF eF eF (aO eF eF eF eF eF eF eF (aN eF eF eF eF eF eF eF)))))
theorem Zat.p1_ok {x4 x7 list_1 v10 p_0 id_3_0 st106 r c1_ J1} (h:Zat.p1 N x4 x7 list_1 p_0 id_3_0 c1_ (v10,st106)=some r) (hE:En Tryz.f4 g0 w0 (Zat.rs r) r.2 R) (hc1 : ∀v10 st106,c1_ (v10,st106)=some r→At g0 w0 (Zat.p1.S x4 x7 list_1 v10 p_0 id_3_0 st106) J1):At g0 w0 (Zat.p1.S x4 x7 list_1 v10 p_0 id_3_0 st106) (XK Tryz.prog R (.c (csub Zat.B [1,1,1,1,1,0,1,0,0]) :: .h J1 :: [.b 0,.c (csub Zat.B [1,1,1,1,1,1])])):=by
 unfold Zat.p1 at h
 refine iteB h (fun c101 h57=>?_) (fun c101 h58=>?_)
 ·obtain ⟨c102,h59⟩:=ZaU h57
  obtain ⟨x107,c103,h60⟩:=Zdg h59
  obtain ⟨⟨x108,x109,x110,st111⟩,c104,h61⟩:=Zac h60
  obtain ⟨⟨x112,x113,x114,st115⟩,c105,h62⟩:=Zac h61
  let o4:List PS:=[.r [],.c true,.r [(1,{oe:=x107.ls})],.r [(5,{rs:=[oI x108,oI x109,oI x110],st:=st111})],.r [(5,{rs:=[oI x112,oI x113,oI x114],st:=st115})]]
  have t14 {Q:Prop} (q:Q):=aN c101 c102 (oD c101) c103 (Zbd.snd c104) (Zas.snd c105) q
  refine iteB h62 (fun c106 h63=>?_) (fun c106 h64=>?_)
  ·obtain rfl:=Zaa h63
   exact af fol hE (o4 ++ [.r [(4,wF),(5,wF),(6,wF),(9,wF),(10,wF),(11,wF)],.c true,.r []]) [] 0 [] (t14 (aO c106 c106 c106 c106 eT eT eT (aI eT eT)))
  ·have t15 {Q:Prop} (q:Q):=t14 (aL c106 c106 c106 c106 q)
   refine iteB h64 (fun c107 h65=>?_) (fun c107 h66=>?_)
   ·obtain rfl:=Zaa h65
    exact af fol hE (o4 ++ [.r [(7,yF),(9,wF),(10,wF),(11,wF)],.c true,.r []]) [] 0 [] (t15 (aL c107 c107 c107 c107 eT))
   ·let o5:List PS:=o4 ++ [.r [(7,yF),(12,yF)]]
    refine iteB h66 (fun c108 h67=>?_) (fun c108 h68=>?_)
    ·obtain rfl:=Zaa h67
     exact af fol hE (o5 ++ [.c true,.r []]) [] 0 [] (t15 (aL c107 c107 c107 c107 c108))
    ·exact an fol (o5 ++ [.c false,.r []]) [4,7,9,11,47,48,49] [4,7] (t15 (aL c107 c107 c107 c107 c108)) (hc1 (w64 (v10+1)) st115 h68)
 ·exact aq fol [.r [],.c false,.r []] [4,7,9,11,21] [4,7] c101 (At.loop N (At.loopN (fun y:(Option Nat)×(Option Nat)×Int×LL=>Zat.p2.S y.1 y.2.1 y.2.2.1 p_0 id_3_0 y.2.2.2) (fun c J hc y h=>Zat.p2_ok (t_158:=y.1) (a_159:=y.2.1) (i_116:=y.2.2.1) (st160:=y.2.2.2) h hE (fun t_158 a_159 i_116 st160=>hc (t_158,a_159,i_116,st160))) N (x4,x7,(-1),st106) h58))
theorem Zat.snd {p_0:Zag} {list_1:LL} {room_2:Int} {id_3_0:List Int} {st:LL} {r:Bool×LL} (h:Zat N p_0 list_1 room_2 id_3_0 st=some r):Snd Tryz.prog 4 [.agg p_0.ls,.one (L.sl 69 list_1),oI room_2,.agg [L.arr .u8 32 id_3_0]] st (Zat.rs r) r.2:=
 sO Zat.B Tryz.func4 fun g0 w0 R hE=>by
  unfold Zat at h
  obtain ⟨⟨x1,st2⟩,c1,h69⟩:=Zac h
  let o6:List PS:=[.r [],.r [(0,{rs:=[oB x1],st:=st2})]]
  have t16 {Q:Prop} (q:Q):=aI (Zcq.snd c1) q
  refine iteB h69 (fun c2 h70=>?_) (fun c2 h71=>?_)
  ·obtain rfl:=Zaa h70
   exact af fol hE (o6 ++ [.c true,.r []]) [] 0 [] (t16 c2)
  ·obtain ⟨x3,c3,h72⟩:=Zac h71
   let o7:List PS:=o6 ++ [.c false,.r [(2,q1 [oB x3])]]
   refine iteB h72 (fun c4 h73=>?_) (fun c4 h74=>?_)
   ·obtain rfl:=Zaa h73
    exact af fol hE (o7 ++ [.c true,.r []]) [] 0 [] (t16 (aJ c2 (Zbe.snd c3) c4))
   ·obtain ⟨⟨x4,x5,st6⟩,c5,h75⟩:=Zac h74
    obtain ⟨⟨x7,x8,st9⟩,c6,h76⟩:=Zac h75
    exact aq fol (o7 ++ [.c false,.r [(2,{rs:=[.one (L.ptr x4),oI x5],st:=st6})],.r [(2,{rs:=[.one (L.ptr x7),oI x8],st:=st9})],.r []]) [4,7,9,11,47,48,49] [4,7] (t16 (aL c2 (Zbe.snd c3) c4 (Zdl.snd c5) (ZcN.snd c6))) (At.loop N (At.loopN (fun y:Int×LL=>Zat.p1.S x4 x7 list_1 y.1 p_0 id_3_0 y.2) (fun c J hc y h=>Zat.p1_ok (v10:=y.1) (st106:=y.2) h hE (fun v10 st106=>hc (v10,st106))) N (0,st9) h76))
end Go.Dn.F
