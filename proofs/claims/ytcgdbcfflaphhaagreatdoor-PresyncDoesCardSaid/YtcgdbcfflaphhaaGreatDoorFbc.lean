/- Contracts of functions of the program, as shallow functions, and their proofs. -/
import Derived.Test.YtcgdbcfflaphhaaGreatDoorFbb
open Go.Dn.L renaming bool→yX,bx→uH,ptr→xQ
open Go.Proofs.Tryz renaming prog→zG
open Int renaming toNat→zF
open List renaming set→zO,length→zI
open Option renaming isNone→wI
noncomputable section
set_option linter.all false
set_option maxRecDepth 100000
namespace Go.Dn.F
open Go.Proofs
variable {N:Nat} {g0:G} {w0:World} {R:Exit→Act→World→Prop}
def Zaf.B:Code:=Tryz.f69.body.getD .skip
def Zaf.rs (r:LL×Int×LL):List CV:=[.one (L.sl 68 r.1),oI r.2.1]
def Zaf.p4 (N:Nat) (c1_:(Int×LL)→Option (LL×Int×LL)) (i1:Nat) (now_1:Int) (more_2:Bool) (x2:Zab) (list_3:LL) (v3:Int) (st77:LL):Option (LL×Int×LL):=
 c1_ (w64 (v3+1),st77)
def Zaf.p3 (N:Nat) (c1_:(Int×LL)→Option (LL×Int×LL)) (i1:Nat) (now_1:Int) (more_2:Bool) (x2:Zab) (list_3:LL) (v3:Int) (st57:LL) (x58:Zab) (x45:Zaa):Option (LL×Int×LL):=
 getE ((zO (zO st57 i1 (gs x58.lo 17)) i1 (Zab.lo {x58 with Twice:=x58.Twice ++ [x45.ls]}))[i1]?) Zbe fun x75=>
 optE (ZbM N x75 x75.Twice) fun x76=>
 if x76=true then
  Zaf.p4 N c1_ i1 now_1 more_2 x2 list_3 v3 (zO (zO (zO st57 i1 (gs x58.lo 17)) i1 (Zab.lo {x58 with Twice:=x58.Twice ++ [x45.ls]})) i1 (Zab.lo {x75 with Phase:=3}))
 else
 Zaf.p4 N c1_ i1 now_1 more_2 x2 list_3 v3 (zO (zO st57 i1 (gs x58.lo 17)) i1 (Zab.lo {x58 with Twice:=x58.Twice ++ [x45.ls]}))
def Zaf.p2 (N:Nat) (c1_:(Int×LL)→Option (LL×Int×LL)) (i1:Nat) (now_1:Int) (more_2:Bool) (x2:Zab) (list_3:LL) (v3:Int) (x45:Zaa) (st57:LL):Option (LL×Int×LL):=
 if (x2.Phase==2)=true then
  getE (st57[i1]?) Zbe fun x58=>
  optE (ZcP N x58.Base x58.Twice) fun x59=>
  chk (plainRow x59=true)<|
  optE (Zaq N x58.P x59 x45 now_1) fun x60=>
  if (x60 != 0)=true then
   optE (Zbs N (some i1) 8 st57) fun (x61,x62,st63)=>
   some (x61,x62,st63)
  else
  chk (zI (x58.Twice ++ [x45.ls])*96≤140737488355328)<|
  if (x58.Phase==2)=true then
   optE (Zaw N {x58 with Twice:=x58.Twice ++ [x45.ls]} (x58.Twice ++ [x45.ls])) fun x64=>
   chk (plainRow x64=true)<|
   optE (Zaw N {x58 with Twice:=x58.Twice ++ [x45.ls]} x58.Seen) fun x65=>
   chk (plainRow x65=true)<|
   if (decide ((len x64)>(len x65)))=true then
    optE (Zbs N (some i1) 8 (zO (zO st57 i1 (gs x58.lo 17)) i1 (Zab.lo {x58 with Twice:=x58.Twice ++ [x45.ls]}))) fun (x66,x67,st68)=>
    some (x66,x67,st68)
   else
   if (decide ((len x64)>0))=true then
    chk (0≤(w64 ((len x64)-1)))<|
    chk ((w64 ((len x64)-1))<(len x64))<|
    getE (x64[0+(zF (w64 ((len x64)-1)))]?) ZnD fun x69=>
    chk ((w64 ((len x64)-1))<(len x65))<|
    getE (x65[0+(zF (w64 ((len x64)-1)))]?) ZnD fun x70=>
    if (!(x69==x70))=true then
     optE (Zbs N (some i1) 8 (zO (zO st57 i1 (gs x58.lo 17)) i1 (Zab.lo {x58 with Twice:=x58.Twice ++ [x45.ls]}))) fun (x71,x72,st73)=>
     some (x71,x72,st73)
    else
    Zaf.p3 N c1_ i1 now_1 more_2 x2 list_3 v3 st57 x58 x45
   else
   Zaf.p3 N c1_ i1 now_1 more_2 x2 list_3 v3 st57 x58 x45
  else
  Zaf.p3 N c1_ i1 now_1 more_2 x2 list_3 v3 st57 x58 x45
 else
 Zaf.p4 N c1_ i1 now_1 more_2 x2 list_3 v3 st57
def Zaf.p6 (N:Nat) (i1:Nat) (x82:Zab) (st83:LL):Option (LL×Int×LL):=
 getE (st83[i1]?) Zbe fun x84=>
 chk (0≤x82.Told)<|
 chk (0≤x84.Told)<|
 chk ((zF x82.Told)≤(zF x84.Told))<|
 chk ((zF x84.Told)≤(zI x84.Twice))<|
 chk (((0+(zF x82.Told))+((zF x84.Told)-(zF x82.Told)))≤(zI x84.Twice))<|
 some (List.take ((zF x84.Told)-(zF x82.Told)) (List.drop (0+(zF x82.Told)) x84.Twice),0,st83)
def Zaf.p5 (N:Nat) (i1:Nat) (st44:LL):Option (LL×Int×LL):=
 getE (st44[i1]?) Zbe fun x82=>
 if (x82.Phase==3)=true then
  Zaf.p6 N i1 x82 (zO (zO st44 i1 (Zab.lo {x82 with Told:=if (w64 ((len x82.Twice)-x82.Size))>x82.Told then (w64 ((len x82.Twice)-x82.Size)) else x82.Told})) i1 (Zab.lo {x82 with Told:=(len x82.Twice)}))
 else
 Zaf.p6 N i1 x82 (zO st44 i1 (Zab.lo {x82 with Told:=if (w64 ((len x82.Twice)-x82.Size))>x82.Told then (w64 ((len x82.Twice)-x82.Size)) else x82.Told}))
def Zaf.p1 (N:Nat) (i1:Nat) (now_1:Int) (more_2:Bool) (x2:Zab) (list_3:LL) (c1_:(Int×LL)→Option (LL×Int×LL)):(Int×LL)→Option (LL×Int×LL):=fun (v3,st44)=>
 if (decide (v3<(len list_3)))=true then
  chk (0≤v3)<|
  getE (list_3[zF v3]?) Zch fun x45=>
  if (x2.Phase==1)=true then
   getE (st44[i1]?) Zbe fun x46=>
   if (x46.Phase==1)=true then
    optE (ZcP N x46.Base x46.Seen) fun x47=>
    chk (plainRow x47=true)<|
    optE (Zaq N x46.P x47 x45 now_1) fun x48=>
    if (x48 != 0)=true then
     optE (Zbs N (some i1) 8 st44) fun (x49,x50,st51)=>
     some (x49,x50,st51)
    else
    chk (zI (x46.Seen ++ [x45.ls])*96≤140737488355328)<|
    optE (Zaw N {x46 with Seen:=x46.Seen ++ [x45.ls]} (x46.Seen ++ [x45.ls])) fun x52=>
    chk (plainRow x52=true)<|
    if (decide ((len x52)>x46.Most))=true then
     optE (Zbs N (some i1) 3 (zO (zO st44 i1 (gs x46.lo 16)) i1 (Zab.lo {x46 with Seen:=x46.Seen ++ [x45.ls]}))) fun (x53,x54,st55)=>
     some (x53,x54,st55)
    else
    optE (ZbM N {x46 with Seen:=x46.Seen ++ [x45.ls]} (x46.Seen ++ [x45.ls])) fun x56=>
    if x56=true then
     Zaf.p2 N c1_ i1 now_1 more_2 x2 list_3 v3 x45 (zO (zO (zO st44 i1 (gs x46.lo 16)) i1 (Zab.lo {x46 with Seen:=x46.Seen ++ [x45.ls]})) i1 (Zab.lo {x46 with Seen:=x46.Seen ++ [x45.ls],Phase:=2}))
    else
    Zaf.p2 N c1_ i1 now_1 more_2 x2 list_3 v3 x45 (zO (zO st44 i1 (gs x46.lo 16)) i1 (Zab.lo {x46 with Seen:=x46.Seen ++ [x45.ls]}))
   else
   Zaf.p2 N c1_ i1 now_1 more_2 x2 list_3 v3 x45 st44
  else
  Zaf.p2 N c1_ i1 now_1 more_2 x2 list_3 v3 x45 st44
 else
 if (!more_2)=true then
  getE (st44[i1]?) Zbe fun x78=>
  if (x78.Phase==x2.Phase)=true then
   optE (Zbs N (some i1) 5 st44) fun (x79,x80,st81)=>
   some (x79,x80,st81)
  else
  Zaf.p5 N i1 st44
 else
 Zaf.p5 N i1 st44
def Zaf (N:Nat) (s_0:Option Nat) (now_1:Int) (more_2:Bool) (list_3 st:LL):Option (LL×Int×LL):=
 optE s_0 fun i1=>
 getE (st[i1]?) Zbe fun x2=>
 if (x2.Phase==0)=true then
  some ([],9,st)
 else
 if (x2.Phase==3)=true then
  some ([],9,st)
 else
 if (decide (now_1<0))=true then
  some ([],1,st)
 else
 if (decide (now_1>4294967296))=true then
  some ([],1,st)
 else
 if (decide ((len list_3)>64))=true then
  some ([],1,st)
 else
 loopN (Zaf.p1 N i1 now_1 more_2 x2 list_3) N (0,st)
def Zaf.p4.S (i1:Nat) (now_1:Int) (more_2:Bool) (x2:Zab) (list_3:LL) (v3:Int) (st77:LL):S:=mkS 262 [(0,sP (some i1)),(1,sI now_1),(2,.one (.l (yX more_2))),(10,sI x2.Phase),(43,sV 68 list_3),(44,sI (len list_3)),(45,sI v3)] [] st77
def Zaf.p3.S (i1:Nat) (now_1:Int) (more_2:Bool) (x2:Zab) (list_3:LL) (v3:Int) (st57:LL) (x58:Zab) (x45:Zaa):S:=mkS 262 [(0,sP (some i1)),(1,sI now_1),(2,.one (.l (yX more_2))),(10,sI x2.Phase),(43,sV 68 list_3),(44,sI (len list_3)),(45,sI v3)] [] (zO (zO st57 i1 (gs x58.lo 17)) i1 (Zab.lo {x58 with Twice:=x58.Twice ++ [x45.ls]}))
def Zaf.p2.S (i1:Nat) (now_1:Int) (more_2:Bool) (x2:Zab) (list_3:LL) (v3:Int) (x45:Zaa) (st57:LL):S:=mkS 262 [(0,sP (some i1)),(1,sI now_1),(2,.one (.l (yX more_2))),(10,sI x2.Phase),(12,sA 12),(43,sV 68 list_3),(44,sI (len list_3)),(45,sI v3)] [(12,.cells x45.ls)] st57
def Zaf.p6.S (i1:Nat) (x82:Zab) (st83:LL):S:=mkS 262 [(0,sP (some i1)),(15,sI x82.Told)] [] st83
def Zaf.p5.S (i1:Nat) (st44:LL):S:=mkS 262 [(0,sP (some i1))] [] st44
def Zaf.p1.S (i1:Nat) (now_1:Int) (more_2:Bool) (x2:Zab) (list_3:LL) (v3:Int) (st44:LL):S:=mkS 262 [(0,sP (some i1)),(1,sI now_1),(2,.one (.l (yX more_2))),(10,sI x2.Phase),(43,sV 68 list_3),(44,sI (len list_3)),(45,sI v3)] [] st44
theorem Zaf.p4_ok {i1 now_1 more_2 x2 list_3 v3 st77 r c1_ J1} (h:Zaf.p4 N c1_ i1 now_1 more_2 x2 list_3 v3 st77=some r) (hE:En Tryz.f69 g0 w0 (Zaf.rs r) r.2.2 R) (hc1 : ∀v3 st44,c1_ (v3,st44)=some r→At g0 w0 (Zaf.p1.S i1 now_1 more_2 x2 list_3 v3 st44) J1):At g0 w0 (Zaf.p4.S i1 now_1 more_2 x2 list_3 v3 st77) (XK zG R [.c (csub Zaf.B [1,1,1,1,0,1,0,0,1,1,1]),.h J1,.b 0,.c (csub Zaf.B [1,1,1,1,1])]):=by
 unfold Zaf.p4 at h
 exact an fol [.r []] [0,1,2,10,43,44,45] [] trivial (hc1 (w64 (v3+1)) st77 h)
theorem Zaf.p3_ok {i1 now_1 more_2 x2 list_3 v3 st57 x58 x45 r c1_ J1} (h:Zaf.p3 N c1_ i1 now_1 more_2 x2 list_3 v3 st57 x58 x45=some r) (hE:En Tryz.f69 g0 w0 (Zaf.rs r) r.2.2 R) (hc1 : ∀v3 st44,c1_ (v3,st44)=some r→At g0 w0 (Zaf.p1.S i1 now_1 more_2 x2 list_3 v3 st44) J1):At g0 w0 (Zaf.p3.S i1 now_1 more_2 x2 list_3 v3 st57 x58 x45) (XK zG R [.c (csub Zaf.B [1,1,1,1,0,1,0,0,1,1,0,0,1,1,1,0,1,1,1]),.b 1,.c (csub Zaf.B [1,1,1,1,0,1,0,0,1,1,1]),.h J1,.b 0,.c (csub Zaf.B [1,1,1,1,1])]):=by
 unfold Zaf.p3 at h
 obtain ⟨x75,c105,h1⟩:=Zbj h
 obtain ⟨x76,c106,h2⟩:=Zae h1
 let o1:List PS:=[.r [(4,{oc:=x75.lo}),(5,{oc:=x75.lo,rs:=[oB x76],m:=10,cv:=[.one (uH 93 x75.ls)]})]]
 have t1 {Q:Prop} (q:Q):=aN c105 (bO 93 c105 (Zab.bv x75)) z0 (eN (zI x75.Twice)) c105 (ZbM.snd c106) q
 refine iteB h2 (fun c107 h3=>?_) (fun c107 h4=>?_)
 ·exact aq fol (o1 ++ [.c true,.r [(3,{oc:=x75.lo})],.s 4]) [0,1,2,10,43,44,45] [] (t1 (aI c107 c105)) (Zaf.p4_ok h3 hE hc1)
 ·exact aq fol (o1 ++ [.c false,.s 4]) [0,1,2,10,43,44,45] [] (t1 c107) (Zaf.p4_ok h4 hE hc1)
theorem Zaf.p2_ok {i1 now_1 more_2 x2 list_3 v3 x45 st57 r c1_ J1} (h:Zaf.p2 N c1_ i1 now_1 more_2 x2 list_3 v3 x45 st57=some r) (hE:En Tryz.f69 g0 w0 (Zaf.rs r) r.2.2 R) (hc1 : ∀v3 st44,c1_ (v3,st44)=some r→At g0 w0 (Zaf.p1.S i1 now_1 more_2 x2 list_3 v3 st44) J1):At g0 w0 (Zaf.p2.S i1 now_1 more_2 x2 list_3 v3 x45 st57) (XK zG R [.c (csub Zaf.B [1,1,1,1,0,1,0,0,1,1,0,0,1,1]),.b 1,.c (csub Zaf.B [1,1,1,1,0,1,0,0,1,1,1]),.h J1,.b 0,.c (csub Zaf.B [1,1,1,1,1])]):=by
 unfold Zaf.p2 at h
 refine iteB h (fun c82 h5=>?_) (fun c82 h6=>?_)
 ·obtain ⟨x58,c83,h7⟩:=Zbj h5
  obtain ⟨x59,c84,h8⟩:=Zae h7
  obtain ⟨c85,h9⟩:=ZaN h8
  obtain ⟨x60,c86,h10⟩:=Zae h9
  let o2:List PS:=[.r [],.c true,.d {ds:=[(3,{oc:=x58.lo}),(7,{oc:=x58.lo}),(11,{oc:=x58.lo}),(12,{oc:=x58.lo,rs:=[.row true 68 x59],ns:=[128],m:=2}),(15,{rs:=[oI x60],m:=2})],hv:=4096,Hs:=[4096]}]
  have t2 {Q:Prop} (q:Q):=aO c82 c83 c83 c83 c83 z0 (eN (zI x58.Twice)) (aN c83 c85 (ZcP.snd c84) z0 (eN (zI x59)) (Zaq.snd c86) q)
  refine iteB h10 (fun c87 h11=>?_) (fun c87 h12=>?_)
  ·obtain ⟨⟨x61,x62,st63⟩,c88,h13⟩:=Zae h11
   obtain rfl:=Zac h13
   exact afd fol hE (o2 ++ [.c true,.r [(1,{rs:=[.row true 68 x61,oI x62],st:=st63,ns:=[134]}),(2,{fz:=[134]})]]) [] 0 [] (t2 (aK c87 (Zbs.snd c88) z0 (eN (zI x61))))
  ·obtain ⟨c89,h14⟩:=ZaN h12
   let o3:List PS:=o2 ++ [.c false,.d {ds:=[(4,{oc:=x58.lo}),(7,{oe:=x58.lo}),(10,{oc:=gs x58.lo 17,mv:=[144]})],hv:=1216,Hs:=[64,192,1216]},.r [(3,{oc:=Zab.lo {x58 with Twice:=x58.Twice ++ [x45.ls]}})]]
   have t3 {Q:Prop} (q:Q):=t2 (aO c87 c83 c83 z0 (eN (zI x58.Twice)) c83 z0 (aN (eN (1)) c89 (ZaO c83 (gs x58.lo 17)) z0 (eN (zI (x58.Twice ++ [x45.ls]))) (ZaO (ZaO c83 (gs x58.lo 17)) (Zab.lo {x58 with Twice:=x58.Twice ++ [x45.ls]})) q))
   refine iteB h14 (fun c90 h15=>?_) (fun c90 h16=>?_)
   ·obtain ⟨x64,c91,h17⟩:=Zae h15
    obtain ⟨c92,h18⟩:=ZaN h17
    obtain ⟨x65,c93,h19⟩:=Zae h18
    obtain ⟨c94,h20⟩:=ZaN h19
    let o4:List PS:=o3 ++ [.c true,.r [(4,{oc:=Zab.lo {x58 with Twice:=x58.Twice ++ [x45.ls]}}),(5,{oc:=Zab.lo {x58 with Twice:=x58.Twice ++ [x45.ls]},rs:=[.row true 1 x64],ns:=[157],m:=10,cv:=[.one (uH 93 (Zab.ls {x58 with Twice:=x58.Twice ++ [x45.ls]}))]})],.r [(4,{oc:=Zab.lo {x58 with Twice:=x58.Twice ++ [x45.ls]}}),(5,{oc:=Zab.lo {x58 with Twice:=x58.Twice ++ [x45.ls]},rs:=[.row true 1 x65],ns:=[163],m:=10,cv:=[.one (uH 93 (Zab.ls {x58 with Twice:=x58.Twice ++ [x45.ls]}))]})]]
    have t4 {Q:Prop} (q:Q):=t3 (aO c90 (ZaO (ZaO c83 (gs x58.lo 17)) (Zab.lo {x58 with Twice:=x58.Twice ++ [x45.ls]})) (bO 93 (ZaO (ZaO c83 (gs x58.lo 17)) (Zab.lo {x58 with Twice:=x58.Twice ++ [x45.ls]})) (Zab.bv {x58 with Twice:=x58.Twice ++ [x45.ls]})) z0 (eN (zI (x58.Twice ++ [x45.ls]))) (ZaO (ZaO c83 (gs x58.lo 17)) (Zab.lo {x58 with Twice:=x58.Twice ++ [x45.ls]})) c92 (aO (Zaw.snd c91) (ZaO (ZaO c83 (gs x58.lo 17)) (Zab.lo {x58 with Twice:=x58.Twice ++ [x45.ls]})) (bO 93 (ZaO (ZaO c83 (gs x58.lo 17)) (Zab.lo {x58 with Twice:=x58.Twice ++ [x45.ls]})) (Zab.bv {x58 with Twice:=x58.Twice ++ [x45.ls]})) z0 (eN (zI x58.Seen)) (ZaO (ZaO c83 (gs x58.lo 17)) (Zab.lo {x58 with Twice:=x58.Twice ++ [x45.ls]})) c94 (aI (Zaw.snd c93) q)))
    refine iteB h20 (fun c95 h21=>?_) (fun c95 h22=>?_)
    ·obtain ⟨⟨x66,x67,st68⟩,c96,h23⟩:=Zae h21
     obtain rfl:=Zac h23
     exact afd fol hE (o4 ++ [.d {ds:=[(6,wF),(7,wF),(8,wF),(9,wF),(23,wF)],hv:=0,Hs:=[]},.c true,.r [(1,{rs:=[.row true 68 x66,oI x67],st:=st68,ns:=[190]}),(2,{fz:=[190]})]]) [] 0 [] (t4 (aO c95 c95 c95 c95 c95 c95 eT (aJ (Zbs.snd c96) z0 (eN (zI x66)))))
    ·refine iteB h22 (fun c97 h24=>?_) (fun c97 h25=>?_)
     ·obtain ⟨c98,c99,h26⟩:=ck2 h24
      obtain ⟨x69,c100,h27⟩:=ZkU h26
      obtain ⟨c101,h28⟩:=ZaN h27
      obtain ⟨x70,c102,h29⟩:=ZkU h28
      let o5:List PS:=o4 ++ [.d {ds:=[(15,{oe:=[yX x69]}),(21,{oe:=[yX x70]}),(24,yF)],hv:=0,Hs:=[]}]
      have t5 {Q:Prop} (q:Q):=t4 (aO c95 c95 c95 c95 c97 c97 c97 (aO c97 c97 c98 c99 c97 c100 c97 (aO c97 c97 c97 c97 c98 c101 c97 (aM c102 c97 c95 c97 c95 q))))
      refine iteB h29 (fun c103 h30=>?_) (fun c103 h31=>?_)
      ·obtain ⟨⟨x71,x72,st73⟩,c104,h32⟩:=Zae h30
       obtain rfl:=Zac h32
       exact afd fol hE (o5 ++ [.c true,.r [(1,{rs:=[.row true 68 x71,oI x72],st:=st73,ns:=[190]}),(2,{fz:=[190]})]]) [] 0 [] (t5 (aK c103 (Zbs.snd c104) z0 (eN (zI x71))))
      ·exact aqd fol (o5 ++ [.c false,.s 6]) [0,1,2,10,43,44,45] [] (t5 c103) (Zaf.p3_ok h31 hE hc1)
     ·exact aqd fol (o4 ++ [.d {ds:=[(10,wF),(11,wF),(12,wF),(13,wF),(14,wF),(15,wF),(16,wF),(17,wF),(18,wF),(19,wF),(20,wF),(21,wF),(22,wF),(23,yF),(24,yF)],hv:=0,Hs:=[]},.c false,.s 6]) [0,1,2,10,43,44,45] [] (t4 (aO c95 c95 c95 c95 c97 c97 c97 (aO c97 c97 c97 c97 c97 c97 c97 (aN c97 c97 c97 c95 c97 c95 eF)))) (Zaf.p3_ok h25 hE hc1)
   ·exact aqd fol (o3 ++ [.c false,.s 6]) [0,1,2,10,43,44,45] [] (t3 c90) (Zaf.p3_ok h16 hE hc1)
 ·exact aq fol [.r [],.c false,.s 4] [0,1,2,10,43,44,45] [] c82 (Zaf.p4_ok h6 hE hc1)
theorem Zaf.p6_ok {i1 x82 st83 r} (h:Zaf.p6 N i1 x82 st83=some r) (hE:En Tryz.f69 g0 w0 (Zaf.rs r) r.2.2 R):At g0 w0 (Zaf.p6.S i1 x82 st83) (XK zG R [.c (csub Zaf.B [1,1,1,1,1,1,1,1,1])]):=by
 unfold Zaf.p6 at h
 obtain ⟨x84,c114,h33⟩:=Zbj h
 obtain ⟨c115,c116,c117,c118,c119,h34⟩:=ck5 h33
 obtain rfl:=Zac h34
 exact afd fol hE [.d {ds:=[(3,{oc:=x84.lo}),(8,{oc:=x84.lo}),(9,{oc:=x84.lo})],hv:=0,Hs:=[]}] x84.lo 3 [] (aO c114 c114 c115 c116 c117 c118 c114 (aI c119 c114))
theorem Zaf.p5_ok {i1 st44 r} (h:Zaf.p5 N i1 st44=some r) (hE:En Tryz.f69 g0 w0 (Zaf.rs r) r.2.2 R):At g0 w0 (Zaf.p5.S i1 st44) (XK zG R [.c (csub Zaf.B [1,1,1,1,1,1])]):=by
 unfold Zaf.p5 at h
 obtain ⟨x82,c112,h35⟩:=Zbj h
 let o6:List PS:=[.r [(3,{oc:=x82.lo})],.d {ds:=[(4,{oc:=x82.lo}),(8,{oc:=x82.lo}),(13,{oc:=x82.lo}),(18,{oc:=x82.lo})],hv:=262144,Hs:=[262144]},.r [(3,{oc:=Zab.lo {x82 with Told:=if (w64 ((len x82.Twice)-x82.Size))>x82.Told then (w64 ((len x82.Twice)-x82.Size)) else x82.Told}})]]
 have t6 {Q:Prop} (q:Q):=aN c112 c112 c112 c112 c112 (ZaO c112 (Zab.lo {x82 with Told:=if (w64 ((len x82.Twice)-x82.Size))>x82.Told then (w64 ((len x82.Twice)-x82.Size)) else x82.Told})) q
 refine iteB h35 (fun c113 h36=>?_) (fun c113 h37=>?_)
 ·exact aqd fol (o6 ++ [.c true,.r [(4,{oc:=Zab.lo {x82 with Told:=if (w64 ((len x82.Twice)-x82.Size))>x82.Told then (w64 ((len x82.Twice)-x82.Size)) else x82.Told}}),(8,{oc:=Zab.lo {x82 with Told:=if (w64 ((len x82.Twice)-x82.Size))>x82.Told then (w64 ((len x82.Twice)-x82.Size)) else x82.Told}})],.s 1]) [0,15] [] (t6 (aJ c113 (ZaO c112 (Zab.lo {x82 with Told:=if (w64 ((len x82.Twice)-x82.Size))>x82.Told then (w64 ((len x82.Twice)-x82.Size)) else x82.Told})) (ZaO c112 (Zab.lo {x82 with Told:=if (w64 ((len x82.Twice)-x82.Size))>x82.Told then (w64 ((len x82.Twice)-x82.Size)) else x82.Told})))) (Zaf.p6_ok h36 hE)
 ·exact aqd fol (o6 ++ [.c false,.s 1]) [0,15] [] (t6 c113) (Zaf.p6_ok h37 hE)
theorem Zaf.p1_ok {i1 now_1 more_2 x2 list_3 v3 st44 r c1_ J1} (h:Zaf.p1 N i1 now_1 more_2 x2 list_3 c1_ (v3,st44)=some r) (hE:En Tryz.f69 g0 w0 (Zaf.rs r) r.2.2 R) (hc1 : ∀v3 st44,c1_ (v3,st44)=some r→At g0 w0 (Zaf.p1.S i1 now_1 more_2 x2 list_3 v3 st44) J1):At g0 w0 (Zaf.p1.S i1 now_1 more_2 x2 list_3 v3 st44) (XK zG R (.c (csub Zaf.B [1,1,1,1,0,1,0,0]) :: .h J1 :: [.b 0,.c (csub Zaf.B [1,1,1,1,1])])):=by
 unfold Zaf.p1 at h
 refine iteB h (fun c64 h38=>?_) (fun c64 h39=>?_)
 ·obtain ⟨c65,h40⟩:=ZaN h38
  obtain ⟨x45,c66,h41⟩:=ZbS h40
  let o7:List PS:=[.r [],.c true,.r [(1,{oe:=x45.ls})]]
  have t7 {Q:Prop} (q:Q):=aL c64 c65 (oD c64) c66 q
  refine iteB h41 (fun c67 h42=>?_) (fun c67 h43=>?_)
  ·obtain ⟨x46,c68,h44⟩:=Zbj h42
   let o8:List PS:=o7 ++ [.r [(6,{oc:=x46.lo})]]
   have t8 {Q:Prop} (q:Q):=t7 (aO c67 c67 c67 c67 c68 c67 c67 q)
   refine iteB h44 (fun c69 h45=>?_) (fun c69 h46=>?_)
   ·obtain ⟨x47,c70,h47⟩:=Zae h45
    obtain ⟨c71,h48⟩:=ZaN h47
    obtain ⟨x48,c72,h49⟩:=Zae h48
    let o9:List PS:=o8 ++ [.c true,.d {ds:=[(3,{oc:=x46.lo}),(7,{oc:=x46.lo}),(11,{oc:=x46.lo}),(12,{oc:=x46.lo,rs:=[.row true 68 x47],ns:=[70],m:=2}),(15,{rs:=[oI x48],m:=2})],hv:=4096,Hs:=[4096]}]
    have t9 {Q:Prop} (q:Q):=t8 (aO c69 c68 c68 c68 c68 z0 (eN (zI x46.Seen)) (aN c68 c71 (ZcP.snd c70) z0 (eN (zI x47)) (Zaq.snd c72) q))
    refine iteB h49 (fun c73 h50=>?_) (fun c73 h51=>?_)
    ·obtain ⟨⟨x49,x50,st51⟩,c74,h52⟩:=Zae h50
     obtain rfl:=Zac h52
     exact afd fol hE (o9 ++ [.c true,.r [(1,{rs:=[.row true 68 x49,oI x50],st:=st51,ns:=[76]}),(2,{fz:=[76]})]]) [] 0 [] (t9 (aK c73 (Zbs.snd c74) z0 (eN (zI x49))))
    ·obtain ⟨c75,h53⟩:=ZaN h51
     obtain ⟨x52,c76,h54⟩:=Zae h53
     obtain ⟨c77,h55⟩:=ZaN h54
     let o10:List PS:=o9 ++ [.c false,.d {ds:=[(4,{oc:=x46.lo}),(7,{oe:=x46.lo}),(10,{oc:=gs x46.lo 16,mv:=[86]})],hv:=1216,Hs:=[64,192,1216]},.d {ds:=[(4,{oc:=Zab.lo {x46 with Seen:=x46.Seen ++ [x45.ls]}}),(5,{oc:=Zab.lo {x46 with Seen:=x46.Seen ++ [x45.ls]},rs:=[.row true 1 x52],ns:=[94],m:=10,cv:=[.one (uH 93 (Zab.ls {x46 with Seen:=x46.Seen ++ [x45.ls]}))]}),(10,{oc:=Zab.lo {x46 with Seen:=x46.Seen ++ [x45.ls]}})],hv:=32,Hs:=[32]}]
     have t10 {Q:Prop} (q:Q):=t9 (aO c73 c68 c68 z0 (eN (zI x46.Seen)) c68 z0 (aO (eN (1)) c75 (ZaO c68 (gs x46.lo 16)) z0 (eN (zI (x46.Seen ++ [x45.ls]))) (ZaO (ZaO c68 (gs x46.lo 16)) (Zab.lo {x46 with Seen:=x46.Seen ++ [x45.ls]})) (bO 93 (ZaO (ZaO c68 (gs x46.lo 16)) (Zab.lo {x46 with Seen:=x46.Seen ++ [x45.ls]})) (Zab.bv {x46 with Seen:=x46.Seen ++ [x45.ls]})) (aO z0 (eN (zI (x46.Seen ++ [x45.ls]))) (ZaO (ZaO c68 (gs x46.lo 16)) (Zab.lo {x46 with Seen:=x46.Seen ++ [x45.ls]})) c77 (Zaw.snd c76) (ZaO (ZaO c68 (gs x46.lo 16)) (Zab.lo {x46 with Seen:=x46.Seen ++ [x45.ls]})) (ZaO (ZaO c68 (gs x46.lo 16)) (Zab.lo {x46 with Seen:=x46.Seen ++ [x45.ls]})) q)))
     refine iteB h55 (fun c78 h56=>?_) (fun c78 h57=>?_)
     ·obtain ⟨⟨x53,x54,st55⟩,c79,h58⟩:=Zae h56
      obtain rfl:=Zac h58
      exact afd fol hE (o10 ++ [.c true,.r [(1,{rs:=[.row true 68 x53,oI x54],st:=st55,ns:=[102]}),(2,{fz:=[102]})]]) [] 0 [] (t10 (aK c78 (Zbs.snd c79) z0 (eN (zI x53))))
     ·obtain ⟨x56,c80,h59⟩:=Zae h57
      let o11:List PS:=o10 ++ [.c false,.r [(4,{oc:=Zab.lo {x46 with Seen:=x46.Seen ++ [x45.ls]}}),(5,{oc:=Zab.lo {x46 with Seen:=x46.Seen ++ [x45.ls]},rs:=[oB x56],m:=10,cv:=[.one (uH 93 (Zab.ls {x46 with Seen:=x46.Seen ++ [x45.ls]}))]})]]
      have t11 {Q:Prop} (q:Q):=t10 (aO c78 (ZaO (ZaO c68 (gs x46.lo 16)) (Zab.lo {x46 with Seen:=x46.Seen ++ [x45.ls]})) (bO 93 (ZaO (ZaO c68 (gs x46.lo 16)) (Zab.lo {x46 with Seen:=x46.Seen ++ [x45.ls]})) (Zab.bv {x46 with Seen:=x46.Seen ++ [x45.ls]})) z0 (eN (zI (x46.Seen ++ [x45.ls]))) (ZaO (ZaO c68 (gs x46.lo 16)) (Zab.lo {x46 with Seen:=x46.Seen ++ [x45.ls]})) (ZbM.snd c80) q)
      refine iteB h59 (fun c81 h60=>?_) (fun c81 h61=>?_)
      ·exact aqd fol (o11 ++ [.c true,.r [(3,{oc:=Zab.lo {x46 with Seen:=x46.Seen ++ [x45.ls]}})],.s 6]) [0,1,2,10,12,43,44,45] [12] (t11 (aI c81 (ZaO (ZaO c68 (gs x46.lo 16)) (Zab.lo {x46 with Seen:=x46.Seen ++ [x45.ls]})))) (Zaf.p2_ok h60 hE hc1)
      ·exact aqd fol (o11 ++ [.c false,.s 6]) [0,1,2,10,12,43,44,45] [12] (t11 c81) (Zaf.p2_ok h61 hE hc1)
   ·exact aq fol (o8 ++ [.c false,.s 6]) [0,1,2,10,12,43,44,45] [12] (t8 c69) (Zaf.p2_ok h46 hE hc1)
  ·exact aq fol (o7 ++ [.r [(3,wF),(4,wF),(5,wF),(6,wF),(7,wF),(8,yF)],.c false,.s 6]) [0,1,2,10,12,43,44,45] [12] (t7 (aN c67 c67 c67 c67 c67 c67 eF)) (Zaf.p2_ok h43 hE hc1)
 ·refine iteB h39 (fun c108 h62=>?_) (fun c108 h63=>?_)
  ·obtain ⟨x78,c109,h64⟩:=Zbj h62
   let o12:List PS:=[.r [],.c false,.r [(6,{oc:=x78.lo})]]
   have t12 {Q:Prop} (q:Q):=aO c64 (not_false (ZaX c108)) (not_false (ZaX c108)) (not_false (ZaX c108)) (not_false (ZaX c108)) c109 (not_false (ZaX c108)) (aJ (not_false (ZaX c108)) (not_false (ZaX c108)) q)
   refine iteB h64 (fun c110 h65=>?_) (fun c110 h66=>?_)
   ·obtain ⟨⟨x79,x80,st81⟩,c111,h67⟩:=Zae h65
    obtain rfl:=Zac h67
    exact af fol hE (o12 ++ [.c true,.r [(1,{rs:=[.row true 68 x79,oI x80],st:=st81,ns:=[214]}),(2,{fz:=[214]})]]) [] 0 [] (t12 (aK c110 (Zbs.snd c111) z0 (eN (zI x79))))
   ·exact aq fol (o12 ++ [.c false,.s 1]) [0] [] (t12 c110) (Zaf.p5_ok h66 hE)
  ·exact aq fol [.r [],.c false,.r [(3,wF),(4,wF),(5,wF),(6,wF),(7,wF),(8,wF),(9,yF)],.c false,.s 1] [0] [] (aO c64 (not_true (ZaU c108)) (not_true (ZaU c108)) (not_true (ZaU c108)) (not_true (ZaU c108)) (not_true (ZaU c108)) (not_true (ZaU c108)) (aI (not_true (ZaU c108)) eF)) (Zaf.p5_ok h63 hE)
theorem Zaf.snd {s_0:Option Nat} {now_1:Int} {more_2:Bool} {list_3:LL} {st:LL} {r:LL×Int×LL} (h:Zaf N s_0 now_1 more_2 list_3 st=some r):Snd zG 69 [.one (xQ s_0),oI now_1,oB more_2,.one (L.sl 68 list_3)] st (Zaf.rs r) r.2.2:=
 sO Zaf.B Tryz.func69 fun g0 w0 R hE=>by
  unfold Zaf at h
  obtain ⟨i1,rfl,h68⟩:=Zae h
  obtain ⟨x2,c2,h69⟩:=Zbj h68
  let o13:List PS:=[.r [(0,{m:=2})]]
  refine iteB h69 (fun c3 h70=>?_) (fun c3 h71=>?_)
  ·obtain rfl:=Zac h70
   exact af fol hE (o13 ++ [.r [(3,{oc:=x2.lo}),(6,wF),(7,wF),(8,wF),(9,wF),(10,wF)],.c true,.r [(0,{m:=2})]]) [] 0 [] (aO c2 c3 c3 c3 c3 c3 c3 eT)
  ·let o14:List PS:=o13 ++ [.r [(3,{oc:=x2.lo}),(9,{oc:=x2.lo}),(11,yF)]]
   have t13 {Q:Prop} (q:Q):=aO c2 c3 c3 c3 c3 c2 c3 (aI c3 q)
   refine iteB h71 (fun c4 h72=>?_) (fun c4 h73=>?_)
   ·obtain rfl:=Zac h72
    exact af fol hE (o14 ++ [.c true,.r [(0,{m:=2})]]) [] 0 [] (t13 c4)
   ·refine iteB h73 (fun c5 h74=>?_) (fun c5 h75=>?_)
    ·obtain rfl:=Zac h74
     exact af fol hE (o14 ++ [.c false,.r [(3,wF),(4,wF),(7,wF),(8,wF),(9,wF)],.c true,.r [(0,{m:=2})]]) [] 0 [] (t13 (aO c4 c5 c5 c5 eT eT eT (aI eT eT)))
    ·refine iteB h75 (fun c6 h76=>?_) (fun c6 h77=>?_)
     ·obtain rfl:=Zac h76
      exact af fol hE (o14 ++ [.c false,.r [(5,yF),(7,wF),(8,wF),(9,wF)],.c true,.r [(0,{m:=2})]]) [] 0 [] (t13 (aO c4 c5 c5 c5 c6 c6 c6 (aI c6 eT)))
     ·let o15:List PS:=o14 ++ [.c false,.r [(5,yF),(10,yF)]]
      refine iteB h77 (fun c7 h78=>?_) (fun c7 h79=>?_)
      ·obtain rfl:=Zac h78
       exact af fol hE (o15 ++ [.c true,.r [(0,{m:=2})]]) [] 0 [] (t13 (aO c4 c5 c5 c5 c6 c6 c6 (aI c6 c7)))
      ·exact aq fol (o15 ++ [.c false,.r [(3,{oc:=x2.lo})],.r []]) [0,1,2,10,43,44,45] [] (t13 (aO c4 c5 c5 c5 c6 c6 c6 (aJ c6 c7 c2))) (At.loop N (At.loopN (fun y:Int×LL=>Zaf.p1.S i1 now_1 more_2 x2 list_3 y.1 y.2) (fun c J hc y h=>Zaf.p1_ok (v3:=y.1) (st44:=y.2) h hE (fun v3 st44=>hc (v3,st44))) N (0,st) h79))
def Zcv.B:Code:=Tryz.f62.body.getD .skip
def Zcv.rs (r:Int×LL):List CV:=[oI r.1]
def Zcv (N:Nat) (s_0:Option Nat) (st:LL):Option (Int×LL):=
 if (wI s_0)=true then
  some (0,st)
 else
 optE s_0 fun i1=>
 getE (st[i1]?) Zbm fun x2 x3 x4 x5 x6 x7 x8 x9 x10 x11 x12 x13 x14 x15 x16 x17 x18 x19 x20 x21 x22 x23 x24 x25 x26 x27 x28 x29 x30 x31 x32 x33 x34 x35 x36 x37=>
 some (x34,st)
theorem Zcv.snd {s_0:Option Nat} {st:LL} {r:Int×LL} (h:Zcv N s_0 st=some r):Snd zG 62 [.one (xQ s_0)] st (Zcv.rs r) r.2:=
 sO Zcv.B Tryz.func62 fun g0 w0 R hE=>by
  unfold Zcv at h
  refine iteB h (fun c1 h1=>?_) (fun c1 h2=>?_)
  ·obtain rfl:=Zac h1
   exact af fol hE [.r [],.r [],.c true,.r []] [] 0 [] c1
  ·obtain ⟨i1,rfl,h3⟩:=Zae h2
   obtain ⟨x2,x3,x4,x5,x6,x7,x8,x9,x10,x11,x12,x13,x14,x15,x16,x17,x18,x19,x20,x21,x22,x23,x24,x25,x26,x27,x28,x29,x30,x31,x32,x33,x34,x35,x36,x37,c3,h4⟩:=Zbb h3
   obtain rfl:=Zac h4
   exact af fol hE [.r [],.r [],.c false,.r [(3,{oc:=(qla x2 x3 x4 x5 x6 x7 x8 x9 x10 x11 x12 x13 x14 x15 x16 x17 x18 x19 x20 x21 x22 x23 x24 x25 x26 x27 x28 x29 x30 x31 x32 x33 x34 x35 x36 x37)})]] [] 0 [] (aI c1 c3)
def Zcr.B:Code:=Tryz.f66.body.getD .skip
def Zcr.rs (r:Int):List CV:=[oI r]
def Zcr (N:Nat) (s_0:ZaG):Option Int:=
 optE (ZbE N s_0.book) fun x1=>
 some x1
theorem Zcr.snd {s_0:ZaG} {r:Int} (h:Zcr N s_0=some r):SndQ zG 66 [.one (uH 172 s_0.ls)] (Zcr.rs r):=fun st=>
 sO Zcr.B Tryz.func66 fun g0 w0 R hE=>by
  unfold Zcr at h
  obtain ⟨x1,c1,h1⟩:=Zae h
  obtain rfl:=Zac h1
  exact af fol hE [.r [],.r [],.c false,.r [(3,{oe:=s_0.ls}),(4,q0 [oI x1])]] [] 0 [] (aJ eF (eO s_0.ls) (ZbE.snd c1))
def ZcD.B:Code:=Tryz.f66.body.getD .skip
def ZcD.rs (r:Int×LL):List CV:=[oI r.1]
def ZcD (N:Nat) (s_0:Option Nat) (st:LL):Option (Int×LL):=
 if (wI s_0)=true then
  some (0,st)
 else
 optE s_0 fun i1=>
 getE (st[i1]?) Zbm fun x2 x3 x4 x5 x6 x7 x8 x9 x10 x11 x12 x13 x14 x15 x16 x17 x18 x19 x20 x21 x22 x23 x24 x25 x26 x27 x28 x29 x30 x31 x32 x33 x34 x35 x36 x37=>
 optE x33 fun i38=>
 getE (st[i38]?) Zbn fun x39=>
 optE (ZbE N x39) fun x40=>
 some (x40,st)
theorem ZcD.snd {s_0:Option Nat} {st:LL} {r:Int×LL} (h:ZcD N s_0 st=some r):Snd zG 66 [.one (xQ s_0)] st (ZcD.rs r) r.2:=
 sO ZcD.B Tryz.func66 fun g0 w0 R hE=>by
  unfold ZcD at h
  refine iteB h (fun c1 h1=>?_) (fun c1 h2=>?_)
  ·obtain rfl:=Zac h1
   exact af fol hE [.r [],.r [],.c true,.r []] [] 0 [] c1
  ·obtain ⟨i1,rfl,h3⟩:=Zae h2
   obtain ⟨x2,x3,x4,x5,x6,x7,x8,x9,x10,x11,x12,x13,x14,x15,x16,x17,x18,x19,x20,x21,x22,x23,x24,x25,x26,x27,x28,x29,x30,x31,x32,x33,x34,x35,x36,x37,c3,h4⟩:=Zbb h3
   obtain ⟨i38,rfl,h5⟩:=Zae h4
   obtain ⟨x39,c5,h6⟩:=Zbw h5
   obtain ⟨x40,c6,h7⟩:=Zae h6
   obtain rfl:=Zac h7
   exact af fol hE [.r [],.r [],.c false,.r [(3,{oc:=(qla x2 x3 x4 x5 x6 x7 x8 x9 x10 x11 x12 x13 x14 x15 x16 x17 x18 x19 x20 x21 x22 x23 x24 x25 x26 x27 x28 x29 x30 x31 x32 (some i38) x34 x35 x36 x37)}),(4,{rs:=[oI x40],m:=10,cv:=[.one (uH 6 x39.ls)]})]] [] 0 [] (aK c1 c3 (bO 6 c5 (Zax.bv x39)) (ZbE.snd c6))
def Zcq.B:Code:=Tryz.f67.body.getD .skip
def Zcq.rs (r:Int):List CV:=[oI r]
def Zcq (N:Nat) (s_0:ZaG):Option Int:=
 some (len s_0.buffer)
theorem Zcq.snd {s_0:ZaG} {r:Int} (h:Zcq N s_0=some r):SndQ zG 67 [.one (uH 172 s_0.ls)] (Zcq.rs r):=fun st=>
 sO Zcq.B Tryz.func67 fun g0 w0 R hE=>by
  unfold Zcq at h
  obtain rfl:=Zac h
  exact af fol hE [.r [],.r [],.c false,.r [(3,{oe:=s_0.ls})]] [] 0 [] (aI eF (eO s_0.ls))
def ZcC.B:Code:=Tryz.f67.body.getD .skip
def ZcC.rs (r:Int×LL):List CV:=[oI r.1]
def ZcC (N:Nat) (s_0:Option Nat) (st:LL):Option (Int×LL):=
 if (wI s_0)=true then
  some (0,st)
 else
 optE s_0 fun i1=>
 getE (st[i1]?) Zbm fun x2 x3 x4 x5 x6 x7 x8 x9 x10 x11 x12 x13 x14 x15 x16 x17 x18 x19 x20 x21 x22 x23 x24 x25 x26 x27 x28 x29 x30 x31 x32 x33 x34 x35 x36 x37=>
 some ((len x37),st)
theorem ZcC.snd {s_0:Option Nat} {st:LL} {r:Int×LL} (h:ZcC N s_0 st=some r):Snd zG 67 [.one (xQ s_0)] st (ZcC.rs r) r.2:=
 sO ZcC.B Tryz.func67 fun g0 w0 R hE=>by
  unfold ZcC at h
  refine iteB h (fun c1 h1=>?_) (fun c1 h2=>?_)
  ·obtain rfl:=Zac h1
   exact af fol hE [.r [],.r [],.c true,.r []] [] 0 [] c1
  ·obtain ⟨i1,rfl,h3⟩:=Zae h2
   obtain ⟨x2,x3,x4,x5,x6,x7,x8,x9,x10,x11,x12,x13,x14,x15,x16,x17,x18,x19,x20,x21,x22,x23,x24,x25,x26,x27,x28,x29,x30,x31,x32,x33,x34,x35,x36,x37,c3,h4⟩:=Zbb h3
   obtain rfl:=Zac h4
   exact af fol hE [.r [],.r [],.c false,.r [(3,{oc:=(qla x2 x3 x4 x5 x6 x7 x8 x9 x10 x11 x12 x13 x14 x15 x16 x17 x18 x19 x20 x21 x22 x23 x24 x25 x26 x27 x28 x29 x30 x31 x32 x33 x34 x35 x36 x37)})]] [] 0 [] (aI c1 c3)
def Zcw.B:Code:=Tryz.f71.body.getD .skip
def Zcw.rs (r:(List Int)):List CV:=[.agg [L.arr .u8 32 r]]
def Zcw (N:Nat) (s_0:ZaG):Option (List Int):=
 some s_0.point.Spot.Prev
theorem Zcw.snd {s_0:ZaG} {r:(List Int)} (h:Zcw N s_0=some r):SndQ zG 71 [.one (uH 172 s_0.ls)] (Zcw.rs r):=fun st=>
 sO Zcw.B Tryz.func71 fun g0 w0 R hE=>by
  unfold Zcw at h
  obtain rfl:=Zac h
  exact af fol hE [.r [],.r [],.c false,.r [(5,{oe:=s_0.ls})]] [] 0 [] (aI eF (eO s_0.ls))
def ZcK.B:Code:=Tryz.f71.body.getD .skip
def ZcK.rs (r:(List Int)×LL):List CV:=[.agg [L.arr .u8 32 r.1]]
def ZcK (N:Nat) (s_0:Option Nat) (st:LL):Option ((List Int)×LL):=
 if (wI s_0)=true then
  some (List.replicate 32 0,st)
 else
 optE s_0 fun i1=>
 getE (st[i1]?) Zbm fun x2 x3 x4 x5 x6 x7 x8 x9 x10 x11 x12 x13 x14 x15 x16 x17 x18 x19 x20 x21 x22 x23 x24 x25 x26 x27 x28 x29 x30 x31 x32 x33 x34 x35 x36 x37=>
 some (x30,st)
theorem ZcK.snd {s_0:Option Nat} {st:LL} {r:(List Int)×LL} (h:ZcK N s_0 st=some r):Snd zG 71 [.one (xQ s_0)] st (ZcK.rs r) r.2:=
 sO ZcK.B Tryz.func71 fun g0 w0 R hE=>by
  unfold ZcK at h
  refine iteB h (fun c1 h1=>?_) (fun c1 h2=>?_)
  ·obtain rfl:=Zac h1
   exact af fol hE [.r [],.r [],.c true,.r []] [] 0 [] c1
  ·obtain ⟨i1,rfl,h3⟩:=Zae h2
   obtain ⟨x2,x3,x4,x5,x6,x7,x8,x9,x10,x11,x12,x13,x14,x15,x16,x17,x18,x19,x20,x21,x22,x23,x24,x25,x26,x27,x28,x29,x30,x31,x32,x33,x34,x35,x36,x37,c3,h4⟩:=Zbb h3
   obtain rfl:=Zac h4
   exact af fol hE [.r [],.r [],.c false,.r [(5,{oc:=(qla x2 x3 x4 x5 x6 x7 x8 x9 x10 x11 x12 x13 x14 x15 x16 x17 x18 x19 x20 x21 x22 x23 x24 x25 x26 x27 x28 x29 x30 x31 x32 x33 x34 x35 x36 x37)})]] [] 0 [] (aI c1 c3)
def Zag.B:Code:=Tryz.f13.body.getD .skip
def Zag.rs (r:Bool×LL):List CV:=[oB r.1]
def Zag.p5 (N:Nat) (c2_:((Option Nat)×(Option Nat)×Int×LL)→Option (Bool×LL)) (i169 i209:Nat) (ask_257 script_1:LL) (v9:Int) (x163 x166:LL) (x208:Int) (x210:Zab) (st168:LL):Option (Bool×LL):=
 getE (st168[i209]?) Zbe fun x258=>
 if (decide (x258.Phase>0))=true then
  getE (st168[i169]?) Zbm fun x259 x260 x261 x262 x263 x264 x265 x266 x267 x268 x269 x270 x271 x272 x273 x274 x275 x276 x277 x278 x279 x280 x281 x282 x283 x284 x285 x286 x287 x288 x289 x290 x291 x292 x293 x294=>
  optE x290 fun i295=>
  getE (st168[i295]?) Zbn fun x296=>
  optE (Zcw N (ZaG.mk (Zak.mk x259 x260 x261 x262 x263 x264 x265 x266 x267 (Zaa.mk x268 x269 x270 x271 x272 x273)) (ZaH.mk (Zat.mk (ZaQ.mk x274 x275 x276 x277 x278) x279 x280) x281) (ZaH.mk (Zat.mk (ZaQ.mk x282 x283 x284 x285 x286) x287 x288) x289) x296 x291 x292 x293 x294)) fun x297=>
  chk (0≤(w64 ((len ask_257)-1)))<|
  chk ((w64 ((len ask_257)-1))<(len ask_257))<|
  getE (ask_257[zF (w64 ((len ask_257)-1))]?) Zch fun x298=>
  optE (ZcZ N x298) fun x299=>
  if (!(x297==x299))=true then
   some (false,st168)
  else
  c2_ ((some i169),(some i209),w64 (v9+1),st168)
 else
 c2_ ((some i169),(some i209),w64 (v9+1),st168)
def Zag.p4 (N:Nat) (c2_:((Option Nat)×(Option Nat)×Int×LL)→Option (Bool×LL)) (i169 i209:Nat) (script_1:LL) (v9:Int) (x163 x166:LL) (x208:Int) (x210:Zab) (st168:LL):Option (Bool×LL):=
 getE (st168[i209]?) Zbe fun x256=>
 chk (zI ([]++x256.Base)*96≤140737488355328)<|
 chk (zI (([]++x256.Base)++x256.Seen)*96≤140737488355328)<|
 if (decide (x256.Phase>1))=true then
  chk (zI (([]++x256.Base)++x256.Twice)*96≤140737488355328)<|
  Zag.p5 N c2_ i169 i209 (([]++x256.Base)++x256.Twice) script_1 v9 x163 x166 x208 x210 st168
 else
 Zag.p5 N c2_ i169 i209 (([]++x256.Base)++x256.Seen) script_1 v9 x163 x166 x208 x210 st168
def Zag.p3 (N:Nat) (c2_:((Option Nat)×(Option Nat)×Int×LL)→Option (Bool×LL)) (i169 i209:Nat) (x163 x166 script_1:LL) (v9 x208:Int) (x210:Zab) (st168:LL) (c3_:Int→Option (Bool×LL)):Int→Option (Bool×LL):=fun v211=>
 if (decide (v211<(len x163)))=true then
  chk (0≤v211)<|
  getE (x163[0+(zF v211)]?) Zch fun x212=>
  chk (v211<(len x166))<|
  getE (x166[zF v211]?) Zch fun x213=>
  if (!((x212.Version==x213.Version)&&((x212.Prev==x213.Prev)&&((x212.Root==x213.Root)&&((x212.Time==x213.Time)&&((x212.Bits==x213.Bits)&&((x212.Nonce==x213.Nonce)&&true)))))))=true then
   some (false,st168)
  else
  c3_ (w64 (v211+1))
 else
 getE (st168[i209]?) Zbe fun x214=>
 if (decide (x214.Phase>0))=true then
  getE (st168[i169]?) Zbm fun x215 x216 x217 x218 x219 x220 x221 x222 x223 x224 x225 x226 x227 x228 x229 x230 x231 x232 x233 x234 x235 x236 x237 x238 x239 x240 x241 x242 x243 x244 x245 x246 x247 x248 x249 x250=>
  optE x246 fun i251=>
  getE (st168[i251]?) Zbn fun x252=>
  optE (Zcr N (ZaG.mk (Zak.mk x215 x216 x217 x218 x219 x220 x221 x222 x223 (Zaa.mk x224 x225 x226 x227 x228 x229)) (ZaH.mk (Zat.mk (ZaQ.mk x230 x231 x232 x233 x234) x235 x236) x237) (ZaH.mk (Zat.mk (ZaQ.mk x238 x239 x240 x241 x242) x243 x244) x245) x252 x247 x248 x249 x250)) fun x253=>
  optE (Zaw N x214 x214.Seen) fun x254=>
  chk (plainRow x254=true)<|
  if (x253 != (len x254))=true then
   some (false,st168)
  else
  optE (Zcq N (ZaG.mk (Zak.mk x215 x216 x217 x218 x219 x220 x221 x222 x223 (Zaa.mk x224 x225 x226 x227 x228 x229)) (ZaH.mk (Zat.mk (ZaQ.mk x230 x231 x232 x233 x234) x235 x236) x237) (ZaH.mk (Zat.mk (ZaQ.mk x238 x239 x240 x241 x242) x243 x244) x245) x252 x247 x248 x249 x250)) fun x255=>
  if (x255 != (w64 ((len x214.Twice)-x214.Told)))=true then
   some (false,st168)
  else
  Zag.p4 N c2_ i169 i209 script_1 v9 x163 x166 x208 x210 st168
 else
 Zag.p4 N c2_ i169 i209 script_1 v9 x163 x166 x208 x210 st168
def Zag.p2 (N:Nat) (script_1:LL) (c2_:((Option Nat)×(Option Nat)×Int×LL)→Option (Bool×LL)):((Option Nat)×(Option Nat)×Int×LL)→Option (Bool×LL):=fun (s_159,m_160,v9,st161)=>
 if (decide (v9<(len script_1)))=true then
  chk (0≤v9)<|
  getE (script_1[zF v9]?) ZcN fun x162=>
  optE (ZaP N s_159 x162.Now x162.More x162.List_ st161) fun (x163,x164,st165)=>
  optE (Zaf N m_160 x162.Now x162.More x162.List_ st165) fun (x166,x167,st168)=>
  if (x164 != x167)=true then
   some (false,st168)
  else
  if ((len x163) != (len x166))=true then
   some (false,st168)
  else
  optE s_159 fun i169=>
  getE (st168[i169]?) Zbm fun x170 x171 x172 x173 x174 x175 x176 x177 x178 x179 x180 x181 x182 x183 x184 x185 x186 x187 x188 x189 x190 x191 x192 x193 x194 x195 x196 x197 x198 x199 x200 x201 x202 x203 x204 x205=>
  optE x201 fun i206=>
  getE (st168[i206]?) Zbn fun x207=>
  optE (ZbV N (ZaG.mk (Zak.mk x170 x171 x172 x173 x174 x175 x176 x177 x178 (Zaa.mk x179 x180 x181 x182 x183 x184)) (ZaH.mk (Zat.mk (ZaQ.mk x185 x186 x187 x188 x189) x190 x191) x192) (ZaH.mk (Zat.mk (ZaQ.mk x193 x194 x195 x196 x197) x198 x199) x200) x207 x202 x203 x204 x205)) fun x208=>
  optE m_160 fun i209=>
  getE (st168[i209]?) Zbe fun x210=>
  if (x208 != x210.Phase)=true then
   some (false,st168)
  else
  loopN (Zag.p3 N c2_ i169 i209 x163 x166 script_1 v9 x208 x210 st168) N 0
 else
 optE (ZaP N none 1 true [] st161) fun (x300,x301,st302)=>
 if (x301==2)=true then
  optE (Zcv N none st302) fun (x303,st304)=>
  if (x303==0)=true then
   optE (ZcK N none st304) fun (x305,st306)=>
   if (x305==(List.replicate 32 0))=true then
    optE (ZcD N none st306) fun (x307,st308)=>
    optE (ZcC N none st308) fun (x309,st310)=>
    some ((w64 (x307+x309))==0,st310)
   else
   some (false,st306)
  else
  some (false,st304)
 else
 some (false,st302)
def Zag.p1 (N:Nat) (script_1:LL) (x4 x5:Option Nat) (good_8:Bool) (st6:LL):Option (Bool×LL):=
 if (!good_8)=true then
  if (wI x4)=true then
   some (!good_8,st6)
  else
  some (false,st6)
 else
 if (wI x4)=true then
  some (!good_8,st6)
 else
 loopN (Zag.p2 N script_1) N (x4,x5,0,st6)
def Zag (N:Nat) (c_0:Zbc) (script_1 st:LL):Option (Bool×LL):=
 optE (Zda N st) fun (x1,st2)=>
 if (!x1)=true then
  some (false,st2)
 else
 optE (Zba N c_0 script_1) fun x3=>
 if x3=true then
  some (true,st2)
 else
 optE (ZbI N c_0 st2) fun (x4,x5,st6)=>
 optE (ZcF N c_0.Plan) fun x7=>
 if x7=true then
  if (decide (c_0.Size≥1))=true then
   if (decide (c_0.Size≤64))=true then
    if (decide (c_0.Now≥0))=true then
     Zag.p1 N script_1 x4 x5 (decide (c_0.Now≤4294967296)) st6
    else
    Zag.p1 N script_1 x4 x5 false st6
   else
   Zag.p1 N script_1 x4 x5 false st6
  else
  Zag.p1 N script_1 x4 x5 false st6
 else
 Zag.p1 N script_1 x4 x5 false st6
def Zag.p5.S (i169 i209:Nat) (ask_257 script_1:LL) (v9:Int) (x163 x166:LL) (x208:Int) (x210:Zab) (st168:LL):S:=mkS 229 [(5,sP (some i169)),(6,sP (some i209)),(15,sV 68 ask_257),(64,sV 3 script_1),(65,sI (len script_1)),(66,sI v9),(96,.one (.h (.row 78 0) 68 0 (zI x163))),(97,sI (len x163)),(98,sV 68 x166),(99,sI (len x166)),(100,.one (.l (yX ((len x163) != (len x166))))),(103,sP (some i169)),(104,sI x208),(105,sP (some i209)),(106,sP (some i209)),(107,.one (.adr (.obj i209) 92)),(108,sI x210.Phase),(109,.one (.l (yX (x208 != x210.Phase))))] [(78,.row 0 true 68 x163)] st168
def Zag.p4.S (i169 i209:Nat) (script_1:LL) (v9:Int) (x163 x166:LL) (x208:Int) (x210:Zab) (st168:LL):S:=mkS 229 [(5,sP (some i169)),(6,sP (some i209)),(64,sV 3 script_1),(65,sI (len script_1)),(66,sI v9),(96,.one (.h (.row 78 0) 68 0 (zI x163))),(97,sI (len x163)),(98,sV 68 x166),(99,sI (len x166)),(100,.one (.l (yX ((len x163) != (len x166))))),(103,sP (some i169)),(104,sI x208),(105,sP (some i209)),(106,sP (some i209)),(107,.one (.adr (.obj i209) 92)),(108,sI x210.Phase),(109,.one (.l (yX (x208 != x210.Phase))))] [(78,.row 0 true 68 x163)] st168
def Zag.p3.S (i169 i209:Nat) (x163 x166 script_1:LL) (v9 x208:Int) (x210:Zab) (v211:Int) (st168:LL):S:=mkS 229 [(5,sP (some i169)),(6,sP (some i209)),(10,.one (.h (.row 78 0) 68 0 (zI x163))),(12,sV 68 x166),(64,sV 3 script_1),(65,sI (len script_1)),(66,sI v9),(96,.one (.h (.row 78 0) 68 0 (zI x163))),(97,sI (len x163)),(98,sV 68 x166),(99,sI (len x166)),(100,.one (.l (yX ((len x163) != (len x166))))),(103,sP (some i169)),(104,sI x208),(105,sP (some i209)),(106,sP (some i209)),(107,.one (.adr (.obj i209) 92)),(108,sI x210.Phase),(109,.one (.l (yX (x208 != x210.Phase)))),(112,sI (len x163)),(113,sI v211)] [(78,.row 0 true 68 x163)] st168
def Zag.p2.S (s_159 m_160:Option Nat) (script_1:LL) (v9:Int) (st161:LL):S:=mkS 229 [(5,sP s_159),(6,sP m_160),(64,sV 3 script_1),(65,sI (len script_1)),(66,sI v9)] [] st161
def Zag.p1.S (script_1:LL) (x4 x5:Option Nat) (good_8:Bool) (st6:LL):S:=mkS 229 [(1,sV 3 script_1),(5,sP x4),(6,sP x5),(7,.one (.l (yX good_8)))] [] st6
theorem Zag.p5_ok {i169 i209 ask_257 script_1 v9 x163 x166 x208 x210 st168 r c2_ J2} (h:Zag.p5 N c2_ i169 i209 ask_257 script_1 v9 x163 x166 x208 x210 st168=some r) (hE:En Tryz.f13 g0 w0 (Zag.rs r) r.2 R) (hc2 : ∀s_159 m_160 v9 st161,c2_ (s_159,m_160,v9,st161)=some r→At g0 w0 (Zag.p2.S s_159 m_160 script_1 v9 st161) J2):At g0 w0 (Zag.p5.S i169 i209 ask_257 script_1 v9 x163 x166 x208 x210 st168) (XK zG R [.c (csub Zag.B [1,1,1,1,1,1,0,1,0,0,1,1,0,0,1,1,1,1,1,1,1,1]),.b 1,.c (csub Zag.B [1,1,1,1,1,1,0,1,0,0,1,1,1]),.h J2,.b 0,.c (csub Zag.B [1,1,1,1,1,1,1])]):=by
 unfold Zag.p5 at h
 obtain ⟨x258,c107,h1⟩:=Zbj h
 refine iteB h1 (fun c108 h2=>?_) (fun c108 h3=>?_)
 ·obtain ⟨x259,x260,x261,x262,x263,x264,x265,x266,x267,x268,x269,x270,x271,x272,x273,x274,x275,x276,x277,x278,x279,x280,x281,x282,x283,x284,x285,x286,x287,x288,x289,x290,x291,x292,x293,x294,c109,h4⟩:=Zbb h2
  obtain ⟨i295,rfl,h5⟩:=Zae h4
  obtain ⟨x296,c111,h6⟩:=Zbw h5
  obtain ⟨x297,c112,h7⟩:=Zae h6
  obtain ⟨c113,c114,h8⟩:=ck2 h7
  obtain ⟨x298,c115,h9⟩:=ZbS h8
  obtain ⟨x299,c116,h10⟩:=Zae h9
  let o1:List PS:=[.d {ds:=[(3,{oc:=x258.lo}),(7,{rs:=[.agg [L.arr .u8 32 x297]],m:=10,cv:=[.one (uH 172 (ZaG.ls (ZaG.mk (Zak.mk x259 x260 x261 x262 x263 x264 x265 x266 x267 (Zaa.mk x268 x269 x270 x271 x272 x273)) (ZaH.mk (Zat.mk (ZaQ.mk x274 x275 x276 x277 x278) x279 x280) x281) (ZaH.mk (Zat.mk (ZaQ.mk x282 x283 x284 x285 x286) x287 x288) x289) x296 x291 x292 x293 x294)))]}),(13,{oe:=x298.ls}),(14,q1 [.agg [L.arr .u8 32 x299]])],hv:=128,Hs:=[128]}]
  have t1 {Q:Prop} (q:Q):=aO c107 c108 c108 (bO 172 c109 ((bP (bP (bP (bP (bP (bS (bS (bP (bP (bP (bP (bP (bP (bP (bP (bP (bP (bP (bP (bP (bP (bS (bP (bP (bP (bP (bP (bP (bP (bS (bP (bC 6 c111 (Zax.bv x296) (bP (bP (bP (bW bN)))))))))))))))))))))))))))))))))))):BVs st168 (qla x259 x260 x261 x262 x263 x264 x265 x266 x267 x268 x269 x270 x271 x272 x273 x274 x275 x276 x277 x278 x279 x280 x281 x282 x283 x284 x285 x286 x287 x288 x289 (some i295) x291 x292 x293 x294) (ZaG.ls (ZaG.mk (Zak.mk x259 x260 x261 x262 x263 x264 x265 x266 x267 (Zaa.mk x268 x269 x270 x271 x272 x273)) (ZaH.mk (Zat.mk (ZaQ.mk x274 x275 x276 x277 x278) x279 x280) x281) (ZaH.mk (Zat.mk (ZaQ.mk x282 x283 x284 x285 x286) x287 x288) x289) x296 x291 x292 x293 x294)))) (Zcw.snd c112) c108 c108 (aO c108 c108 c108 c108 c108 c108 c108 (aO c113 c114 c108 c113 c114 c108 c115 (aN c108 c115 c108 (ZcZ.snd c116) c108 c108 q)))
  refine iteB h10 (fun c117 h11=>?_) (fun c117 h12=>?_)
  ·obtain rfl:=Zac h11
   exact afd fol hE (o1 ++ [.c true,.r []]) [] 0 [] (t1 c117)
  ·exact and_ fol (o1 ++ [.c false,.r []]) [5,6,64,65,66] [] (t1 c117) (hc2 (some i169) (some i209) (w64 (v9+1)) st168 h12)
 ·exact and_ fol [.d {ds:=[(3,{oc:=x258.lo}),(6,wF),(7,wF),(8,wF),(9,wF),(10,wF),(11,wF),(12,wF),(13,wF),(14,wF),(15,wF),(16,yF)],hv:=0,Hs:=[]},.c false,.r []] [5,6,64,65,66] [] (aO c107 c108 c108 c108 c108 c108 c108 (aM c108 c108 c108 c108 c108 eF)) (hc2 (some i169) (some i209) (w64 (v9+1)) st168 h3)
theorem Zag.p4_ok {i169 i209 script_1 v9 x163 x166 x208 x210 st168 r c2_ J2} (h:Zag.p4 N c2_ i169 i209 script_1 v9 x163 x166 x208 x210 st168=some r) (hE:En Tryz.f13 g0 w0 (Zag.rs r) r.2 R) (hc2 : ∀s_159 m_160 v9 st161,c2_ (s_159,m_160,v9,st161)=some r→At g0 w0 (Zag.p2.S s_159 m_160 script_1 v9 st161) J2):At g0 w0 (Zag.p4.S i169 i209 script_1 v9 x163 x166 x208 x210 st168) (XK zG R [.c (csub Zag.B [1,1,1,1,1,1,0,1,0,0,1,1,0,0,1,1,1,1,1,1]),.b 1,.c (csub Zag.B [1,1,1,1,1,1,0,1,0,0,1,1,1]),.h J2,.b 0,.c (csub Zag.B [1,1,1,1,1,1,1])]):=by
 unfold Zag.p4 at h
 obtain ⟨x256,c102,h13⟩:=Zbj h
 obtain ⟨c103,c104,h14⟩:=ck2 h13
 let o2:List PS:=[.d {ds:=[(4,{oc:=x256.lo}),(9,{oc:=x256.lo}),(10,{oc:=x256.lo}),(11,{fz:=[158],vz:=[168]})],hv:=3105,Hs:=[1,33,1057,3105]},.r [(3,{oc:=x256.lo})]]
 have t2 {Q:Prop} (q:Q):=aO c102 c102 z0 (eN (0)) c103 c102 c102 (aO c102 z0 (eN (zI ([]++x256.Base))) z0 (eN (zI x256.Seen)) c102 c104 (aK z0 (eN (zI (([]++x256.Base)++x256.Seen))) c102 q))
 refine iteB h14 (fun c105 h15=>?_) (fun c105 h16=>?_)
 ·obtain ⟨c106,h17⟩:=ZaN h15
  exact aqd fol (o2 ++ [.c true,.d {ds:=[(4,{oc:=x256.lo}),(9,{oc:=x256.lo}),(10,{oc:=x256.lo}),(11,{fz:=[174],vz:=[184]})],hv:=3105,Hs:=[1,33,1057,3105]},.s 6]) [5,6,15,64,65,66,96,97,98,99,100,103,104,105,106,107,108,109] [78] (t2 (aO c105 c102 c102 z0 (eN (0)) c103 c102 (aO c102 c102 z0 (eN (zI ([]++x256.Base))) z0 (eN (zI x256.Twice)) c102 (aJ c106 z0 (eN (zI (([]++x256.Base)++x256.Twice))))))) (Zag.p5_ok h17 hE hc2)
 ·exact aqd fol (o2 ++ [.c false,.s 6]) [5,6,15,64,65,66,96,97,98,99,100,103,104,105,106,107,108,109] [78] (t2 c105) (Zag.p5_ok h16 hE hc2)
theorem Zag.p3_ok {i169 i209 x163 x166 script_1 v9 x208 x210 v211 st168 r c2_ c3_ J2 J3} (h:Zag.p3 N c2_ i169 i209 x163 x166 script_1 v9 x208 x210 st168 c3_ v211=some r) (hE:En Tryz.f13 g0 w0 (Zag.rs r) r.2 R) (hc2 : ∀s_159 m_160 v9 st161,c2_ (s_159,m_160,v9,st161)=some r→At g0 w0 (Zag.p2.S s_159 m_160 script_1 v9 st161) J2) (hc3 : ∀v211,c3_ v211=some r→At g0 w0 (Zag.p3.S i169 i209 x163 x166 script_1 v9 x208 x210 v211 st168) J3):At g0 w0 (Zag.p3.S i169 i209 x163 x166 script_1 v9 x208 x210 v211 st168) (XK zG R (.c (csub Zag.B [1,1,1,1,1,1,0,1,0,0,1,1,0,0,1,1,1,1,0,1,0,0]) :: .h J3 :: [.b 2,.c (csub Zag.B [1,1,1,1,1,1,0,1,0,0,1,1,0,0,1,1,1,1,1]),.b 1,.c (csub Zag.B [1,1,1,1,1,1,0,1,0,0,1,1,1]),.h J2,.b 0,.c (csub Zag.B [1,1,1,1,1,1,1])])):=by
 unfold Zag.p3 at h
 refine iteB h (fun c85 h18=>?_) (fun c85 h19=>?_)
 ·obtain ⟨c86,h20⟩:=ZaN h18
  obtain ⟨x212,c87,h21⟩:=ZbS h20
  obtain ⟨c88,h22⟩:=ZaN h21
  obtain ⟨x213,c89,h23⟩:=ZbS h22
  let o3:List PS:=[.r [],.c true,.r [],.d {ds:=[(3,{oe:=x212.ls}),(7,{oe:=x213.ls})],hv:=0,Hs:=[]}]
  refine iteB h23 (fun c90 h24=>?_) (fun c90 h25=>?_)
  ·obtain rfl:=Zac h24
   exact afd fol hE (o3 ++ [.c true,.r []]) [] 0 [] (aO c85 c86 (oD c85) c87 c86 c88 c89 c90)
  ·exact and_ fol (o3 ++ [.c false,.r []]) [5,6,10,12,64,65,66,96,97,98,99,100,103,104,105,106,107,108,109,112,113] [78] (aO c85 c86 (oD c85) c87 c86 c88 c89 c90) (hc3 (w64 (v211+1)) h25)
 ·obtain ⟨x214,c91,h26⟩:=Zbj h19
  let o4:List PS:=[.r [],.c false]
  refine iteB h26 (fun c92 h27=>?_) (fun c92 h28=>?_)
  ·obtain ⟨x215,x216,x217,x218,x219,x220,x221,x222,x223,x224,x225,x226,x227,x228,x229,x230,x231,x232,x233,x234,x235,x236,x237,x238,x239,x240,x241,x242,x243,x244,x245,x246,x247,x248,x249,x250,c93,h29⟩:=Zbb h27
   obtain ⟨i251,rfl,h30⟩:=Zae h29
   obtain ⟨x252,c95,h31⟩:=Zbw h30
   obtain ⟨x253,c96,h32⟩:=Zae h31
   obtain ⟨x254,c97,h33⟩:=Zae h32
   obtain ⟨c98,h34⟩:=ZaN h33
   have t3 {Q:Prop} (q:Q):=aO c85 c91 c92 c92 (bO 172 c93 ((bP (bP (bP (bP (bP (bS (bS (bP (bP (bP (bP (bP (bP (bP (bP (bP (bP (bP (bP (bP (bP (bS (bP (bP (bP (bP (bP (bP (bP (bS (bP (bC 6 c95 (Zax.bv x252) (bP (bP (bP (bW bN)))))))))))))))))))))))))))))))))))):BVs st168 (qla x215 x216 x217 x218 x219 x220 x221 x222 x223 x224 x225 x226 x227 x228 x229 x230 x231 x232 x233 x234 x235 x236 x237 x238 x239 x240 x241 x242 x243 x244 x245 (some i251) x247 x248 x249 x250) (ZaG.ls (ZaG.mk (Zak.mk x215 x216 x217 x218 x219 x220 x221 x222 x223 (Zaa.mk x224 x225 x226 x227 x228 x229)) (ZaH.mk (Zat.mk (ZaQ.mk x230 x231 x232 x233 x234) x235 x236) x237) (ZaH.mk (Zat.mk (ZaQ.mk x238 x239 x240 x241 x242) x243 x244) x245) x252 x247 x248 x249 x250)))) (Zcr.snd c96) c92 (aO c92 c92 c92 c92 c92 c92 c92 (aO c92 c91 c92 c91 c92 (bO 93 c91 (Zab.bv x214)) z0 (aO (eN (zI x214.Seen)) c91 c98 (Zaw.snd c97) c92 c92 c92 q)))
   refine iteB h34 (fun c99 h35=>?_) (fun c99 h36=>?_)
   ·obtain rfl:=Zac h35
    exact afd fol hE (o4 ++ [.d {ds:=[(3,{oc:=x214.lo}),(7,{rs:=[oI x253],m:=10,cv:=[.one (uH 172 (ZaG.ls (ZaG.mk (Zak.mk x215 x216 x217 x218 x219 x220 x221 x222 x223 (Zaa.mk x224 x225 x226 x227 x228 x229)) (ZaH.mk (Zat.mk (ZaQ.mk x230 x231 x232 x233 x234) x235 x236) x237) (ZaH.mk (Zat.mk (ZaQ.mk x238 x239 x240 x241 x242) x243 x244) x245) x252 x247 x248 x249 x250)))]}),(12,{oc:=x214.lo}),(13,{oc:=x214.lo,rs:=[.row true 1 x254],ns:=[139],m:=10,cv:=[.one (uH 93 x214.ls)]}),(17,wF),(18,wF),(19,wF),(20,wF),(21,wF),(22,wF),(23,wF),(24,wF),(25,wF),(26,wF),(27,wF),(28,wF),(29,wF)],hv:=8320,Hs:=[128,8320]},.c true,.r []]) [] 0 [] (t3 (aO c99 c99 c99 c99 c99 c99 c99 (aO c99 c99 c99 c99 c99 c99 c92 (aJ c99 c92 eT))))
   ·obtain ⟨x255,c100,h37⟩:=Zae h36
    let o5:List PS:=o4 ++ [.d {ds:=[(3,{oc:=x214.lo}),(7,{rs:=[oI x253],m:=10,cv:=[.one (uH 172 (ZaG.ls (ZaG.mk (Zak.mk x215 x216 x217 x218 x219 x220 x221 x222 x223 (Zaa.mk x224 x225 x226 x227 x228 x229)) (ZaH.mk (Zat.mk (ZaQ.mk x230 x231 x232 x233 x234) x235 x236) x237) (ZaH.mk (Zat.mk (ZaQ.mk x238 x239 x240 x241 x242) x243 x244) x245) x252 x247 x248 x249 x250)))]}),(12,{oc:=x214.lo}),(13,{oc:=x214.lo,rs:=[.row true 1 x254],ns:=[139],m:=10,cv:=[.one (uH 93 x214.ls)]}),(18,{rs:=[oI x255],m:=10,cv:=[.one (uH 172 (ZaG.ls (ZaG.mk (Zak.mk x215 x216 x217 x218 x219 x220 x221 x222 x223 (Zaa.mk x224 x225 x226 x227 x228 x229)) (ZaH.mk (Zat.mk (ZaQ.mk x230 x231 x232 x233 x234) x235 x236) x237) (ZaH.mk (Zat.mk (ZaQ.mk x238 x239 x240 x241 x242) x243 x244) x245) x252 x247 x248 x249 x250)))]}),(22,{oc:=x214.lo}),(27,{oc:=x214.lo}),(30,yF)],hv:=270464,Hs:=[128,8320,270464]}]
    have t4 {Q:Prop} (q:Q):=t3 (aO c99 c99 (bO 172 c93 ((bP (bP (bP (bP (bP (bS (bS (bP (bP (bP (bP (bP (bP (bP (bP (bP (bP (bP (bP (bP (bP (bS (bP (bP (bP (bP (bP (bP (bP (bS (bP (bC 6 c95 (Zax.bv x252) (bP (bP (bP (bW bN)))))))))))))))))))))))))))))))))))):BVs st168 (qla x215 x216 x217 x218 x219 x220 x221 x222 x223 x224 x225 x226 x227 x228 x229 x230 x231 x232 x233 x234 x235 x236 x237 x238 x239 x240 x241 x242 x243 x244 x245 (some i251) x247 x248 x249 x250) (ZaG.ls (ZaG.mk (Zak.mk x215 x216 x217 x218 x219 x220 x221 x222 x223 (Zaa.mk x224 x225 x226 x227 x228 x229)) (ZaH.mk (Zat.mk (ZaQ.mk x230 x231 x232 x233 x234) x235 x236) x237) (ZaH.mk (Zat.mk (ZaQ.mk x238 x239 x240 x241 x242) x243 x244) x245) x252 x247 x248 x249 x250)))) (Zcq.snd c100) c99 c99 c99 (aO c99 c99 c99 c99 c91 c99 c91 (aO c99 c99 c99 c99 c99 c99 c99 (aO c99 c99 c91 c99 c91 c99 c99 (aL c99 c92 c99 c92 q)))))
    refine iteB h37 (fun c101 h38=>?_) (fun c101 h39=>?_)
    ·obtain rfl:=Zac h38
     exact afd fol hE (o5 ++ [.c true,.r []]) [] 0 [] (t4 c101)
    ·exact aqd fol (o5 ++ [.c false,.s 6]) [5,6,64,65,66,96,97,98,99,100,103,104,105,106,107,108,109] [78] (t4 c101) (Zag.p4_ok h39 hE hc2)
  ·exact aqd fol (o4 ++ [.d {ds:=[(3,{oc:=x214.lo}),(6,wF),(7,wF),(8,wF),(9,wF),(10,wF),(11,wF),(12,wF),(13,wF),(14,wF),(15,wF),(16,wF),(30,wF),(31,yF)],hv:=0,Hs:=[]},.c false,.s 6]) [5,6,64,65,66,96,97,98,99,100,103,104,105,106,107,108,109] [78] (aO c85 c91 c92 c92 c92 c92 c92 (aO c92 c92 c92 c92 c92 c92 c92 (aI c92 eF))) (Zag.p4_ok h28 hE hc2)
theorem Zag.p2_ok {s_159 m_160 script_1 v9 st161 r c2_ J2} (h:Zag.p2 N script_1 c2_ (s_159,m_160,v9,st161)=some r) (hE:En Tryz.f13 g0 w0 (Zag.rs r) r.2 R) (hc2 : ∀s_159 m_160 v9 st161,c2_ (s_159,m_160,v9,st161)=some r→At g0 w0 (Zag.p2.S s_159 m_160 script_1 v9 st161) J2):At g0 w0 (Zag.p2.S s_159 m_160 script_1 v9 st161) (XK zG R (.c (csub Zag.B [1,1,1,1,1,1,0,1,0,0]) :: .h J2 :: [.b 0,.c (csub Zag.B [1,1,1,1,1,1,1])])):=by
 unfold Zag.p2 at h
 refine iteB h (fun c70 h40=>?_) (fun c70 h41=>?_)
 ·obtain ⟨c71,h42⟩:=ZaN h40
  obtain ⟨x162,c72,h43⟩:=ZdS h42
  obtain ⟨⟨x163,x164,st165⟩,c73,h44⟩:=Zae h43
  obtain ⟨⟨x166,x167,st168⟩,c74,h45⟩:=Zae h44
  let o6:List PS:=[.r [],.c true,.r [(1,{oe:=x162.ls})],.r [(7,{rs:=[.row true 68 x163,oI x164],st:=st165,ns:=[78]})],.r [(7,{rs:=[.one (L.sl 68 x166),oI x167],st:=st168})]]
  have t5 {Q:Prop} (q:Q):=aN c70 c71 (oD c70) c72 (ZaP.snd c73) (Zaf.snd c74) q
  refine iteB h45 (fun c75 h46=>?_) (fun c75 h47=>?_)
  ·obtain rfl:=Zac h46
   exact afd fol hE (o6 ++ [.d {ds:=[(4,wF),(5,wF),(6,wF),(7,wF),(8,wF),(11,wF),(12,wF),(13,wF),(14,wF),(15,wF),(16,wF),(17,wF)],hv:=0,Hs:=[]},.c true,.r []]) [] 0 [] (t5 (aO c75 c75 c75 c75 c75 c75 eT (aO eT eT eT eT eT eT eT eT)))
  ·have t6 {Q:Prop} (q:Q):=t5 (aN c75 c75 c75 c75 c75 c75 q)
   refine iteB h47 (fun c76 h48=>?_) (fun c76 h49=>?_)
   ·obtain rfl:=Zac h48
    exact afd fol hE (o6 ++ [.d {ds:=[(9,yF),(11,wF),(12,wF),(13,wF),(14,wF),(15,wF),(16,wF),(17,wF)],hv:=0,Hs:=[]},.c true,.r []]) [] 0 [] (t6 (aO c76 c76 c76 c76 c76 c76 c76 (aI c76 eT)))
   ·obtain ⟨i169,rfl,h50⟩:=Zae h49
    obtain ⟨x170,x171,x172,x173,x174,x175,x176,x177,x178,x179,x180,x181,x182,x183,x184,x185,x186,x187,x188,x189,x190,x191,x192,x193,x194,x195,x196,x197,x198,x199,x200,x201,x202,x203,x204,x205,c78,h51⟩:=Zbb h50
    obtain ⟨i206,rfl,h52⟩:=Zae h51
    obtain ⟨x207,c80,h53⟩:=Zbw h52
    obtain ⟨x208,c81,h54⟩:=Zae h53
    obtain ⟨i209,rfl,h55⟩:=Zae h54
    obtain ⟨x210,c83,h56⟩:=Zbj h55
    let o7:List PS:=o6 ++ [.d {ds:=[(9,yF),(12,{rs:=[oI x208],m:=10,cv:=[.one (uH 172 (ZaG.ls (ZaG.mk (Zak.mk x170 x171 x172 x173 x174 x175 x176 x177 x178 (Zaa.mk x179 x180 x181 x182 x183 x184)) (ZaH.mk (Zat.mk (ZaQ.mk x185 x186 x187 x188 x189) x190 x191) x192) (ZaH.mk (Zat.mk (ZaQ.mk x193 x194 x195 x196 x197) x198 x199) x200) x207 x202 x203 x204 x205)))]}),(16,{oc:=x210.lo}),(18,yF)],hv:=4096,Hs:=[4096]}]
    have t7 {Q:Prop} (q:Q):=t6 (aO c76 c76 (bO 172 c78 ((bP (bP (bP (bP (bP (bS (bS (bP (bP (bP (bP (bP (bP (bP (bP (bP (bP (bP (bP (bP (bP (bS (bP (bP (bP (bP (bP (bP (bP (bS (bP (bC 6 c80 (Zax.bv x207) (bP (bP (bP (bW bN)))))))))))))))))))))))))))))))))))):BVs st168 (qla x170 x171 x172 x173 x174 x175 x176 x177 x178 x179 x180 x181 x182 x183 x184 x185 x186 x187 x188 x189 x190 x191 x192 x193 x194 x195 x196 x197 x198 x199 x200 (some i206) x202 x203 x204 x205) (ZaG.ls (ZaG.mk (Zak.mk x170 x171 x172 x173 x174 x175 x176 x177 x178 (Zaa.mk x179 x180 x181 x182 x183 x184)) (ZaH.mk (Zat.mk (ZaQ.mk x185 x186 x187 x188 x189) x190 x191) x192) (ZaH.mk (Zat.mk (ZaQ.mk x193 x194 x195 x196 x197) x198 x199) x200) x207 x202 x203 x204 x205)))) (ZbV.snd c81) c76 c76 c76 (aO c76 c76 c76 c76 c83 c76 c83 (aJ c76 c76 q)))
    refine iteB h56 (fun c84 h57=>?_) (fun c84 h58=>?_)
    ·obtain rfl:=Zac h57
     exact afd fol hE (o7 ++ [.c true,.r []]) [] 0 [] (t7 c84)
    ·exact aqd fol (o7 ++ [.c false,.r []]) [5,6,10,12,64,65,66,96,97,98,99,100,103,104,105,106,107,108,109,112,113] [78] (t7 c84) (At.loop N (At.loopN (fun y:Int=>Zag.p3.S i169 i209 x163 x166 script_1 v9 x208 x210 y st168) (fun c J hc y h=>Zag.p3_ok h hE hc2 (fun v211=>hc v211)) N 0 h58))
 ·obtain ⟨⟨x300,x301,st302⟩,c118,h59⟩:=Zae h41
  let o8:List PS:=[.r [],.c false,.r [],.r [(1,{rs:=[.row true 68 x300,oI x301],st:=st302,ns:=[205]})]]
  have t8 {Q:Prop} (q:Q):=aJ c70 (Snd.nl (cs:=[.one (xQ none),oI 1,oB true]) (ZaP.snd c118)) q
  refine iteB h59 (fun c119 h60=>?_) (fun c119 h61=>?_)
  ·obtain ⟨⟨x303,st304⟩,c120,h62⟩:=Zae h60
   have t9 {Q:Prop} (q:Q):=t8 (aM c119 c119 (Zcv.snd c120) c119 c119 q)
   refine iteB h62 (fun c121 h63=>?_) (fun c121 h64=>?_)
   ·obtain ⟨⟨x305,st306⟩,c122,h65⟩:=Zae h63
    have t10 {Q:Prop} (q:Q):=t9 (aN c121 c121 (ZcK.snd c122) c121 c121 c121 q)
    refine iteB h65 (fun c123 h66=>?_) (fun c123 h67=>?_)
    ·obtain ⟨⟨x307,st308⟩,c124,h68⟩:=Zae h66
     obtain ⟨⟨x309,st310⟩,c125,h69⟩:=Zae h68
     obtain rfl:=Zac h69
     exact af fol hE (o8 ++ [.r [(4,{rs:=[oI x303],st:=st304}),(9,{rs:=[.agg [L.arr .u8 32 x305]],st:=st306}),(15,{rs:=[oI x307],st:=st308}),(17,{rs:=[oI x309],st:=st310})]]) [] 0 [] (t10 (aO c123 c123 (ZcD.snd c124) c123 c123 (ZcC.snd c125) c123 (aI c123 c123)))
    ·obtain rfl:=Zac h67
     exact af fol hE (o8 ++ [.r [(4,{rs:=[oI x303],st:=st304}),(9,{rs:=[.agg [L.arr .u8 32 x305]],st:=st306}),(14,wF),(15,wF),(16,wF),(17,wF),(18,wF),(19,wF),(20,yF)]]) [] 0 [] (t10 (aN c123 c123 c123 c123 c123 c123 c123))
   ·obtain rfl:=Zac h64
    exact af fol hE (o8 ++ [.r [(4,{rs:=[oI x303],st:=st304}),(8,wF),(9,wF),(10,wF),(11,wF),(12,yF),(14,wF),(15,wF),(16,wF),(17,wF),(18,wF),(19,wF),(20,yF)]]) [] 0 [] (t9 (aO c121 c121 c121 c121 c121 eF eF (aL eF eF eF eF eF)))
  ·obtain rfl:=Zac h61
   exact af fol hE (o8 ++ [.r [(3,wF),(4,wF),(5,wF),(6,yF),(8,wF),(9,wF),(10,wF),(11,wF),(12,yF),(14,wF),(15,wF),(16,wF),(17,wF),(18,wF),(19,wF),(20,yF)]]) [] 0 [] (t8 (aO c119 c119 c119 c119 eF eF eF (aO eF eF eF eF eF eF eF (aI eF eF))))
theorem Zag.p1_ok {script_1 x4 x5 good_8 st6 r} (h:Zag.p1 N script_1 x4 x5 good_8 st6=some r) (hE:En Tryz.f13 g0 w0 (Zag.rs r) r.2 R):At g0 w0 (Zag.p1.S script_1 x4 x5 good_8 st6) (XK zG R [.c (csub Zag.B [1,1,1,1,1])]):=by
 unfold Zag.p1 at h
 refine iteB h (fun c11 h70=>?_) (fun c11 h71=>?_)
 ·let o9:List PS:=[.r [(3,wF),(4,wF)],.c true]
  have t11 {Q:Prop} (q:Q):=aL (not_false (ZaX c11)) (not_false (ZaX c11)) (not_false (ZaX c11)) eT q
  refine iteB h70 (fun c12 h72=>?_) (fun c12 h73=>?_)
  ·obtain rfl:=Zac h72
   exact af fol hE (o9 ++ [.r []]) [] 0 [] (t11 (aJ c12 c12 c12))
  ·obtain rfl:=Zac h73
   exact af fol hE (o9 ++ [.r [(3,wF),(4,wF),(5,yF)]]) [] 0 [] (t11 (aJ c12 c12 c12))
 ·have t12 {Q:Prop} (q:Q):=aK (not_true (ZaU c11)) (not_true (ZaU c11)) (not_true (ZaU c11)) q
  refine iteB h71 (fun c13 h74=>?_) (fun c13 h75=>?_)
  ·obtain rfl:=Zac h74
   exact af fol hE [.r [(5,yF)],.c true,.r []] [] 0 [] (t12 (aK c13 c13 c13 c13))
  ·exact aq fol [.r [(5,yF)],.c false,.r []] [5,6,64,65,66] [] (t12 c13) (At.loop N (At.loopN (fun y:(Option Nat)×(Option Nat)×Int×LL=>Zag.p2.S y.1 y.2.1 script_1 y.2.2.1 y.2.2.2) (fun c J hc y h=>Zag.p2_ok (s_159:=y.1) (m_160:=y.2.1) (v9:=y.2.2.1) (st161:=y.2.2.2) h hE (fun s_159 m_160 v9 st161=>hc (s_159,m_160,v9,st161))) N (x4,x5,0,st6) h75))
theorem Zag.snd {c_0:Zbc} {script_1:LL} {st:LL} {r:Bool×LL} (h:Zag N c_0 script_1 st=some r):Snd zG 13 [.agg c_0.ls,.one (L.sl 3 script_1)] st (Zag.rs r) r.2:=
 sO Zag.B Tryz.func13 fun g0 w0 R hE=>by
  unfold Zag at h
  obtain ⟨⟨x1,st2⟩,c1,h76⟩:=Zae h
  let o10:List PS:=[.r [],.r [(0,{rs:=[oB x1],st:=st2})]]
  have t13 {Q:Prop} (q:Q):=aI (Zda.snd c1) q
  refine iteB h76 (fun c2 h77=>?_) (fun c2 h78=>?_)
  ·obtain rfl:=Zac h77
   exact af fol hE (o10 ++ [.c true,.r []]) [] 0 [] (t13 c2)
  ·obtain ⟨x3,c3,h79⟩:=Zae h78
   let o11:List PS:=o10 ++ [.c false,.r [(2,q1 [oB x3])]]
   have t14 {Q:Prop} (q:Q):=t13 (aJ c2 (Zba.snd c3) q)
   refine iteB h79 (fun c4 h80=>?_) (fun c4 h81=>?_)
   ·obtain rfl:=Zac h80
    exact af fol hE (o11 ++ [.c true,.r []]) [] 0 [] (t14 c4)
   ·obtain ⟨⟨x4,x5,st6⟩,c5,h82⟩:=Zae h81
    obtain ⟨x7,c6,h83⟩:=Zae h82
    let o12:List PS:=o11 ++ [.c false,.r [(1,{rs:=[.one (xQ x4),.one (xQ x5)],st:=st6})]]
    have t15 {Q:Prop} (q:Q):=t14 (aK c4 (ZbI.snd c5) (ZcF.snd c6) q)
    refine iteB h83 (fun c7 h84=>?_) (fun c7 h85=>?_)
    ·have t16 {Q:Prop} (q:Q):=t15 (aL c7 c7 c7 c7 q)
     refine iteB h84 (fun c8 h86=>?_) (fun c8 h87=>?_)
     ·refine iteB h86 (fun c9 h88=>?_) (fun c9 h89=>?_)
      ·refine iteB h88 (fun c10 h90=>?_) (fun c10 h91=>?_)
       ·exact aq fol (o12 ++ [.r [(2,q1 [oB x7])],.s 1]) [1,5,6,7] [] (t16 (aO c8 c8 c8 c8 c9 c9 c9 (aL c9 c10 c10 c10 c10))) (Zag.p1_ok h90 hE)
       ·exact aq fol (o12 ++ [.r [(2,q1 [oB x7]),(19,wF),(20,wF),(21,wF),(22,yF)],.s 1]) [1,5,6,7] [] (t16 (aO c8 c8 c8 c8 c9 c9 c9 (aL c9 c10 c10 c10 c10))) (Zag.p1_ok h91 hE)
      ·exact aq fol (o12 ++ [.r [(2,q1 [oB x7]),(14,wF),(15,wF),(16,wF),(17,yF),(19,wF),(20,wF),(21,wF),(22,yF)],.s 1]) [1,5,6,7] [] (t16 (aO c8 c8 c8 c8 c9 c9 c9 (aL c9 eF eF eF eF))) (Zag.p1_ok h89 hE)
     ·exact aq fol (o12 ++ [.r [(2,q1 [oB x7]),(9,wF),(10,wF),(11,wF),(12,yF),(14,wF),(15,wF),(16,wF),(17,yF),(19,wF),(20,wF),(21,wF),(22,yF)],.s 1]) [1,5,6,7] [] (t16 (aO c8 c8 c8 c8 eF eF eF (aL eF eF eF eF eF))) (Zag.p1_ok h87 hE)
    ·exact aq fol (o12 ++ [.r [(2,q1 [oB x7]),(4,wF),(5,wF),(6,wF),(7,yF),(9,wF),(10,wF),(11,wF),(12,yF),(14,wF),(15,wF),(16,wF),(17,yF),(19,wF),(20,wF),(21,wF),(22,yF)],.s 1]) [1,5,6,7] [] (t15 (aO c7 c7 c7 c7 eF eF eF (aO eF eF eF eF eF eF eF (aI eF eF)))) (Zag.p1_ok h85 hE)
end Go.Dn.F
end
