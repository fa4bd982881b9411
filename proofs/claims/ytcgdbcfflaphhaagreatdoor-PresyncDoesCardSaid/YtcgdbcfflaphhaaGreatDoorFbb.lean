/- Contracts of functions of the program, as shallow functions, and their proofs. -/
import Derived.Test.YtcgdbcfflaphhaaGreatDoorFba
open ByteArray renaming size→zW,mk→xU
open Go.Dn.L renaming int→zC,bool→yX,sl→yM,arr→zH,ptr→xQ,str→wS
open Go.Proofs.Tryz renaming prog→zG
open Int renaming toNat→zF,tmod→zR,tdiv→zP
open List renaming length→zI,take→vL,set→zO,replicate→zB,getD→zE,map→wX
noncomputable section
set_option linter.all false
set_option maxRecDepth 100000
namespace Go.Dn.F
open Go.Proofs
variable {N:Nat} {g0:G} {w0:World} {R:Exit→Act→World→Prop}
def ZaI.B:Code:=Tryz.f110.body.getD .skip
def ZaI.rs (r:LL×LL):List CV:=[.row true 68 r.1]
def ZaI.p1 (N:Nat) (i1:Nat) (n_38:Int) (st:LL):Option (LL×LL):=
 getE (st[i1]?) Zbm fun x39 x40 x41 x42 x43 x44 x45 x46 x47 x48 x49 x50 x51 x52 x53 x54 x55 x56 x57 x58 x59 x60 x61 x62 x63 x64 x65 x66 x67 x68 x69 x70 x71 x72 x73 x74=>
 chk (0≤n_38)<|
 chk ((zF n_38)≤(zI x74))<|
 chk (zI ([]++(vL (zF n_38) x74))*96≤140737488355328)<|
 chk (((0+(zF n_38))+((zI x74)-(zF n_38)))≤(zI x74))<|
 chk (zI ([]++(vL ((zI x74)-(zF n_38)) (List.drop (0+(zF n_38)) x74)))*96≤140737488355328)<|
 some ([]++(vL (zF n_38) x74),zO st i1 [zC .i64 x39,zC .i64 x40,zC .i64 x41,zC .i64 x42,yX x43,yM 2 x44,yM 33 x45,zH .u64 4 x46,zH .u64 4 x47,zC .i64 x48,zH .u8 32 x49,zH .u8 32 x50,zC .i64 x51,zC .i64 x52,zC .i64 x53,zC .i64 x54,zC .i64 x55,zC .i64 x56,zC .i64 x57,zC .i64 x58,zH .u8 32 x59,yM 1 x60,zH .u64 4 x61,zC .i64 x62,zC .i64 x63,zC .i64 x64,zC .i64 x65,zC .i64 x66,zH .u8 32 x67,yM 1 x68,zH .u64 4 x69,xQ x70,zC .i64 x71,zC .i64 x72,zC .i64 x73,L.own true 68 ([]++(vL ((zI x74)-(zF n_38)) (List.drop (0+(zF n_38)) x74)))])
def ZaI (N:Nat) (s_0:Option Nat) (st:LL):Option (LL×LL):=
 optE s_0 fun i1=>
 getE (st[i1]?) Zbm fun x2 x3 x4 x5 x6 x7 x8 x9 x10 x11 x12 x13 x14 x15 x16 x17 x18 x19 x20 x21 x22 x23 x24 x25 x26 x27 x28 x29 x30 x31 x32 x33 x34 x35 x36 x37=>
 if (x34==3)=true then
  ZaI.p1 N i1 (len x37) st
 else
 ZaI.p1 N i1 (if (0:Int)>(w64 ((len x37)-x36)) then 0 else (w64 ((len x37)-x36))) st
def ZaI.p1.S (i1:Nat) (n_38:Int) (st:LL):S:=mkS 44 [(0,sP (some i1)),(3,sI n_38)] [] st
theorem ZaI.p1_ok {i1 n_38 st r} (h:ZaI.p1 N i1 n_38 st=some r) (hE:En Tryz.f110 g0 w0 (ZaI.rs r) r.2 R):At g0 w0 (ZaI.p1.S i1 n_38 st) (XK zG R [.c (csub ZaI.B [1,1,1])]):=by
 unfold ZaI.p1 at h
 obtain ⟨x39,x40,x41,x42,x43,x44,x45,x46,x47,x48,x49,x50,x51,x52,x53,x54,x55,x56,x57,x58,x59,x60,x61,x62,x63,x64,x65,x66,x67,x68,x69,x70,x71,x72,x73,x74,c4,h1⟩:=Zbb h
 obtain ⟨c5,c6,c7,c8,c9,h2⟩:=ck5 h1
 obtain rfl:=Zac h2
 exact af fol hE [.r [(3,{oc:=(qla x39 x40 x41 x42 x43 x44 x45 x46 x47 x48 x49 x50 x51 x52 x53 x54 x55 x56 x57 x58 x59 x60 x61 x62 x63 x64 x65 x66 x67 x68 x69 x70 x71 x72 x73 x74)}),(5,{oc:=(qla x39 x40 x41 x42 x43 x44 x45 x46 x47 x48 x49 x50 x51 x52 x53 x54 x55 x56 x57 x58 x59 x60 x61 x62 x63 x64 x65 x66 x67 x68 x69 x70 x71 x72 x73 x74)}),(6,{oc:=(qla x39 x40 x41 x42 x43 x44 x45 x46 x47 x48 x49 x50 x51 x52 x53 x54 x55 x56 x57 x58 x59 x60 x61 x62 x63 x64 x65 x66 x67 x68 x69 x70 x71 x72 x73 x74),wm:=2})],.r [(4,{oc:=(qla x39 x40 x41 x42 x43 x44 x45 x46 x47 x48 x49 x50 x51 x52 x53 x54 x55 x56 x57 x58 x59 x60 x61 x62 x63 x64 x65 x66 x67 x68 x69 x70 x71 x72 x73 x74)}),(6,{oc:=(qla x39 x40 x41 x42 x43 x44 x45 x46 x47 x48 x49 x50 x51 x52 x53 x54 x55 x56 x57 x58 x59 x60 x61 x62 x63 x64 x65 x66 x67 x68 x69 x70 x71 x72 x73 x74)}),(7,{oc:=(qla x39 x40 x41 x42 x43 x44 x45 x46 x47 x48 x49 x50 x51 x52 x53 x54 x55 x56 x57 x58 x59 x60 x61 x62 x63 x64 x65 x66 x67 x68 x69 x70 x71 x72 x73 x74),wm:=3}),(10,{oc:=(qla x39 x40 x41 x42 x43 x44 x45 x46 x47 x48 x49 x50 x51 x52 x53 x54 x55 x56 x57 x58 x59 x60 x61 x62 x63 x64 x65 x66 x67 x68 x69 x70 x71 x72 x73 x74),mv:=[40]})],.r []] [] 0 [0] (aO c4 c5 (Nat.zero_le (zF n_38)) c6 c4 z0 c6 (aO c4 c7 c4 c5 c6 (Nat.le_refl (zI x74)) c4 (aO c8 c4 c9 c4 z0 (eN (zI ([]++(vL ((zI x74)-(zF n_38)) (List.drop (0+(zF n_38)) x74))))) z0 (eN (zI ([]++(vL (zF n_38) x74)))))))
theorem ZaI.snd {s_0:Option Nat} {st:LL} {r:LL×LL} (h:ZaI N s_0 st=some r):Snd zG 110 [.one (xQ s_0)] st (ZaI.rs r) r.2:=
 sO ZaI.B Tryz.func110 fun g0 w0 R hE=>by
  unfold ZaI at h
  obtain ⟨i1,rfl,h3⟩:=Zae h
  obtain ⟨x2,x3,x4,x5,x6,x7,x8,x9,x10,x11,x12,x13,x14,x15,x16,x17,x18,x19,x20,x21,x22,x23,x24,x25,x26,x27,x28,x29,x30,x31,x32,x33,x34,x35,x36,x37,c2,h4⟩:=Zbb h3
  let o1:List PS:=[.r [(0,{m:=2})],.d {ds:=[(3,{oc:=(qla x2 x3 x4 x5 x6 x7 x8 x9 x10 x11 x12 x13 x14 x15 x16 x17 x18 x19 x20 x21 x22 x23 x24 x25 x26 x27 x28 x29 x30 x31 x32 x33 x34 x35 x36 x37)}),(8,{oc:=(qla x2 x3 x4 x5 x6 x7 x8 x9 x10 x11 x12 x13 x14 x15 x16 x17 x18 x19 x20 x21 x22 x23 x24 x25 x26 x27 x28 x29 x30 x31 x32 x33 x34 x35 x36 x37)})],hv:=0,Hs:=[]},.r [(3,{oc:=(qla x2 x3 x4 x5 x6 x7 x8 x9 x10 x11 x12 x13 x14 x15 x16 x17 x18 x19 x20 x21 x22 x23 x24 x25 x26 x27 x28 x29 x30 x31 x32 x33 x34 x35 x36 x37)})]]
  refine iteB h4 (fun c3 h5=>?_) (fun c3 h6=>?_)
  ·exact aqd fol (o1 ++ [.c true,.r [(3,{oc:=(qla x2 x3 x4 x5 x6 x7 x8 x9 x10 x11 x12 x13 x14 x15 x16 x17 x18 x19 x20 x21 x22 x23 x24 x25 x26 x27 x28 x29 x30 x31 x32 x33 x34 x35 x36 x37)})],.s 1]) [0,3] [] (aL c2 c2 c2 c3 c2) (ZaI.p1_ok h5 hE)
  ·exact aqd fol (o1 ++ [.c false,.s 1]) [0,3] [] (aK c2 c2 c2 c3) (ZaI.p1_ok h6 hE)
def ZaP.B:Code:=Tryz.f60.body.getD .skip
def ZaP.rs (r:LL×Int×LL):List CV:=[.row true 68 r.1,oI r.2.1]
def ZaP.p1 (N:Nat) (i1:Nat) (more_2:Bool) (x34 e_42:Int) (st43:LL):Option (LL×Int×LL):=
 if (e_42 != 0)=true then
  optE (ZbL N (some i1) e_42 st43) fun (x44,x45,st46)=>
  some (x44,x45,st46)
 else
 if (!more_2)=true then
  getE (st43[i1]?) Zbm fun x47 x48 x49 x50 x51 x52 x53 x54 x55 x56 x57 x58 x59 x60 x61 x62 x63 x64 x65 x66 x67 x68 x69 x70 x71 x72 x73 x74 x75 x76 x77 x78 x79 x80 x81 x82=>
  if (x79==x34)=true then
   optE (ZbL N (some i1) 5 st43) fun (x83,x84,st85)=>
   some (x83,x84,st85)
  else
  optE (ZaI N (some i1) st43) fun (x86,st87)=>
  some (x86,0,st87)
 else
 optE (ZaI N (some i1) st43) fun (x88,st89)=>
 some (x88,0,st89)
def ZaP (N:Nat) (s_0:Option Nat) (now_1:Int) (more_2:Bool) (list_3 st:LL):Option (LL×Int×LL):=
 if (Option.isNone s_0)=true then
  some ([],2,st)
 else
 optE s_0 fun i1=>
 getE (st[i1]?) Zbm fun x2 x3 x4 x5 x6 x7 x8 x9 x10 x11 x12 x13 x14 x15 x16 x17 x18 x19 x20 x21 x22 x23 x24 x25 x26 x27 x28 x29 x30 x31 x32 x33 x34 x35 x36 x37=>
 if (x34==0)=true then
  some ([],9,st)
 else
 if (x34==3)=true then
  some ([],9,st)
 else
 if (decide (now_1<0))=true then
  some ([],1,st)
 else
 if (decide (now_1>4294967296))=true then
  some ([],1,st)
 else
 if (decide ((len list_3)>64))=true then
  some ([],1,st)
 else
 if (x34==1)=true then
  optE (ZaY N (some i1) now_1 list_3 st) fun (x38,st39)=>
  ZaP.p1 N i1 more_2 x34 x38 st39
 else
 optE (Zap N (some i1) now_1 list_3 st) fun (x40,st41)=>
 ZaP.p1 N i1 more_2 x34 x40 st41
def ZaP.p1.S (i1:Nat) (more_2:Bool) (x34 e_42:Int) (st43:LL):S:=mkS 77 [(0,sP (some i1)),(2,.one (.l (yX more_2))),(10,sI x34),(11,sI e_42)] [] st43
theorem ZaP.p1_ok {i1 more_2 x34 e_42 st43 r} (h:ZaP.p1 N i1 more_2 x34 e_42 st43=some r) (hE:En Tryz.f60 g0 w0 (ZaP.rs r) r.2.2 R):At g0 w0 (ZaP.p1.S i1 more_2 x34 e_42 st43) (XK zG R [.c (csub ZaP.B [1,1,1,1,1])]):=by
 unfold ZaP.p1 at h
 refine iteB h (fun c12 h1=>?_) (fun c12 h2=>?_)
 ·obtain ⟨⟨x44,x45,st46⟩,c13,h3⟩:=Zae h1
  obtain rfl:=Zac h3
  exact af fol hE [.r [],.c true,.r [(2,{rs:=[.row true 68 x44,oI x45],st:=st46,ns:=[58]})]] [] 0 [0] (aK c12 (ZbL.snd c13) z0 (eN (zI x44)))
 ·refine iteB h2 (fun c14 h4=>?_) (fun c14 h5=>?_)
  ·obtain ⟨x47,x48,x49,x50,x51,x52,x53,x54,x55,x56,x57,x58,x59,x60,x61,x62,x63,x64,x65,x66,x67,x68,x69,x70,x71,x72,x73,x74,x75,x76,x77,x78,x79,x80,x81,x82,c15,h6⟩:=Zbb h4
   let o1:List PS:=[.r [],.c false,.r [(6,{oc:=(qla x47 x48 x49 x50 x51 x52 x53 x54 x55 x56 x57 x58 x59 x60 x61 x62 x63 x64 x65 x66 x67 x68 x69 x70 x71 x72 x73 x74 x75 x76 x77 x78 x79 x80 x81 x82)})]]
   have t1 {Q:Prop} (q:Q):=aO c12 (not_false (ZaX c14)) (not_false (ZaX c14)) (not_false (ZaX c14)) (not_false (ZaX c14)) c15 (not_false (ZaX c14)) (aJ (not_false (ZaX c14)) (not_false (ZaX c14)) q)
   refine iteB h6 (fun c16 h7=>?_) (fun c16 h8=>?_)
   ·obtain ⟨⟨x83,x84,st85⟩,c17,h9⟩:=Zae h7
    obtain rfl:=Zac h9
    exact af fol hE (o1 ++ [.c true,.r [(1,{rs:=[.row true 68 x83,oI x84],st:=st85,ns:=[72]})]]) [] 0 [0] (t1 (aK c16 (ZbL.snd c17) z0 (eN (zI x83))))
   ·obtain ⟨⟨x86,st87⟩,c18,h10⟩:=Zae h8
    obtain rfl:=Zac h10
    exact af fol hE (o1 ++ [.c false,.r [(1,{rs:=[.row true 68 x86],st:=st87,ns:=[76]})]]) [] 0 [0] (t1 (aK c16 (ZaI.snd c18) z0 (eN (zI x86))))
  ·obtain ⟨⟨x88,st89⟩,c19,h11⟩:=Zae h5
   obtain rfl:=Zac h11
   exact af fol hE [.r [],.c false,.r [(3,wF),(4,wF),(5,wF),(6,wF),(7,wF),(8,wF),(9,yF)],.c false,.r [(1,{rs:=[.row true 68 x88],st:=st89,ns:=[76]})]] [] 0 [0] (aO c12 (not_true (ZaU c14)) (not_true (ZaU c14)) (not_true (ZaU c14)) (not_true (ZaU c14)) (not_true (ZaU c14)) (not_true (ZaU c14)) (aL (not_true (ZaU c14)) eF (ZaI.snd c19) z0 (eN (zI x88))))
theorem ZaP.snd {s_0:Option Nat} {now_1:Int} {more_2:Bool} {list_3:LL} {st:LL} {r:LL×Int×LL} (h:ZaP N s_0 now_1 more_2 list_3 st=some r):Snd zG 60 [.one (xQ s_0),oI now_1,oB more_2,.one (yM 68 list_3)] st (ZaP.rs r) r.2.2:=
 sO ZaP.B Tryz.func60 fun g0 w0 R hE=>by
  unfold ZaP at h
  let o2:List PS:=[.r [(0,{m:=2})],.r []]
  refine iteB h (fun c1 h12=>?_) (fun c1 h13=>?_)
  ·obtain rfl:=Zac h12
   exact af fol hE (o2 ++ [.c true,.r [(0,{m:=2})]]) [] 0 [0] c1
  ·obtain ⟨i1,rfl,h14⟩:=Zae h13
   obtain ⟨x2,x3,x4,x5,x6,x7,x8,x9,x10,x11,x12,x13,x14,x15,x16,x17,x18,x19,x20,x21,x22,x23,x24,x25,x26,x27,x28,x29,x30,x31,x32,x33,x34,x35,x36,x37,c3,h15⟩:=Zbb h14
   have t2 {Q:Prop} (q:Q):=aJ c1 c3 q
   refine iteB h15 (fun c4 h16=>?_) (fun c4 h17=>?_)
   ·obtain rfl:=Zac h16
    exact af fol hE (o2 ++ [.c false,.r [(3,{oc:=(qla x2 x3 x4 x5 x6 x7 x8 x9 x10 x11 x12 x13 x14 x15 x16 x17 x18 x19 x20 x21 x22 x23 x24 x25 x26 x27 x28 x29 x30 x31 x32 x33 x34 x35 x36 x37)}),(6,wF),(7,wF),(8,wF),(9,wF),(10,wF)],.c true,.r [(0,{m:=2})]]) [] 0 [0] (t2 (aN c4 c4 c4 c4 c4 c4 eT))
   ·let o3:List PS:=o2 ++ [.c false,.r [(3,{oc:=(qla x2 x3 x4 x5 x6 x7 x8 x9 x10 x11 x12 x13 x14 x15 x16 x17 x18 x19 x20 x21 x22 x23 x24 x25 x26 x27 x28 x29 x30 x31 x32 x33 x34 x35 x36 x37)}),(9,{oc:=(qla x2 x3 x4 x5 x6 x7 x8 x9 x10 x11 x12 x13 x14 x15 x16 x17 x18 x19 x20 x21 x22 x23 x24 x25 x26 x27 x28 x29 x30 x31 x32 x33 x34 x35 x36 x37)}),(11,yF)]]
    have t3 {Q:Prop} (q:Q):=t2 (aO c4 c4 c4 c4 c3 c4 c4 q)
    refine iteB h17 (fun c5 h18=>?_) (fun c5 h19=>?_)
    ·obtain rfl:=Zac h18
     exact af fol hE (o3 ++ [.c true,.r [(0,{m:=2})]]) [] 0 [0] (t3 c5)
    ·refine iteB h19 (fun c6 h20=>?_) (fun c6 h21=>?_)
     ·obtain rfl:=Zac h20
      exact af fol hE (o3 ++ [.c false,.r [(3,wF),(4,wF),(7,wF),(8,wF),(9,wF)],.c true,.r [(0,{m:=2})]]) [] 0 [0] (t3 (aO c5 c6 c6 c6 eT eT eT (aI eT eT)))
     ·have t4 {Q:Prop} (q:Q):=t3 (aL c5 c6 c6 c6 q)
      refine iteB h21 (fun c7 h22=>?_) (fun c7 h23=>?_)
      ·obtain rfl:=Zac h22
       exact af fol hE (o3 ++ [.c false,.r [(5,yF),(7,wF),(8,wF),(9,wF)],.c true,.r [(0,{m:=2})]]) [] 0 [0] (t4 (aL c7 c7 c7 c7 eT))
      ·let o4:List PS:=o3 ++ [.c false,.r [(5,yF),(10,yF)]]
       refine iteB h23 (fun c8 h24=>?_) (fun c8 h25=>?_)
       ·obtain rfl:=Zac h24
        exact af fol hE (o4 ++ [.c true,.r [(0,{m:=2})]]) [] 0 [0] (t4 (aL c7 c7 c7 c7 c8))
       ·let o5:List PS:=o4 ++ [.c false,.r [(3,{oc:=(qla x2 x3 x4 x5 x6 x7 x8 x9 x10 x11 x12 x13 x14 x15 x16 x17 x18 x19 x20 x21 x22 x23 x24 x25 x26 x27 x28 x29 x30 x31 x32 x33 x34 x35 x36 x37)})],.r [],.r []]
        refine iteB h25 (fun c9 h26=>?_) (fun c9 h27=>?_)
        ·obtain ⟨⟨x38,st39⟩,c10,h28⟩:=Zae h26
         exact aq fol (o5 ++ [.c true,.r [(3,{rs:=[oI x38],st:=st39})],.s 1]) [0,2,10,11] [] (t4 (aO c7 c7 c7 c7 c8 c3 c9 (ZaY.snd c10))) (ZaP.p1_ok h28 hE)
        ·obtain ⟨⟨x40,st41⟩,c11,h29⟩:=Zae h27
         exact aq fol (o5 ++ [.c false,.r [(3,{rs:=[oI x40],st:=st41})],.s 1]) [0,2,10,11] [] (t4 (aO c7 c7 c7 c7 c8 c3 c9 (Zap.snd c11))) (ZaP.p1_ok h29 hE)
def ZbV.B:Code:=Tryz.f62.body.getD .skip
def ZbV.rs (r:Int):List CV:=[oI r]
def ZbV (N:Nat) (s_0:ZaG):Option Int:=
 some s_0.phase
theorem ZbV.snd {s_0:ZaG} {r:Int} (h:ZbV N s_0=some r):SndQ zG 62 [.one (L.bx 172 s_0.ls)] (ZbV.rs r):=fun st=>
 sO ZbV.B Tryz.func62 fun g0 w0 R hE=>by
  unfold ZbV at h
  obtain rfl:=Zac h
  exact af fol hE [.r [],.r [],.c false,.r [(3,{oe:=s_0.ls})]] [] 0 [] (aI eF (eO s_0.ls))
def Zda.B:Code:=Tryz.f57.body.getD .skip
def Zda.rs (r:Bool×LL):List CV:=[oB r.1]
def Zda (N:Nat) (st:LL):Option (Bool×LL):=
 optE (Zef N (Zak.mk 545259519 4 10 0 false [] [] [100,0,0,0] (zB 4 0) (Zaa.mk 0 (zB 32 0) (zB 32 0) 0 0 0))) fun x1=>
 optE (ZcR N (Zak.mk 545259519 4 10 0 false [] [] [100,0,0,0] (zB 4 0) (Zaa.mk 0 (zB 32 0) (zB 32 0) 0 0 0)) (ZdE.mk x1 [2,0,0,0]) (Zbo.mk 0 2 0) 4 100 st) fun (x2,x3,st4)=>
 optE (ZaP N x2 100 false [] st4) fun (x5,x6,st7)=>
 if (x3==0)=true then
  if (x6==5)=true then
   optE x2 fun i8=>
   getE (st7[i8]?) Zbm fun x9 x10 x11 x12 x13 x14 x15 x16 x17 x18 x19 x20 x21 x22 x23 x24 x25 x26 x27 x28 x29 x30 x31 x32 x33 x34 x35 x36 x37 x38 x39 x40 x41 x42 x43 x44=>
   optE x40 fun i45=>
   getE (st7[i45]?) Zbn fun x46=>
   optE (ZbV N (ZaG.mk (Zak.mk x9 x10 x11 x12 x13 x14 x15 x16 x17 (Zaa.mk x18 x19 x20 x21 x22 x23)) (ZaH.mk (Zat.mk (ZaQ.mk x24 x25 x26 x27 x28) x29 x30) x31) (ZaH.mk (Zat.mk (ZaQ.mk x32 x33 x34 x35 x36) x37 x38) x39) x46 x41 x42 x43 x44)) fun x47=>
   if (x47==0)=true then
    optE (ZcE N (Zbo.mk 0 2 0) 10) fun x48=>
    some (x48==31,st7)
   else
   some (false,st7)
  else
  some (false,st7)
 else
 some (false,st7)
theorem Zda.snd {st:LL} {r:Bool×LL} (h:Zda N st=some r):Snd zG 57 [] st (Zda.rs r) r.2:=
 sO Zda.B Tryz.func57 fun g0 w0 R hE=>by
  unfold Zda at h
  obtain ⟨x1,c1,h1⟩:=Zae h
  obtain ⟨⟨x2,x3,st4⟩,c2,h2⟩:=Zae h1
  obtain ⟨⟨x5,x6,st7⟩,c3,h3⟩:=Zae h2
  let o1:List PS:=[.r [],.r [(0,{m:=3})]]
  have t1 {Q:Prop} (q:Q):=aJ (Zef.snd c1) (ZcR.snd c2) q
  refine iteB h3 (fun c4 h4=>?_) (fun c4 h5=>?_)
  ·refine iteB h4 (fun c5 h6=>?_) (fun c5 h7=>?_)
   ·obtain ⟨i8,rfl,h8⟩:=Zae h6
    obtain ⟨x9,x10,x11,x12,x13,x14,x15,x16,x17,x18,x19,x20,x21,x22,x23,x24,x25,x26,x27,x28,x29,x30,x31,x32,x33,x34,x35,x36,x37,x38,x39,x40,x41,x42,x43,x44,c7,h9⟩:=Zbb h8
    obtain ⟨i45,rfl,h10⟩:=Zae h9
    obtain ⟨x46,c9,h11⟩:=Zbw h10
    obtain ⟨x47,c10,h12⟩:=Zae h11
    let o2:List PS:=o1 ++ [.d {ds:=[(2,q1 [.agg x1.ls]),(3,{m:=3}),(6,{rs:=[.one (xQ (some i8)),oI x3],st:=st4})],hv:=64,Hs:=[64]},.r [(1,{rs:=[.row true 68 x5,oI x6],st:=st7,ns:=[20]})]]
    have t2 {Q:Prop} (q:Q):=t1 (aO (Snd.nl (cs:=[.one (xQ (some i8)),oI 100,oB false]) (ZaP.snd c3)) c4 c4 c4 c5 c5 (bO 172 c7 ((bP (bP (bP (bP (bP (bS (bS (bP (bP (bP (bP (bP (bP (bP (bP (bP (bP (bP (bP (bP (bP (bS (bP (bP (bP (bP (bP (bP (bP (bS (bP (bC 6 c9 (Zax.bv x46) (bP (bP (bP (bW bN)))))))))))))))))))))))))))))))))))):BVs st7 (qla x9 x10 x11 x12 x13 x14 x15 x16 x17 x18 x19 x20 x21 x22 x23 x24 x25 x26 x27 x28 x29 x30 x31 x32 x33 x34 x35 x36 x37 x38 x39 (some i45) x41 x42 x43 x44) (ZaG.ls (ZaG.mk (Zak.mk x9 x10 x11 x12 x13 x14 x15 x16 x17 (Zaa.mk x18 x19 x20 x21 x22 x23)) (ZaH.mk (Zat.mk (ZaQ.mk x24 x25 x26 x27 x28) x29 x30) x31) (ZaH.mk (Zat.mk (ZaQ.mk x32 x33 x34 x35 x36) x37 x38) x39) x46 x41 x42 x43 x44)))) (aK (ZbV.snd c10) c5 c5 q))
    refine iteB h12 (fun c11 h13=>?_) (fun c11 h14=>?_)
    ·obtain ⟨x48,c12,h15⟩:=Zae h13
     obtain rfl:=Zac h15
     exact afd fol hE (o2 ++ [.r [(8,{rs:=[oI x47],m:=10,cv:=[.one (L.bx 172 (ZaG.ls (ZaG.mk (Zak.mk x9 x10 x11 x12 x13 x14 x15 x16 x17 (Zaa.mk x18 x19 x20 x21 x22 x23)) (ZaH.mk (Zat.mk (ZaQ.mk x24 x25 x26 x27 x28) x29 x30) x31) (ZaH.mk (Zat.mk (ZaQ.mk x32 x33 x34 x35 x36) x37 x38) x39) x46 x41 x42 x43 x44)))]}),(13,q1 [oI x48])]]) [] 0 [] (t2 (aL c11 c11 (ZcE.snd c12) c11 c11))
    ·obtain rfl:=Zac h14
     exact afd fol hE (o2 ++ [.r [(8,{rs:=[oI x47],m:=10,cv:=[.one (L.bx 172 (ZaG.ls (ZaG.mk (Zak.mk x9 x10 x11 x12 x13 x14 x15 x16 x17 (Zaa.mk x18 x19 x20 x21 x22 x23)) (ZaH.mk (Zat.mk (ZaQ.mk x24 x25 x26 x27 x28) x29 x30) x31) (ZaH.mk (Zat.mk (ZaQ.mk x32 x33 x34 x35 x36) x37 x38) x39) x46 x41 x42 x43 x44)))]}),(12,wF),(13,wF),(14,wF),(15,yF)]]) [] 0 [] (t2 (aK c11 c11 c11 c11))
   ·obtain rfl:=Zac h7
    exact afd fol hE (o1 ++ [.d {ds:=[(2,q1 [.agg x1.ls]),(3,{m:=3}),(6,{rs:=[.one (xQ x2),oI x3],st:=st4})],hv:=64,Hs:=[64]},.r [(1,{rs:=[.row true 68 x5,oI x6],st:=st7,ns:=[20]})],.r [(7,wF),(8,wF),(9,wF),(10,yF),(12,wF),(13,wF),(14,wF),(15,yF)]]) [] 0 [] (t1 (aO (Snd.nl (cs:=[.one (xQ x2),oI 100,oB false]) (ZaP.snd c3)) c4 c4 c4 c5 c5 c5 (aL c5 eF eF eF eF)))
  ·obtain rfl:=Zac h5
   exact afd fol hE (o1 ++ [.d {ds:=[(2,q1 [.agg x1.ls]),(3,{m:=3}),(6,{rs:=[.one (xQ x2),oI x3],st:=st4})],hv:=64,Hs:=[64]},.r [(1,{rs:=[.row true 68 x5,oI x6],st:=st7,ns:=[20]})],.r [(3,wF),(4,wF),(5,yF),(7,wF),(8,wF),(9,wF),(10,yF),(12,wF),(13,wF),(14,wF),(15,yF)]]) [] 0 [] (t1 (aO (Snd.nl (cs:=[.one (xQ x2),oI 100,oB false]) (ZaP.snd c3)) c4 c4 c4 eF eF eF (aL eF eF eF eF eF)))
def ZcG.B:Code:=Tryz.f99.body.getD .skip
def ZcG.rs (r:Bool):List CV:=[oB r]
def ZcG (N:Nat) (h_0:Zaa):Option Bool:=
 if (decide (h_0.Version≥(-2147483648)))=true then
  if (decide (h_0.Version≤2147483647))=true then
   if (decide (h_0.Time≥0))=true then
    if (decide (h_0.Time<4294967296))=true then
     if (decide (h_0.Bits≥0))=true then
      if (decide (h_0.Bits<4294967296))=true then
       if (decide (h_0.Nonce≥0))=true then
        some (decide (h_0.Nonce<4294967296))
       else
       some false
      else
      some false
     else
     some false
    else
    some false
   else
   some false
  else
  some false
 else
 some false
theorem ZcG.snd {h_0:Zaa} {r:Bool} (h:ZcG N h_0=some r):SndQ zG 99 [.agg h_0.ls] (ZcG.rs r):=fun st=>
 sO ZcG.B Tryz.func99 fun g0 w0 R hE=>by
  unfold ZcG at h
  let o1:List PS:=[.r [],.r []]
  refine iteB h (fun c1 h1=>?_) (fun c1 h2=>?_)
  ·have t1 {Q:Prop} (q:Q):=aL c1 c1 c1 c1 q
   refine iteB h1 (fun c2 h3=>?_) (fun c2 h4=>?_)
   ·have t2 {Q:Prop} (q:Q):=t1 (aL c2 c2 c2 c2 q)
    refine iteB h3 (fun c3 h5=>?_) (fun c3 h6=>?_)
    ·have t3 {Q:Prop} (q:Q):=t2 (aM c3 c3 c3 c3 c3 q)
     refine iteB h5 (fun c4 h7=>?_) (fun c4 h8=>?_)
     ·have t4 {Q:Prop} (q:Q):=t3 (aL c4 c4 c4 c4 q)
      refine iteB h7 (fun c5 h9=>?_) (fun c5 h10=>?_)
      ·refine iteB h9 (fun c6 h11=>?_) (fun c6 h12=>?_)
       ·refine iteB h11 (fun c7 h13=>?_) (fun c7 h14=>?_)
        ·obtain rfl:=Zac h13
         exact af fol hE (o1 ++ [.r []]) [] 0 [] (t4 (aO c5 c5 c5 c5 c5 c6 c6 (aN c6 c6 c7 c7 c7 c7 c7)))
        ·obtain rfl:=Zac h14
         exact af fol hE (o1 ++ [.r [(36,wF),(37,wF),(38,wF),(39,wF),(40,yF)]]) [] 0 [] (t4 (aO c5 c5 c5 c5 c5 c6 c6 (aN c6 c6 c7 c7 c7 c7 c7)))
       ·obtain rfl:=Zac h12
        exact af fol hE (o1 ++ [.r [(31,wF),(32,wF),(33,wF),(34,yF),(36,wF),(37,wF),(38,wF),(39,wF),(40,yF)]]) [] 0 [] (t4 (aO c5 c5 c5 c5 c5 c6 c6 (aN c6 c6 eF eF eF eF eF)))
      ·obtain rfl:=Zac h10
       exact af fol hE (o1 ++ [.r [(25,wF),(26,wF),(27,wF),(28,wF),(29,yF),(31,wF),(32,wF),(33,wF),(34,yF),(36,wF),(37,wF),(38,wF),(39,wF),(40,yF)]]) [] 0 [] (t4 (aO c5 c5 c5 c5 c5 eF eF (aN eF eF eF eF eF eF eF)))
     ·obtain rfl:=Zac h8
      exact af fol hE (o1 ++ [.r [(20,wF),(21,wF),(22,wF),(23,yF),(25,wF),(26,wF),(27,wF),(28,wF),(29,yF),(31,wF),(32,wF),(33,wF),(34,yF),(36,wF),(37,wF),(38,wF),(39,wF),(40,yF)]]) [] 0 [] (t3 (aO c4 c4 c4 c4 eF eF eF (aO eF eF eF eF eF eF eF (aK eF eF eF eF))))
    ·obtain rfl:=Zac h6
     exact af fol hE (o1 ++ [.r [(14,wF),(15,wF),(16,wF),(17,wF),(18,yF),(20,wF),(21,wF),(22,wF),(23,yF),(25,wF),(26,wF),(27,wF),(28,wF),(29,yF),(31,wF),(32,wF),(33,wF),(34,yF),(36,wF),(37,wF),(38,wF),(39,wF),(40,yF)]]) [] 0 [] (t2 (aO c3 c3 c3 c3 c3 eF eF (aO eF eF eF eF eF eF eF (aO eF eF eF eF eF eF eF (aI eF eF)))))
   ·obtain rfl:=Zac h4
    exact af fol hE (o1 ++ [.r [(9,wF),(10,wF),(11,wF),(12,yF),(14,wF),(15,wF),(16,wF),(17,wF),(18,yF),(20,wF),(21,wF),(22,wF),(23,yF),(25,wF),(26,wF),(27,wF),(28,wF),(29,yF),(31,wF),(32,wF),(33,wF),(34,yF),(36,wF),(37,wF),(38,wF),(39,wF),(40,yF)]]) [] 0 [] (t1 (aO c2 c2 c2 c2 eF eF eF (aO eF eF eF eF eF eF eF (aO eF eF eF eF eF eF eF (aM eF eF eF eF eF eF)))))
  ·obtain rfl:=Zac h2
   exact af fol hE (o1 ++ [.r [(4,wF),(5,wF),(6,wF),(7,yF),(9,wF),(10,wF),(11,wF),(12,yF),(14,wF),(15,wF),(16,wF),(17,wF),(18,yF),(20,wF),(21,wF),(22,wF),(23,yF),(25,wF),(26,wF),(27,wF),(28,wF),(29,yF),(31,wF),(32,wF),(33,wF),(34,yF),(36,wF),(37,wF),(38,wF),(39,wF),(40,yF)]]) [] 0 [] (aO c1 c1 c1 c1 eF eF eF (aO eF eF eF eF eF eF eF (aO eF eF eF eF eF eF eF (aO eF eF eF eF eF eF eF (aJ eF eF eF)))))
def Zao.B:Code:=Tryz.f196.body.getD .skip
def Zao.rs (r:(List Int)):List CV:=[.agg [zH .u64 4 r]]
def Zao.p4 (N:Nat) (c3_:(Int×(List Int))→Option (List Int)) (n_13 i_19:Int) (a_18 out_22:List Int):Option (List Int):=
 c3_ (w64 (i_19+1),out_22)
def Zao.p3 (N:Nat) (n_13:Int) (a_18:List Int) (c3_:(Int×(List Int))→Option (List Int)):(Int×(List Int))→Option (List Int):=fun (i_19,out_21)=>
 if (decide (i_19<4))=true then
  if (decide (n_13>0))=true then
   chk (0≤i_19)<|
   chk (0≤(v64 (n_13)))<|
   if (decide (i_19>0))=true then
    chk (0≤(w64 (i_19-1)))<|
    chk ((w64 (i_19-1))<4)<|
    chk (0≤(v64 (w64 (64-n_13))))<|
    Zao.p4 N c3_ n_13 i_19 a_18 (zO (zO out_21 (zF i_19) (shlOf .u64 (zE a_18 (zF i_19) 0) (v64 (n_13)))) (zF i_19) (v64 ((zE (zO out_21 (zF i_19) (shlOf .u64 (zE a_18 (zF i_19) 0) (v64 (n_13)))) (zF i_19) 0)+(shrOf .u64 (zE a_18 (zF (w64 (i_19-1))) 0) (v64 (w64 (64-n_13)))))))
   else
   Zao.p4 N c3_ n_13 i_19 a_18 (zO out_21 (zF i_19) (shlOf .u64 (zE a_18 (zF i_19) 0) (v64 (n_13))))
  else
  chk (0≤i_19)<|
  chk (0≤(v64 (w64 (0-n_13))))<|
  if (decide (i_19<3))=true then
   chk (0≤(w64 (i_19+1)))<|
   chk ((w64 (i_19+1))<4)<|
   chk (0≤(v64 (w64 (64+n_13))))<|
   Zao.p4 N c3_ n_13 i_19 a_18 (zO (zO out_21 (zF i_19) (shrOf .u64 (zE a_18 (zF i_19) 0) (v64 (w64 (0-n_13))))) (zF i_19) (v64 ((zE (zO out_21 (zF i_19) (shrOf .u64 (zE a_18 (zF i_19) 0) (v64 (w64 (0-n_13))))) (zF i_19) 0)+(shlOf .u64 (zE a_18 (zF (w64 (i_19+1))) 0) (v64 (w64 (64+n_13)))))))
  else
  Zao.p4 N c3_ n_13 i_19 a_18 (zO out_21 (zF i_19) (shrOf .u64 (zE a_18 (zF i_19) 0) (v64 (w64 (0-n_13)))))
 else
 some out_21
def Zao.p2 (N:Nat) (c2_:(Int×(List Int))→Option (List Int)):(Int×(List Int))→Option (List Int):=fun (n_13,a_18)=>
 if (decide (n_13≤(-64)))=true then
  c2_ (w64 (n_13+64),[zE a_18 1 0,zE a_18 2 0,zE a_18 3 0,0])
 else
 if (n_13==0)=true then
  some a_18
 else
 loopN (Zao.p3 N n_13 a_18) N (0,zB 4 0)
def Zao.p1 (N:Nat) (c1_:(Int×(List Int))→Option (List Int)):(Int×(List Int))→Option (List Int):=fun (n_1,a_12)=>
 if (decide (n_1≥64))=true then
  c1_ (w64 (n_1-64),[0,zE a_12 0 0,zE a_12 1 0,zE a_12 2 0])
 else
 loopN (Zao.p2 N) N (n_1,a_12)
def Zao (N:Nat) (a_0_0:List Int) (n_1:Int):Option (List Int):=
 if (decide (n_1≤(-256)))=true then
  some (zB 4 0)
 else
 if (decide (n_1≥256))=true then
  some (zB 4 0)
 else
 loopN (Zao.p1 N) N (n_1,a_0_0)
def Zao.p4.S (n_13 i_19:Int) (a_18 out_22:List Int) (st:LL):S:=mkS 96 [(1,sI n_13),(2,sA 2),(4,sA 4),(5,sA 5),(6,sI i_19)] [(2,.cells [zH .u64 4 a_18]),(4,.cells [zH .u64 4 (zB 4 0)]),(5,.cells [zH .u64 4 out_22])] st
def Zao.p3.S (n_13 i_19:Int) (a_18 out_21:List Int) (st:LL):S:=mkS 96 [(1,sI n_13),(2,sA 2),(4,sA 4),(5,sA 5),(6,sI i_19)] [(2,.cells [zH .u64 4 a_18]),(4,.cells [zH .u64 4 (zB 4 0)]),(5,.cells [zH .u64 4 out_21])] st
def Zao.p2.S (n_13:Int) (a_18:List Int) (st:LL):S:=mkS 96 [(1,sI n_13),(2,sA 2),(4,sA 4),(5,sA 5)] [(2,.cells [zH .u64 4 a_18]),(4,.cells [zH .u64 4 (zB 4 0)]),(5,.cells [zH .u64 4 (zB 4 0)])] st
def Zao.p1.S (n_1:Int) (a_12:List Int) (st:LL):S:=mkS 96 [(1,sI n_1),(2,sA 2),(4,sA 4),(5,sA 5)] [(2,.cells [zH .u64 4 a_12]),(4,.cells [zH .u64 4 (zB 4 0)]),(5,.cells [zH .u64 4 (zB 4 0)])] st
theorem Zao.p4_ok {n_13 i_19 a_18 out_22 st r c3_ J3} (h:Zao.p4 N c3_ n_13 i_19 a_18 out_22=some r) (hE:En Tryz.f196 g0 w0 (Zao.rs r) st R) (hc3 : ∀i_19 out_21,c3_ (i_19,out_21)=some r→At g0 w0 (Zao.p3.S n_13 i_19 a_18 out_21 st) J3):At g0 w0 (Zao.p4.S n_13 i_19 a_18 out_22 st) (XK zG R [.c (csub Zao.B [1,1,1,1,1,1,0,1,0,0,1,1]),.h J3,.b 4,.c (csub Zao.B [1,1,1,1,1,1,1])]):=by
 unfold Zao.p4 at h
 exact an fol [.r []] [1,2,4,5,6] [2,4,5] trivial (hc3 (w64 (i_19+1)) out_22 h)
theorem Zao.p3_ok {n_13 i_19 a_18 out_21 st r c3_ J3} (h:Zao.p3 N n_13 a_18 c3_ (i_19,out_21)=some r) (hE:En Tryz.f196 g0 w0 (Zao.rs r) st R) (hc3 : ∀i_19 out_21,c3_ (i_19,out_21)=some r→At g0 w0 (Zao.p3.S n_13 i_19 a_18 out_21 st) J3):At g0 w0 (Zao.p3.S n_13 i_19 a_18 out_21 st) (XK zG R (.c (csub Zao.B [1,1,1,1,1,1,0,1,0,0]) :: .h J3 :: [.b 4,.c (csub Zao.B [1,1,1,1,1,1,1])])):=by
 unfold Zao.p3 at h
 refine iteB h (fun c111 h1=>?_) (fun c111 h2=>?_)
 ·let o1:List PS:=[.r [],.c true,.r []]
  refine iteB h1 (fun c112 h3=>?_) (fun c112 h4=>?_)
  ·obtain ⟨c113,c114,h5⟩:=ck2 h3
   have t1 {Q:Prop} (q:Q):=aO c111 c112 c113 (oD c111) c114 c113 (oD c111) q
   refine iteB h5 (fun c115 h6=>?_) (fun c115 h7=>?_)
   ·obtain ⟨c116,c117,c118,h8⟩:=ck3 h6
    exact aqd fol (o1 ++ [.c true,.r [],.r [],.c true,.d {ds:=[],hv:=16384,Hs:=[16384]},.s 4]) [1,2,4,5,6] [2,4,5] (t1 (aO c115 c113 (oD c111) c116 c117 c118 c113 (oD c111))) (Zao.p4_ok h8 hE hc3)
   ·exact aq fol (o1 ++ [.c true,.r [],.r [],.c false,.s 4]) [1,2,4,5,6] [2,4,5] (t1 c115) (Zao.p4_ok h7 hE hc3)
  ·obtain ⟨c119,c120,h9⟩:=ck2 h4
   have t2 {Q:Prop} (q:Q):=aO c111 c112 c119 (oD c111) c120 c119 (oD c111) q
   refine iteB h9 (fun c121 h10=>?_) (fun c121 h11=>?_)
   ·obtain ⟨c122,c123,c124,h12⟩:=ck3 h10
    exact aqd fol (o1 ++ [.c false,.r [],.r [],.c true,.d {ds:=[],hv:=16384,Hs:=[16384]},.s 4]) [1,2,4,5,6] [2,4,5] (t2 (aO c121 c119 (oD c111) c122 c123 c124 c119 (oD c111))) (Zao.p4_ok h12 hE hc3)
   ·exact aq fol (o1 ++ [.c false,.r [],.r [],.c false,.s 4]) [1,2,4,5,6] [2,4,5] (t2 c121) (Zao.p4_ok h11 hE hc3)
 ·obtain rfl:=Zac h2
  exact af fol hE [.r [],.c false,.r []] [] 0 [] c111
theorem Zao.p2_ok {n_13 a_18 st r c2_ J2} (h:Zao.p2 N c2_ (n_13,a_18)=some r) (hE:En Tryz.f196 g0 w0 (Zao.rs r) st R) (hc2 : ∀n_13 a_18,c2_ (n_13,a_18)=some r→At g0 w0 (Zao.p2.S n_13 a_18 st) J2):At g0 w0 (Zao.p2.S n_13 a_18 st) (XK zG R (.c (csub Zao.B [1,1,1,1,0,0,0]) :: .h J2 :: [.b 2,.c (csub Zao.B [1,1,1,1,1])])):=by
 unfold Zao.p2 at h
 refine iteB h (fun c95 h13=>?_) (fun c95 h14=>?_)
 ·exact an fol [.r [],.c true,.r [(6,{m:=3})],.r []] [1,2,4,5] [2,4,5] (aI c95 (ix 1 4 (ix 2 4 (aI (leI 0 3) (ltI 3 4))))) (hc2 (w64 (n_13+64)) [zE a_18 1 0,zE a_18 2 0,zE a_18 3 0,0] h13)
 ·refine iteB h14 (fun c96 h15=>?_) (fun c96 h16=>?_)
  ·obtain rfl:=Zac h15
   exact af fol hE [.r [],.c false,.r [],.c true,.r []] [] 0 [] (aI c95 c96)
  ·exact aq fol [.r [],.c false,.r [],.c false,.r []] [1,2,4,5,6] [2,4,5] (aI c95 c96) (At.loop N (At.loopN (fun y:Int×(List Int)=>Zao.p3.S n_13 y.1 a_18 y.2 st) (fun c J hc y h=>Zao.p3_ok (i_19:=y.1) (out_21:=y.2) h hE (fun i_19 out_21=>hc (i_19,out_21))) N (0,zB 4 0) h16))
theorem Zao.p1_ok {n_1 a_12 st r c1_ J1} (h:Zao.p1 N c1_ (n_1,a_12)=some r) (hE:En Tryz.f196 g0 w0 (Zao.rs r) st R) (hc1 : ∀n_1 a_12,c1_ (n_1,a_12)=some r→At g0 w0 (Zao.p1.S n_1 a_12 st) J1):At g0 w0 (Zao.p1.S n_1 a_12 st) (XK zG R (.c (csub Zao.B [1,1,1,0,0,0]) :: .h J1 :: [.b 0,.c (csub Zao.B [1,1,1,1])])):=by
 unfold Zao.p1 at h
 refine iteB h (fun c64 h17=>?_) (fun c64 h18=>?_)
 ·exact an fol [.r [],.c true,.r [(6,{m:=3})],.r []] [1,2,4,5] [2,4,5] (aI c64 (ix 0 4 (ix 1 4 (aI (leI 0 2) (ltI 2 4))))) (hc1 (w64 (n_1-64)) [0,zE a_12 0 0,zE a_12 1 0,zE a_12 2 0] h17)
 ·exact aq fol [.r [],.c false] [1,2,4,5] [2,4,5] c64 (At.loop N (At.loopN (fun y:Int×(List Int)=>Zao.p2.S y.1 y.2 st) (fun c J hc y h=>Zao.p2_ok (n_13:=y.1) (a_18:=y.2) h hE (fun n_13 a_18=>hc (n_13,a_18))) N (n_1,a_12) h18))
theorem Zao.snd {a_0_0:List Int} {n_1:Int} {r:(List Int)} (h:Zao N a_0_0 n_1=some r):SndQ zG 196 [.agg [zH .u64 4 a_0_0],oI n_1] (Zao.rs r):=fun st=>
 sO Zao.B Tryz.func196 fun g0 w0 R hE=>by
  unfold Zao at h
  refine iteB h (fun c1 h19=>?_) (fun c1 h20=>?_)
  ·obtain rfl:=Zac h19
   exact af fol hE [.r [],.r [],.r [(3,wF),(4,wF)],.c true,.r []] [] 0 [] (aK c1 c1 c1 eT)
  ·let o2:List PS:=[.r [],.r [],.r [(5,yF)]]
   refine iteB h20 (fun c2 h21=>?_) (fun c2 h22=>?_)
   ·obtain rfl:=Zac h21
    exact af fol hE (o2 ++ [.c true,.r []]) [] 0 [] (aK c1 c1 c1 c2)
   ·exact aq fol (o2 ++ [.c false]) [1,2,4,5] [2,4,5] (aK c1 c1 c1 c2) (At.loop N (At.loopN (fun y:Int×(List Int)=>Zao.p1.S y.1 y.2 st) (fun c J hc y h=>Zao.p1_ok (n_1:=y.1) (a_12:=y.2) h hE (fun n_1 a_12=>hc (n_1,a_12))) N (n_1,a_0_0) h22))
def ZaM.B:Code:=Tryz.f163.body.getD .skip
def ZaM.rs (r:(List Int)×Bool×Bool):List CV:=[.agg [zH .u64 4 r.1],oB r.2.1,oB r.2.2]
def ZaM.p1 (N:Nat) (bits_0:Int) (over_2:Bool) (x1:List Int):Option ((List Int)×Bool×Bool):=
 if (decide ((zR bits_0 8388608)>0))=true then
  some (x1,(zR (w64 (zP bits_0 8388608)) 2)==1,over_2)
 else
 some (x1,false,over_2)
def ZaM (N:Nat) (bits_0:Int):Option ((List Int)×Bool×Bool):=
 if (decide (bits_0<0))=true then
  some (zB 4 0,false,false)
 else
 if (decide (bits_0>4294967295))=true then
  some (zB 4 0,false,false)
 else
 optE (Zao N [v64 (zR bits_0 8388608),0,0,0] (w64 (8*(w64 ((w64 (zP bits_0 16777216))-3))))) fun x1=>
 if (decide ((zR bits_0 8388608)>0))=true then
  if (decide ((w64 (zP bits_0 16777216))>34))=true then
   ZaM.p1 N bits_0 true x1
  else
  if (decide ((zR bits_0 8388608)>255))=true then
   if (decide ((w64 (zP bits_0 16777216))>33))=true then
    ZaM.p1 N bits_0 true x1
   else
   if (decide ((zR bits_0 8388608)>65535))=true then
    ZaM.p1 N bits_0 (decide ((w64 (zP bits_0 16777216))>32)) x1
   else
   ZaM.p1 N bits_0 false x1
  else
  if (decide ((zR bits_0 8388608)>65535))=true then
   ZaM.p1 N bits_0 (decide ((w64 (zP bits_0 16777216))>32)) x1
  else
  ZaM.p1 N bits_0 false x1
 else
 if (decide ((zR bits_0 8388608)>255))=true then
  if (decide ((w64 (zP bits_0 16777216))>33))=true then
   ZaM.p1 N bits_0 true x1
  else
  if (decide ((zR bits_0 8388608)>65535))=true then
   ZaM.p1 N bits_0 (decide ((w64 (zP bits_0 16777216))>32)) x1
  else
  ZaM.p1 N bits_0 false x1
 else
 if (decide ((zR bits_0 8388608)>65535))=true then
  ZaM.p1 N bits_0 (decide ((w64 (zP bits_0 16777216))>32)) x1
 else
 ZaM.p1 N bits_0 false x1
def ZaM.p1.S (bits_0:Int) (over_2:Bool) (x1:List Int) (st:LL):S:=mkS 61 [(2,sA 2),(6,sI (zR bits_0 8388608)),(7,.one (.l (yX ((zR (w64 (zP bits_0 8388608)) 2)==1)))),(8,sA 8),(9,.one (.l (yX over_2)))] [(2,.cells [zH .u64 4 (zB 4 0)]),(8,.cells [zH .u64 4 x1])] st
theorem ZaM.p1_ok {bits_0 over_2 x1 st r} (h:ZaM.p1 N bits_0 over_2 x1=some r) (hE:En Tryz.f163 g0 w0 (ZaM.rs r) st R):At g0 w0 (ZaM.p1.S bits_0 over_2 x1 st) (XK zG R [.c (csub ZaM.B [1,1,1,1,1,1,1])]):=by
 unfold ZaM.p1 at h
 refine iteB h (fun c14 h1=>?_) (fun c14 h2=>?_)
 ·obtain rfl:=Zac h1
  exact af fol hE [.r []] [] 0 [] (aI c14 c14)
 ·obtain rfl:=Zac h2
  exact af fol hE [.r [(4,wF),(5,yF)]] [] 0 [] (aI c14 c14)
theorem ZaM.snd {bits_0:Int} {r:(List Int)×Bool×Bool} (h:ZaM N bits_0=some r):SndQ zG 163 [oI bits_0] (ZaM.rs r):=fun st=>
 sO ZaM.B Tryz.func163 fun g0 w0 R hE=>by
  unfold ZaM at h
  refine iteB h (fun c1 h3=>?_) (fun c1 h4=>?_)
  ·obtain rfl:=Zac h3
   exact af fol hE [.r [],.r [(3,wF),(4,wF)],.c true,.r []] [] 0 [] (aK c1 c1 c1 eT)
  ·let o1:List PS:=[.r [],.r [(5,yF)]]
   have t1 {Q:Prop} (q:Q):=aK c1 c1 c1 q
   refine iteB h4 (fun c2 h5=>?_) (fun c2 h6=>?_)
   ·obtain rfl:=Zac h5
    exact af fol hE (o1 ++ [.c true,.r []]) [] 0 [] (t1 c2)
   ·obtain ⟨x1,c3,h7⟩:=Zae h6
    let o2:List PS:=o1 ++ [.c false,.r [],.r [],.r [],.r [(2,{m:=3}),(6,q1 [.agg [zH .u64 4 x1]])]]
    have t2 {Q:Prop} (q:Q):=t1 (aN c2 (neI 16777216) (neI 8388608) (neI 8388608) (neI 2) (Zao.snd c3) q)
    refine iteB h7 (fun c4 h8=>?_) (fun c4 h9=>?_)
    ·have t3 {Q:Prop} (q:Q):=t2 (aK c4 c4 c4 q)
     refine iteB h8 (fun c5 h10=>?_) (fun c5 h11=>?_)
     ·exact aq fol (o2 ++ [.r [(7,wF),(8,wF),(9,wF),(12,wF),(15,wF),(16,wF),(17,wF),(20,wF)],.s 1]) [2,6,7,8,9] [2,8] (t3 (aO c5 c5 c5 c5 c5 eT eT (aJ eT eT eT))) (ZaM.p1_ok h10 hE)
     ·have t4 {Q:Prop} (q:Q):=t3 (aK c5 c5 c5 q)
      refine iteB h11 (fun c6 h12=>?_) (fun c6 h13=>?_)
      ·refine iteB h12 (fun c7 h14=>?_) (fun c7 h15=>?_)
       ·exact aq fol (o2 ++ [.r [(13,yF),(15,wF),(16,wF),(17,wF),(20,wF)],.s 1]) [2,6,7,8,9] [2,8] (t4 (aO c6 c6 c5 c6 c5 c7 c7 (aJ c7 c7 c7))) (ZaM.p1_ok h14 hE)
       ·refine iteB h15 (fun c8 h16=>?_) (fun c8 h17=>?_)
        ·exact aq fol (o2 ++ [.r [(13,yF),(21,yF)],.s 1]) [2,6,7,8,9] [2,8] (t4 (aO c6 c6 c5 c6 c5 c7 c7 (aM c7 c8 c8 c7 c8 c7))) (ZaM.p1_ok h16 hE)
        ·exact aq fol (o2 ++ [.r [(13,yF),(18,wF),(19,wF),(20,yF),(21,yF)],.s 1]) [2,6,7,8,9] [2,8] (t4 (aO c6 c6 c5 c6 c5 c7 c7 (aM c7 c8 c8 c7 c8 c7))) (ZaM.p1_ok h17 hE)
      ·have t5 {Q:Prop} (q:Q):=t4 (aO c6 c6 c5 c6 c5 eF eF (aI eF q))
       refine iteB h13 (fun c9 h18=>?_) (fun c9 h19=>?_)
       ·exact aq fol (o2 ++ [.r [(10,wF),(11,wF),(12,yF),(13,yF),(21,yF)],.s 1]) [2,6,7,8,9] [2,8] (t5 (aL c9 c9 eF c9 eF)) (ZaM.p1_ok h18 hE)
       ·exact aq fol (o2 ++ [.r [(10,wF),(11,wF),(12,yF),(13,yF),(18,wF),(19,wF),(20,yF),(21,yF)],.s 1]) [2,6,7,8,9] [2,8] (t5 (aL c9 c9 eF c9 eF)) (ZaM.p1_ok h19 hE)
    ·have t6 {Q:Prop} (q:Q):=t2 (aN c4 c4 c4 eF eF eF q)
     refine iteB h9 (fun c10 h20=>?_) (fun c10 h21=>?_)
     ·have t7 {Q:Prop} (q:Q):=t6 (aM c10 c10 eF c10 eF q)
      refine iteB h20 (fun c11 h22=>?_) (fun c11 h23=>?_)
      ·exact aq fol (o2 ++ [.r [(3,wF),(4,wF),(5,yF),(13,yF),(15,wF),(16,wF),(17,wF),(20,wF)],.s 1]) [2,6,7,8,9] [2,8] (t7 (aL c11 c11 c11 c11 c11)) (ZaM.p1_ok h22 hE)
      ·refine iteB h23 (fun c12 h24=>?_) (fun c12 h25=>?_)
       ·exact aq fol (o2 ++ [.r [(3,wF),(4,wF),(5,yF),(13,yF),(21,yF)],.s 1]) [2,6,7,8,9] [2,8] (t7 (aO c11 c11 c11 c12 c12 c11 c12 c11)) (ZaM.p1_ok h24 hE)
       ·exact aq fol (o2 ++ [.r [(3,wF),(4,wF),(5,yF),(13,yF),(18,wF),(19,wF),(20,yF),(21,yF)],.s 1]) [2,6,7,8,9] [2,8] (t7 (aO c11 c11 c11 c12 c12 c11 c12 c11)) (ZaM.p1_ok h25 hE)
     ·have t8 {Q:Prop} (q:Q):=t6 (aO c10 c10 eF c10 eF eF eF (aI eF q))
      refine iteB h21 (fun c13 h26=>?_) (fun c13 h27=>?_)
      ·exact aq fol (o2 ++ [.r [(3,wF),(4,wF),(5,yF),(10,wF),(11,wF),(12,yF),(13,yF),(21,yF)],.s 1]) [2,6,7,8,9] [2,8] (t8 (aL c13 c13 eF c13 eF)) (ZaM.p1_ok h26 hE)
      ·exact aq fol (o2 ++ [.r [(3,wF),(4,wF),(5,yF),(10,wF),(11,wF),(12,yF),(13,yF),(18,wF),(19,wF),(20,yF),(21,yF)],.s 1]) [2,6,7,8,9] [2,8] (t8 (aL c13 c13 eF c13 eF)) (ZaM.p1_ok h27 hE)
def Zcx.B:Code:=Tryz.f119.body.getD .skip
def Zcx.rs (r:Int):List CV:=[oI r]
def Zcx (N:Nat) (a_0_0:List Int) (i_1:Int):Option Int:=
 if (decide (i_1<0))=true then
  some 0
 else
 if (decide (i_1>255))=true then
  some 0
 else
 chk (0≤(w64 (zP i_1 64)))<|
 chk ((w64 (zP i_1 64))<4)<|
 chk (0≤(v64 (zR i_1 64)))<|
 some (w64 (zR (shrOf .u64 (zE a_0_0 (zF (w64 (zP i_1 64))) 0) (v64 (zR i_1 64))) 2))
theorem Zcx.snd {a_0_0:List Int} {i_1:Int} {r:Int} (h:Zcx N a_0_0 i_1=some r):SndQ zG 119 [.agg [zH .u64 4 a_0_0],oI i_1] (Zcx.rs r):=fun st=>
 sO Zcx.B Tryz.func119 fun g0 w0 R hE=>by
  unfold Zcx at h
  refine iteB h (fun c1 h1=>?_) (fun c1 h2=>?_)
  ·obtain rfl:=Zac h1
   exact af fol hE [.r [],.r [(3,wF),(4,wF)],.c true,.r []] [] 0 [] (aK c1 c1 c1 eT)
  ·refine iteB h2 (fun c2 h3=>?_) (fun c2 h4=>?_)
   ·obtain rfl:=Zac h3
    exact af fol hE [.r [],.r [(5,yF)],.c true,.r []] [] 0 [] (aK c1 c1 c1 c2)
   ·obtain ⟨c3,c4,c5,h5⟩:=ck3 h4
    obtain rfl:=Zac h5
    exact af fol hE [.r [],.r [(5,yF)],.c false,.r []] [] 0 [] (aO c1 c1 c1 c2 (neI 64) c3 c4 (aJ (neI 64) c5 (neI 2)))
def Zbp.B:Code:=Tryz.f65.body.getD .skip
def Zbp.rs (r:Bool):List CV:=[oB r]
def Zbp.p1 (N:Nat) (a_0_0 b_1_0:List Int) (c1_:Int→Option Bool):Int→Option Bool:=fun i_1=>
 if (decide (i_1≥0))=true then
  optE (Zcx N a_0_0 i_1) fun x2=>
  optE (Zcx N b_1_0 i_1) fun x3=>
  if (x2 != x3)=true then
   some (decide (x2<x3))
  else
  c1_ (w64 (i_1-1))
 else
 some false
def Zbp (N:Nat) (a_0_0 b_1_0:List Int):Option Bool:=
 loopN (Zbp.p1 N a_0_0 b_1_0) N 255
def Zbp.p1.S (i_1:Int) (a_0_0 b_1_0:List Int) (st:LL):S:=mkS 24 [(2,sA 2),(3,sA 3),(5,sI i_1)] [(2,.cells [zH .u64 4 a_0_0]),(3,.cells [zH .u64 4 b_1_0])] st
theorem Zbp.p1_ok {i_1 a_0_0 b_1_0 st r c1_ J1} (h:Zbp.p1 N a_0_0 b_1_0 c1_ i_1=some r) (hE:En Tryz.f65 g0 w0 (Zbp.rs r) st R) (hc1 : ∀i_1,c1_ i_1=some r→At g0 w0 (Zbp.p1.S i_1 a_0_0 b_1_0 st) J1):At g0 w0 (Zbp.p1.S i_1 a_0_0 b_1_0 st) (XK zG R (.c (csub Zbp.B [1,0,1,0,0]) :: .h J1 :: [.b 0,.c (csub Zbp.B [1,1])])):=by
 unfold Zbp.p1 at h
 refine iteB h (fun c1 h1=>?_) (fun c1 h2=>?_)
 ·obtain ⟨x2,c2,h3⟩:=Zae h1
  obtain ⟨x3,c3,h4⟩:=Zae h3
  let o1:List PS:=[.r [],.c true,.d {ds:=[(2,q1 [oI x2]),(5,q1 [oI x3])],hv:=0,Hs:=[]}]
  have t1 {Q:Prop} (q:Q):=aK c1 (Zcx.snd c2) (Zcx.snd c3) q
  refine iteB h4 (fun c4 h5=>?_) (fun c4 h6=>?_)
  ·obtain rfl:=Zac h5
   exact afd fol hE (o1 ++ [.c true,.d {ds:=[(2,q1 [oI x2]),(5,q1 [oI x3])],hv:=0,Hs:=[]}]) [] 0 [] (t1 (aJ c4 (Zcx.snd c2) (Zcx.snd c3)))
  ·exact and_ fol (o1 ++ [.c false,.r []]) [2,3,5] [2,3] (t1 c4) (hc1 (w64 (i_1-1)) h6)
 ·obtain rfl:=Zac h2
  exact af fol hE [.r [],.c false,.r []] [] 0 [] c1
theorem Zbp.snd {a_0_0 b_1_0:List Int} {r:Bool} (h:Zbp N a_0_0 b_1_0=some r):SndQ zG 65 [.agg [zH .u64 4 a_0_0],.agg [zH .u64 4 b_1_0]] (Zbp.rs r):=fun st=>
 sO Zbp.B Tryz.func65 fun g0 w0 R hE=>by
  unfold Zbp at h
  exact aq fol [.r [],.r []] [2,3,5] [2,3] trivial (At.loop N (At.loopN (fun y:Int=>Zbp.p1.S y a_0_0 b_1_0 st) (fun c J hc y h=>Zbp.p1_ok h hE (fun i_1=>hc i_1)) N 255 h))
def Zco.B:Code:=Tryz.f172.body.getD .skip
def Zco.rs (r:(List Int)×Bool):List CV:=[.agg [zH .u64 4 r.1],oB r.2]
def Zco (N:Nat) (bits_0 limit_1:Int):Option ((List Int)×Bool):=
 optE (ZaM N bits_0) fun (x1,x2,x3)=>
 optE (ZaM N limit_1) fun (x4,x5,x6)=>
 if x2=true then
  some (zB 4 0,false)
 else
 if x3=true then
  some (zB 4 0,false)
 else
 if x5=true then
  some (zB 4 0,false)
 else
 if x6=true then
  some (zB 4 0,false)
 else
 if (x1==(zB 4 0))=true then
  some (zB 4 0,false)
 else
 optE (Zbp N x4 x1) fun x7=>
 if x7=true then
  some (zB 4 0,false)
 else
 some (x1,true)
theorem Zco.snd {bits_0 limit_1:Int} {r:(List Int)×Bool} (h:Zco N bits_0 limit_1=some r):SndQ zG 172 [oI bits_0,oI limit_1] (Zco.rs r):=fun st=>
 sO Zco.B Tryz.func172 fun g0 w0 R hE=>by
  unfold Zco at h
  obtain ⟨⟨x1,x2,x3⟩,c1,h1⟩:=Zae h
  obtain ⟨⟨x4,x5,x6⟩,c2,h2⟩:=Zae h1
  let o1:List PS:=[.r [],.r [(1,q1 [.agg [zH .u64 4 x1],oB x2,oB x3])],.r [(1,q1 [.agg [zH .u64 4 x4],oB x5,oB x6])]]
  have t1 {Q:Prop} (q:Q):=aJ (ZaM.snd c1) (ZaM.snd c2) q
  refine iteB h2 (fun c3 h3=>?_) (fun c3 h4=>?_)
  ·obtain rfl:=Zac h3
   exact af fol hE (o1 ++ [.r [(2,wF),(5,wF),(8,wF),(11,wF),(12,wF),(13,wF),(16,wF),(17,wF),(18,wF)],.c true,.r []]) [] 0 [] (t1 (aO c3 c3 eT eT eT eT eT (aO eT eT eT eT eT eT eT eT)))
  ·refine iteB h4 (fun c4 h5=>?_) (fun c4 h6=>?_)
   ·obtain rfl:=Zac h5
    exact af fol hE (o1 ++ [.r [(3,yF),(5,wF),(8,wF),(11,wF),(12,wF),(13,wF),(16,wF),(17,wF),(18,wF)],.c true,.r []]) [] 0 [] (t1 (aO c3 c3 c4 c4 eT eT eT (aO eT eT eT eT eT eT eT eT)))
   ·have t2 {Q:Prop} (q:Q):=t1 (aL c3 c3 c4 c4 q)
    refine iteB h6 (fun c5 h7=>?_) (fun c5 h8=>?_)
    ·obtain rfl:=Zac h7
     exact af fol hE (o1 ++ [.r [(3,yF),(6,yF),(8,wF),(11,wF),(12,wF),(13,wF),(16,wF),(17,wF),(18,wF)],.c true,.r []]) [] 0 [] (t2 (aO c5 c5 eT eT eT eT eT (aK eT eT eT eT)))
    ·refine iteB h8 (fun c6 h9=>?_) (fun c6 h10=>?_)
     ·obtain rfl:=Zac h9
      exact af fol hE (o1 ++ [.r [(3,yF),(6,yF),(9,yF),(11,wF),(12,wF),(13,wF),(16,wF),(17,wF),(18,wF)],.c true,.r []]) [] 0 [] (t2 (aO c5 c5 c6 c6 c6 c6 eT (aK eT eT eT eT)))
     ·have t3 {Q:Prop} (q:Q):=t2 (aN c5 c5 c6 c6 c6 c6 q)
      refine iteB h10 (fun c7 h11=>?_) (fun c7 h12=>?_)
      ·obtain rfl:=Zac h11
       exact af fol hE (o1 ++ [.r [(3,yF),(6,yF),(9,yF),(14,yF),(16,wF),(17,wF),(18,wF)],.c true,.r []]) [] 0 [] (t3 (aL c7 c7 c7 c7 eT))
      ·obtain ⟨x7,c8,h13⟩:=Zae h12
       let o2:List PS:=o1 ++ [.r [(3,yF),(6,yF),(9,yF),(14,yF),(18,q1 [oB x7]),(19,yF)]]
       refine iteB h13 (fun c9 h14=>?_) (fun c9 h15=>?_)
       ·obtain rfl:=Zac h14
        exact af fol hE (o2 ++ [.c true,.r []]) [] 0 [] (t3 (aM c7 c7 c7 (Zbp.snd c8) c7 c9))
       ·obtain rfl:=Zac h15
        exact af fol hE (o2 ++ [.c false,.r []]) [] 0 [] (t3 (aM c7 c7 c7 (Zbp.snd c8) c7 c9))
def Zdf.B:Code:=Tryz.f142.body.getD .skip
def Zdf.rs (r:Bool):List CV:=[oB r]
def Zdf (N:Nat) (p_0:Zak):Option Bool:=
 optE (Zco N p_0.Limit p_0.Limit) fun (x1,x2)=>
 if x2=true then
  if (decide (p_0.Interval≥2))=true then
   if (decide (p_0.Interval≤64))=true then
    if (decide (p_0.Spacing≥1))=true then
     if (decide (p_0.Spacing≤10000))=true then
      if (decide (p_0.Future≥0))=true then
       some (decide (p_0.Future<4294967296))
      else
      some false
     else
     some false
    else
    some false
   else
   some false
  else
  some false
 else
 some false
theorem Zdf.snd {p_0:Zak} {r:Bool} (h:Zdf N p_0=some r):SndQ zG 142 [.agg p_0.ls] (Zdf.rs r):=fun st=>
 sO Zdf.B Tryz.func142 fun g0 w0 R hE=>by
  unfold Zdf at h
  obtain ⟨⟨x1,x2⟩,c1,h1⟩:=Zae h
  let o1:List PS:=[.r [],.r [(4,q1 [.agg [zH .u64 4 x1],oB x2])]]
  have t1 {Q:Prop} (q:Q):=aI (Zco.snd c1) q
  refine iteB h1 (fun c2 h2=>?_) (fun c2 h3=>?_)
  ·have t2 {Q:Prop} (q:Q):=t1 (aL c2 c2 c2 c2 q)
   refine iteB h2 (fun c3 h4=>?_) (fun c3 h5=>?_)
   ·have t3 {Q:Prop} (q:Q):=t2 (aL c3 c3 c3 c3 q)
    refine iteB h4 (fun c4 h6=>?_) (fun c4 h7=>?_)
    ·have t4 {Q:Prop} (q:Q):=t3 (aL c4 c4 c4 c4 q)
     refine iteB h6 (fun c5 h8=>?_) (fun c5 h9=>?_)
     ·refine iteB h8 (fun c6 h10=>?_) (fun c6 h11=>?_)
      ·refine iteB h10 (fun c7 h12=>?_) (fun c7 h13=>?_)
       ·obtain rfl:=Zac h12
        exact af fol hE (o1 ++ [.r []]) [] 0 [] (t4 (aO c5 c5 c5 c5 c6 c6 c6 (aL c6 c7 c7 c7 c7)))
       ·obtain rfl:=Zac h13
        exact af fol hE (o1 ++ [.r [(27,wF),(28,wF),(29,wF),(30,yF)]]) [] 0 [] (t4 (aO c5 c5 c5 c5 c6 c6 c6 (aL c6 c7 c7 c7 c7)))
      ·obtain rfl:=Zac h11
       exact af fol hE (o1 ++ [.r [(22,wF),(23,wF),(24,wF),(25,yF),(27,wF),(28,wF),(29,wF),(30,yF)]]) [] 0 [] (t4 (aO c5 c5 c5 c5 c6 c6 c6 (aL c6 eF eF eF eF)))
     ·obtain rfl:=Zac h9
      exact af fol hE (o1 ++ [.r [(17,wF),(18,wF),(19,wF),(20,yF),(22,wF),(23,wF),(24,wF),(25,yF),(27,wF),(28,wF),(29,wF),(30,yF)]]) [] 0 [] (t4 (aO c5 c5 c5 c5 eF eF eF (aL eF eF eF eF eF)))
    ·obtain rfl:=Zac h7
     exact af fol hE (o1 ++ [.r [(12,wF),(13,wF),(14,wF),(15,yF),(17,wF),(18,wF),(19,wF),(20,yF),(22,wF),(23,wF),(24,wF),(25,yF),(27,wF),(28,wF),(29,wF),(30,yF)]]) [] 0 [] (t3 (aO c4 c4 c4 c4 eF eF eF (aO eF eF eF eF eF eF eF (aI eF eF))))
   ·obtain rfl:=Zac h5
    exact af fol hE (o1 ++ [.r [(7,wF),(8,wF),(9,wF),(10,yF),(12,wF),(13,wF),(14,wF),(15,yF),(17,wF),(18,wF),(19,wF),(20,yF),(22,wF),(23,wF),(24,wF),(25,yF),(27,wF),(28,wF),(29,wF),(30,yF)]]) [] 0 [] (t2 (aO c3 c3 c3 c3 eF eF eF (aO eF eF eF eF eF eF eF (aM eF eF eF eF eF eF))))
  ·obtain rfl:=Zac h3
   exact af fol hE (o1 ++ [.r [(2,wF),(3,wF),(4,wF),(5,yF),(7,wF),(8,wF),(9,wF),(10,yF),(12,wF),(13,wF),(14,wF),(15,yF),(17,wF),(18,wF),(19,wF),(20,yF),(22,wF),(23,wF),(24,wF),(25,yF),(27,wF),(28,wF),(29,wF),(30,yF)]]) [] 0 [] (t1 (aO c2 c2 c2 c2 eF eF eF (aO eF eF eF eF eF eF eF (aO eF eF eF eF eF eF eF (aJ eF eF eF)))))
def Zbl.B:Code:=Tryz.f83.body.getD .skip
def Zbl.rs (r:Bool):List CV:=[oB r]
def Zbl.p2 (N:Nat) (p_0:Zak) (c2_:(Int×Int)→Option Bool):(Int×Int)→Option Bool:=fun (last_6,v7)=>
 if (decide (v7<(len p_0.Checks)))=true then
  chk (0≤v7)<|
  getE (p_0.Checks[zF v7]?) ZdG fun x8=>
  if (decide (x8.Height≤last_6))=true then
   some false
  else
  c2_ (x8.Height,w64 (v7+1))
 else
 some true
def Zbl.p1 (N:Nat) (p_0:Zak) (c1_:(Int×Int)→Option Bool):(Int×Int)→Option Bool:=fun (last_3,v4)=>
 if (decide (v4<(len p_0.Gates)))=true then
  chk (0≤v4)<|
  getE (p_0.Gates[zF v4]?) ZdT fun x5=>
  if (decide (x5.Height≤last_3))=true then
   some false
  else
  c1_ (x5.Height,w64 (v4+1))
 else
 loopN (Zbl.p2 N p_0) N (0,0)
def Zbl (N:Nat) (p_0:Zak):Option Bool:=
 optE (Zdf N p_0) fun x1=>
 if (!x1)=true then
  some false
 else
 optE (ZcG N p_0.Genesis) fun x2=>
 if (!x2)=true then
  some false
 else
 loopN (Zbl.p1 N p_0) N ((-1),0)
def Zbl.p2.S (last_6:Int) (p_0:Zak) (v7:Int) (st:LL):S:=mkS 45 [(3,sI last_6),(32,sV 33 p_0.Checks),(33,sI (len p_0.Checks)),(34,sI v7)] [] st
def Zbl.p1.S (last_3:Int) (p_0:Zak) (v4:Int) (st:LL):S:=mkS 45 [(1,sA 1),(3,sI last_3),(18,sV 2 p_0.Gates),(19,sI (len p_0.Gates)),(20,sI v4)] [(1,.cells p_0.ls)] st
theorem Zbl.p2_ok {last_6 p_0 v7 st r c2_ J2} (h:Zbl.p2 N p_0 c2_ (last_6,v7)=some r) (hE:En Tryz.f83 g0 w0 (Zbl.rs r) st R) (hc2 : ∀last_6 v7,c2_ (last_6,v7)=some r→At g0 w0 (Zbl.p2.S last_6 p_0 v7 st) J2):At g0 w0 (Zbl.p2.S last_6 p_0 v7 st) (XK zG R (.c (csub Zbl.B [1,1,1,1,1,0,1,0,0]) :: .h J2 :: [.b 2,.c (csub Zbl.B [1,1,1,1,1,1])])):=by
 unfold Zbl.p2 at h
 refine iteB h (fun c9 h1=>?_) (fun c9 h2=>?_)
 ·obtain ⟨c10,h3⟩:=ZaN h1
  obtain ⟨x8,c11,h4⟩:=ZdP h3
  let o1:List PS:=[.r [],.c true,.r [(1,{oe:=x8.ls})],.r []]
  refine iteB h4 (fun c12 h5=>?_) (fun c12 h6=>?_)
  ·obtain rfl:=Zac h5
   exact af fol hE (o1 ++ [.c true,.r []]) [] 0 [] (aL c9 c10 (oD c9) c11 c12)
  ·exact an fol (o1 ++ [.c false,.r [],.r []]) [3,32,33,34] [] (aL c9 c10 (oD c9) c11 c12) (hc2 x8.Height (w64 (v7+1)) h6)
 ·obtain rfl:=Zac h2
  exact af fol hE [.r [],.c false,.r []] [] 0 [] c9
theorem Zbl.p1_ok {last_3 p_0 v4 st r c1_ J1} (h:Zbl.p1 N p_0 c1_ (last_3,v4)=some r) (hE:En Tryz.f83 g0 w0 (Zbl.rs r) st R) (hc1 : ∀last_3 v4,c1_ (last_3,v4)=some r→At g0 w0 (Zbl.p1.S last_3 p_0 v4 st) J1):At g0 w0 (Zbl.p1.S last_3 p_0 v4 st) (XK zG R (.c (csub Zbl.B [1,1,1,0,1,0,0]) :: .h J1 :: [.b 0,.c (csub Zbl.B [1,1,1,1])])):=by
 unfold Zbl.p1 at h
 refine iteB h (fun c5 h7=>?_) (fun c5 h8=>?_)
 ·obtain ⟨c6,h9⟩:=ZaN h7
  obtain ⟨x5,c7,h10⟩:=ZdX h9
  let o2:List PS:=[.r [],.c true,.r [(1,{oe:=x5.ls})],.r []]
  refine iteB h10 (fun c8 h11=>?_) (fun c8 h12=>?_)
  ·obtain rfl:=Zac h11
   exact af fol hE (o2 ++ [.c true,.r []]) [] 0 [] (aL c5 c6 (oD c5) c7 c8)
  ·exact an fol (o2 ++ [.c false,.r [],.r []]) [1,3,18,19,20] [1] (aL c5 c6 (oD c5) c7 c8) (hc1 x5.Height (w64 (v4+1)) h12)
 ·exact aq fol [.r [],.c false,.r [],.r []] [3,32,33,34] [] c5 (At.loop N (At.loopN (fun y:Int×Int=>Zbl.p2.S y.1 p_0 y.2 st) (fun c J hc y h=>Zbl.p2_ok (last_6:=y.1) (v7:=y.2) h hE (fun last_6 v7=>hc (last_6,v7))) N (0,0) h8))
theorem Zbl.snd {p_0:Zak} {r:Bool} (h:Zbl N p_0=some r):SndQ zG 83 [.agg p_0.ls] (Zbl.rs r):=fun st=>
 sO Zbl.B Tryz.func83 fun g0 w0 R hE=>by
  unfold Zbl at h
  obtain ⟨x1,c1,h13⟩:=Zae h
  have t1 {Q:Prop} (q:Q):=aI (Zdf.snd c1) q
  refine iteB h13 (fun c2 h14=>?_) (fun c2 h15=>?_)
  ·obtain rfl:=Zac h14
   exact af fol hE [.r [],.r [(1,q1 [oB x1]),(4,wF),(5,wF),(6,wF),(7,wF)],.c true,.r []] [] 0 [] (t1 (aM (not_false (ZaX c2)) (not_false (ZaX c2)) (not_false (ZaX c2)) (not_false (ZaX c2)) (not_false (ZaX c2)) eT))
  ·obtain ⟨x2,c3,h16⟩:=Zae h15
   let o3:List PS:=[.r [],.r [(1,q1 [oB x1]),(6,q1 [oB x2]),(8,yF)]]
   have t2 {Q:Prop} (q:Q):=t1 (aN (not_true (ZaU c2)) (not_true (ZaU c2)) (not_true (ZaU c2)) (ZcG.snd c3) (not_true (ZaU c2)) (not_true (ZaU c2)) q)
   refine iteB h16 (fun c4 h17=>?_) (fun c4 h18=>?_)
   ·obtain rfl:=Zac h17
    exact af fol hE (o3 ++ [.c true,.r []]) [] 0 [] (t2 c4)
   ·exact aq fol (o3 ++ [.c false,.r [],.r []]) [1,3,18,19,20] [1] (t2 c4) (At.loop N (At.loopN (fun y:Int×Int=>Zbl.p1.S y.1 p_0 y.2 st) (fun c J hc y h=>Zbl.p1_ok (last_3:=y.1) (v4:=y.2) h hE (fun last_3 v4=>hc (last_3,v4))) N ((-1),0) h18))
def Zba.B:Code:=Tryz.f58.body.getD .skip
def Zba.rs (r:Bool):List CV:=[oB r]
def Zba.p2 (N:Nat) (script_1:LL) (n_1:Int) (c_0:Zbc) (c2_:Int→Option Bool):Int→Option Bool:=fun v4=>
 if (decide (v4<(len c_0.Base)))=true then
  chk (0≤v4)<|
  getE (c_0.Base[zF v4]?) Zch fun x5=>
  optE (ZcG N x5) fun x6=>
  if (!x6)=true then
   some true
  else
  c2_ (w64 (v4+1))
 else
 if (decide ((len c_0.P.Gates)>20))=true then
  some true
 else
 if (decide ((len c_0.P.Checks)>20))=true then
  some true
 else
 if (decide ((len c_0.Base)>20))=true then
  some true
 else
 if (decide ((len script_1)>12))=true then
  some true
 else
 if (decide (n_1>200))=true then
  some true
 else
 optE (Zbl N c_0.P) fun x7=>
 some (!x7)
def Zba.p1 (N:Nat) (script_1:LL) (c_0:Zbc) (c1_:(Int×Int)→Option Bool):(Int×Int)→Option Bool:=fun (n_1,v2)=>
 if (decide (v2<(len script_1)))=true then
  chk (0≤v2)<|
  getE (script_1[zF v2]?) ZcN fun x3=>
  if (decide ((len x3.List_)>70))=true then
   some true
  else
  c1_ (w64 (n_1+(len x3.List_)),w64 (v2+1))
 else
 loopN (Zba.p2 N script_1 n_1 c_0) N 0
def Zba (N:Nat) (c_0:Zbc) (script_1:LL):Option Bool:=
 loopN (Zba.p1 N script_1 c_0) N (0,0)
def Zba.p2.S (script_1:LL) (n_1:Int) (c_0:Zbc) (v4:Int) (st:LL):S:=mkS 70 [(1,sV 3 script_1),(2,sA 2),(5,sI n_1),(27,sV 68 c_0.Base),(28,sI (len c_0.Base)),(29,sI v4)] [(2,.cells c_0.ls)] st
def Zba.p1.S (script_1:LL) (n_1 v2:Int) (c_0:Zbc) (st:LL):S:=mkS 70 [(1,sV 3 script_1),(2,sA 2),(5,sI n_1),(10,sV 3 script_1),(11,sI (len script_1)),(12,sI v2)] [(2,.cells c_0.ls)] st
theorem Zba.p2_ok {script_1 n_1 c_0 v4 st r c2_ J2} (h:Zba.p2 N script_1 n_1 c_0 c2_ v4=some r) (hE:En Tryz.f58 g0 w0 (Zba.rs r) st R) (hc2 : ∀v4,c2_ v4=some r→At g0 w0 (Zba.p2.S script_1 n_1 c_0 v4 st) J2):At g0 w0 (Zba.p2.S script_1 n_1 c_0 v4 st) (XK zG R (.c (csub Zba.B [1,1,1,0,1,0,0]) :: .h J2 :: [.b 2,.c (csub Zba.B [1,1,1,1])])):=by
 unfold Zba.p2 at h
 refine iteB h (fun c5 h1=>?_) (fun c5 h2=>?_)
 ·obtain ⟨c6,h3⟩:=ZaN h1
  obtain ⟨x5,c7,h4⟩:=ZbS h3
  obtain ⟨x6,c8,h5⟩:=Zae h4
  let o1:List PS:=[.r [],.c true,.r [(1,{oe:=x5.ls})],.r [(1,q1 [oB x6])]]
  have t1 {Q:Prop} (q:Q):=aM c5 c6 (oD c5) c7 (ZcG.snd c8) q
  refine iteB h5 (fun c9 h6=>?_) (fun c9 h7=>?_)
  ·obtain rfl:=Zac h6
   exact af fol hE (o1 ++ [.c true,.r []]) [] 0 [] (t1 c9)
  ·exact an fol (o1 ++ [.c false,.r []]) [1,2,5,27,28,29] [2] (t1 c9) (hc2 (w64 (v4+1)) h7)
 ·let o2:List PS:=[.r [],.c false]
  refine iteB h2 (fun c10 h8=>?_) (fun c10 h9=>?_)
  ·obtain rfl:=Zac h8
   exact af fol hE (o2 ++ [.r [(6,wF),(7,wF),(8,wF),(9,wF),(10,wF),(13,wF),(14,wF),(15,wF),(16,wF),(19,wF),(20,wF),(21,wF),(24,wF),(25,wF),(28,wF),(29,wF),(30,wF),(31,wF)]]) [] 0 [] (aO c5 c10 c10 c10 c10 c10 c10 (aO eT eT eT eT eT eT eT (aO eT eT eT eT eT eT eT (aJ eT eT eT))))
  ·have t2 {Q:Prop} (q:Q):=aO c5 c10 c10 c10 c10 c10 c10 q
   refine iteB h9 (fun c11 h10=>?_) (fun c11 h11=>?_)
   ·obtain rfl:=Zac h10
    exact af fol hE (o2 ++ [.r [(11,yF),(13,wF),(14,wF),(15,wF),(16,wF),(19,wF),(20,wF),(21,wF),(24,wF),(25,wF),(28,wF),(29,wF),(30,wF),(31,wF)]]) [] 0 [] (t2 (aO c11 c11 c11 c11 c11 eT eT (aO eT eT eT eT eT eT eT (aJ eT eT eT))))
   ·have t3 {Q:Prop} (q:Q):=t2 (aM c11 c11 c11 c11 c11 q)
    refine iteB h11 (fun c12 h12=>?_) (fun c12 h13=>?_)
    ·obtain rfl:=Zac h12
     exact af fol hE (o2 ++ [.r [(11,yF),(17,yF),(19,wF),(20,wF),(21,wF),(24,wF),(25,wF),(28,wF),(29,wF),(30,wF),(31,wF)]]) [] 0 [] (t3 (aO c12 c12 c12 c12 eT eT eT (aL eT eT eT eT eT)))
    ·refine iteB h13 (fun c13 h14=>?_) (fun c13 h15=>?_)
     ·obtain rfl:=Zac h14
      exact af fol hE (o2 ++ [.r [(11,yF),(17,yF),(22,yF),(24,wF),(25,wF),(28,wF),(29,wF),(30,wF),(31,wF)]]) [] 0 [] (t3 (aO c12 c12 c12 c12 c13 c13 c13 (aL eT eT eT eT eT)))
     ·refine iteB h15 (fun c14 h16=>?_) (fun c14 h17=>?_)
      ·obtain rfl:=Zac h16
       exact af fol hE (o2 ++ [.r [(11,yF),(17,yF),(22,yF),(26,yF),(28,wF),(29,wF),(30,wF),(31,wF)]]) [] 0 [] (t3 (aO c12 c12 c12 c12 c13 c13 c13 (aL c14 c14 c14 c14 c14)))
      ·obtain ⟨x7,c15,h18⟩:=Zae h17
       obtain rfl:=Zac h18
       exact af fol hE (o2 ++ [.r [(11,yF),(17,yF),(22,yF),(26,yF),(30,q1 [oB x7]),(32,yF)]]) [] 0 [] (t3 (aO c12 c12 c12 c12 c13 c13 c13 (aM c14 c14 c14 (Zbl.snd c15) c14 c14)))
theorem Zba.p1_ok {script_1 n_1 v2 c_0 st r c1_ J1} (h:Zba.p1 N script_1 c_0 c1_ (n_1,v2)=some r) (hE:En Tryz.f58 g0 w0 (Zba.rs r) st R) (hc1 : ∀n_1 v2,c1_ (n_1,v2)=some r→At g0 w0 (Zba.p1.S script_1 n_1 v2 c_0 st) J1):At g0 w0 (Zba.p1.S script_1 n_1 v2 c_0 st) (XK zG R (.c (csub Zba.B [1,1,0,1,0,0]) :: .h J1 :: [.b 0,.c (csub Zba.B [1,1,1])])):=by
 unfold Zba.p1 at h
 refine iteB h (fun c1 h19=>?_) (fun c1 h20=>?_)
 ·obtain ⟨c2,h21⟩:=ZaN h19
  obtain ⟨x3,c3,h22⟩:=ZdS h21
  let o3:List PS:=[.r [],.c true,.r [(1,{oe:=x3.ls})],.r [],.r []]
  refine iteB h22 (fun c4 h23=>?_) (fun c4 h24=>?_)
  ·obtain rfl:=Zac h23
   exact af fol hE (o3 ++ [.c true,.r []]) [] 0 [] (aL c1 c2 (oD c1) c3 c4)
  ·exact an fol (o3 ++ [.c false,.r []]) [1,2,5,10,11,12] [2] (aL c1 c2 (oD c1) c3 c4) (hc1 (w64 (n_1+(len x3.List_))) (w64 (v2+1)) h24)
 ·exact aq fol [.r [],.c false,.r []] [1,2,5,27,28,29] [2] c1 (At.loop N (At.loopN (fun y:Int=>Zba.p2.S script_1 n_1 c_0 y st) (fun c J hc y h=>Zba.p2_ok h hE (fun v4=>hc v4)) N 0 h20))
theorem Zba.snd {c_0:Zbc} {script_1:LL} {r:Bool} (h:Zba N c_0 script_1=some r):SndQ zG 58 [.agg c_0.ls,.one (yM 3 script_1)] (Zba.rs r):=fun st=>
 sO Zba.B Tryz.func58 fun g0 w0 R hE=>by
  unfold Zba at h
  exact aq fol [.r [],.r [],.r []] [1,2,5,10,11,12] [2] trivial (At.loop N (At.loopN (fun y:Int×Int=>Zba.p1.S script_1 y.1 y.2 c_0 st) (fun c J hc y h=>Zba.p1_ok (n_1:=y.1) (v2:=y.2) h hE (fun n_1 v2=>hc (n_1,v2))) N (0,0) h))
def Zdu.B:Code:=Tryz.f198.body.getD .skip
def Zdu.rs (r:(List Int)):List CV:=[.agg [zH .u64 4 r]]
def Zdu (N:Nat) (a_0_0:List Int) (i_1:Int):Option (List Int):=
 chk (0≤(w64 (zP i_1 64)))<|
 chk ((w64 (zP i_1 64))<4)<|
 chk (0≤(v64 (zR i_1 64)))<|
 some (zO a_0_0 (zF (w64 (zP i_1 64))) (bitsOf .or .u64 (zE a_0_0 (zF (w64 (zP i_1 64))) 0) (shlOf .u64 1 (v64 (zR i_1 64)))))
theorem Zdu.snd {a_0_0:List Int} {i_1:Int} {r:(List Int)} (h:Zdu N a_0_0 i_1=some r):SndQ zG 198 [.agg [zH .u64 4 a_0_0],oI i_1] (Zdu.rs r):=fun st=>
 sO Zdu.B Tryz.func198 fun g0 w0 R hE=>by
  unfold Zdu at h
  obtain ⟨c1,c2,c3,h1⟩:=ck3 h
  obtain rfl:=Zac h1
  exact af fol hE [.r [],.r [],.r []] [] 0 [] (aO (neI 64) (neI 64) c1 c2 (neI 64) c3 c1 c2)
def ZaV.B:Code:=Tryz.f165.body.getD .skip
def ZaV.rs (r:(List Int)×Bool):List CV:=[.agg [zH .u64 4 r.1],oB r.2]
def ZaV.p2 (N:Nat) (c1_:(Int×Int×(List Int))→Option ((List Int)×Bool)) (i_2 x8 x9 c_1:Int) (a_0_0 b_1_0 out_11:List Int):Option ((List Int)×Bool):=
 c1_ (w64 (zP (w64 ((w64 (x8+x9))+c_1)) 2),w64 (i_2+1),out_11)
def ZaV.p1 (N:Nat) (a_0_0 b_1_0:List Int) (c1_:(Int×Int×(List Int))→Option ((List Int)×Bool)):(Int×Int×(List Int))→Option ((List Int)×Bool):=fun (c_1,i_2,out_7)=>
 if (decide (i_2<256))=true then
  optE (Zcx N a_0_0 i_2) fun x8=>
  optE (Zcx N b_1_0 i_2) fun x9=>
  if ((zR (w64 ((w64 (x8+x9))+c_1)) 2)==1)=true then
   optE (Zdu N out_7 i_2) fun x10=>
   ZaV.p2 N c1_ i_2 x8 x9 c_1 a_0_0 b_1_0 x10
  else
  ZaV.p2 N c1_ i_2 x8 x9 c_1 a_0_0 b_1_0 out_7
 else
 some (out_7,c_1==1)
def ZaV (N:Nat) (a_0_0 b_1_0:List Int):Option ((List Int)×Bool):=
 loopN (ZaV.p1 N a_0_0 b_1_0) N (0,0,zB 4 0)
def ZaV.p2.S (i_2 x8 x9 c_1:Int) (a_0_0 b_1_0 out_11:List Int) (st:LL):S:=mkS 35 [(2,sA 2),(3,sA 3),(4,sA 4),(6,sA 6),(8,sI i_2),(9,sI (w64 ((w64 (x8+x9))+c_1)))] [(2,.cells [zH .u64 4 a_0_0]),(3,.cells [zH .u64 4 b_1_0]),(4,.cells [zH .u64 4 (zB 4 0)]),(6,.cells [zH .u64 4 out_11])] st
def ZaV.p1.S (c_1 i_2:Int) (a_0_0 b_1_0 out_7:List Int) (st:LL):S:=mkS 35 [(2,sA 2),(3,sA 3),(4,sA 4),(6,sA 6),(7,sI c_1),(8,sI i_2)] [(2,.cells [zH .u64 4 a_0_0]),(3,.cells [zH .u64 4 b_1_0]),(4,.cells [zH .u64 4 (zB 4 0)]),(6,.cells [zH .u64 4 out_7])] st
theorem ZaV.p2_ok {i_2 x8 x9 c_1 a_0_0 b_1_0 out_11 st r c1_ J1} (h:ZaV.p2 N c1_ i_2 x8 x9 c_1 a_0_0 b_1_0 out_11=some r) (hE:En Tryz.f165 g0 w0 (ZaV.rs r) st R) (hc1 : ∀c_1 i_2 out_7,c1_ (c_1,i_2,out_7)=some r→At g0 w0 (ZaV.p1.S c_1 i_2 a_0_0 b_1_0 out_7 st) J1):At g0 w0 (ZaV.p2.S i_2 x8 x9 c_1 a_0_0 b_1_0 out_11 st) (XK zG R [.c (csub ZaV.B [1,1,1,0,1,0,0,1,0,0,1,1]),.b 1,.c (csub ZaV.B [1,1,1,0,1,0,0,1,1]),.h J1,.b 0,.c (csub ZaV.B [1,1,1,1])]):=by
 unfold ZaV.p2 at h
 exact an fol [.r [],.r []] [2,3,4,6,7,8] [2,3,4,6] (neI 2) (hc1 (w64 (zP (w64 ((w64 (x8+x9))+c_1)) 2)) (w64 (i_2+1)) out_11 h)
theorem ZaV.p1_ok {c_1 i_2 a_0_0 b_1_0 out_7 st r c1_ J1} (h:ZaV.p1 N a_0_0 b_1_0 c1_ (c_1,i_2,out_7)=some r) (hE:En Tryz.f165 g0 w0 (ZaV.rs r) st R) (hc1 : ∀c_1 i_2 out_7,c1_ (c_1,i_2,out_7)=some r→At g0 w0 (ZaV.p1.S c_1 i_2 a_0_0 b_1_0 out_7 st) J1):At g0 w0 (ZaV.p1.S c_1 i_2 a_0_0 b_1_0 out_7 st) (XK zG R (.c (csub ZaV.B [1,1,1,0,1,0,0]) :: .h J1 :: [.b 0,.c (csub ZaV.B [1,1,1,1])])):=by
 unfold ZaV.p1 at h
 refine iteB h (fun c6 h1=>?_) (fun c6 h2=>?_)
 ·obtain ⟨x8,c7,h3⟩:=Zae h1
  obtain ⟨x9,c8,h4⟩:=Zae h3
  let o1:List PS:=[.r [],.c true,.d {ds:=[(2,q1 [oI x8]),(5,q1 [oI x9])],hv:=0,Hs:=[]},.r []]
  have t1 {Q:Prop} (q:Q):=aL c6 (Zcx.snd c7) (Zcx.snd c8) (neI 2) q
  refine iteB h4 (fun c9 h5=>?_) (fun c9 h6=>?_)
  ·obtain ⟨x10,c10,h7⟩:=Zae h5
   exact aqd fol (o1 ++ [.c true,.r [(2,q1 [.agg [zH .u64 4 x10]])],.s 6]) [2,3,4,6,8,9] [2,3,4,6] (t1 (aI c9 (Zdu.snd c10))) (ZaV.p2_ok h7 hE hc1)
  ·exact aqd fol (o1 ++ [.c false,.s 6]) [2,3,4,6,8,9] [2,3,4,6] (t1 c9) (ZaV.p2_ok h6 hE hc1)
 ·obtain rfl:=Zac h2
  exact af fol hE [.r [],.c false,.r []] [] 0 [] c6
theorem ZaV.snd {a_0_0 b_1_0:List Int} {r:(List Int)×Bool} (h:ZaV N a_0_0 b_1_0=some r):SndQ zG 165 [.agg [zH .u64 4 a_0_0],.agg [zH .u64 4 b_1_0]] (ZaV.rs r):=fun st=>
 sO ZaV.B Tryz.func165 fun g0 w0 R hE=>by
  unfold ZaV at h
  exact aq fol [.r [],.r [],.r [],.r []] [2,3,4,6,7,8] [2,3,4,6] trivial (At.loop N (At.loopN (fun y:Int×Int×(List Int)=>ZaV.p1.S y.1 y.2.1 a_0_0 b_1_0 y.2.2 st) (fun c J hc y h=>ZaV.p1_ok (c_1:=y.1) (i_2:=y.2.1) (out_7:=y.2.2) h hE (fun c_1 i_2 out_7=>hc (c_1,i_2,out_7))) N (0,0,zB 4 0) h))
def Zbq.B:Code:=Tryz.f199.body.getD .skip
def Zbq.rs (r:(List Int)):List CV:=[.agg [zH .u64 4 r]]
def Zbq.p2 (N:Nat) (c1_:(Int×(List Int))→Option (List Int)) (i_1:Int) (a_0_0 out_8:List Int):Option (List Int):=
 c1_ (w64 (i_1+1),out_8)
def Zbq.p1 (N:Nat) (a_0_0:List Int) (c1_:(Int×(List Int))→Option (List Int)):(Int×(List Int))→Option (List Int):=fun (i_1,out_5)=>
 if (decide (i_1<256))=true then
  optE (Zcx N a_0_0 i_1) fun x6=>
  if (x6==0)=true then
   optE (Zdu N out_5 i_1) fun x7=>
   Zbq.p2 N c1_ i_1 a_0_0 x7
  else
  Zbq.p2 N c1_ i_1 a_0_0 out_5
 else
 some out_5
def Zbq (N:Nat) (a_0_0:List Int):Option (List Int):=
 loopN (Zbq.p1 N a_0_0) N (0,zB 4 0)
def Zbq.p2.S (i_1:Int) (a_0_0 out_8:List Int) (st:LL):S:=mkS 18 [(1,sA 1),(2,sA 2),(3,sA 3),(4,sI i_1)] [(1,.cells [zH .u64 4 a_0_0]),(2,.cells [zH .u64 4 (zB 4 0)]),(3,.cells [zH .u64 4 out_8])] st
def Zbq.p1.S (i_1:Int) (a_0_0 out_5:List Int) (st:LL):S:=mkS 18 [(1,sA 1),(2,sA 2),(3,sA 3),(4,sI i_1)] [(1,.cells [zH .u64 4 a_0_0]),(2,.cells [zH .u64 4 (zB 4 0)]),(3,.cells [zH .u64 4 out_5])] st
theorem Zbq.p2_ok {i_1 a_0_0 out_8 st r c1_ J1} (h:Zbq.p2 N c1_ i_1 a_0_0 out_8=some r) (hE:En Tryz.f199 g0 w0 (Zbq.rs r) st R) (hc1 : ∀i_1 out_5,c1_ (i_1,out_5)=some r→At g0 w0 (Zbq.p1.S i_1 a_0_0 out_5 st) J1):At g0 w0 (Zbq.p2.S i_1 a_0_0 out_8 st) (XK zG R [.c (csub Zbq.B [1,1,0,1,0,0,1,1]),.h J1,.b 0,.c (csub Zbq.B [1,1,1])]):=by
 unfold Zbq.p2 at h
 exact an fol [.r []] [1,2,3,4] [1,2,3] trivial (hc1 (w64 (i_1+1)) out_8 h)
theorem Zbq.p1_ok {i_1 a_0_0 out_5 st r c1_ J1} (h:Zbq.p1 N a_0_0 c1_ (i_1,out_5)=some r) (hE:En Tryz.f199 g0 w0 (Zbq.rs r) st R) (hc1 : ∀i_1 out_5,c1_ (i_1,out_5)=some r→At g0 w0 (Zbq.p1.S i_1 a_0_0 out_5 st) J1):At g0 w0 (Zbq.p1.S i_1 a_0_0 out_5 st) (XK zG R (.c (csub Zbq.B [1,1,0,1,0,0]) :: .h J1 :: [.b 0,.c (csub Zbq.B [1,1,1])])):=by
 unfold Zbq.p1 at h
 refine iteB h (fun c5 h1=>?_) (fun c5 h2=>?_)
 ·obtain ⟨x6,c6,h3⟩:=Zae h1
  let o1:List PS:=[.r [],.c true,.r [(2,q1 [oI x6])]]
  refine iteB h3 (fun c7 h4=>?_) (fun c7 h5=>?_)
  ·obtain ⟨x7,c8,h6⟩:=Zae h4
   exact aq fol (o1 ++ [.c true,.r [(2,q1 [.agg [zH .u64 4 x7]])],.s 4]) [1,2,3,4] [1,2,3] (aK c5 (Zcx.snd c6) c7 (Zdu.snd c8)) (Zbq.p2_ok h6 hE hc1)
  ·exact aq fol (o1 ++ [.c false,.s 4]) [1,2,3,4] [1,2,3] (aJ c5 (Zcx.snd c6) c7) (Zbq.p2_ok h5 hE hc1)
 ·obtain rfl:=Zac h2
  exact af fol hE [.r [],.c false,.r []] [] 0 [] c5
theorem Zbq.snd {a_0_0:List Int} {r:(List Int)} (h:Zbq N a_0_0=some r):SndQ zG 199 [.agg [zH .u64 4 a_0_0]] (Zbq.rs r):=fun st=>
 sO Zbq.B Tryz.func199 fun g0 w0 R hE=>by
  unfold Zbq at h
  exact aq fol [.r [],.r [],.r []] [1,2,3,4] [1,2,3] trivial (At.loop N (At.loopN (fun y:Int×(List Int)=>Zbq.p1.S y.1 a_0_0 y.2 st) (fun c J hc y h=>Zbq.p1_ok (i_1:=y.1) (out_5:=y.2) h hE (fun i_1 out_5=>hc (i_1,out_5))) N (0,zB 4 0) h))
def ZcJ.B:Code:=Tryz.f166.body.getD .skip
def ZcJ.rs (r:(List Int)):List CV:=[.agg [zH .u64 4 r]]
def ZcJ (N:Nat):Option (List Int):=
 optE (Zbq N (zB 4 0)) fun x1=>
 some x1
theorem ZcJ.snd {r:(List Int)} (h:ZcJ N=some r):SndQ zG 166 [] (ZcJ.rs r):=fun st=>
 sO ZcJ.B Tryz.func166 fun g0 w0 R hE=>by
  unfold ZcJ at h
  obtain ⟨x1,c1,h1⟩:=Zae h
  obtain rfl:=Zac h1
  exact af fol hE [.r [],.r [(1,q1 [.agg [zH .u64 4 x1]])]] [] 0 [] (Zbq.snd c1)
def Zdv.B:Code:=Tryz.f197.body.getD .skip
def Zdv.rs (r:(List Int)×Bool):List CV:=[.agg [zH .u64 4 r.1],oB r.2]
def Zdv (N:Nat) (a_0_0 b_1_0:List Int):Option ((List Int)×Bool):=
 optE (Zbq N b_1_0) fun x1=>
 optE (ZaV N a_0_0 x1) fun (x2,x3)=>
 optE (ZaV N x2 [1,0,0,0]) fun (x4,x5)=>
 optE (Zbp N a_0_0 b_1_0) fun x6=>
 some (x4,x6)
theorem Zdv.snd {a_0_0 b_1_0:List Int} {r:(List Int)×Bool} (h:Zdv N a_0_0 b_1_0=some r):SndQ zG 197 [.agg [zH .u64 4 a_0_0],.agg [zH .u64 4 b_1_0]] (Zdv.rs r):=fun st=>
 sO Zdv.B Tryz.func197 fun g0 w0 R hE=>by
  unfold Zdv at h
  obtain ⟨x1,c1,h1⟩:=Zae h
  obtain ⟨⟨x2,x3⟩,c2,h2⟩:=Zae h1
  obtain ⟨⟨x4,x5⟩,c3,h3⟩:=Zae h2
  obtain ⟨x6,c4,h4⟩:=Zae h3
  obtain rfl:=Zac h4
  exact afd fol hE [.r [],.d {ds:=[(2,q1 [.agg [zH .u64 4 x1]]),(3,q1 [.agg [zH .u64 4 x2],oB x3])],hv:=384,Hs:=[128,384]},.r [(1,{m:=3}),(2,q1 [.agg [zH .u64 4 x4],oB x5])],.d {ds:=[(3,q1 [oB x6])],hv:=16,Hs:=[16]}] [] 0 [] (aM (Zbq.snd c1) (Zbq.snd c1) (ZaV.snd c2) (ZaV.snd c2) (ZaV.snd c3) (Zbp.snd c4))
def Zbk.B:Code:=Tryz.f164.body.getD .skip
def Zbk.rs (r:(List Int)):List CV:=[.agg [zH .u64 4 r]]
def Zbk.p2 (N:Nat) (c1_:(Int×(List Int)×(List Int))→Option (List Int)) (i_5:Int) (target_0_0 x1 out_36 rest_37:List Int):Option (List Int):=
 c1_ (w64 (i_5-1),out_36,rest_37)
def Zbk.p3 (N:Nat) (out_41:List Int):Option (List Int):=
 some out_41
def Zbk.p1 (N:Nat) (target_0_0 x1:List Int) (c1_:(Int×(List Int)×(List Int))→Option (List Int)):(Int×(List Int)×(List Int))→Option (List Int):=fun (i_5,out_23,rest_24)=>
 if (decide (i_5≥0))=true then
  optE (Zao N x1 i_5) fun x25=>
  optE (Zao N x25 (w64 (0-i_5))) fun x26=>
  if (!(x26==x1))=true then
   Zbk.p2 N c1_ i_5 target_0_0 x1 out_23 rest_24
  else
  optE (Zdv N x25 [1,0,0,0]) fun (x27,x28)=>
  optE (Zbp N rest_24 x27) fun x29=>
  if (!x29)=true then
   optE (Zdv N rest_24 x25) fun (x30,x31)=>
   optE (Zao N [1,0,0,0] i_5) fun x32=>
   optE (ZaV N out_23 x32) fun (x33,x34)=>
   optE (ZcJ N ) fun x35=>
   if (x30==x35)=true then
    some x33
   else
   Zbk.p2 N c1_ i_5 target_0_0 x1 x33 x30
  else
  Zbk.p2 N c1_ i_5 target_0_0 x1 out_23 rest_24
 else
 optE (Zbp N rest_24 target_0_0) fun x38=>
 if (!x38)=true then
  optE (ZaV N out_23 [1,0,0,0]) fun (x39,x40)=>
  Zbk.p3 N x39
 else
 Zbk.p3 N out_23
def Zbk (N:Nat) (target_0_0:List Int):Option (List Int):=
 optE (ZaV N target_0_0 [1,0,0,0]) fun (x1,x2)=>
 if x2=true then
  some [1,0,0,0]
 else
 if (target_0_0==(zB 4 0))=true then
  optE (ZcJ N ) fun x3=>
  some x3
 else
 optE (ZcJ N ) fun x4=>
 loopN (Zbk.p1 N target_0_0 x1) N (255,zB 4 0,x4)
def Zbk.p2.S (i_5:Int) (target_0_0 x1 out_36 rest_37:List Int) (st:LL):S:=mkS 79 [(1,sA 1),(2,sA 2),(3,sA 3),(4,sA 4),(6,sA 6),(7,sA 7),(8,sI i_5)] [(1,.cells [zH .u64 4 target_0_0]),(2,.cells [zH .u64 4 (zB 4 0)]),(3,.cells [zH .u64 4 [1,0,0,0]]),(4,.cells [zH .u64 4 x1]),(6,.cells [zH .u64 4 out_36]),(7,.cells [zH .u64 4 rest_37])] st
def Zbk.p3.S (out_41:List Int) (st:LL):S:=mkS 79 [(2,sA 2),(6,sA 6)] [(2,.cells [zH .u64 4 (zB 4 0)]),(6,.cells [zH .u64 4 out_41])] st
def Zbk.p1.S (i_5:Int) (target_0_0 x1 out_23 rest_24:List Int) (st:LL):S:=mkS 79 [(1,sA 1),(2,sA 2),(3,sA 3),(4,sA 4),(6,sA 6),(7,sA 7),(8,sI i_5)] [(1,.cells [zH .u64 4 target_0_0]),(2,.cells [zH .u64 4 (zB 4 0)]),(3,.cells [zH .u64 4 [1,0,0,0]]),(4,.cells [zH .u64 4 x1]),(6,.cells [zH .u64 4 out_23]),(7,.cells [zH .u64 4 rest_24])] st
theorem Zbk.p2_ok {i_5 target_0_0 x1 out_36 rest_37 st r c1_ J1} (h:Zbk.p2 N c1_ i_5 target_0_0 x1 out_36 rest_37=some r) (hE:En Tryz.f164 g0 w0 (Zbk.rs r) st R) (hc1 : ∀i_5 out_23 rest_24,c1_ (i_5,out_23,rest_24)=some r→At g0 w0 (Zbk.p1.S i_5 target_0_0 x1 out_23 rest_24 st) J1):At g0 w0 (Zbk.p2.S i_5 target_0_0 x1 out_36 rest_37 st) (XK zG R [.c (csub Zbk.B [1,1,1,1,1,1,1,0,1,0,0,1,1]),.h J1,.b 0,.c (csub Zbk.B [1,1,1,1,1,1,1,1])]):=by
 unfold Zbk.p2 at h
 exact an fol [.r []] [1,2,3,4,6,7,8] [1,2,3,4,6,7] trivial (hc1 (w64 (i_5-1)) out_36 rest_37 h)
theorem Zbk.p3_ok {out_41 st r} (h:Zbk.p3 N out_41=some r) (hE:En Tryz.f164 g0 w0 (Zbk.rs r) st R):At g0 w0 (Zbk.p3.S out_41 st) (XK zG R [.c (csub Zbk.B [1,1,1,1,1,1,1,1,1])]):=by
 unfold Zbk.p3 at h
 obtain rfl:=Zac h
 exact af fol hE [.r []] [] 0 [] trivial
theorem Zbk.p1_ok {i_5 target_0_0 x1 out_23 rest_24 st r c1_ J1} (h:Zbk.p1 N target_0_0 x1 c1_ (i_5,out_23,rest_24)=some r) (hE:En Tryz.f164 g0 w0 (Zbk.rs r) st R) (hc1 : ∀i_5 out_23 rest_24,c1_ (i_5,out_23,rest_24)=some r→At g0 w0 (Zbk.p1.S i_5 target_0_0 x1 out_23 rest_24 st) J1):At g0 w0 (Zbk.p1.S i_5 target_0_0 x1 out_23 rest_24 st) (XK zG R (.c (csub Zbk.B [1,1,1,1,1,1,1,0,1,0,0]) :: .h J1 :: [.b 0,.c (csub Zbk.B [1,1,1,1,1,1,1,1])])):=by
 unfold Zbk.p1 at h
 refine iteB h (fun c21 h1=>?_) (fun c21 h2=>?_)
 ·obtain ⟨x25,c22,h3⟩:=Zae h1
  obtain ⟨x26,c23,h4⟩:=Zae h3
  let o1:List PS:=[.r [],.c true,.r [(2,q1 [.agg [zH .u64 4 x25]])],.d {ds:=[(3,q1 [.agg [zH .u64 4 x26]])],hv:=0,Hs:=[]}]
  have t1 {Q:Prop} (q:Q):=aK c21 (Zao.snd c22) (Zao.snd c23) q
  refine iteB h4 (fun c24 h5=>?_) (fun c24 h6=>?_)
  ·exact aqd fol (o1 ++ [.c true,.s 4]) [1,2,3,4,6,7,8] [1,2,3,4,6,7] (t1 c24) (Zbk.p2_ok h5 hE hc1)
  ·obtain ⟨⟨x27,x28⟩,c25,h7⟩:=Zae h6
   obtain ⟨x29,c26,h8⟩:=Zae h7
   let o2:List PS:=o1 ++ [.c false,.r [(2,q1 [.agg [zH .u64 4 x27],oB x28])],.r [(2,q1 [oB x29])]]
   have t2 {Q:Prop} (q:Q):=t1 (aK c24 (Zdv.snd c25) (Zbp.snd c26) q)
   refine iteB h8 (fun c27 h9=>?_) (fun c27 h10=>?_)
   ·obtain ⟨⟨x30,x31⟩,c28,h11⟩:=Zae h9
    obtain ⟨x32,c29,h12⟩:=Zae h11
    obtain ⟨⟨x33,x34⟩,c30,h13⟩:=Zae h12
    obtain ⟨x35,c31,h14⟩:=Zae h13
    let o3:List PS:=o2 ++ [.c true,.r [(2,q1 [.agg [zH .u64 4 x30],oB x31])],.d {ds:=[(3,q1 [.agg [zH .u64 4 x32]]),(4,q1 [.agg [zH .u64 4 x33],oB x34])],hv:=256,Hs:=[256]},.d {ds:=[(1,q1 [.agg [zH .u64 4 x35]])],hv:=0,Hs:=[]}]
    have t3 {Q:Prop} (q:Q):=t2 (aM c27 (Zdv.snd c28) (Zao.snd c29) (ZaV.snd c30) (ZcJ.snd c31) q)
    refine iteB h14 (fun c32 h15=>?_) (fun c32 h16=>?_)
    ·obtain rfl:=Zac h15
     exact afd fol hE (o3 ++ [.c true,.r []]) [] 0 [] (t3 c32)
    ·exact aqd fol (o3 ++ [.c false,.s 4]) [1,2,3,4,6,7,8] [1,2,3,4,6,7] (t3 c32) (Zbk.p2_ok h16 hE hc1)
   ·exact aqd fol (o2 ++ [.c false,.s 4]) [1,2,3,4,6,7,8] [1,2,3,4,6,7] (t2 c27) (Zbk.p2_ok h10 hE hc1)
 ·obtain ⟨x38,c33,h17⟩:=Zae h2
  let o4:List PS:=[.r [],.c false,.r [(2,q1 [oB x38])]]
  refine iteB h17 (fun c34 h18=>?_) (fun c34 h19=>?_)
  ·obtain ⟨⟨x39,x40⟩,c35,h20⟩:=Zae h18
   exact aq fol (o4 ++ [.c true,.r [(2,q1 [.agg [zH .u64 4 x39],oB x40])],.s 1]) [2,6] [2,6] (aK c21 (Zbp.snd c33) c34 (ZaV.snd c35)) (Zbk.p3_ok h20 hE)
  ·exact aq fol (o4 ++ [.c false,.s 1]) [2,6] [2,6] (aJ c21 (Zbp.snd c33) c34) (Zbk.p3_ok h19 hE)
theorem Zbk.snd {target_0_0:List Int} {r:(List Int)} (h:Zbk N target_0_0=some r):SndQ zG 164 [.agg [zH .u64 4 target_0_0]] (Zbk.rs r):=fun st=>
 sO Zbk.B Tryz.func164 fun g0 w0 R hE=>by
  unfold Zbk at h
  obtain ⟨⟨x1,x2⟩,c1,h21⟩:=Zae h
  let o5:List PS:=[.r [],.r [(0,{m:=3})],.r [(2,q1 [.agg [zH .u64 4 x1],oB x2])],.r []]
  have t4 {Q:Prop} (q:Q):=aI (ZaV.snd c1) q
  refine iteB h21 (fun c2 h22=>?_) (fun c2 h23=>?_)
  ·obtain rfl:=Zac h22
   exact af fol hE (o5 ++ [.c true,.r []]) [] 0 [] (t4 c2)
  ·refine iteB h23 (fun c3 h24=>?_) (fun c3 h25=>?_)
   ·obtain ⟨x3,c4,h26⟩:=Zae h24
    obtain rfl:=Zac h26
    exact af fol hE (o5 ++ [.c false,.r [],.c true,.r [(0,q1 [.agg [zH .u64 4 x3]])]]) [] 0 [] (t4 (aJ c2 c3 (ZcJ.snd c4)))
   ·obtain ⟨x4,c5,h27⟩:=Zae h25
    exact aq fol (o5 ++ [.c false,.r [],.c false,.r [],.r [(0,q1 [.agg [zH .u64 4 x4]])],.r []]) [1,2,3,4,6,7,8] [1,2,3,4,6,7] (t4 (aJ c2 c3 (ZcJ.snd c5))) (At.loop N (At.loopN (fun y:Int×(List Int)×(List Int)=>Zbk.p1.S y.1 target_0_0 x1 y.2.1 y.2.2 st) (fun c J hc y h=>Zbk.p1_ok (i_5:=y.1) (out_23:=y.2.1) (rest_24:=y.2.2) h hE (fun i_5 out_23 rest_24=>hc (i_5,out_23,rest_24))) N (255,zB 4 0,x4) h27))
def Zcy.B:Code:=Tryz.f104.body.getD .skip
def Zcy.rs (r:(List Int)):List CV:=[.agg [zH .u64 4 r]]
def Zcy (N:Nat) (bits_0:Int):Option (List Int):=
 optE (ZaM N bits_0) fun (x1,x2,x3)=>
 if x2=true then
  some (zB 4 0)
 else
 if x3=true then
  some (zB 4 0)
 else
 if (x1==(zB 4 0))=true then
  some (zB 4 0)
 else
 optE (Zbk N x1) fun x4=>
 some x4
theorem Zcy.snd {bits_0:Int} {r:(List Int)} (h:Zcy N bits_0=some r):SndQ zG 104 [oI bits_0] (Zcy.rs r):=fun st=>
 sO Zcy.B Tryz.func104 fun g0 w0 R hE=>by
  unfold Zcy at h
  obtain ⟨⟨x1,x2,x3⟩,c1,h1⟩:=Zae h
  let o1:List PS:=[.r [],.r [(1,q1 [.agg [zH .u64 4 x1],oB x2,oB x3])]]
  have t1 {Q:Prop} (q:Q):=aI (ZaM.snd c1) q
  refine iteB h1 (fun c2 h2=>?_) (fun c2 h3=>?_)
  ·obtain rfl:=Zac h2
   exact af fol hE (o1 ++ [.r [(2,wF),(5,wF),(6,wF),(7,wF)],.c true,.r []]) [] 0 [] (t1 (aN c2 c2 eT eT eT eT eT))
  ·refine iteB h3 (fun c3 h4=>?_) (fun c3 h5=>?_)
   ·obtain rfl:=Zac h4
    exact af fol hE (o1 ++ [.r [(3,yF),(5,wF),(6,wF),(7,wF)],.c true,.r []]) [] 0 [] (t1 (aN c2 c2 c3 c3 c3 c3 eT))
   ·let o2:List PS:=o1 ++ [.r [(3,yF),(8,yF)]]
    refine iteB h5 (fun c4 h6=>?_) (fun c4 h7=>?_)
    ·obtain rfl:=Zac h6
     exact af fol hE (o2 ++ [.c true,.r []]) [] 0 [] (t1 (aN c2 c2 c3 c3 c3 c3 c4))
    ·obtain ⟨x4,c5,h8⟩:=Zae h7
     obtain rfl:=Zac h8
     exact af fol hE (o2 ++ [.c false,.r [(1,q1 [.agg [zH .u64 4 x4]])]]) [] 0 [] (t1 (aO c2 c2 c3 c3 c3 c3 c4 (Zbk.snd c5)))
def Zdt.B:Code:=Tryz.f105.body.getD .skip
def Zdt.rs (r:(List Int)):List CV:=[.agg [zH .u64 4 r]]
def Zdt (N:Nat) (a_0_0 b_1_0:List Int):Option (List Int):=
 optE (ZaV N a_0_0 b_1_0) fun (x1,x2)=>
 if x2=true then
  optE (ZcJ N ) fun x3=>
  some x3
 else
 some x1
theorem Zdt.snd {a_0_0 b_1_0:List Int} {r:(List Int)} (h:Zdt N a_0_0 b_1_0=some r):SndQ zG 105 [.agg [zH .u64 4 a_0_0],.agg [zH .u64 4 b_1_0]] (Zdt.rs r):=fun st=>
 sO Zdt.B Tryz.func105 fun g0 w0 R hE=>by
  unfold Zdt at h
  obtain ⟨⟨x1,x2⟩,c1,h1⟩:=Zae h
  let o1:List PS:=[.r [],.r [(2,q1 [.agg [zH .u64 4 x1],oB x2])],.r []]
  refine iteB h1 (fun c2 h2=>?_) (fun c2 h3=>?_)
  ·obtain ⟨x3,c3,h4⟩:=Zae h2
   obtain rfl:=Zac h4
   exact af fol hE (o1 ++ [.c true,.r [(0,q1 [.agg [zH .u64 4 x3]])]]) [] 0 [] (aJ (ZaV.snd c1) c2 (ZcJ.snd c3))
  ·obtain rfl:=Zac h3
   exact af fol hE (o1 ++ [.c false,.r []]) [] 0 [] (aI (ZaV.snd c1) c2)
def ZaF.B:Code:=Tryz.f106.body.getD .skip
def ZaF.rs (r:Int):List CV:=[oI r]
def ZaF.p4 (N:Nat) (c2_:(Int×Int×Int)→Option Int) (c1_:Int→Option Int) (times_0:LL) (i_1 less_7 same_10 j_4:Int):Option Int:=
 c2_ (less_7,same_10,w64 (j_4+1))
def ZaF.p3 (N:Nat) (c2_:(Int×Int×Int)→Option Int) (c1_:Int→Option Int) (times_0:LL) (i_1 less_7 same_3 j_4:Int):Option Int:=
 chk (0≤j_4)<|
 chk (j_4<(len times_0))<|
 getE (times_0[zF j_4]?) ZeD fun x8=>
 chk (0≤i_1)<|
 chk (i_1<(len times_0))<|
 getE (times_0[zF i_1]?) ZeD fun x9=>
 if (x8==x9)=true then
  ZaF.p4 N c2_ c1_ times_0 i_1 less_7 (w64 (same_3+1)) j_4
 else
 ZaF.p4 N c2_ c1_ times_0 i_1 less_7 same_3 j_4
def ZaF.p2 (N:Nat) (c1_:Int→Option Int) (times_0:LL) (i_1:Int) (c2_:(Int×Int×Int)→Option Int):(Int×Int×Int)→Option Int:=fun (less_2,same_3,j_4)=>
 if (decide (j_4<(if (11:Int)<(len times_0) then 11 else (len times_0))))=true then
  chk (0≤j_4)<|
  chk (j_4<(len times_0))<|
  getE (times_0[zF j_4]?) ZeD fun x5=>
  chk (0≤i_1)<|
  chk (i_1<(len times_0))<|
  getE (times_0[zF i_1]?) ZeD fun x6=>
  if (decide (x5<x6))=true then
   ZaF.p3 N c2_ c1_ times_0 i_1 (w64 (less_2+1)) same_3 j_4
  else
  ZaF.p3 N c2_ c1_ times_0 i_1 less_2 same_3 j_4
 else
 if (decide (less_2≤(w64 (zP (if (11:Int)<(len times_0) then 11 else (len times_0)) 2))))=true then
  if (decide ((w64 (zP (if (11:Int)<(len times_0) then 11 else (len times_0)) 2))<(w64 (less_2+same_3))))=true then
   chk (0≤i_1)<|
   chk (i_1<(len times_0))<|
   getE (times_0[zF i_1]?) ZeD fun x11=>
   some x11
  else
  c1_ (w64 (i_1+1))
 else
 c1_ (w64 (i_1+1))
def ZaF.p1 (N:Nat) (times_0:LL) (c1_:Int→Option Int):Int→Option Int:=fun i_1=>
 if (decide (i_1<(if (11:Int)<(len times_0) then 11 else (len times_0))))=true then
  loopN (ZaF.p2 N c1_ times_0 i_1) N (0,0,0)
 else
 some 0
def ZaF (N:Nat) (times_0:LL):Option Int:=
 loopN (ZaF.p1 N times_0) N 0
def ZaF.p4.S (times_0:LL) (i_1 less_7 same_10 j_4:Int) (st:LL):S:=mkS 59 [(0,sV 1 times_0),(3,sI (if (11:Int)<(len times_0) then 11 else (len times_0))),(4,sI i_1),(5,sI less_7),(6,sI same_10),(7,sI j_4)] [] st
def ZaF.p3.S (times_0:LL) (i_1 less_7 same_3 j_4:Int) (st:LL):S:=mkS 59 [(0,sV 1 times_0),(3,sI (if (11:Int)<(len times_0) then 11 else (len times_0))),(4,sI i_1),(5,sI less_7),(6,sI same_3),(7,sI j_4)] [] st
def ZaF.p2.S (times_0:LL) (i_1 less_2 same_3 j_4:Int) (st:LL):S:=mkS 59 [(0,sV 1 times_0),(3,sI (if (11:Int)<(len times_0) then 11 else (len times_0))),(4,sI i_1),(5,sI less_2),(6,sI same_3),(7,sI j_4)] [] st
def ZaF.p1.S (times_0:LL) (i_1:Int) (st:LL):S:=mkS 59 [(0,sV 1 times_0),(3,sI (if (11:Int)<(len times_0) then 11 else (len times_0))),(4,sI i_1)] [] st
theorem ZaF.p4_ok {times_0 i_1 less_7 same_10 j_4 st r c2_ c1_ J2 J1} (h:ZaF.p4 N c2_ c1_ times_0 i_1 less_7 same_10 j_4=some r) (hE:En Tryz.f106 g0 w0 (ZaF.rs r) st R) (hc2 : ∀less_2 same_3 j_4,c2_ (less_2,same_3,j_4)=some r→At g0 w0 (ZaF.p2.S times_0 i_1 less_2 same_3 j_4 st) J2) (hc1 : ∀i_1,c1_ i_1=some r→At g0 w0 (ZaF.p1.S times_0 i_1 st) J1):At g0 w0 (ZaF.p4.S times_0 i_1 less_7 same_10 j_4 st) (XK zG R [.c (csub ZaF.B [1,1,0,1,0,0,1,0,0,1,1,0,1,0,0,1,1]),.h J2,.b 2,.c (csub ZaF.B [1,1,0,1,0,0,1,0,0,1,1,1]),.b 1,.c (csub ZaF.B [1,1,0,1,0,0,1,1]),.h J1,.b 0,.c (csub ZaF.B [1,1,1])]):=by
 unfold ZaF.p4 at h
 exact an fol [.r []] [0,3,4,5,6,7] [] trivial (hc2 less_7 same_10 (w64 (j_4+1)) h)
theorem ZaF.p3_ok {times_0 i_1 less_7 same_3 j_4 st r c2_ c1_ J2 J1} (h:ZaF.p3 N c2_ c1_ times_0 i_1 less_7 same_3 j_4=some r) (hE:En Tryz.f106 g0 w0 (ZaF.rs r) st R) (hc2 : ∀less_2 same_3 j_4,c2_ (less_2,same_3,j_4)=some r→At g0 w0 (ZaF.p2.S times_0 i_1 less_2 same_3 j_4 st) J2) (hc1 : ∀i_1,c1_ i_1=some r→At g0 w0 (ZaF.p1.S times_0 i_1 st) J1):At g0 w0 (ZaF.p3.S times_0 i_1 less_7 same_3 j_4 st) (XK zG R [.c (csub ZaF.B [1,1,0,1,0,0,1,0,0,1,1,0,1,0,0,1,0,0,1]),.b 3,.c (csub ZaF.B [1,1,0,1,0,0,1,0,0,1,1,0,1,0,0,1,1]),.h J2,.b 2,.c (csub ZaF.B [1,1,0,1,0,0,1,0,0,1,1,1]),.b 1,.c (csub ZaF.B [1,1,0,1,0,0,1,1]),.h J1,.b 0,.c (csub ZaF.B [1,1,1])]):=by
 unfold ZaF.p3 at h
 obtain ⟨c10,c11,h1⟩:=ck2 h
 obtain ⟨x8,c12,h2⟩:=ZdA h1
 obtain ⟨c13,c14,h3⟩:=ck2 h2
 obtain ⟨x9,c15,h4⟩:=ZdA h3
 let o1:List PS:=[.d {ds:=[(3,{oe:=[zC .i64 x8]}),(7,{oe:=[zC .i64 x9]})],hv:=0,Hs:=[]}]
 refine iteB h4 (fun c16 h5=>?_) (fun c16 h6=>?_)
 ·exact aqd fol (o1 ++ [.c true,.r [],.s 9]) [0,3,4,5,6,7] [] (aN c10 c11 c12 c13 c14 c15 c16) (ZaF.p4_ok h5 hE hc2 hc1)
 ·exact aqd fol (o1 ++ [.c false,.s 9]) [0,3,4,5,6,7] [] (aN c10 c11 c12 c13 c14 c15 c16) (ZaF.p4_ok h6 hE hc2 hc1)
theorem ZaF.p2_ok {times_0 i_1 less_2 same_3 j_4 st r c1_ c2_ J1 J2} (h:ZaF.p2 N c1_ times_0 i_1 c2_ (less_2,same_3,j_4)=some r) (hE:En Tryz.f106 g0 w0 (ZaF.rs r) st R) (hc1 : ∀i_1,c1_ i_1=some r→At g0 w0 (ZaF.p1.S times_0 i_1 st) J1) (hc2 : ∀less_2 same_3 j_4,c2_ (less_2,same_3,j_4)=some r→At g0 w0 (ZaF.p2.S times_0 i_1 less_2 same_3 j_4 st) J2):At g0 w0 (ZaF.p2.S times_0 i_1 less_2 same_3 j_4 st) (XK zG R (.c (csub ZaF.B [1,1,0,1,0,0,1,0,0,1,1,0,1,0,0]) :: .h J2 :: [.b 2,.c (csub ZaF.B [1,1,0,1,0,0,1,0,0,1,1,1]),.b 1,.c (csub ZaF.B [1,1,0,1,0,0,1,1]),.h J1,.b 0,.c (csub ZaF.B [1,1,1])])):=by
 unfold ZaF.p2 at h
 refine iteB h (fun c2 h7=>?_) (fun c2 h8=>?_)
 ·obtain ⟨c3,c4,h9⟩:=ck2 h7
  obtain ⟨x5,c5,h10⟩:=ZdA h9
  obtain ⟨c6,c7,h11⟩:=ck2 h10
  obtain ⟨x6,c8,h12⟩:=ZdA h11
  let o2:List PS:=[.r [],.c true,.d {ds:=[(3,{oe:=[zC .i64 x5]}),(7,{oe:=[zC .i64 x6]})],hv:=0,Hs:=[]}]
  refine iteB h12 (fun c9 h13=>?_) (fun c9 h14=>?_)
  ·exact aqd fol (o2 ++ [.c true,.r [],.s 11]) [0,3,4,5,6,7] [] (aO c2 c3 c4 c5 c6 c7 c8 c9) (ZaF.p3_ok h13 hE hc2 hc1)
  ·exact aqd fol (o2 ++ [.c false,.s 11]) [0,3,4,5,6,7] [] (aO c2 c3 c4 c5 c6 c7 c8 c9) (ZaF.p3_ok h14 hE hc2 hc1)
 ·refine iteB h8 (fun c17 h15=>?_) (fun c17 h16=>?_)
  ·have t1 {Q:Prop} (q:Q):=aO c2 (neI 2) c17 c17 (neI 2) c17 c17 (aK c17 c17 c17 q)
   refine iteB h15 (fun c18 h17=>?_) (fun c18 h18=>?_)
   ·obtain ⟨c19,c20,h19⟩:=ck2 h17
    obtain ⟨x11,c21,h20⟩:=ZdA h19
    obtain rfl:=Zac h20
    exact af fol hE [.r [],.c false,.r [],.c true,.r [(3,{oe:=[zC .i64 x11]})]] [] 0 [] (t1 (aK c18 c19 c20 c21))
   ·exact an fol [.r [],.c false,.r [],.c false,.r []] [0,3,4] [] (t1 c18) (hc1 (w64 (i_1+1)) h18)
  ·exact an fol [.r [],.c false,.r [(5,wF),(6,wF),(7,wF),(8,wF),(9,wF),(10,wF),(11,yF)],.c false,.r []] [0,3,4] [] (aO c2 (neI 2) c17 c17 c17 c17 c17 (aJ c17 c17 eF)) (hc1 (w64 (i_1+1)) h16)
theorem ZaF.p1_ok {times_0 i_1 st r c1_ J1} (h:ZaF.p1 N times_0 c1_ i_1=some r) (hE:En Tryz.f106 g0 w0 (ZaF.rs r) st R) (hc1 : ∀i_1,c1_ i_1=some r→At g0 w0 (ZaF.p1.S times_0 i_1 st) J1):At g0 w0 (ZaF.p1.S times_0 i_1 st) (XK zG R (.c (csub ZaF.B [1,1,0,1,0,0]) :: .h J1 :: [.b 0,.c (csub ZaF.B [1,1,1])])):=by
 unfold ZaF.p1 at h
 refine iteB h (fun c1 h21=>?_) (fun c1 h22=>?_)
 ·exact aq fol [.r [],.c true,.r [],.r [],.r []] [0,3,4,5,6,7] [] c1 (At.loop N (At.loopN (fun y:Int×Int×Int=>ZaF.p2.S times_0 i_1 y.1 y.2.1 y.2.2 st) (fun c J hc y h=>ZaF.p2_ok (less_2:=y.1) (same_3:=y.2.1) (j_4:=y.2.2) h hE hc1 (fun less_2 same_3 j_4=>hc (less_2,same_3,j_4))) N (0,0,0) h21))
 ·obtain rfl:=Zac h22
  exact af fol hE [.r [],.c false,.r []] [] 0 [] c1
theorem ZaF.snd {times_0:LL} {r:Int} (h:ZaF N times_0=some r):SndQ zG 106 [.one (yM 1 times_0)] (ZaF.rs r):=fun st=>
 sO ZaF.B Tryz.func106 fun g0 w0 R hE=>by
  unfold ZaF at h
  exact aq fol [.r [],.r [],.r []] [0,3,4] [] trivial (At.loop N (At.loopN (fun y:Int=>ZaF.p1.S times_0 y st) (fun c J hc y h=>ZaF.p1_ok h hE (fun i_1=>hc i_1)) N 0 h))
def ZbI.B:Code:=Tryz.f59.body.getD .skip
def ZbI.rs (r:(Option Nat)×(Option Nat)×LL):List CV:=[.one (xQ r.1),.one (xQ r.2.1)]
def ZbI.p1 (N:Nat) (c_0:Zbc) (st:LL) (c1_:(LL×Int×Zat×(List Int))→Option ((Option Nat)×(Option Nat)×LL)):(LL×Int×Zat×(List Int))→Option ((Option Nat)×(Option Nat)×LL):=fun (v15,v3,at_13,sum_14)=>
 if (decide (v3<(len c_0.Base)))=true then
  chk (0≤v3)<|
  getE (c_0.Base[zF v3]?) Zch fun x16=>
  optE (ZcQ N c_0.P at_13 x16) fun x17=>
  chk (zI (v15 ++ [x16.ls])*96≤140737488355328)<|
  optE (Zcy N x16.Bits) fun x18=>
  optE (Zdt N sum_14 x18) fun x19=>
  c1_ (v15 ++ [x16.ls],w64 (v3+1),x17,x19)
 else
 optE (ZcR N c_0.P (ZdE.mk at_13 sum_14) c_0.Plan c_0.Size c_0.Now st) fun (x20,x21,st22)=>
 if (x21 != 0)=true then
  some (none,none,st22)
 else
 optE (ZaF N at_13.Times) fun x23=>
 optE (ZcE N c_0.Plan (if (0:Int)>(w64 ((w64 (c_0.Now+c_0.P.Future))-x23)) then 0 else (w64 ((w64 (c_0.Now+c_0.P.Future))-x23)))) fun x24=>
 some (x20,(some (zI st22)),st22 ++ [Zab.lo (Zab.mk c_0.P v15 [] [] 0 c_0.Plan.Salt c_0.Plan.Period c_0.Plan.Offset c_0.Size x24 1)])
def ZbI (N:Nat) (c_0:Zbc) (st:LL):Option ((Option Nat)×(Option Nat)×LL):=
 optE (Zef N c_0.P) fun x1=>
 optE (Zcy N c_0.P.Genesis.Bits) fun x2=>
 loopN (ZbI.p1 N c_0 st) N ([c_0.P.Genesis.ls],0,x1,x2)
def ZbI.p1.S (v15:LL) (c_0:Zbc) (v3:Int) (at_13:Zat) (sum_14:List Int) (st:LL):S:=mkS 95 [(1,sA 1),(4,sA 4),(5,.one (.h (.row 18 0) 68 0 (zI v15))),(6,sA 6),(25,sV 68 c_0.Base),(26,sI (len c_0.Base)),(27,sI v3)] [(1,.cells c_0.ls),(4,.cells at_13.ls),(6,.cells [zH .u64 4 sum_14]),(18,.row 0 true 68 v15)] st
theorem ZbI.p1_ok {v15 c_0 v3 at_13 sum_14 st r c1_ J1} (h:ZbI.p1 N c_0 st c1_ (v15,v3,at_13,sum_14)=some r) (hE:En Tryz.f59 g0 w0 (ZbI.rs r) r.2.2 R) (hc1 : ∀v15 v3 at_13 sum_14,c1_ (v15,v3,at_13,sum_14)=some r→At g0 w0 (ZbI.p1.S v15 c_0 v3 at_13 sum_14 st) J1):At g0 w0 (ZbI.p1.S v15 c_0 v3 at_13 sum_14 st) (XK zG R (.c (csub ZbI.B [1,1,1,1,0,1,0,0]) :: .h J1 :: [.b 0,.c (csub ZbI.B [1,1,1,1,1])])):=by
 unfold ZbI.p1 at h
 refine iteB h (fun c14 h1=>?_) (fun c14 h2=>?_)
 ·obtain ⟨c15,h3⟩:=ZaN h1
  obtain ⟨x16,c16,h4⟩:=ZbS h3
  obtain ⟨x17,c17,h5⟩:=Zae h4
  obtain ⟨c18,h6⟩:=ZaN h5
  obtain ⟨x18,c19,h7⟩:=Zae h6
  obtain ⟨x19,c20,h8⟩:=Zae h7
  exact and_ fol [.r [],.c true,.r [(1,{oe:=x16.ls})],.r [(4,q1 [.agg x17.ls])],.r [],.d {ds:=[(3,q1 [.agg [zH .u64 4 x18]]),(4,q1 [.agg [zH .u64 4 x19]])],hv:=32,Hs:=[32]},.r []] [1,4,5,6,25,26,27] [1,4,6,18] (aO c14 c15 (oD c14) c16 (ZcQ.snd c17) z0 (eN (zI v15)) (aL z0 (eN (1)) c18 (Zcy.snd c19) (Zdt.snd c20))) (hc1 (v15 ++ [x16.ls]) (w64 (v3+1)) x17 x19 h8)
 ·obtain ⟨⟨x20,x21,st22⟩,c21,h9⟩:=Zae h2
  let o1:List PS:=[.r [],.c false,.r [(11,{rs:=[.one (xQ x20),oI x21],st:=st22})],.r []]
  refine iteB h9 (fun c22 h10=>?_) (fun c22 h11=>?_)
  ·obtain rfl:=Zac h10
   exact af fol hE (o1 ++ [.c true,.r []]) [] 0 [] (aJ c14 (ZcR.snd c21) c22)
  ·obtain ⟨x23,c23,h12⟩:=Zae h11
   obtain ⟨x24,c24,h13⟩:=Zae h12
   obtain rfl:=Zac h13
   exact afd fol hE (o1 ++ [.c false,.d {ds:=[(10,q1 [oI x23]),(13,q1 [oI x24])],hv:=0,Hs:=[]},.d {ds:=[(16,{ns:=[16],mv:=[17]}),(17,{m:=1,fz:=[18]})],hv:=131072,Hs:=[131072]}]) [] 0 [] (aN c14 (ZcR.snd c21) c22 (ZaF.snd c23) (ZcE.snd c24) z0 (eN (zI v15)))
theorem ZbI.snd {c_0:Zbc} {st:LL} {r:(Option Nat)×(Option Nat)×LL} (h:ZbI N c_0 st=some r):Snd zG 59 [.agg c_0.ls] st (ZbI.rs r) r.2.2:=
 sO ZbI.B Tryz.func59 fun g0 w0 R hE=>by
  unfold ZbI at h
  obtain ⟨x1,c1,h14⟩:=Zae h
  obtain ⟨x2,c2,h15⟩:=Zae h14
  exact aq fol [.r [],.r [(2,q1 [.agg x1.ls])],.r [],.r [(4,q1 [.agg [zH .u64 4 x2]])],.r []] [1,4,5,6,25,26,27] [1,4,6,18] (aI (Zef.snd c1) (Zcy.snd c2)) (At.loop N (At.loopN (fun y:LL×Int×Zat×(List Int)=>ZbI.p1.S y.1 c_0 y.2.1 y.2.2.1 y.2.2.2 st) (fun c J hc y h=>ZbI.p1_ok (v15:=y.1) (v3:=y.2.1) (at_13:=y.2.2.1) (sum_14:=y.2.2.2) h hE (fun v15 v3 at_13 sum_14=>hc (v15,v3,at_13,sum_14))) N ([c_0.P.Genesis.ls],0,x1,x2) h15))
def ZcP.B:Code:=Tryz.f121.body.getD .skip
def ZcP.rs (r:LL):List CV:=[.row true 68 r]
def ZcP (N:Nat) (a_0 b_1:LL):Option LL:=
 chk (zI ([]++a_0)*96≤140737488355328)<|
 chk (zI (([]++a_0)++b_1)*96≤140737488355328)<|
 some (([]++a_0)++b_1)
theorem ZcP.snd {a_0 b_1:LL} {r:LL} (h:ZcP N a_0 b_1=some r):SndQ zG 121 [.one (yM 68 a_0),.one (yM 68 b_1)] (ZcP.rs r):=fun st=>
 sO ZcP.B Tryz.func121 fun g0 w0 R hE=>by
  unfold ZcP at h
  obtain ⟨c1,c2,h1⟩:=ck2 h
  obtain rfl:=Zac h1
  exact af fol hE [.r [(0,{m:=2})],.r []] [] 0 [0] (aO z0 (eN (0)) c1 z0 (eN (zI ([]++a_0))) c2 z0 (eN (zI (([]++a_0)++b_1))))
def Zbh.B:Code:=Tryz.f159.body.getD .skip
def Zbh.rs (r:ByteArray):List CV:=[.one (wS r)]
def Zbh.p1 (N:Nat) (size_0:Int) (c1_:(Int×ByteArray×Int)→Option ByteArray):(Int×ByteArray×Int)→Option ByteArray:=fun (u_1,s_3,i_2)=>
 if (decide (i_2<(if (8:Int)<(if (1:Int)>size_0 then 1 else size_0) then 8 else (if (1:Int)>size_0 then 1 else size_0))))=true then
  chk (isB [[zC .u8 (v8 (zR u_1 256))]]=true)<|
  chk (zW s_3+zW (istr (wX leafI [[zC .u8 (v8 (zR u_1 256))]]))≤9223372036854775807)<|
  c1_ (v64 (zP u_1 256),s_3++(istr (wX leafI [[zC .u8 (v8 (zR u_1 256))]])),w64 (i_2+1))
 else
 some s_3
def Zbh (N:Nat) (size_0 n_1:Int):Option ByteArray:=
 loopN (Zbh.p1 N size_0) N (v64 (n_1),(xU #[]),0)
def Zbh.p1.S (size_0 u_1:Int) (s_3:ByteArray) (i_2:Int) (st:LL):S:=mkS 27 [(0,sI size_0),(5,.one (.l (zC .u64 u_1))),(6,.one (.l (wS s_3))),(7,sI i_2)] [] st
theorem Zbh.p1_ok {size_0 u_1 s_3 i_2 st r c1_ J1} (h:Zbh.p1 N size_0 c1_ (u_1,s_3,i_2)=some r) (hE:En Tryz.f159 g0 w0 (Zbh.rs r) st R) (hc1 : ∀u_1 s_3 i_2,c1_ (u_1,s_3,i_2)=some r→At g0 w0 (Zbh.p1.S size_0 u_1 s_3 i_2 st) J1):At g0 w0 (Zbh.p1.S size_0 u_1 s_3 i_2 st) (XK zG R (.c (csub Zbh.B [1,1,1,0,1,0,0]) :: .h J1 :: [.b 0,.c (csub Zbh.B [1,1,1,1])])):=by
 unfold Zbh.p1 at h
 refine iteB h (fun c4 h1=>?_) (fun c4 h2=>?_)
 ·obtain ⟨c5,c6,h3⟩:=ck2 h1
  exact an fol [.r [],.c true,.r [],.r [],.r []] [0,5,6,7] [] (aN c4 (neI 256) z0 (eN (1)) c5 c6 (neI 256)) (hc1 (v64 (zP u_1 256)) (s_3++(istr (wX leafI [[zC .u8 (v8 (zR u_1 256))]]))) (w64 (i_2+1)) h3)
 ·obtain rfl:=Zac h2
  exact af fol hE [.r [],.c false,.r []] [] 0 [] c4
theorem Zbh.snd {size_0 n_1:Int} {r:ByteArray} (h:Zbh N size_0 n_1=some r):SndQ zG 159 [oI size_0,oI n_1] (Zbh.rs r):=fun st=>
 sO Zbh.B Tryz.func159 fun g0 w0 R hE=>by
  unfold Zbh at h
  exact aq fol [.r [],.r [],.r [],.r []] [0,5,6,7] [] trivial (At.loop N (At.loopN (fun y:Int×ByteArray×Int=>Zbh.p1.S size_0 y.1 y.2.1 y.2.2 st) (fun c J hc y h=>Zbh.p1_ok (u_1:=y.1) (s_3:=y.2.1) (i_2:=y.2.2) h hE (fun u_1 s_3 i_2=>hc (u_1,s_3,i_2))) N (v64 (n_1),(xU #[]),0) h))
def ZbJ.B:Code:=Tryz.f160.body.getD .skip
def ZbJ.rs (r:ByteArray):List CV:=[.one (wS r)]
def ZbJ.p1 (N:Nat) (h_0_0:List Int) (c1_:(ByteArray×Int)→Option ByteArray):(ByteArray×Int)→Option ByteArray:=fun (s_2,i_1)=>
 if (decide (i_1<32))=true then
  chk (0≤i_1)<|
  chk (isB [[zC .u8 (zE h_0_0 (zF i_1) 0)]]=true)<|
  chk (zW s_2+zW (istr (wX leafI [[zC .u8 (zE h_0_0 (zF i_1) 0)]]))≤9223372036854775807)<|
  c1_ (s_2++(istr (wX leafI [[zC .u8 (zE h_0_0 (zF i_1) 0)]])),w64 (i_1+1))
 else
 some s_2
def ZbJ (N:Nat) (h_0_0:List Int):Option ByteArray:=
 loopN (ZbJ.p1 N h_0_0) N ((xU #[]),0)
def ZbJ.p1.S (s_2:ByteArray) (i_1:Int) (h_0_0:List Int) (st:LL):S:=mkS 17 [(1,sA 1),(3,.one (.l (wS s_2))),(4,sI i_1)] [(1,.cells [zH .u8 32 h_0_0])] st
theorem ZbJ.p1_ok {s_2 i_1 h_0_0 st r c1_ J1} (h:ZbJ.p1 N h_0_0 c1_ (s_2,i_1)=some r) (hE:En Tryz.f160 g0 w0 (ZbJ.rs r) st R) (hc1 : ∀s_2 i_1,c1_ (s_2,i_1)=some r→At g0 w0 (ZbJ.p1.S s_2 i_1 h_0_0 st) J1):At g0 w0 (ZbJ.p1.S s_2 i_1 h_0_0 st) (XK zG R (.c (csub ZbJ.B [1,1,0,1,0,0]) :: .h J1 :: [.b 0,.c (csub ZbJ.B [1,1,1])])):=by
 unfold ZbJ.p1 at h
 refine iteB h (fun c5 h1=>?_) (fun c5 h2=>?_)
 ·obtain ⟨c6,c7,c8,h3⟩:=ck3 h1
  exact an fol [.r [],.c true,.r [],.r []] [1,3,4] [1] (aN c5 c6 (oD c5) z0 (eN (1)) c7 c8) (hc1 (s_2++(istr (wX leafI [[zC .u8 (zE h_0_0 (zF i_1) 0)]]))) (w64 (i_1+1)) h3)
 ·obtain rfl:=Zac h2
  exact af fol hE [.r [],.c false,.r []] [] 0 [] c5
theorem ZbJ.snd {h_0_0:List Int} {r:ByteArray} (h:ZbJ N h_0_0=some r):SndQ zG 160 [.agg [zH .u8 32 h_0_0]] (ZbJ.rs r):=fun st=>
 sO ZbJ.B Tryz.func160 fun g0 w0 R hE=>by
  unfold ZbJ at h
  exact aq fol [.r [],.r [],.r []] [1,3,4] [1] trivial (At.loop N (At.loopN (fun y:ByteArray×Int=>ZbJ.p1.S y.1 y.2 h_0_0 st) (fun c J hc y h=>ZbJ.p1_ok (s_2:=y.1) (i_1:=y.2) h hE (fun s_2 i_1=>hc (s_2,i_1))) N ((xU #[]),0) h))
def Zdh.B:Code:=Tryz.f101.body.getD .skip
def Zdh.rs (r:ByteArray):List CV:=[.one (wS r)]
def Zdh (N:Nat) (h_0:Zaa):Option ByteArray:=
 optE (Zbh N 4 h_0.Version) fun x1=>
 optE (ZbJ N h_0.Prev) fun x2=>
 chk (zW x1+zW x2≤9223372036854775807)<|
 optE (ZbJ N h_0.Root) fun x3=>
 chk (zW (x1++x2)+zW x3≤9223372036854775807)<|
 optE (Zbh N 4 h_0.Time) fun x4=>
 chk (zW ((x1++x2)++x3)+zW x4≤9223372036854775807)<|
 optE (Zbh N 4 h_0.Bits) fun x5=>
 chk (zW (((x1++x2)++x3)++x4)+zW x5≤9223372036854775807)<|
 optE (Zbh N 4 h_0.Nonce) fun x6=>
 chk (zW ((((x1++x2)++x3)++x4)++x5)+zW x6≤9223372036854775807)<|
 some (((((x1++x2)++x3)++x4)++x5)++x6)
theorem Zdh.snd {h_0:Zaa} {r:ByteArray} (h:Zdh N h_0=some r):SndQ zG 101 [.agg h_0.ls] (Zdh.rs r):=fun st=>
 sO Zdh.B Tryz.func101 fun g0 w0 R hE=>by
  unfold Zdh at h
  obtain ⟨x1,c1,h1⟩:=Zae h
  obtain ⟨x2,c2,h2⟩:=Zae h1
  obtain ⟨c3,h3⟩:=ZaN h2
  obtain ⟨x3,c4,h4⟩:=Zae h3
  obtain ⟨c5,h5⟩:=ZaN h4
  obtain ⟨x4,c6,h6⟩:=Zae h5
  obtain ⟨c7,h7⟩:=ZaN h6
  obtain ⟨x5,c8,h8⟩:=Zae h7
  obtain ⟨c9,h9⟩:=ZaN h8
  obtain ⟨x6,c10,h10⟩:=Zae h9
  obtain ⟨c11,h11⟩:=ZaN h10
  obtain rfl:=Zac h11
  exact afd fol hE [.r [],.d {ds:=[(2,q1 [.one (wS x1)]),(5,q1 [.one (wS x2)]),(9,q1 [.one (wS x3)])],hv:=0,Hs:=[]},.d {ds:=[(3,q1 [.one (wS x4)]),(7,q1 [.one (wS x5)]),(11,q1 [.one (wS x6)])],hv:=0,Hs:=[]}] [] 0 [] (aO (Zbh.snd c1) (ZbJ.snd c2) c3 (ZbJ.snd c4) c5 (Zbh.snd c6) c7 (aK (Zbh.snd c8) c9 (Zbh.snd c10) c11))
def ZaT.B:Code:=Tryz.f192.body.getD .skip
def ZaT.rs (r:ByteArray):List CV:=[.one (wS r)]
def ZaT.p2 (N:Nat) (s_4:ByteArray) (c2_:(Int×ByteArray×Int)→Option ByteArray):(Int×ByteArray×Int)→Option ByteArray:=fun (n_5,tail_7,i_6)=>
 if (decide (i_6<8))=true then
  chk (isB [[zC .u8 (v8 (zR n_5 256))]]=true)<|
  chk (zW (istr (wX leafI [[zC .u8 (v8 (zR n_5 256))]]))+zW tail_7≤9223372036854775807)<|
  c2_ (w64 (zP n_5 256),(istr (wX leafI [[zC .u8 (v8 (zR n_5 256))]]))++tail_7,w64 (i_6+1))
 else
 chk (zW s_4+zW tail_7≤9223372036854775807)<|
 some (s_4++tail_7)
def ZaT.p1 (N:Nat) (s_0:ByteArray) (c1_:ByteArray→Option ByteArray):ByteArray→Option ByteArray:=fun s_4=>
 if ((zR ((zW s_4:Nat):Int) 64) != 56)=true then
  chk (zW s_4+zW (xU #[0])≤9223372036854775807)<|
  c1_ (s_4++(xU #[0]))
 else
 loopN (ZaT.p2 N s_4) N (w64 (8*((zW s_0:Nat):Int)),(xU #[]),0)
def ZaT (N:Nat) (s_0:ByteArray):Option ByteArray:=
 chk (zW s_0+zW (xU #[128])≤9223372036854775807)<|
 loopN (ZaT.p1 N s_0) N (s_0++(xU #[128]))
def ZaT.p2.S (s_4:ByteArray) (n_5:Int) (tail_7:ByteArray) (i_6:Int) (st:LL):S:=mkS 34 [(0,.one (.l (wS s_4))),(3,sI n_5),(4,.one (.l (wS tail_7))),(5,sI i_6)] [] st
def ZaT.p1.S (s_4 s_0:ByteArray) (st:LL):S:=mkS 34 [(0,.one (.l (wS s_4))),(3,sI ((zW s_0:Nat):Int))] [] st
theorem ZaT.p2_ok {s_4 n_5 tail_7 i_6 st r c2_ J2} (h:ZaT.p2 N s_4 c2_ (n_5,tail_7,i_6)=some r) (hE:En Tryz.f192 g0 w0 (ZaT.rs r) st R) (hc2 : ∀n_5 tail_7 i_6,c2_ (n_5,tail_7,i_6)=some r→At g0 w0 (ZaT.p2.S s_4 n_5 tail_7 i_6 st) J2):At g0 w0 (ZaT.p2.S s_4 n_5 tail_7 i_6 st) (XK zG R (.c (csub ZaT.B [1,1,1,1,1,1,0,1,0,0]) :: .h J2 :: [.b 2,.c (csub ZaT.B [1,1,1,1,1,1,1])])):=by
 unfold ZaT.p2 at h
 refine iteB h (fun c18 h1=>?_) (fun c18 h2=>?_)
 ·obtain ⟨c19,c20,h3⟩:=ck2 h1
  exact an fol [.r [],.c true,.r [],.r [],.r []] [0,3,4,5] [] (aN c18 (neI 256) z0 (eN (1)) c19 c20 (neI 256)) (hc2 (w64 (zP n_5 256)) ((istr (wX leafI [[zC .u8 (v8 (zR n_5 256))]]))++tail_7) (w64 (i_6+1)) h3)
 ·obtain ⟨c21,h4⟩:=ZaN h2
  obtain rfl:=Zac h4
  exact af fol hE [.r [],.c false,.r []] [] 0 [] (aI c18 c21)
theorem ZaT.p1_ok {s_4 s_0 st r c1_ J1} (h:ZaT.p1 N s_0 c1_ s_4=some r) (hE:En Tryz.f192 g0 w0 (ZaT.rs r) st R) (hc1 : ∀s_4,c1_ s_4=some r→At g0 w0 (ZaT.p1.S s_4 s_0 st) J1):At g0 w0 (ZaT.p1.S s_4 s_0 st) (XK zG R (.c (csub ZaT.B [1,1,1,0,0,0]) :: .h J1 :: [.b 0,.c (csub ZaT.B [1,1,1,1])])):=by
 unfold ZaT.p1 at h
 refine iteB h (fun c12 h5=>?_) (fun c12 h6=>?_)
 ·obtain ⟨c13,h7⟩:=ZaN h5
  exact an fol [.r [],.c true,.r []] [0,3] [] (aJ (neI 64) c12 c13) (hc1 (s_4++(xU #[0])) h7)
 ·exact aq fol [.r [],.c false,.r [],.r [],.r []] [0,3,4,5] [] (aI (neI 64) c12) (At.loop N (At.loopN (fun y:Int×ByteArray×Int=>ZaT.p2.S s_4 y.1 y.2.1 y.2.2 st) (fun c J hc y h=>ZaT.p2_ok (n_5:=y.1) (tail_7:=y.2.1) (i_6:=y.2.2) h hE (fun n_5 tail_7 i_6=>hc (n_5,tail_7,i_6))) N (w64 (8*((zW s_0:Nat):Int)),(xU #[]),0) h6))
theorem ZaT.snd {s_0:ByteArray} {r:ByteArray} (h:ZaT N s_0=some r):SndQ zG 192 [.one (wS s_0)] (ZaT.rs r):=fun st=>
 sO ZaT.B Tryz.func192 fun g0 w0 R hE=>by
  unfold ZaT at h
  obtain ⟨c1,h8⟩:=ZaN h
  exact aq fol [.r [],.r [],.r []] [0,3] [] c1 (At.loop N (At.loopN (fun y:ByteArray=>ZaT.p1.S y s_0 st) (fun c J hc y h=>ZaT.p1_ok h hE (fun s_4=>hc s_4)) N (s_0++(xU #[128])) h8))
def ZaZ.B:Code:=Tryz.f193.body.getD .skip
def ZaZ.rs (r:Int):List CV:=[.one (zC .u32 r)]
def ZaZ (N:Nat) (x_0 n_1:Int):Option Int:=
 chk (0≤n_1)<|
 chk (0≤(v64 (32-n_1)))<|
 some (v32 ((shrOf .u32 x_0 n_1)+(shlOf .u32 x_0 (v64 (32-n_1)))))
theorem ZaZ.snd {x_0 n_1:Int} {r:Int} (h:ZaZ N x_0 n_1=some r):SndQ zG 193 [.one (zC .u32 x_0),.one (zC .u64 n_1)] (ZaZ.rs r):=fun st=>
 sO ZaZ.B Tryz.func193 fun g0 w0 R hE=>by
  unfold ZaZ at h
  obtain ⟨c1,c2,h1⟩:=ck2 h
  obtain rfl:=Zac h1
  exact af fol hE [.r [],.r []] [] 0 [] (aI c1 c2)
def ZeE.B:Code:=Tryz.f194.body.getD .skip
def ZeE.rs (r:Int):List CV:=[.one (zC .u32 r)]
def ZeE (N:Nat) (i_0:Int):Option Int:=
 chk (0≤i_0)<|
 chk (i_0<64)<|
 some (zE [1116352408,1899447441,3049323471,3921009573,961987163,1508970993,2453635748,2870763221,3624381080,310598401,607225278,1426881987,1925078388,2162078206,2614888103,3248222580,3835390401,4022224774,264347078,604807628,770255983,1249150122,1555081692,1996064986,2554220882,2821834349,2952996808,3210313671,3336571891,3584528711,113926993,338241895,666307205,773529912,1294757372,1396182291,1695183700,1986661051,2177026350,2456956037,2730485921,2820302411,3259730800,3345764771,3516065817,3600352804,4094571909,275423344,430227734,506948616,659060556,883997877,958139571,1322822218,1537002063,1747873779,1955562222,2024104815,2227730452,2361852424,2428436474,2756734187,3204031479,3329325298] (zF i_0) 0)
theorem ZeE.snd {i_0:Int} {r:Int} (h:ZeE N i_0=some r):SndQ zG 194 [oI i_0] (ZeE.rs r):=fun st=>
 sO ZeE.B Tryz.func194 fun g0 w0 R hE=>by
  unfold ZeE at h
  obtain ⟨c1,c2,h1⟩:=ck2 h
  obtain rfl:=Zac h1
  exact af fol hE [.r [],.r [(0,{m:=3})]] [] 0 [] (aI c1 c2)
def Zas.B:Code:=Tryz.f158.body.getD .skip
def Zas.rs (r:(List Int)):List CV:=[.agg [zH .u8 32 r]]
def Zas.p3 (N:Nat) (c2_:(Int×(List Int))→Option (List Int)) (c1_:(Int×(List Int))→Option (List Int)) (x1:ByteArray) (at_2 i_112:Int) (h_111:List Int) (c3_:(Int×(List Int))→Option (List Int)):(Int×(List Int))→Option (List Int):=fun (j_166,w_167)=>
 if (decide (j_166<4))=true then
  chk (0≤i_112)<|
  chk (i_112<64)<|
  chk (0≤(w64 ((w64 (at_2+(w64 (4*i_112))))+j_166)))<|
  chk ((w64 ((w64 (at_2+(w64 (4*i_112))))+j_166))<((zW x1:Nat):Int))<|
  c3_ (w64 (j_166+1),zO w_167 (zF i_112) (v32 ((v32 ((zE w_167 (zF i_112) 0)*256))+(v32 (((UInt8.toNat (zE (Array.toList (ByteArray.data x1)) (zF (w64 ((w64 (at_2+(w64 (4*i_112))))+j_166))) 0):Nat):Int))))))
 else
 c2_ (w64 (i_112+1),w_167)
def Zas.p6 (N:Nat) (c1_:(Int×(List Int))→Option (List Int)) (x1:ByteArray) (at_2:Int) (s_208:List Int) (c6_:(Int×(List Int))→Option (List Int)):(Int×(List Int))→Option (List Int):=fun (i_216,h_217)=>
 if (decide (i_216<8))=true then
  chk (0≤i_216)<|
  c6_ (w64 (i_216+1),zO h_217 (zF i_216) (v32 ((zE h_217 (zF i_216) 0)+(zE s_208 (zF i_216) 0))))
 else
 c1_ (w64 (at_2+64),h_217)
def Zas.p5 (N:Nat) (c1_:(Int×(List Int))→Option (List Int)) (x1:ByteArray) (at_2:Int) (h_111 w_193:List Int) (c5_:(Int×(List Int))→Option (List Int)):(Int×(List Int))→Option (List Int):=fun (i_198,s_208)=>
 if (decide (i_198<64))=true then
  optE (ZaZ N (zE s_208 4 0) 6) fun x209=>
  optE (ZaZ N (zE s_208 4 0) 11) fun x210=>
  optE (ZaZ N (zE s_208 4 0) 25) fun x211=>
  optE (ZeE N i_198) fun x212=>
  chk (0≤i_198)<|
  optE (ZaZ N (zE s_208 0 0) 2) fun x213=>
  optE (ZaZ N (zE s_208 0 0) 13) fun x214=>
  optE (ZaZ N (zE s_208 0 0) 22) fun x215=>
  c5_ (w64 (i_198+1),[v32 ((v32 ((v32 ((v32 ((v32 ((zE s_208 7 0)+(bitsOf .xor .u32 (bitsOf .xor .u32 x209 x210) x211)))+(bitsOf .or .u32 (bitsOf .and .u32 (zE s_208 4 0) (zE s_208 5 0)) (bitsOf .and .u32 (v32 (4294967295-(zE s_208 4 0))) (zE s_208 6 0)))))+x212))+(zE w_193 (zF i_198) 0)))+(v32 ((bitsOf .xor .u32 (bitsOf .xor .u32 x213 x214) x215)+(bitsOf .or .u32 (bitsOf .or .u32 (bitsOf .and .u32 (zE s_208 0 0) (zE s_208 1 0)) (bitsOf .and .u32 (zE s_208 0 0) (zE s_208 2 0))) (bitsOf .and .u32 (zE s_208 1 0) (zE s_208 2 0)))))),zE s_208 0 0,zE s_208 1 0,zE s_208 2 0,v32 ((zE s_208 3 0)+(v32 ((v32 ((v32 ((v32 ((zE s_208 7 0)+(bitsOf .xor .u32 (bitsOf .xor .u32 x209 x210) x211)))+(bitsOf .or .u32 (bitsOf .and .u32 (zE s_208 4 0) (zE s_208 5 0)) (bitsOf .and .u32 (v32 (4294967295-(zE s_208 4 0))) (zE s_208 6 0)))))+x212))+(zE w_193 (zF i_198) 0)))),zE s_208 4 0,zE s_208 5 0,zE s_208 6 0])
 else
 loopN (Zas.p6 N c1_ x1 at_2 s_208) N (0,h_111)
def Zas.p4 (N:Nat) (c1_:(Int×(List Int))→Option (List Int)) (x1:ByteArray) (at_2:Int) (h_111:List Int) (c4_:(Int×(List Int))→Option (List Int)):(Int×(List Int))→Option (List Int):=fun (i_168,w_193)=>
 if (decide (i_168<64))=true then
  chk (0≤(w64 (i_168-15)))<|
  chk ((w64 (i_168-15))<64)<|
  optE (ZaZ N (zE w_193 (zF (w64 (i_168-15))) 0) 7) fun x194=>
  optE (ZaZ N (zE w_193 (zF (w64 (i_168-15))) 0) 18) fun x195=>
  chk (0≤(w64 (i_168-2)))<|
  chk ((w64 (i_168-2))<64)<|
  optE (ZaZ N (zE w_193 (zF (w64 (i_168-2))) 0) 17) fun x196=>
  optE (ZaZ N (zE w_193 (zF (w64 (i_168-2))) 0) 19) fun x197=>
  chk (0≤(w64 (i_168-16)))<|
  chk ((w64 (i_168-16))<64)<|
  chk (0≤(w64 (i_168-7)))<|
  chk ((w64 (i_168-7))<64)<|
  chk (0≤i_168)<|
  c4_ (w64 (i_168+1),zO w_193 (zF i_168) (v32 ((v32 ((v32 ((zE w_193 (zF (w64 (i_168-16))) 0)+(bitsOf .xor .u32 (bitsOf .xor .u32 x194 x195) (v32 (zP (zE w_193 (zF (w64 (i_168-15))) 0) 8)))))+(zE w_193 (zF (w64 (i_168-7))) 0)))+(bitsOf .xor .u32 (bitsOf .xor .u32 x196 x197) (v32 (zP (zE w_193 (zF (w64 (i_168-2))) 0) 1024))))))
 else
 loopN (Zas.p5 N c1_ x1 at_2 h_111 w_193) N (0,h_111)
def Zas.p2 (N:Nat) (c1_:(Int×(List Int))→Option (List Int)) (x1:ByteArray) (at_2:Int) (h_111:List Int) (c2_:(Int×(List Int))→Option (List Int)):(Int×(List Int))→Option (List Int):=fun (i_112,w_165)=>
 if (decide (i_112<16))=true then
  loopN (Zas.p3 N c2_ c1_ x1 at_2 i_112 h_111) N (0,w_165)
 else
 loopN (Zas.p4 N c1_ x1 at_2 h_111) N (16,w_165)
def Zas.p7 (N:Nat) (h_111:List Int) (c7_:(Int×(List Int))→Option (List Int)):(Int×(List Int))→Option (List Int):=fun (i_218,out_219)=>
 if (decide (i_218<32))=true then
  chk (0≤(w64 (zP i_218 4)))<|
  chk ((w64 (zP i_218 4))<8)<|
  chk (0≤(v64 (w64 (24-(w64 (8*(zR i_218 4)))))))<|
  chk (0≤i_218)<|
  c7_ (w64 (i_218+1),zO out_219 (zF i_218) (v8 (zR (shrOf .u32 (zE h_111 (zF (w64 (zP i_218 4))) 0) (v64 (w64 (24-(w64 (8*(zR i_218 4))))))) 256)))
 else
 some out_219
def Zas.p1 (N:Nat) (x1:ByteArray) (c1_:(Int×(List Int))→Option (List Int)):(Int×(List Int))→Option (List Int):=fun (at_2,h_111)=>
 if (decide (at_2<((zW x1:Nat):Int)))=true then
  loopN (Zas.p2 N c1_ x1 at_2 h_111) N (0,zB 64 0)
 else
 loopN (Zas.p7 N h_111) N (0,zB 32 0)
def Zas (N:Nat) (s_0:ByteArray):Option (List Int):=
 optE (ZaT N s_0) fun x1=>
 loopN (Zas.p1 N x1) N (0,[1779033703,3144134277,1013904242,2773480762,1359893119,2600822924,528734635,1541459225])
def Zas.p3.S (x1:ByteArray) (at_2 i_112 j_166:Int) (h_111 w_167:List Int) (st:LL):S:=mkS 225 [(2,sA 2),(3,sA 3),(4,.one (.l (wS x1))),(5,sI at_2),(6,sA 6),(7,sI i_112),(8,sI j_166)] [(2,.cells [zH .u8 32 (zB 32 0)]),(3,.cells [zH .u32 8 h_111]),(6,.cells [zH .u32 64 w_167])] st
def Zas.p6.S (x1:ByteArray) (at_2 i_216:Int) (h_217 s_208:List Int) (st:LL):S:=mkS 225 [(2,sA 2),(3,sA 3),(4,.one (.l (wS x1))),(5,sI at_2),(12,sA 12),(16,sI i_216)] [(2,.cells [zH .u8 32 (zB 32 0)]),(3,.cells [zH .u32 8 h_217]),(12,.cells [zH .u32 8 s_208])] st
def Zas.p5.S (x1:ByteArray) (at_2 i_198:Int) (h_111 w_193 s_208:List Int) (st:LL):S:=mkS 225 [(2,sA 2),(3,sA 3),(4,.one (.l (wS x1))),(5,sI at_2),(6,sA 6),(12,sA 12),(13,sI i_198)] [(2,.cells [zH .u8 32 (zB 32 0)]),(3,.cells [zH .u32 8 h_111]),(6,.cells [zH .u32 64 w_193]),(12,.cells [zH .u32 8 s_208])] st
def Zas.p4.S (x1:ByteArray) (at_2 i_168:Int) (h_111 w_193:List Int) (st:LL):S:=mkS 225 [(2,sA 2),(3,sA 3),(4,.one (.l (wS x1))),(5,sI at_2),(6,sA 6),(9,sI i_168)] [(2,.cells [zH .u8 32 (zB 32 0)]),(3,.cells [zH .u32 8 h_111]),(6,.cells [zH .u32 64 w_193])] st
def Zas.p2.S (x1:ByteArray) (at_2 i_112:Int) (h_111 w_165:List Int) (st:LL):S:=mkS 225 [(2,sA 2),(3,sA 3),(4,.one (.l (wS x1))),(5,sI at_2),(6,sA 6),(7,sI i_112)] [(2,.cells [zH .u8 32 (zB 32 0)]),(3,.cells [zH .u32 8 h_111]),(6,.cells [zH .u32 64 w_165])] st
def Zas.p7.S (i_218:Int) (h_111 out_219:List Int) (st:LL):S:=mkS 225 [(2,sA 2),(3,sA 3),(17,sA 17),(18,sI i_218)] [(2,.cells [zH .u8 32 (zB 32 0)]),(3,.cells [zH .u32 8 h_111]),(17,.cells [zH .u8 32 out_219])] st
def Zas.p1.S (x1:ByteArray) (at_2:Int) (h_111:List Int) (st:LL):S:=mkS 225 [(2,sA 2),(3,sA 3),(4,.one (.l (wS x1))),(5,sI at_2)] [(2,.cells [zH .u8 32 (zB 32 0)]),(3,.cells [zH .u32 8 h_111])] st
theorem Zas.p3_ok {x1 at_2 i_112 j_166 h_111 w_167 st r c2_ c1_ c3_ J2 J1 J3} (h:Zas.p3 N c2_ c1_ x1 at_2 i_112 h_111 c3_ (j_166,w_167)=some r) (hE:En Tryz.f158 g0 w0 (Zas.rs r) st R) (hc2 : ∀i_112 w_165,c2_ (i_112,w_165)=some r→At g0 w0 (Zas.p2.S x1 at_2 i_112 h_111 w_165 st) J2) (hc1 : ∀at_2 h_111,c1_ (at_2,h_111)=some r→At g0 w0 (Zas.p1.S x1 at_2 h_111 st) J1) (hc3 : ∀j_166 w_167,c3_ (j_166,w_167)=some r→At g0 w0 (Zas.p3.S x1 at_2 i_112 j_166 h_111 w_167 st) J3):At g0 w0 (Zas.p3.S x1 at_2 i_112 j_166 h_111 w_167 st) (XK zG R (.c (csub Zas.B [1,1,1,0,1,0,0,1,0,0,1,0,1,0,0,1,0,0,1,0,0]) :: .h J3 :: [.b 4,.b 3,.c (csub Zas.B [1,1,1,0,1,0,0,1,0,0,1,0,1,0,0,1,1]),.h J2,.b 2,.c (csub Zas.B [1,1,1,0,1,0,0,1,0,0,1,1]),.b 1,.c (csub Zas.B [1,1,1,0,1,0,0,1,1]),.h J1,.b 0,.c (csub Zas.B [1,1,1,1])])):=by
 unfold Zas.p3 at h
 refine iteB h (fun c293 h1=>?_) (fun c293 h2=>?_)
 ·obtain ⟨c294,c295,c296,c297,h3⟩:=ck4 h1
  exact and_ fol [.r [],.c true,.d {ds:=[],hv:=65536,Hs:=[65536]},.r []] [2,3,4,5,6,7,8] [2,3,6] (aN c293 c294 c295 c296 c297 c294 c295) (hc3 (w64 (j_166+1)) (zO w_167 (zF i_112) (v32 ((v32 ((zE w_167 (zF i_112) 0)*256))+(v32 (((UInt8.toNat (zE (Array.toList (ByteArray.data x1)) (zF (w64 ((w64 (at_2+(w64 (4*i_112))))+j_166))) 0):Nat):Int)))))) h3)
 ·exact an fol [.r [],.c false,.r []] [2,3,4,5,6,7] [2,3,6] c293 (hc2 (w64 (i_112+1)) w_167 h2)
theorem Zas.p6_ok {x1 at_2 i_216 h_217 s_208 st r c1_ c6_ J1 J6} (h:Zas.p6 N c1_ x1 at_2 s_208 c6_ (i_216,h_217)=some r) (hE:En Tryz.f158 g0 w0 (Zas.rs r) st R) (hc1 : ∀at_2 h_111,c1_ (at_2,h_111)=some r→At g0 w0 (Zas.p1.S x1 at_2 h_111 st) J1) (hc6 : ∀i_216 h_217,c6_ (i_216,h_217)=some r→At g0 w0 (Zas.p6.S x1 at_2 i_216 h_217 s_208 st) J6):At g0 w0 (Zas.p6.S x1 at_2 i_216 h_217 s_208 st) (XK zG R (.c (csub Zas.B [1,1,1,0,1,0,0,1,0,0,1,1,1,1,1,1,0,0]) :: .h J6 :: [.b 10,.b 1,.c (csub Zas.B [1,1,1,0,1,0,0,1,1]),.h J1,.b 0,.c (csub Zas.B [1,1,1,1])])):=by
 unfold Zas.p6 at h
 refine iteB h (fun c376 h4=>?_) (fun c376 h5=>?_)
 ·obtain ⟨c377,h6⟩:=ZaN h4
  exact and_ fol [.r [],.c true,.d {ds:=[],hv:=512,Hs:=[512]},.r []] [2,3,4,5,12,16] [2,3,12] (aN c376 c377 (oD c376) c377 (oD c376) c377 (oD c376)) (hc6 (w64 (i_216+1)) (zO h_217 (zF i_216) (v32 ((zE h_217 (zF i_216) 0)+(zE s_208 (zF i_216) 0)))) h6)
 ·exact an fol [.r [],.c false,.r []] [2,3,4,5] [2,3] c376 (hc1 (w64 (at_2+64)) h_217 h5)
theorem Zas.p5_ok {x1 at_2 i_198 h_111 w_193 s_208 st r c1_ c5_ J1 J5} (h:Zas.p5 N c1_ x1 at_2 h_111 w_193 c5_ (i_198,s_208)=some r) (hE:En Tryz.f158 g0 w0 (Zas.rs r) st R) (hc1 : ∀at_2 h_111,c1_ (at_2,h_111)=some r→At g0 w0 (Zas.p1.S x1 at_2 h_111 st) J1) (hc5 : ∀i_198 s_208,c5_ (i_198,s_208)=some r→At g0 w0 (Zas.p5.S x1 at_2 i_198 h_111 w_193 s_208 st) J5):At g0 w0 (Zas.p5.S x1 at_2 i_198 h_111 w_193 s_208 st) (XK zG R (.c (csub Zas.B [1,1,1,0,1,0,0,1,0,0,1,1,1,1,0,1,0,0]) :: .h J5 :: [.b 8,.c (csub Zas.B [1,1,1,0,1,0,0,1,0,0,1,1,1,1,1]),.b 1,.c (csub Zas.B [1,1,1,0,1,0,0,1,1]),.h J1,.b 0,.c (csub Zas.B [1,1,1,1])])):=by
 unfold Zas.p5 at h
 refine iteB h (fun c365 h7=>?_) (fun c365 h8=>?_)
 ·obtain ⟨x209,c366,h9⟩:=Zae h7
  obtain ⟨x210,c367,h10⟩:=Zae h9
  obtain ⟨x211,c368,h11⟩:=Zae h10
  obtain ⟨x212,c369,h12⟩:=Zae h11
  obtain ⟨c370,h13⟩:=ZaN h12
  obtain ⟨x213,c371,h14⟩:=Zae h13
  obtain ⟨x214,c372,h15⟩:=Zae h14
  obtain ⟨x215,c373,h16⟩:=Zae h15
  exact and_ fol [.r [],.c true,.d {ds:=[(4,q1 [.one (zC .u32 x209)]),(7,q1 [.one (zC .u32 x210)]),(11,q1 [.one (zC .u32 x211)]),(28,q1 [.one (zC .u32 x212)])],hv:=0,Hs:=[]},.d {ds:=[(2,q1 [.one (zC .u32 x213)]),(5,q1 [.one (zC .u32 x214)]),(9,q1 [.one (zC .u32 x215)])],hv:=0,Hs:=[]},.r [(19,{m:=3})],.r []] [2,3,4,5,6,12,13] [2,3,6,12] (aI c365 (ix 7 8 (ix 4 8 (aI (ZaZ.snd c366) (ix 4 8 (aI (ZaZ.snd c367) (ix 4 8 (aI (ZaZ.snd c368) (ix 4 8 (ix 5 8 (ix 4 8 (ix 6 8 (aK (ZeE.snd c369) c370 (oD c365) (ix 0 8 (aI (ZaZ.snd c371) (ix 0 8 (aI (ZaZ.snd c372) (ix 0 8 (aI (ZaZ.snd c373) (ix 0 8 (ix 1 8 (ix 0 8 (ix 2 8 (ix 1 8 (ix 2 8 (ix 0 8 (ix 1 8 (ix 2 8 (ix 3 8 (ix 4 8 (ix 5 8 (aI (leI 0 6) (ltI 6 8))))))))))))))))))))))))))))))))) (hc5 (w64 (i_198+1)) [v32 ((v32 ((v32 ((v32 ((v32 ((zE s_208 7 0)+(bitsOf .xor .u32 (bitsOf .xor .u32 x209 x210) x211)))+(bitsOf .or .u32 (bitsOf .and .u32 (zE s_208 4 0) (zE s_208 5 0)) (bitsOf .and .u32 (v32 (4294967295-(zE s_208 4 0))) (zE s_208 6 0)))))+x212))+(zE w_193 (zF i_198) 0)))+(v32 ((bitsOf .xor .u32 (bitsOf .xor .u32 x213 x214) x215)+(bitsOf .or .u32 (bitsOf .or .u32 (bitsOf .and .u32 (zE s_208 0 0) (zE s_208 1 0)) (bitsOf .and .u32 (zE s_208 0 0) (zE s_208 2 0))) (bitsOf .and .u32 (zE s_208 1 0) (zE s_208 2 0)))))),zE s_208 0 0,zE s_208 1 0,zE s_208 2 0,v32 ((zE s_208 3 0)+(v32 ((v32 ((v32 ((v32 ((zE s_208 7 0)+(bitsOf .xor .u32 (bitsOf .xor .u32 x209 x210) x211)))+(bitsOf .or .u32 (bitsOf .and .u32 (zE s_208 4 0) (zE s_208 5 0)) (bitsOf .and .u32 (v32 (4294967295-(zE s_208 4 0))) (zE s_208 6 0)))))+x212))+(zE w_193 (zF i_198) 0)))),zE s_208 4 0,zE s_208 5 0,zE s_208 6 0] h16)
 ·exact aq fol [.r [],.c false,.r []] [2,3,4,5,12,16] [2,3,12] c365 (At.loop N (At.loopN (fun y:Int×(List Int)=>Zas.p6.S x1 at_2 y.1 y.2 s_208 st) (fun c J hc y h=>Zas.p6_ok (i_216:=y.1) (h_217:=y.2) h hE hc1 (fun i_216 h_217=>hc (i_216,h_217))) N (0,h_111) h8))
theorem Zas.p4_ok {x1 at_2 i_168 h_111 w_193 st r c1_ c4_ J1 J4} (h:Zas.p4 N c1_ x1 at_2 h_111 c4_ (i_168,w_193)=some r) (hE:En Tryz.f158 g0 w0 (Zas.rs r) st R) (hc1 : ∀at_2 h_111,c1_ (at_2,h_111)=some r→At g0 w0 (Zas.p1.S x1 at_2 h_111 st) J1) (hc4 : ∀i_168 w_193,c4_ (i_168,w_193)=some r→At g0 w0 (Zas.p4.S x1 at_2 i_168 h_111 w_193 st) J4):At g0 w0 (Zas.p4.S x1 at_2 i_168 h_111 w_193 st) (XK zG R (.c (csub Zas.B [1,1,1,0,1,0,0,1,0,0,1,1,0,1,0,0]) :: .h J4 :: [.b 6,.c (csub Zas.B [1,1,1,0,1,0,0,1,0,0,1,1,1]),.b 1,.c (csub Zas.B [1,1,1,0,1,0,0,1,1]),.h J1,.b 0,.c (csub Zas.B [1,1,1,1])])):=by
 unfold Zas.p4 at h
 refine iteB h (fun c338 h17=>?_) (fun c338 h18=>?_)
 ·obtain ⟨c339,c340,h19⟩:=ck2 h17
  obtain ⟨x194,c341,h20⟩:=Zae h19
  obtain ⟨x195,c342,h21⟩:=Zae h20
  obtain ⟨c343,c344,h22⟩:=ck2 h21
  obtain ⟨x196,c345,h23⟩:=Zae h22
  obtain ⟨x197,c346,h24⟩:=Zae h23
  obtain ⟨c347,c348,c349,c350,c351,h25⟩:=ck5 h24
  exact and_ fol [.r [],.c true,.d {ds:=[(4,q1 [.one (zC .u32 x194)]),(9,q1 [.one (zC .u32 x195)])],hv:=0,Hs:=[]},.d {ds:=[(4,q1 [.one (zC .u32 x196)]),(9,q1 [.one (zC .u32 x197)])],hv:=0,Hs:=[]},.d {ds:=[],hv:=32768,Hs:=[32768]},.r []] [2,3,4,5,6,9] [2,3,6] (aO c338 c339 c340 (ZaZ.snd c341) c339 c340 (ZaZ.snd c342) (aO c339 c340 (neI 8) c343 c344 (ZaZ.snd c345) c343 (aO c344 (ZaZ.snd c346) c343 c344 (neI 1024) c347 c348 (aK c349 c350 c351 (oD c338))))) (hc4 (w64 (i_168+1)) (zO w_193 (zF i_168) (v32 ((v32 ((v32 ((zE w_193 (zF (w64 (i_168-16))) 0)+(bitsOf .xor .u32 (bitsOf .xor .u32 x194 x195) (v32 (zP (zE w_193 (zF (w64 (i_168-15))) 0) 8)))))+(zE w_193 (zF (w64 (i_168-7))) 0)))+(bitsOf .xor .u32 (bitsOf .xor .u32 x196 x197) (v32 (zP (zE w_193 (zF (w64 (i_168-2))) 0) 1024)))))) h25)
 ·exact aq fol [.r [],.c false,.r [],.r []] [2,3,4,5,6,12,13] [2,3,6,12] c338 (At.loop N (At.loopN (fun y:Int×(List Int)=>Zas.p5.S x1 at_2 y.1 h_111 w_193 y.2 st) (fun c J hc y h=>Zas.p5_ok (i_198:=y.1) (s_208:=y.2) h hE hc1 (fun i_198 s_208=>hc (i_198,s_208))) N (0,h_111) h18))
theorem Zas.p2_ok {x1 at_2 i_112 h_111 w_165 st r c1_ c2_ J1 J2} (h:Zas.p2 N c1_ x1 at_2 h_111 c2_ (i_112,w_165)=some r) (hE:En Tryz.f158 g0 w0 (Zas.rs r) st R) (hc1 : ∀at_2 h_111,c1_ (at_2,h_111)=some r→At g0 w0 (Zas.p1.S x1 at_2 h_111 st) J1) (hc2 : ∀i_112 w_165,c2_ (i_112,w_165)=some r→At g0 w0 (Zas.p2.S x1 at_2 i_112 h_111 w_165 st) J2):At g0 w0 (Zas.p2.S x1 at_2 i_112 h_111 w_165 st) (XK zG R (.c (csub Zas.B [1,1,1,0,1,0,0,1,0,0,1,0,1,0,0]) :: .h J2 :: [.b 2,.c (csub Zas.B [1,1,1,0,1,0,0,1,0,0,1,1]),.b 1,.c (csub Zas.B [1,1,1,0,1,0,0,1,1]),.h J1,.b 0,.c (csub Zas.B [1,1,1,1])])):=by
 unfold Zas.p2 at h
 refine iteB h (fun c287 h26=>?_) (fun c287 h27=>?_)
 ·exact aq fol [.r [],.c true,.r []] [2,3,4,5,6,7,8] [2,3,6] c287 (At.loop N (At.loopN (fun y:Int×(List Int)=>Zas.p3.S x1 at_2 i_112 y.1 h_111 y.2 st) (fun c J hc y h=>Zas.p3_ok (j_166:=y.1) (w_167:=y.2) h hE hc2 hc1 (fun j_166 w_167=>hc (j_166,w_167))) N (0,w_165) h26))
 ·exact aq fol [.r [],.c false,.r []] [2,3,4,5,6,9] [2,3,6] c287 (At.loop N (At.loopN (fun y:Int×(List Int)=>Zas.p4.S x1 at_2 y.1 h_111 y.2 st) (fun c J hc y h=>Zas.p4_ok (i_168:=y.1) (w_193:=y.2) h hE hc1 (fun i_168 w_193=>hc (i_168,w_193))) N (16,w_165) h27))
theorem Zas.p7_ok {i_218 h_111 out_219 st r c7_ J7} (h:Zas.p7 N h_111 c7_ (i_218,out_219)=some r) (hE:En Tryz.f158 g0 w0 (Zas.rs r) st R) (hc7 : ∀i_218 out_219,c7_ (i_218,out_219)=some r→At g0 w0 (Zas.p7.S i_218 h_111 out_219 st) J7):At g0 w0 (Zas.p7.S i_218 h_111 out_219 st) (XK zG R (.c (csub Zas.B [1,1,1,1,1,0,1,0,0]) :: .h J7 :: [.b 12,.c (csub Zas.B [1,1,1,1,1,1])])):=by
 unfold Zas.p7 at h
 refine iteB h (fun c383 h28=>?_) (fun c383 h29=>?_)
 ·obtain ⟨c384,c385,c386,c387,h30⟩:=ck4 h28
  exact an fol [.r [],.c true,.r [],.r []] [2,3,17,18] [2,3,17] (aO c383 (neI 4) c384 c385 (neI 4) c386 (neI 256) (aI c387 (oD c383))) (hc7 (w64 (i_218+1)) (zO out_219 (zF i_218) (v8 (zR (shrOf .u32 (zE h_111 (zF (w64 (zP i_218 4))) 0) (v64 (w64 (24-(w64 (8*(zR i_218 4))))))) 256))) h30)
 ·obtain rfl:=Zac h29
  exact af fol hE [.r [],.c false,.r []] [] 0 [] c383
theorem Zas.p1_ok {x1 at_2 h_111 st r c1_ J1} (h:Zas.p1 N x1 c1_ (at_2,h_111)=some r) (hE:En Tryz.f158 g0 w0 (Zas.rs r) st R) (hc1 : ∀at_2 h_111,c1_ (at_2,h_111)=some r→At g0 w0 (Zas.p1.S x1 at_2 h_111 st) J1):At g0 w0 (Zas.p1.S x1 at_2 h_111 st) (XK zG R (.c (csub Zas.B [1,1,1,0,1,0,0]) :: .h J1 :: [.b 0,.c (csub Zas.B [1,1,1,1])])):=by
 unfold Zas.p1 at h
 refine iteB h (fun c195 h31=>?_) (fun c195 h32=>?_)
 ·exact aq fol [.r [],.c true,.r [],.r []] [2,3,4,5,6,7] [2,3,6] c195 (At.loop N (At.loopN (fun y:Int×(List Int)=>Zas.p2.S x1 at_2 y.1 h_111 y.2 st) (fun c J hc y h=>Zas.p2_ok (i_112:=y.1) (w_165:=y.2) h hE hc1 (fun i_112 w_165=>hc (i_112,w_165))) N (0,zB 64 0) h31))
 ·exact aq fol [.r [],.c false,.r [],.r []] [2,3,17,18] [2,3,17] c195 (At.loop N (At.loopN (fun y:Int×(List Int)=>Zas.p7.S y.1 h_111 y.2 st) (fun c J hc y h=>Zas.p7_ok (i_218:=y.1) (out_219:=y.2) h hE (fun i_218 out_219=>hc (i_218,out_219))) N (0,zB 32 0) h32))
theorem Zas.snd {s_0:ByteArray} {r:(List Int)} (h:Zas N s_0=some r):SndQ zG 158 [.one (wS s_0)] (Zas.rs r):=fun st=>
 sO Zas.B Tryz.func158 fun g0 w0 R hE=>by
  unfold Zas at h
  obtain ⟨x1,c1,h33⟩:=Zae h
  exact aq fol [.r [],.r [(0,{m:=3})],.r [(1,q1 [.one (wS x1)])],.r []] [2,3,4,5] [2,3] (ZaT.snd c1) (At.loop N (At.loopN (fun y:Int×(List Int)=>Zas.p1.S x1 y.1 y.2 st) (fun c J hc y h=>Zas.p1_ok (at_2:=y.1) (h_111:=y.2) h hE (fun at_2 h_111=>hc (at_2,h_111))) N (0,[1779033703,3144134277,1013904242,2773480762,1359893119,2600822924,528734635,1541459225]) h33))
def Zbu.B:Code:=Tryz.f100.body.getD .skip
def Zbu.rs (r:(List Int)):List CV:=[.agg [zH .u8 32 r]]
def Zbu.p1 (N:Nat) (x1:List Int) (c1_:(ByteArray×Int)→Option (List Int)):(ByteArray×Int)→Option (List Int):=fun (b_4,i_2)=>
 if (decide (i_2<32))=true then
  chk (0≤i_2)<|
  chk (isB [[zC .u8 (zE x1 (zF i_2) 0)]]=true)<|
  chk (zW b_4+zW (istr (wX leafI [[zC .u8 (zE x1 (zF i_2) 0)]]))≤9223372036854775807)<|
  c1_ (b_4++(istr (wX leafI [[zC .u8 (zE x1 (zF i_2) 0)]])),w64 (i_2+1))
 else
 optE (Zas N b_4) fun x5=>
 some x5
def Zbu (N:Nat) (s_0:ByteArray):Option (List Int):=
 optE (Zas N s_0) fun x1=>
 loopN (Zbu.p1 N x1) N ((xU #[]),0)
def Zbu.p1.S (b_4:ByteArray) (i_2:Int) (x1:List Int) (st:LL):S:=mkS 21 [(2,sA 2),(3,sA 3),(4,.one (.l (wS b_4))),(5,sI i_2)] [(2,.cells [zH .u8 32 (zB 32 0)]),(3,.cells [zH .u8 32 x1])] st
theorem Zbu.p1_ok {b_4 i_2 x1 st r c1_ J1} (h:Zbu.p1 N x1 c1_ (b_4,i_2)=some r) (hE:En Tryz.f100 g0 w0 (Zbu.rs r) st R) (hc1 : ∀b_4 i_2,c1_ (b_4,i_2)=some r→At g0 w0 (Zbu.p1.S b_4 i_2 x1 st) J1):At g0 w0 (Zbu.p1.S b_4 i_2 x1 st) (XK zG R (.c (csub Zbu.B [1,1,1,0,1,0,0]) :: .h J1 :: [.b 0,.c (csub Zbu.B [1,1,1,1])])):=by
 unfold Zbu.p1 at h
 refine iteB h (fun c7 h1=>?_) (fun c7 h2=>?_)
 ·obtain ⟨c8,c9,c10,h3⟩:=ck3 h1
  exact an fol [.r [],.c true,.r [],.r []] [2,3,4,5] [2,3] (aN c7 c8 (oD c7) z0 (eN (1)) c9 c10) (hc1 (b_4++(istr (wX leafI [[zC .u8 (zE x1 (zF i_2) 0)]]))) (w64 (i_2+1)) h3)
 ·obtain ⟨x5,c11,h4⟩:=Zae h2
  obtain rfl:=Zac h4
  exact af fol hE [.r [],.c false,.r [(1,q1 [.agg [zH .u8 32 x5]])]] [] 0 [] (aI c7 (Zas.snd c11))
theorem Zbu.snd {s_0:ByteArray} {r:(List Int)} (h:Zbu N s_0=some r):SndQ zG 100 [.one (wS s_0)] (Zbu.rs r):=fun st=>
 sO Zbu.B Tryz.func100 fun g0 w0 R hE=>by
  unfold Zbu at h
  obtain ⟨x1,c1,h5⟩:=Zae h
  exact aq fol [.r [],.r [(1,q1 [.agg [zH .u8 32 x1]])],.r [],.r []] [2,3,4,5] [2,3] (Zas.snd c1) (At.loop N (At.loopN (fun y:ByteArray×Int=>Zbu.p1.S y.1 y.2 x1 st) (fun c J hc y h=>Zbu.p1_ok (b_4:=y.1) (i_2:=y.2) h hE (fun b_4 i_2=>hc (b_4,i_2))) N ((xU #[]),0) h5))
def ZcZ.B:Code:=Tryz.f54.body.getD .skip
def ZcZ.rs (r:(List Int)):List CV:=[.agg [zH .u8 32 r]]
def ZcZ (N:Nat) (h_0:Zaa):Option (List Int):=
 optE (ZcG N h_0) fun x1=>
 if (!x1)=true then
  some (zB 32 0)
 else
 optE (Zdh N h_0) fun x2=>
 optE (Zbu N x2) fun x3=>
 some x3
theorem ZcZ.snd {h_0:Zaa} {r:(List Int)} (h:ZcZ N h_0=some r):SndQ zG 54 [.agg h_0.ls] (ZcZ.rs r):=fun st=>
 sO ZcZ.B Tryz.func54 fun g0 w0 R hE=>by
  unfold ZcZ at h
  obtain ⟨x1,c1,h1⟩:=Zae h
  let o1:List PS:=[.r [],.r [(1,q1 [oB x1])]]
  refine iteB h1 (fun c2 h2=>?_) (fun c2 h3=>?_)
  ·obtain rfl:=Zac h2
   exact af fol hE (o1 ++ [.c true,.r []]) [] 0 [] (aI (ZcG.snd c1) c2)
  ·obtain ⟨x2,c3,h4⟩:=Zae h3
   obtain ⟨x3,c4,h5⟩:=Zae h4
   obtain rfl:=Zac h5
   exact af fol hE (o1 ++ [.c false,.r [(1,q1 [.one (wS x2)]),(2,q1 [.agg [zH .u8 32 x3]])]]) [] 0 [] (aK (ZcG.snd c1) c2 (Zdh.snd c3) (Zbu.snd c4))
def Zau.B:Code:=Tryz.f220.body.getD .skip
def Zau.rs (r:(List Int)×Bool):List CV:=[.agg [zH .u64 4 r.1],oB r.2]
def Zau.p2 (N:Nat) (c1_:(Int×Int×(List Int))→Option ((List Int)×Bool)) (by_1 over_2 c_1 i_2 w_12:Int) (n_0_0 d_11:List Int):Option ((List Int)×Bool):=
 chk (0≤i_2)<|
 chk (i_2<10)<|
 c1_ (w64 (zP (w64 ((w64 (w_12*by_1))+c_1)) 4294967296),w64 (i_2+1),zO d_11 (zF i_2) (zR (w64 ((w64 (w_12*by_1))+c_1)) 4294967296))
def Zau.p4 (N:Nat) (q_17:List Int) (c4_:(Int×(List Int))→Option ((List Int)×Bool)):(Int×(List Int))→Option ((List Int)×Bool):=fun (i_18,out_19)=>
 if (decide (i_18<8))=true then
  chk (0≤(w64 (zP i_18 2)))<|
  chk ((w64 (zP i_18 2))<4)<|
  chk (0≤i_18)<|
  chk (i_18<10)<|
  chk (0≤(v64 (w64 (32*(zR i_18 2)))))<|
  c4_ (w64 (i_18+1),zO out_19 (zF (w64 (zP i_18 2))) (v64 ((zE out_19 (zF (w64 (zP i_18 2))) 0)+(shlOf .u64 (v64 (zE q_17 (zF i_18) 0)) (v64 (w64 (32*(zR i_18 2))))))))
 else
 if ((zE q_17 8 0)==0)=true then
  some (out_19,(zE q_17 9 0)==0)
 else
 some (out_19,false)
def Zau.p3 (N:Nat) (over_2:Int) (d_11:List Int) (c3_:(Int×Int×(List Int))→Option ((List Int)×Bool)):(Int×Int×(List Int))→Option ((List Int)×Bool):=fun (rest_13,i_14,q_17)=>
 if (decide (i_14≥0))=true then
  chk (0≤i_14)<|
  chk (i_14<10)<|
  chk (over_2≠0)<|
  c3_ (zR (w64 ((w64 (rest_13*4294967296))+(zE d_11 (zF i_14) 0))) over_2,w64 (i_14-1),zO q_17 (zF i_14) (w64 (zP (w64 ((w64 (rest_13*4294967296))+(zE d_11 (zF i_14) 0))) over_2)))
 else
 loopN (Zau.p4 N q_17) N (0,zB 4 0)
def Zau.p1 (N:Nat) (by_1 over_2:Int) (n_0_0:List Int) (c1_:(Int×Int×(List Int))→Option ((List Int)×Bool)):(Int×Int×(List Int))→Option ((List Int)×Bool):=fun (c_1,i_2,d_11)=>
 if (decide (i_2<10))=true then
  if (decide (i_2<8))=true then
   chk (0≤(w64 (zP i_2 2)))<|
   chk ((w64 (zP i_2 2))<4)<|
   chk (0≤(v64 (w64 (32*(zR i_2 2)))))<|
   Zau.p2 N c1_ by_1 over_2 c_1 i_2 (w64 (zR (shrOf .u64 (zE n_0_0 (zF (w64 (zP i_2 2))) 0) (v64 (w64 (32*(zR i_2 2))))) 4294967296)) n_0_0 d_11
  else
  Zau.p2 N c1_ by_1 over_2 c_1 i_2 0 n_0_0 d_11
 else
 loopN (Zau.p3 N over_2 d_11) N (0,9,zB 10 0)
def Zau (N:Nat) (n_0_0:List Int) (by_1 over_2:Int):Option ((List Int)×Bool):=
 loopN (Zau.p1 N by_1 over_2 n_0_0) N (0,0,zB 10 0)
def Zau.p2.S (by_1 over_2 c_1 i_2 w_12:Int) (n_0_0 d_11:List Int) (st:LL):S:=mkS 96 [(1,sI by_1),(2,sI over_2),(3,sA 3),(6,sA 6),(8,sA 8),(9,sI c_1),(10,sI i_2),(11,sI w_12)] [(3,.cells [zH .u64 4 n_0_0]),(6,.cells [zH .u64 4 (zB 4 0)]),(8,.cells [zH .i64 10 d_11])] st
def Zau.p4.S (i_18:Int) (q_17 out_19:List Int) (st:LL):S:=mkS 96 [(6,sA 6),(14,sA 14),(17,sA 17),(18,sI i_18)] [(6,.cells [zH .u64 4 (zB 4 0)]),(14,.cells [zH .i64 10 q_17]),(17,.cells [zH .u64 4 out_19])] st
def Zau.p3.S (over_2 rest_13 i_14:Int) (d_11 q_17:List Int) (st:LL):S:=mkS 96 [(2,sI over_2),(6,sA 6),(8,sA 8),(13,sI rest_13),(14,sA 14),(15,sI i_14)] [(6,.cells [zH .u64 4 (zB 4 0)]),(8,.cells [zH .i64 10 d_11]),(14,.cells [zH .i64 10 q_17])] st
def Zau.p1.S (by_1 over_2 c_1 i_2:Int) (n_0_0 d_11:List Int) (st:LL):S:=mkS 96 [(1,sI by_1),(2,sI over_2),(3,sA 3),(6,sA 6),(8,sA 8),(9,sI c_1),(10,sI i_2)] [(3,.cells [zH .u64 4 n_0_0]),(6,.cells [zH .u64 4 (zB 4 0)]),(8,.cells [zH .i64 10 d_11])] st
theorem Zau.p2_ok {by_1 over_2 c_1 i_2 w_12 n_0_0 d_11 st r c1_ J1} (h:Zau.p2 N c1_ by_1 over_2 c_1 i_2 w_12 n_0_0 d_11=some r) (hE:En Tryz.f220 g0 w0 (Zau.rs r) st R) (hc1 : ∀c_1 i_2 d_11,c1_ (c_1,i_2,d_11)=some r→At g0 w0 (Zau.p1.S by_1 over_2 c_1 i_2 n_0_0 d_11 st) J1):At g0 w0 (Zau.p2.S by_1 over_2 c_1 i_2 w_12 n_0_0 d_11 st) (XK zG R [.c (csub Zau.B [1,1,1,0,1,0,0,1,0,0,1,1]),.b 1,.c (csub Zau.B [1,1,1,0,1,0,0,1,1]),.h J1,.b 0,.c (csub Zau.B [1,1,1,1])]):=by
 unfold Zau.p2 at h
 obtain ⟨c49,c50,h1⟩:=ck2 h
 exact an fol [.r [],.r [],.r [],.r []] [1,2,3,6,8,9,10] [3,6,8] (aK (neI 4294967296) c49 c50 (neI 4294967296)) (hc1 (w64 (zP (w64 ((w64 (w_12*by_1))+c_1)) 4294967296)) (w64 (i_2+1)) (zO d_11 (zF i_2) (zR (w64 ((w64 (w_12*by_1))+c_1)) 4294967296)) h1)
theorem Zau.p4_ok {i_18 q_17 out_19 st r c4_ J4} (h:Zau.p4 N q_17 c4_ (i_18,out_19)=some r) (hE:En Tryz.f220 g0 w0 (Zau.rs r) st R) (hc4 : ∀i_18 out_19,c4_ (i_18,out_19)=some r→At g0 w0 (Zau.p4.S i_18 q_17 out_19 st) J4):At g0 w0 (Zau.p4.S i_18 q_17 out_19 st) (XK zG R (.c (csub Zau.B [1,1,1,1,1,1,1,1,0,1,0,0]) :: .h J4 :: [.b 4,.c (csub Zau.B [1,1,1,1,1,1,1,1,1])])):=by
 unfold Zau.p4 at h
 refine iteB h (fun c80 h2=>?_) (fun c80 h3=>?_)
 ·obtain ⟨c81,c82,c83,c84,c85,h4⟩:=ck5 h2
  exact and_ fol [.r [],.c true,.d {ds:=[],hv:=131072,Hs:=[131072]},.r []] [6,14,17,18] [6,14,17] (aO c80 (neI 2) (neI 2) c81 c82 c83 c84 (aK (neI 2) c85 c81 c82)) (hc4 (w64 (i_18+1)) (zO out_19 (zF (w64 (zP i_18 2))) (v64 ((zE out_19 (zF (w64 (zP i_18 2))) 0)+(shlOf .u64 (v64 (zE q_17 (zF i_18) 0)) (v64 (w64 (32*(zR i_18 2)))))))) h4)
 ·refine iteB h3 (fun c86 h5=>?_) (fun c86 h6=>?_)
  ·obtain rfl:=Zac h5
   exact afd fol hE [.r [],.c false,.d {ds:=[],hv:=512,Hs:=[512]}] [] 0 [] (aI c80 (ix 8 10 (aI c86 (ix 9 10 (aI c86 (ix 9 10 (aM c86 c86 c86 c86 c86 c86)))))))
  ·obtain rfl:=Zac h6
   exact afd fol hE [.r [],.c false,.d {ds:=[(5,wF),(6,wF),(7,wF),(8,yF)],hv:=512,Hs:=[512]}] [] 0 [] (aI c80 (ix 8 10 (aO c86 c86 c86 c86 c86 c86 c86 c86)))
theorem Zau.p3_ok {over_2 rest_13 i_14 d_11 q_17 st r c3_ J3} (h:Zau.p3 N over_2 d_11 c3_ (rest_13,i_14,q_17)=some r) (hE:En Tryz.f220 g0 w0 (Zau.rs r) st R) (hc3 : ∀rest_13 i_14 q_17,c3_ (rest_13,i_14,q_17)=some r→At g0 w0 (Zau.p3.S over_2 rest_13 i_14 d_11 q_17 st) J3):At g0 w0 (Zau.p3.S over_2 rest_13 i_14 d_11 q_17 st) (XK zG R (.c (csub Zau.B [1,1,1,1,1,1,0,1,0,0]) :: .h J3 :: [.b 2,.c (csub Zau.B [1,1,1,1,1,1,1])])):=by
 unfold Zau.p3 at h
 refine iteB h (fun c69 h7=>?_) (fun c69 h8=>?_)
 ·obtain ⟨c70,c71,c72,h9⟩:=ck3 h7
  exact an fol [.r [],.c true,.r [],.r [],.r [],.r []] [2,6,8,13,14,15] [6,8,14] (aN c69 c70 c71 c72 c70 c71 c72) (hc3 (zR (w64 ((w64 (rest_13*4294967296))+(zE d_11 (zF i_14) 0))) over_2) (w64 (i_14-1)) (zO q_17 (zF i_14) (w64 (zP (w64 ((w64 (rest_13*4294967296))+(zE d_11 (zF i_14) 0))) over_2))) h9)
 ·exact aq fol [.r [],.c false,.r [],.r []] [6,14,17,18] [6,14,17] c69 (At.loop N (At.loopN (fun y:Int×(List Int)=>Zau.p4.S y.1 q_17 y.2 st) (fun c J hc y h=>Zau.p4_ok (i_18:=y.1) (out_19:=y.2) h hE (fun i_18 out_19=>hc (i_18,out_19))) N (0,zB 4 0) h8))
theorem Zau.p1_ok {by_1 over_2 c_1 i_2 n_0_0 d_11 st r c1_ J1} (h:Zau.p1 N by_1 over_2 n_0_0 c1_ (c_1,i_2,d_11)=some r) (hE:En Tryz.f220 g0 w0 (Zau.rs r) st R) (hc1 : ∀c_1 i_2 d_11,c1_ (c_1,i_2,d_11)=some r→At g0 w0 (Zau.p1.S by_1 over_2 c_1 i_2 n_0_0 d_11 st) J1):At g0 w0 (Zau.p1.S by_1 over_2 c_1 i_2 n_0_0 d_11 st) (XK zG R (.c (csub Zau.B [1,1,1,0,1,0,0]) :: .h J1 :: [.b 0,.c (csub Zau.B [1,1,1,1])])):=by
 unfold Zau.p1 at h
 refine iteB h (fun c44 h10=>?_) (fun c44 h11=>?_)
 ·refine iteB h10 (fun c45 h12=>?_) (fun c45 h13=>?_)
  ·obtain ⟨c46,c47,c48,h14⟩:=ck3 h12
   exact aq fol [.r [],.c true,.r [],.r [],.c true,.r [],.s 6] [1,2,3,6,8,9,10,11] [3,6,8] (aO c44 c45 (neI 2) c46 c47 (neI 2) c48 (neI 4294967296)) (Zau.p2_ok h14 hE hc1)
  ·exact aq fol [.r [],.c true,.r [],.r [],.c false,.s 6] [1,2,3,6,8,9,10,11] [3,6,8] (aI c44 c45) (Zau.p2_ok h13 hE hc1)
 ·exact aq fol [.r [],.c false,.r [],.r [],.r []] [2,6,8,13,14,15] [6,8,14] c44 (At.loop N (At.loopN (fun y:Int×Int×(List Int)=>Zau.p3.S over_2 y.1 y.2.1 d_11 y.2.2 st) (fun c J hc y h=>Zau.p3_ok (rest_13:=y.1) (i_14:=y.2.1) (q_17:=y.2.2) h hE (fun rest_13 i_14 q_17=>hc (rest_13,i_14,q_17))) N (0,9,zB 10 0) h11))
theorem Zau.snd {n_0_0:List Int} {by_1 over_2:Int} {r:(List Int)×Bool} (h:Zau N n_0_0 by_1 over_2=some r):SndQ zG 220 [.agg [zH .u64 4 n_0_0],oI by_1,oI over_2] (Zau.rs r):=fun st=>
 sO Zau.B Tryz.func220 fun g0 w0 R hE=>by
  unfold Zau at h
  exact aq fol [.r [],.r [],.r [],.r []] [1,2,3,6,8,9,10] [3,6,8] trivial (At.loop N (At.loopN (fun y:Int×Int×(List Int)=>Zau.p1.S by_1 over_2 y.1 y.2.1 n_0_0 y.2.2 st) (fun c J hc y h=>Zau.p1_ok (c_1:=y.1) (i_2:=y.2.1) (d_11:=y.2.2) h hE (fun c_1 i_2 d_11=>hc (c_1,i_2,d_11))) N (0,0,zB 10 0) h))
def Zay.B:Code:=Tryz.f221.body.getD .skip
def Zay.rs (r:Int):List CV:=[oI r]
def Zay.p2 (N:Nat) (c1_:(Int×Int)→Option Int) (size_4 i_2:Int) (n_0_0:List Int):Option Int:=
 c1_ (size_4,w64 (i_2+1))
def Zay.p4 (N:Nat) (size_8 word_9:Int):Option Int:=
 some (w64 ((w64 (size_8*16777216))+word_9))
def Zay.p3 (N:Nat) (size_1 word_7:Int):Option Int:=
 if (decide (word_7≥8388608))=true then
  Zay.p4 N (w64 (size_1+1)) (w64 (zP word_7 256))
 else
 Zay.p4 N size_1 word_7
def Zay.p1 (N:Nat) (n_0_0:List Int) (c1_:(Int×Int)→Option Int):(Int×Int)→Option Int:=fun (size_1,i_2)=>
 if (decide (i_2<32))=true then
  optE (Zao N n_0_0 (w64 ((-8)*i_2))) fun x3=>
  if (decide ((zR (zE x3 0 0) 256)>0))=true then
   Zay.p2 N c1_ (w64 (i_2+1)) i_2 n_0_0
  else
  Zay.p2 N c1_ size_1 i_2 n_0_0
 else
 optE (Zao N n_0_0 (w64 (8*(w64 (3-size_1))))) fun x5=>
 if (decide (size_1>3))=true then
  optE (Zao N n_0_0 (w64 ((-8)*(w64 (size_1-3))))) fun x6=>
  Zay.p3 N size_1 (w64 (zR (zE x6 0 0) 16777216))
 else
 Zay.p3 N size_1 (w64 (zR (zE x5 0 0) 16777216))
def Zay (N:Nat) (n_0_0:List Int):Option Int:=
 loopN (Zay.p1 N n_0_0) N (0,0)
def Zay.p2.S (size_4 i_2:Int) (n_0_0:List Int) (st:LL):S:=mkS 49 [(1,sA 1),(3,sI size_4),(4,sI i_2)] [(1,.cells [zH .u64 4 n_0_0])] st
def Zay.p4.S (size_8 word_9:Int) (st:LL):S:=mkS 49 [(3,sI size_8),(6,sI word_9)] [] st
def Zay.p3.S (size_1 word_7:Int) (st:LL):S:=mkS 49 [(3,sI size_1),(6,sI word_7)] [] st
def Zay.p1.S (size_1 i_2:Int) (n_0_0:List Int) (st:LL):S:=mkS 49 [(1,sA 1),(3,sI size_1),(4,sI i_2)] [(1,.cells [zH .u64 4 n_0_0])] st
theorem Zay.p2_ok {size_4 i_2 n_0_0 st r c1_ J1} (h:Zay.p2 N c1_ size_4 i_2 n_0_0=some r) (hE:En Tryz.f221 g0 w0 (Zay.rs r) st R) (hc1 : ∀size_1 i_2,c1_ (size_1,i_2)=some r→At g0 w0 (Zay.p1.S size_1 i_2 n_0_0 st) J1):At g0 w0 (Zay.p2.S size_4 i_2 n_0_0 st) (XK zG R [.c (csub Zay.B [1,1,0,1,0,0,1,1]),.h J1,.b 0,.c (csub Zay.B [1,1,1])]):=by
 unfold Zay.p2 at h
 exact an fol [.r []] [1,3,4] [1] trivial (hc1 size_4 (w64 (i_2+1)) h)
theorem Zay.p4_ok {size_8 word_9 st r} (h:Zay.p4 N size_8 word_9=some r) (hE:En Tryz.f221 g0 w0 (Zay.rs r) st R):At g0 w0 (Zay.p4.S size_8 word_9 st) (XK zG R [.c (csub Zay.B [1,1,1,1,1,1])]):=by
 unfold Zay.p4 at h
 obtain rfl:=Zac h
 exact af fol hE [.r []] [] 0 [] trivial
theorem Zay.p3_ok {size_1 word_7 st r} (h:Zay.p3 N size_1 word_7=some r) (hE:En Tryz.f221 g0 w0 (Zay.rs r) st R):At g0 w0 (Zay.p3.S size_1 word_7 st) (XK zG R [.c (csub Zay.B [1,1,1,1,1])]):=by
 unfold Zay.p3 at h
 refine iteB h (fun c7 h1=>?_) (fun c7 h2=>?_)
 ·exact aq fol [.r [],.c true,.r [],.r [],.s 1] [3,6] [] (aI c7 (neI 256)) (Zay.p4_ok h1 hE)
 ·exact aq fol [.r [],.c false,.s 1] [3,6] [] c7 (Zay.p4_ok h2 hE)
theorem Zay.p1_ok {size_1 i_2 n_0_0 st r c1_ J1} (h:Zay.p1 N n_0_0 c1_ (size_1,i_2)=some r) (hE:En Tryz.f221 g0 w0 (Zay.rs r) st R) (hc1 : ∀size_1 i_2,c1_ (size_1,i_2)=some r→At g0 w0 (Zay.p1.S size_1 i_2 n_0_0 st) J1):At g0 w0 (Zay.p1.S size_1 i_2 n_0_0 st) (XK zG R (.c (csub Zay.B [1,1,0,1,0,0]) :: .h J1 :: [.b 0,.c (csub Zay.B [1,1,1])])):=by
 unfold Zay.p1 at h
 refine iteB h (fun c1 h3=>?_) (fun c1 h4=>?_)
 ·obtain ⟨x3,c2,h5⟩:=Zae h3
  let o1:List PS:=[.r [],.c true,.r [(3,q1 [.agg [zH .u64 4 x3]])],.r []]
  have t1 {Q:Prop} (q:Q):=aJ c1 (Zao.snd c2) (ix 0 4 (aI (neI 256) q))
  refine iteB h5 (fun c3 h6=>?_) (fun c3 h7=>?_)
  ·exact aq fol (o1 ++ [.c true,.r [],.s 4]) [1,3,4] [1] (t1 c3) (Zay.p2_ok h6 hE hc1)
  ·exact aq fol (o1 ++ [.c false,.s 4]) [1,3,4] [1] (t1 c3) (Zay.p2_ok h7 hE hc1)
 ·obtain ⟨x5,c4,h8⟩:=Zae h4
  let o2:List PS:=[.r [],.c false,.r [(4,q1 [.agg [zH .u64 4 x5]])],.r []]
  have t2 {Q:Prop} (q:Q):=aJ c1 (Zao.snd c4) (ix 0 4 (aI (neI 16777216) q))
  refine iteB h8 (fun c5 h9=>?_) (fun c5 h10=>?_)
  ·obtain ⟨x6,c6,h11⟩:=Zae h9
   exact aq fol (o2 ++ [.c true,.r [(4,q1 [.agg [zH .u64 4 x6]])],.s 1]) [3,6] [] (t2 (aJ c5 (Zao.snd c6) (ix 0 4 (neI 16777216)))) (Zay.p3_ok h11 hE)
  ·exact aq fol (o2 ++ [.c false,.s 1]) [3,6] [] (t2 c5) (Zay.p3_ok h10 hE)
theorem Zay.snd {n_0_0:List Int} {r:Int} (h:Zay N n_0_0=some r):SndQ zG 221 [.agg [zH .u64 4 n_0_0]] (Zay.rs r):=fun st=>
 sO Zay.B Tryz.func221 fun g0 w0 R hE=>by
  unfold Zay at h
  exact aq fol [.r [],.r [],.r []] [1,3,4] [1] trivial (At.loop N (At.loopN (fun y:Int×Int=>Zay.p1.S y.1 y.2 n_0_0 st) (fun c J hc y h=>Zay.p1_ok (size_1:=y.1) (i_2:=y.2) h hE (fun size_1 i_2=>hc (size_1,i_2))) N (0,0) h))
def ZaA.B:Code:=Tryz.f204.body.getD .skip
def ZaA.rs (r:Int):List CV:=[oI r]
def ZaA.p3 (N:Nat) (n_11:List Int):Option Int:=
 optE (Zay N n_11) fun x12=>
 some x12
def ZaA.p2 (N:Nat) (p_0:Zak) (took_5:Int) (x1:List Int):Option Int:=
 optE (Zau N x1 took_5 (w64 (p_0.Interval*p_0.Spacing))) fun (x6,x7)=>
 optE (Zco N p_0.Limit p_0.Limit) fun (x8,x9)=>
 if (!x7)=true then
  some p_0.Limit
 else
 optE (Zbp N x8 x6) fun x10=>
 if x10=true then
  some p_0.Limit
 else
 if (x6==(zB 4 0))=true then
  ZaA.p3 N [1,0,0,0]
 else
 ZaA.p3 N x6
def ZaA.p1 (N:Nat) (p_0:Zak) (took_4:Int) (x1:List Int):Option Int:=
 if (decide (took_4>(w64 ((w64 (p_0.Interval*p_0.Spacing))*4))))=true then
  ZaA.p2 N p_0 (w64 ((w64 (p_0.Interval*p_0.Spacing))*4)) x1
 else
 ZaA.p2 N p_0 took_4 x1
def ZaA (N:Nat) (p_0:Zak) (bits_1 from_2 to_3:Int):Option Int:=
 optE (Zco N bits_1 p_0.Limit) fun (x1,x2)=>
 optE (Zdf N p_0) fun x3=>
 if (!x3)=true then
  some p_0.Limit
 else
 if (!x2)=true then
  some p_0.Limit
 else
 if (decide ((w64 (to_3-from_2))<(w64 (zP (w64 (p_0.Interval*p_0.Spacing)) 4))))=true then
  ZaA.p1 N p_0 (w64 (zP (w64 (p_0.Interval*p_0.Spacing)) 4)) x1
 else
 ZaA.p1 N p_0 (w64 (to_3-from_2)) x1
def ZaA.p3.S (n_11:List Int) (st:LL):S:=mkS 83 [(13,sA 13)] [(13,.cells [zH .u64 4 n_11])] st
def ZaA.p2.S (p_0:Zak) (took_5:Int) (x1:List Int) (st:LL):S:=mkS 83 [(4,sA 4),(9,sA 9),(11,sI (w64 (p_0.Interval*p_0.Spacing))),(12,sI took_5)] [(4,.cells p_0.ls),(9,.cells [zH .u64 4 x1])] st
def ZaA.p1.S (p_0:Zak) (took_4:Int) (x1:List Int) (st:LL):S:=mkS 83 [(4,sA 4),(9,sA 9),(11,sI (w64 (p_0.Interval*p_0.Spacing))),(12,sI took_4)] [(4,.cells p_0.ls),(9,.cells [zH .u64 4 x1])] st
theorem ZaA.p3_ok {n_11 st r} (h:ZaA.p3 N n_11=some r) (hE:En Tryz.f204 g0 w0 (ZaA.rs r) st R):At g0 w0 (ZaA.p3.S n_11 st) (XK zG R [.c (csub ZaA.B [1,1,1,1,1,1,1,1,1,1,1])]):=by
 unfold ZaA.p3 at h
 obtain ⟨x12,c13,h1⟩:=Zae h
 obtain rfl:=Zac h1
 exact af fol hE [.r [(1,q1 [oI x12])]] [] 0 [] (Zay.snd c13)
theorem ZaA.p2_ok {p_0 took_5 x1 st r} (h:ZaA.p2 N p_0 took_5 x1=some r) (hE:En Tryz.f204 g0 w0 (ZaA.rs r) st R):At g0 w0 (ZaA.p2.S p_0 took_5 x1 st) (XK zG R [.c (csub ZaA.B [1,1,1,1,1,1,1])]):=by
 unfold ZaA.p2 at h
 obtain ⟨⟨x6,x7⟩,c7,h2⟩:=Zae h
 obtain ⟨⟨x8,x9⟩,c8,h3⟩:=Zae h2
 let o1:List PS:=[.r [(3,q1 [.agg [zH .u64 4 x6],oB x7])],.r [(4,q1 [.agg [zH .u64 4 x8],oB x9])]]
 have t1 {Q:Prop} (q:Q):=aJ (Zau.snd c7) (Zco.snd c8) q
 refine iteB h3 (fun c9 h4=>?_) (fun c9 h5=>?_)
 ·obtain rfl:=Zac h4
  exact af fol hE (o1 ++ [.r [(3,wF),(4,wF),(5,wF)],.c true,.r []]) [] 0 [] (t1 (aL (not_false (ZaX c9)) (not_false (ZaX c9)) (not_false (ZaX c9)) (not_false (ZaX c9)) eT))
 ·obtain ⟨x10,c10,h6⟩:=Zae h5
  let o2:List PS:=o1 ++ [.r [(5,q1 [oB x10]),(6,yF)]]
  have t2 {Q:Prop} (q:Q):=t1 (aM (not_true (ZaU c9)) (not_true (ZaU c9)) (not_true (ZaU c9)) (Zbp.snd c10) (not_true (ZaU c9)) q)
  refine iteB h6 (fun c11 h7=>?_) (fun c11 h8=>?_)
  ·obtain rfl:=Zac h7
   exact af fol hE (o2 ++ [.c true,.r []]) [] 0 [] (t2 c11)
  ·refine iteB h8 (fun c12 h9=>?_) (fun c12 h10=>?_)
   ·exact aq fol (o2 ++ [.c false,.r [],.c true,.r [(0,{m:=3})],.s 1]) [13] [13] (t2 (aI c11 c12)) (ZaA.p3_ok h9 hE)
   ·exact aq fol (o2 ++ [.c false,.r [],.c false,.s 1]) [13] [13] (t2 (aI c11 c12)) (ZaA.p3_ok h10 hE)
theorem ZaA.p1_ok {p_0 took_4 x1 st r} (h:ZaA.p1 N p_0 took_4 x1=some r) (hE:En Tryz.f204 g0 w0 (ZaA.rs r) st R):At g0 w0 (ZaA.p1.S p_0 took_4 x1 st) (XK zG R [.c (csub ZaA.B [1,1,1,1,1,1])]):=by
 unfold ZaA.p1 at h
 refine iteB h (fun c6 h11=>?_) (fun c6 h12=>?_)
 ·exact aq fol [.r [],.c true,.r [],.s 1] [4,9,11,12] [4,9] c6 (ZaA.p2_ok h11 hE)
 ·exact aq fol [.r [],.c false,.s 1] [4,9,11,12] [4,9] c6 (ZaA.p2_ok h12 hE)
theorem ZaA.snd {p_0:Zak} {bits_1 from_2 to_3:Int} {r:Int} (h:ZaA N p_0 bits_1 from_2 to_3=some r):SndQ zG 204 [.agg p_0.ls,oI bits_1,oI from_2,oI to_3] (ZaA.rs r):=fun st=>
 sO ZaA.B Tryz.func204 fun g0 w0 R hE=>by
  unfold ZaA at h
  obtain ⟨⟨x1,x2⟩,c1,h13⟩:=Zae h
  obtain ⟨x3,c2,h14⟩:=Zae h13
  let o3:List PS:=[.r [],.r [(3,q1 [.agg [zH .u64 4 x1],oB x2])]]
  have t3 {Q:Prop} (q:Q):=aJ (Zco.snd c1) (Zdf.snd c2) q
  refine iteB h14 (fun c3 h15=>?_) (fun c3 h16=>?_)
  ·obtain rfl:=Zac h15
   exact af fol hE (o3 ++ [.r [(1,q1 [oB x3]),(4,wF),(5,wF)],.c true,.r []]) [] 0 [] (t3 (aK (not_false (ZaX c3)) (not_false (ZaX c3)) (not_false (ZaX c3)) eT))
  ·let o4:List PS:=o3 ++ [.r [(1,q1 [oB x3]),(6,yF)]]
   have t4 {Q:Prop} (q:Q):=t3 (aK (not_true (ZaU c3)) (not_true (ZaU c3)) (not_true (ZaU c3)) q)
   refine iteB h16 (fun c4 h17=>?_) (fun c4 h18=>?_)
   ·obtain rfl:=Zac h17
    exact af fol hE (o4 ++ [.c true,.r []]) [] 0 [] (t4 c4)
   ·refine iteB h18 (fun c5 h19=>?_) (fun c5 h20=>?_)
    ·exact aq fol (o4 ++ [.c false,.r [],.r [],.r [],.c true,.r [],.s 1]) [4,9,11,12] [4,9] (t4 (aK c4 (neI 4) c5 (neI 4))) (ZaA.p1_ok h19 hE)
    ·exact aq fol (o4 ++ [.c false,.r [],.r [],.r [],.c false,.s 1]) [4,9,11,12] [4,9] (t4 (aJ c4 (neI 4) c5)) (ZaA.p1_ok h20 hE)
def Zcb.B:Code:=Tryz.f171.body.getD .skip
def Zcb.rs (r:Int):List CV:=[oI r]
def Zcb.p1 (N:Nat) (bits_2 time_3 hard_5 own_6:Int) (p_0:Zak):Option Int:=
 if (!p_0.Easy)=true then
  some bits_2
 else
 if (decide ((w64 (own_6-time_3))>(w64 (2*p_0.Spacing))))=true then
  some p_0.Limit
 else
 some hard_5
def Zcb (N:Nat) (p_0:Zak) (height_1 bits_2 time_3 first_4 hard_5 own_6:Int):Option Int:=
 if (decide (height_1≤0))=true then
  some p_0.Limit
 else
 if (decide (p_0.Interval>0))=true then
  chk (p_0.Interval≠0)<|
  if ((zR height_1 p_0.Interval)==0)=true then
   optE (ZaA N p_0 bits_2 first_4 time_3) fun x1=>
   some x1
  else
  Zcb.p1 N bits_2 time_3 hard_5 own_6 p_0
 else
 Zcb.p1 N bits_2 time_3 hard_5 own_6 p_0
def Zcb.p1.S (bits_2 time_3 hard_5 own_6:Int) (p_0:Zak) (st:LL):S:=mkS 48 [(2,sI bits_2),(3,sI time_3),(5,sI hard_5),(6,sI own_6),(7,sA 7)] [(7,.cells p_0.ls)] st
theorem Zcb.p1_ok {bits_2 time_3 hard_5 own_6 p_0 st r} (h:Zcb.p1 N bits_2 time_3 hard_5 own_6 p_0=some r) (hE:En Tryz.f171 g0 w0 (Zcb.rs r) st R):At g0 w0 (Zcb.p1.S bits_2 time_3 hard_5 own_6 p_0 st) (XK zG R [.c (csub Zcb.B [1,1,1])]):=by
 unfold Zcb.p1 at h
 refine iteB h (fun c6 h1=>?_) (fun c6 h2=>?_)
 ·obtain rfl:=Zac h1
  exact af fol hE [.r [],.c true,.r []] [] 0 [] c6
 ·refine iteB h2 (fun c7 h3=>?_) (fun c7 h4=>?_)
  ·obtain rfl:=Zac h3
   exact af fol hE [.r [],.c false,.r [],.c true,.r []] [] 0 [] (aI c6 c7)
  ·obtain rfl:=Zac h4
   exact af fol hE [.r [],.c false,.r [],.c false,.r []] [] 0 [] (aI c6 c7)
theorem Zcb.snd {p_0:Zak} {height_1 bits_2 time_3 first_4 hard_5 own_6:Int} {r:Int} (h:Zcb N p_0 height_1 bits_2 time_3 first_4 hard_5 own_6=some r):SndQ zG 171 [.agg p_0.ls,oI height_1,oI bits_2,oI time_3,oI first_4,oI hard_5,oI own_6] (Zcb.rs r):=fun st=>
 sO Zcb.B Tryz.func171 fun g0 w0 R hE=>by
  unfold Zcb at h
  refine iteB h (fun c1 h5=>?_) (fun c1 h6=>?_)
  ·obtain rfl:=Zac h5
   exact af fol hE [.r [],.r [],.c true,.r []] [] 0 [] c1
  ·let o1:List PS:=[.r [],.r [],.c false]
   refine iteB h6 (fun c2 h7=>?_) (fun c2 h8=>?_)
   ·obtain ⟨c3,h9⟩:=ZaN h7
    refine iteB h9 (fun c4 h10=>?_) (fun c4 h11=>?_)
    ·obtain ⟨x1,c5,h12⟩:=Zae h10
     obtain rfl:=Zac h12
     exact af fol hE (o1 ++ [.r [],.c true,.r [(4,q1 [oI x1])]]) [] 0 [] (aO c1 c2 c2 c2 c2 c3 c2 (aJ c2 c4 (ZaA.snd c5)))
    ·exact aq fol (o1 ++ [.r [],.c false,.s 1]) [2,3,5,6,7] [7] (aO c1 c2 c2 c2 c2 c3 c2 (aI c2 c4)) (Zcb.p1_ok h11 hE)
   ·exact aq fol (o1 ++ [.r [(4,wF),(5,wF),(6,wF),(7,wF),(8,wF),(9,yF)],.c false,.s 1]) [2,3,5,6,7] [7] (aO c1 c2 c2 c2 c2 c2 c2 eF) (Zcb.p1_ok h8 hE)
def ZaD.B:Code:=Tryz.f111.body.getD .skip
def ZaD.rs (r:Int):List CV:=[oI r]
def ZaD.p4 (N:Nat) (c1_:(Int×Int×Int)→Option Int) (time_2:Int) (chain_1:LL) (first_7 hard_8 v4:Int) (p_0:Zak) (x1:Zaa):Option Int:=
 c1_ (first_7,hard_8,w64 (v4+1))
def ZaD.p3 (N:Nat) (c1_:(Int×Int×Int)→Option Int) (time_2:Int) (chain_1:LL) (first_7 hard_3:Int) (begins_6:Bool) (v4:Int) (p_0:Zak) (x1 x5:Zaa):Option Int:=
 if (!p_0.Easy)=true then
  ZaD.p4 N c1_ time_2 chain_1 first_7 x5.Bits v4 p_0 x1
 else
 if (x5.Bits != p_0.Limit)=true then
  ZaD.p4 N c1_ time_2 chain_1 first_7 x5.Bits v4 p_0 x1
 else
 if begins_6=true then
  ZaD.p4 N c1_ time_2 chain_1 first_7 x5.Bits v4 p_0 x1
 else
 ZaD.p4 N c1_ time_2 chain_1 first_7 hard_3 v4 p_0 x1
def ZaD.p2 (N:Nat) (c1_:(Int×Int×Int)→Option Int) (time_2:Int) (chain_1:LL) (first_2 hard_3:Int) (begins_6:Bool) (v4:Int) (p_0:Zak) (x1 x5:Zaa):Option Int:=
 if begins_6=true then
  ZaD.p3 N c1_ time_2 chain_1 x5.Time hard_3 begins_6 v4 p_0 x1 x5
 else
 ZaD.p3 N c1_ time_2 chain_1 first_2 hard_3 begins_6 v4 p_0 x1 x5
def ZaD.p1 (N:Nat) (time_2:Int) (chain_1:LL) (p_0:Zak) (x1:Zaa) (c1_:(Int×Int×Int)→Option Int):(Int×Int×Int)→Option Int:=fun (first_2,hard_3,v4)=>
 if (decide (v4<(len chain_1)))=true then
  chk (0≤v4)<|
  getE (chain_1[zF v4]?) Zch fun x5=>
  if (decide (p_0.Interval>0))=true then
   chk (p_0.Interval≠0)<|
   ZaD.p2 N c1_ time_2 chain_1 first_2 hard_3 ((zR v4 p_0.Interval)==0) v4 p_0 x1 x5
  else
  ZaD.p2 N c1_ time_2 chain_1 first_2 hard_3 false v4 p_0 x1 x5
 else
 optE (Zcb N p_0 (len chain_1) x1.Bits x1.Time first_2 hard_3 time_2) fun x9=>
 some x9
def ZaD (N:Nat) (p_0:Zak) (chain_1:LL) (time_2:Int):Option Int:=
 if ((len chain_1)==0)=true then
  some p_0.Limit
 else
 chk (0≤(w64 ((len chain_1)-1)))<|
 chk ((w64 ((len chain_1)-1))<(len chain_1))<|
 getE (chain_1[zF (w64 ((len chain_1)-1))]?) Zch fun x1=>
 loopN (ZaD.p1 N time_2 chain_1 p_0 x1) N (0,p_0.Limit,0)
def ZaD.p4.S (time_2:Int) (chain_1:LL) (first_7 hard_8 v4:Int) (p_0:Zak) (x1:Zaa) (st:LL):S:=mkS 73 [(2,sI time_2),(3,sA 3),(7,sI (len chain_1)),(8,sA 8),(9,sI first_7),(10,sI hard_8),(27,sV 68 chain_1),(28,sI (len chain_1)),(29,sI v4)] [(3,.cells p_0.ls),(8,.cells x1.ls)] st
def ZaD.p3.S (time_2:Int) (chain_1:LL) (first_7 hard_3:Int) (begins_6:Bool) (v4:Int) (p_0:Zak) (x1 x5:Zaa) (st:LL):S:=mkS 73 [(2,sI time_2),(3,sA 3),(7,sI (len chain_1)),(8,sA 8),(9,sI first_7),(10,sI hard_3),(12,sA 12),(13,.one (.l (yX begins_6))),(27,sV 68 chain_1),(28,sI (len chain_1)),(29,sI v4)] [(3,.cells p_0.ls),(8,.cells x1.ls),(12,.cells x5.ls)] st
def ZaD.p2.S (time_2:Int) (chain_1:LL) (first_2 hard_3:Int) (begins_6:Bool) (v4:Int) (p_0:Zak) (x1 x5:Zaa) (st:LL):S:=mkS 73 [(2,sI time_2),(3,sA 3),(7,sI (len chain_1)),(8,sA 8),(9,sI first_2),(10,sI hard_3),(12,sA 12),(13,.one (.l (yX begins_6))),(27,sV 68 chain_1),(28,sI (len chain_1)),(29,sI v4)] [(3,.cells p_0.ls),(8,.cells x1.ls),(12,.cells x5.ls)] st
def ZaD.p1.S (time_2:Int) (chain_1:LL) (first_2 hard_3 v4:Int) (p_0:Zak) (x1:Zaa) (st:LL):S:=mkS 73 [(2,sI time_2),(3,sA 3),(7,sI (len chain_1)),(8,sA 8),(9,sI first_2),(10,sI hard_3),(27,sV 68 chain_1),(28,sI (len chain_1)),(29,sI v4)] [(3,.cells p_0.ls),(8,.cells x1.ls)] st
theorem ZaD.p4_ok {time_2 chain_1 first_7 hard_8 v4 p_0 x1 st r c1_ J1} (h:ZaD.p4 N c1_ time_2 chain_1 first_7 hard_8 v4 p_0 x1=some r) (hE:En Tryz.f111 g0 w0 (ZaD.rs r) st R) (hc1 : ∀first_2 hard_3 v4,c1_ (first_2,hard_3,v4)=some r→At g0 w0 (ZaD.p1.S time_2 chain_1 first_2 hard_3 v4 p_0 x1 st) J1):At g0 w0 (ZaD.p4.S time_2 chain_1 first_7 hard_8 v4 p_0 x1 st) (XK zG R [.c (csub ZaD.B [1,1,1,1,1,1,0,1,0,0,1,1,1]),.h J1,.b 0,.c (csub ZaD.B [1,1,1,1,1,1,1])]):=by
 unfold ZaD.p4 at h
 exact an fol [.r []] [2,3,7,8,9,10,27,28,29] [3,8] trivial (hc1 first_7 hard_8 (w64 (v4+1)) h)
theorem ZaD.p3_ok {time_2 chain_1 first_7 hard_3 begins_6 v4 p_0 x1 x5 st r c1_ J1} (h:ZaD.p3 N c1_ time_2 chain_1 first_7 hard_3 begins_6 v4 p_0 x1 x5=some r) (hE:En Tryz.f111 g0 w0 (ZaD.rs r) st R) (hc1 : ∀first_2 hard_3 v4,c1_ (first_2,hard_3,v4)=some r→At g0 w0 (ZaD.p1.S time_2 chain_1 first_2 hard_3 v4 p_0 x1 st) J1):At g0 w0 (ZaD.p3.S time_2 chain_1 first_7 hard_3 begins_6 v4 p_0 x1 x5 st) (XK zG R [.c (csub ZaD.B [1,1,1,1,1,1,0,1,0,0,1,1,0,0,1,1,1]),.b 1,.c (csub ZaD.B [1,1,1,1,1,1,0,1,0,0,1,1,1]),.h J1,.b 0,.c (csub ZaD.B [1,1,1,1,1,1,1])]):=by
 unfold ZaD.p3 at h
 refine iteB h (fun c11 h1=>?_) (fun c11 h2=>?_)
 ·exact aq fol [.r [(4,wF),(5,wF),(6,wF),(7,wF),(8,wF),(11,wF)],.c true,.r [],.s 4] [2,3,7,8,9,10,27,28,29] [3,8] (aO (not_false (ZaX c11)) (not_false (ZaX c11)) (not_false (ZaX c11)) (not_false (ZaX c11)) (not_false (ZaX c11)) (not_false (ZaX c11)) eT (aI eT eT)) (ZaD.p4_ok h1 hE hc1)
 ·have t1 {Q:Prop} (q:Q):=aN (not_true (ZaU c11)) (not_true (ZaU c11)) (not_true (ZaU c11)) (not_true (ZaU c11)) (not_true (ZaU c11)) (not_true (ZaU c11)) q
  refine iteB h2 (fun c12 h3=>?_) (fun c12 h4=>?_)
  ·exact aq fol [.r [(9,yF),(11,wF)],.c true,.r [],.s 4] [2,3,7,8,9,10,27,28,29] [3,8] (t1 (aJ c12 c12 eT)) (ZaD.p4_ok h3 hE hc1)
  ·let o1:List PS:=[.r [(9,yF),(12,yF)]]
   refine iteB h4 (fun c13 h5=>?_) (fun c13 h6=>?_)
   ·exact aq fol (o1 ++ [.c true,.r [],.s 4]) [2,3,7,8,9,10,27,28,29] [3,8] (t1 (aJ c12 c12 c13)) (ZaD.p4_ok h5 hE hc1)
   ·exact aq fol (o1 ++ [.c false,.s 4]) [2,3,7,8,9,10,27,28,29] [3,8] (t1 (aJ c12 c12 c13)) (ZaD.p4_ok h6 hE hc1)
theorem ZaD.p2_ok {time_2 chain_1 first_2 hard_3 begins_6 v4 p_0 x1 x5 st r c1_ J1} (h:ZaD.p2 N c1_ time_2 chain_1 first_2 hard_3 begins_6 v4 p_0 x1 x5=some r) (hE:En Tryz.f111 g0 w0 (ZaD.rs r) st R) (hc1 : ∀first_2 hard_3 v4,c1_ (first_2,hard_3,v4)=some r→At g0 w0 (ZaD.p1.S time_2 chain_1 first_2 hard_3 v4 p_0 x1 st) J1):At g0 w0 (ZaD.p2.S time_2 chain_1 first_2 hard_3 begins_6 v4 p_0 x1 x5 st) (XK zG R [.c (csub ZaD.B [1,1,1,1,1,1,0,1,0,0,1,1,0,0,1,1]),.b 1,.c (csub ZaD.B [1,1,1,1,1,1,0,1,0,0,1,1,1]),.h J1,.b 0,.c (csub ZaD.B [1,1,1,1,1,1,1])]):=by
 unfold ZaD.p2 at h
 refine iteB h (fun c10 h7=>?_) (fun c10 h8=>?_)
 ·exact aq fol [.r [],.c true,.r [],.s 6] [2,3,7,8,9,10,12,13,27,28,29] [3,8,12] c10 (ZaD.p3_ok h7 hE hc1)
 ·exact aq fol [.r [],.c false,.s 6] [2,3,7,8,9,10,12,13,27,28,29] [3,8,12] c10 (ZaD.p3_ok h8 hE hc1)
theorem ZaD.p1_ok {time_2 chain_1 first_2 hard_3 v4 p_0 x1 st r c1_ J1} (h:ZaD.p1 N time_2 chain_1 p_0 x1 c1_ (first_2,hard_3,v4)=some r) (hE:En Tryz.f111 g0 w0 (ZaD.rs r) st R) (hc1 : ∀first_2 hard_3 v4,c1_ (first_2,hard_3,v4)=some r→At g0 w0 (ZaD.p1.S time_2 chain_1 first_2 hard_3 v4 p_0 x1 st) J1):At g0 w0 (ZaD.p1.S time_2 chain_1 first_2 hard_3 v4 p_0 x1 st) (XK zG R (.c (csub ZaD.B [1,1,1,1,1,1,0,1,0,0]) :: .h J1 :: [.b 0,.c (csub ZaD.B [1,1,1,1,1,1,1])])):=by
 unfold ZaD.p1 at h
 refine iteB h (fun c5 h9=>?_) (fun c5 h10=>?_)
 ·obtain ⟨c6,h11⟩:=ZaN h9
  obtain ⟨x5,c7,h12⟩:=ZbS h11
  let o2:List PS:=[.r [],.c true,.r [(2,{oe:=x5.ls})]]
  refine iteB h12 (fun c8 h13=>?_) (fun c8 h14=>?_)
  ·obtain ⟨c9,h15⟩:=ZaN h13
   exact aq fol (o2 ++ [.r [],.s 6]) [2,3,7,8,9,10,12,13,27,28,29] [3,8,12] (aO c5 c6 (oD c5) c7 c8 c8 c8 (aK c8 c9 c8 c8)) (ZaD.p2_ok h15 hE hc1)
  ·exact aq fol (o2 ++ [.r [(4,wF),(5,wF),(6,wF),(7,wF),(8,wF),(9,yF)],.s 6]) [2,3,7,8,9,10,12,13,27,28,29] [3,8,12] (aO c5 c6 (oD c5) c7 c8 c8 c8 (aJ c8 c8 c8)) (ZaD.p2_ok h14 hE hc1)
 ·obtain ⟨x9,c14,h16⟩:=Zae h10
  obtain rfl:=Zac h16
  exact af fol hE [.r [],.c false,.r [(9,q1 [oI x9])]] [] 0 [] (aI c5 (Zcb.snd c14))
theorem ZaD.snd {p_0:Zak} {chain_1:LL} {time_2:Int} {r:Int} (h:ZaD N p_0 chain_1 time_2=some r):SndQ zG 111 [.agg p_0.ls,.one (yM 68 chain_1),oI time_2] (ZaD.rs r):=fun st=>
 sO ZaD.B Tryz.func111 fun g0 w0 R hE=>by
  unfold ZaD at h
  refine iteB h (fun c1 h17=>?_) (fun c1 h18=>?_)
  ·obtain rfl:=Zac h17
   exact af fol hE [.r [],.r [],.r [],.c true,.r []] [] 0 [] c1
  ·obtain ⟨c2,c3,h19⟩:=ck2 h18
   obtain ⟨x1,c4,h20⟩:=ZbS h19
   exact aq fol [.r [],.r [],.r [],.c false,.r [(4,{oe:=x1.ls})],.r [],.r [],.r []] [2,3,7,8,9,10,27,28,29] [3,8] (aK c1 c2 c3 c4) (At.loop N (At.loopN (fun y:Int×Int×Int=>ZaD.p1.S time_2 chain_1 y.1 y.2.1 y.2.2 p_0 x1 st) (fun c J hc y h=>ZaD.p1_ok (first_2:=y.1) (hard_3:=y.2.1) (v4:=y.2.2) h hE (fun first_2 hard_3 v4=>hc (first_2,hard_3,v4))) N (0,p_0.Limit,0) h20))
def ZbD.B:Code:=Tryz.f173.body.getD .skip
def ZbD.rs (r:(List Int)):List CV:=[.agg [zH .u64 4 r]]
def ZbD.p1 (N:Nat) (h_0_0:List Int) (c1_:(Int×(List Int))→Option (List Int)):(Int×(List Int))→Option (List Int):=fun (i_1,out_3)=>
 if (decide (i_1≥0))=true then
  optE (Zao N out_3 8) fun x4=>
  chk (0≤i_1)<|
  chk (i_1<32)<|
  c1_ (w64 (i_1-1),zO x4 0 (v64 ((zE x4 0 0)+(v64 (zE h_0_0 (zF i_1) 0)))))
 else
 some out_3
def ZbD (N:Nat) (h_0_0:List Int):Option (List Int):=
 loopN (ZbD.p1 N h_0_0) N (31,zB 4 0)
def ZbD.p1.S (i_1:Int) (h_0_0 out_3:List Int) (st:LL):S:=mkS 21 [(1,sA 1),(2,sA 2),(3,sA 3),(4,sI i_1)] [(1,.cells [zH .u8 32 h_0_0]),(2,.cells [zH .u64 4 (zB 4 0)]),(3,.cells [zH .u64 4 out_3])] st
theorem ZbD.p1_ok {i_1 h_0_0 out_3 st r c1_ J1} (h:ZbD.p1 N h_0_0 c1_ (i_1,out_3)=some r) (hE:En Tryz.f173 g0 w0 (ZbD.rs r) st R) (hc1 : ∀i_1 out_3,c1_ (i_1,out_3)=some r→At g0 w0 (ZbD.p1.S i_1 h_0_0 out_3 st) J1):At g0 w0 (ZbD.p1.S i_1 h_0_0 out_3 st) (XK zG R (.c (csub ZbD.B [1,1,0,1,0,0]) :: .h J1 :: [.b 0,.c (csub ZbD.B [1,1,1])])):=by
 unfold ZbD.p1 at h
 refine iteB h (fun c5 h1=>?_) (fun c5 h2=>?_)
 ·obtain ⟨x4,c6,h3⟩:=Zae h1
  obtain ⟨c7,c8,h4⟩:=ck2 h3
  exact and_ fol [.r [],.c true,.r [(1,q1 [.agg [zH .u64 4 x4]])],.d {ds:=[],hv:=256,Hs:=[256]},.r []] [1,2,3,4] [1,2,3] (aJ c5 (Zao.snd c6) (ix 0 4 (aK c7 c8 (leI 0 0) (ltI 0 4)))) (hc1 (w64 (i_1-1)) (zO x4 0 (v64 ((zE x4 0 0)+(v64 (zE h_0_0 (zF i_1) 0))))) h4)
 ·obtain rfl:=Zac h2
  exact af fol hE [.r [],.c false,.r []] [] 0 [] c5
theorem ZbD.snd {h_0_0:List Int} {r:(List Int)} (h:ZbD N h_0_0=some r):SndQ zG 173 [.agg [zH .u8 32 h_0_0]] (ZbD.rs r):=fun st=>
 sO ZbD.B Tryz.func173 fun g0 w0 R hE=>by
  unfold ZbD at h
  exact aq fol [.r [],.r [],.r []] [1,2,3,4] [1,2,3] trivial (At.loop N (At.loopN (fun y:Int×(List Int)=>ZbD.p1.S y.1 h_0_0 y.2 st) (fun c J hc y h=>ZbD.p1_ok (i_1:=y.1) (out_3:=y.2) h hE (fun i_1 out_3=>hc (i_1,out_3))) N (31,zB 4 0) h))
def Zdm.B:Code:=Tryz.f112.body.getD .skip
def Zdm.rs (r:Bool):List CV:=[oB r]
def Zdm (N:Nat) (p_0:Zak) (h_1:Zaa):Option Bool:=
 optE (Zco N h_1.Bits p_0.Limit) fun (x1,x2)=>
 if x2=true then
  optE (ZcZ N h_1) fun x3=>
  optE (ZbD N x3) fun x4=>
  optE (Zbp N x1 x4) fun x5=>
  some (!x5)
 else
 some false
theorem Zdm.snd {p_0:Zak} {h_1:Zaa} {r:Bool} (h:Zdm N p_0 h_1=some r):SndQ zG 112 [.agg p_0.ls,.agg h_1.ls] (Zdm.rs r):=fun st=>
 sO Zdm.B Tryz.func112 fun g0 w0 R hE=>by
  unfold Zdm at h
  obtain ⟨⟨x1,x2⟩,c1,h1⟩:=Zae h
  let o1:List PS:=[.r [],.r [(4,q1 [.agg [zH .u64 4 x1],oB x2])]]
  refine iteB h1 (fun c2 h2=>?_) (fun c2 h3=>?_)
  ·obtain ⟨x3,c3,h4⟩:=Zae h2
   obtain ⟨x4,c4,h5⟩:=Zae h4
   obtain ⟨x5,c5,h6⟩:=Zae h5
   obtain rfl:=Zac h6
   exact afd fol hE (o1 ++ [.d {ds:=[(4,q1 [.agg [zH .u8 32 x3]]),(5,q1 [.agg [zH .u64 4 x4]]),(6,q1 [oB x5])],hv:=0,Hs:=[]}]) [] 0 [] (aO (Zco.snd c1) c2 c2 c2 (ZcZ.snd c3) c2 (ZbD.snd c4) (aK c2 (Zbp.snd c5) c2 c2))
  ·obtain rfl:=Zac h3
   exact afd fol hE (o1 ++ [.d {ds:=[(2,wF),(3,wF),(4,wF),(5,wF),(6,wF),(7,wF),(8,yF)],hv:=0,Hs:=[]}]) [] 0 [] (aO (Zco.snd c1) c2 c2 c2 c2 c2 c2 c2)
def Zcc.B:Code:=Tryz.f113.body.getD .skip
def Zcc.rs (r:LL):List CV:=[.row true 1 r]
def Zcc.p1 (N:Nat) (row_0:LL) (c1_:(LL×Int)→Option LL):(LL×Int)→Option LL:=fun (out_3,i_1)=>
 if (decide (i_1≥0))=true then
  if (decide ((len out_3)<11))=true then
   chk (0≤i_1)<|
   chk (i_1<(len row_0))<|
   getE (row_0[zF i_1]?) ZeD fun x4=>
   chk (zI (out_3 ++ [[zC .i64 x4]])*8≤140737488355328)<|
   c1_ (out_3 ++ [[zC .i64 x4]],w64 (i_1-1))
  else
  some out_3
 else
 some out_3
def Zcc (N:Nat) (row_0:LL):Option LL:=
 loopN (Zcc.p1 N row_0) N ([],w64 ((len row_0)-1))
def Zcc.p1.S (row_0 out_3:LL) (i_1:Int) (st:LL):S:=mkS 25 [(0,sV 1 row_0),(3,.one (.h (.row 3 0) 1 0 (zI out_3))),(4,sI i_1)] [(3,.row 0 true 1 out_3)] st
theorem Zcc.p1_ok {row_0 out_3 i_1 st r c1_ J1} (h:Zcc.p1 N row_0 c1_ (out_3,i_1)=some r) (hE:En Tryz.f113 g0 w0 (Zcc.rs r) st R) (hc1 : ∀out_3 i_1,c1_ (out_3,i_1)=some r→At g0 w0 (Zcc.p1.S row_0 out_3 i_1 st) J1):At g0 w0 (Zcc.p1.S row_0 out_3 i_1 st) (XK zG R (.c (csub Zcc.B [1,1,0,1,0,0]) :: .h J1 :: [.b 0,.c (csub Zcc.B [1,1,1])])):=by
 unfold Zcc.p1 at h
 refine iteB h (fun c6 h1=>?_) (fun c6 h2=>?_)
 ·refine iteB h1 (fun c7 h3=>?_) (fun c7 h4=>?_)
  ·obtain ⟨c8,c9,h5⟩:=ck2 h3
   obtain ⟨x4,c10,h6⟩:=ZdA h5
   obtain ⟨c11,h7⟩:=ZaN h6
   exact an fol [.r [],.c true,.r [(4,{oe:=[zC .i64 x4]})],.r []] [0,3,4] [3] (aO c6 c6 c6 c6 c7 c8 c9 (aM c10 z0 (eN (zI out_3)) z0 (eN (1)) c11)) (hc1 (out_3 ++ [[zC .i64 x4]]) (w64 (i_1-1)) h7)
  ·obtain rfl:=Zac h4
   exact af fol hE [.r [],.c false,.r []] [] 0 [0] (aN c6 c6 c6 c6 c7 z0 (eN (zI out_3)))
 ·obtain rfl:=Zac h2
  exact af fol hE [.r [(3,wF),(4,wF),(5,wF),(6,yF)],.c false,.r []] [] 0 [0] (aN c6 c6 c6 c6 eF z0 (eN (zI out_3)))
theorem Zcc.snd {row_0:LL} {r:LL} (h:Zcc N row_0=some r):SndQ zG 113 [.one (yM 1 row_0)] (Zcc.rs r):=fun st=>
 sO Zcc.B Tryz.func113 fun g0 w0 R hE=>by
  unfold Zcc at h
  exact aq fol [.r [(0,{m:=2})],.r [(0,{m:=1})],.r []] [0,3,4] [3] trivial (At.loop N (At.loopN (fun y:LL×Int=>Zcc.p1.S row_0 y.1 y.2 st) (fun c J hc y h=>Zcc.p1_ok (out_3:=y.1) (i_1:=y.2) h hE (fun out_3 i_1=>hc (out_3,i_1))) N ([],w64 ((len row_0)-1)) h))
def Zaq.B:Code:=Tryz.f61.body.getD .skip
def Zaq.rs (r:Int):List CV:=[oI r]
def Zaq.p6 (N:Nat) (chain_1:LL) (p_0:Zak) (h_2:Zaa) (c6_:Int→Option Int):Int→Option Int:=fun v21=>
 if (decide (v21<(len p_0.Checks)))=true then
  chk (0≤v21)<|
  getE (p_0.Checks[zF v21]?) ZdG fun x22=>
  if (x22.Height==(len chain_1))=true then
   optE (ZcZ N h_2) fun x23=>
   if (!(x22.Id==x23))=true then
    some 8
   else
   c6_ (w64 (v21+1))
  else
  c6_ (w64 (v21+1))
 else
 some 0
def Zaq.p5 (N:Nat) (chain_1:LL) (p_0:Zak) (h_2:Zaa) (c5_:Int→Option Int):Int→Option Int:=fun v19=>
 if (decide (v19<(len p_0.Gates)))=true then
  chk (0≤v19)<|
  getE (p_0.Gates[zF v19]?) ZdT fun x20=>
  if (decide (x20.Height≤(len chain_1)))=true then
   if (decide (h_2.Version<x20.Version))=true then
    some 7
   else
   c5_ (w64 (v19+1))
  else
  c5_ (w64 (v19+1))
 else
 loopN (Zaq.p6 N chain_1 p_0 h_2) N 0
def Zaq.p4 (N:Nat) (chain_1:LL) (p_0:Zak) (h_2:Zaa):Option Int:=
 loopN (Zaq.p5 N chain_1 p_0 h_2) N 0
def Zaq.p3 (N:Nat) (now_3:Int) (chain_1:LL) (p_0:Zak) (h_2:Zaa):Option Int:=
 if (decide (p_0.Future<0))=true then
  some 6
 else
 if (decide (h_2.Time>now_3))=true then
  if (decide ((w64 (h_2.Time-now_3))>p_0.Future))=true then
   some 6
  else
  Zaq.p4 N chain_1 p_0 h_2
 else
 Zaq.p4 N chain_1 p_0 h_2
def Zaq.p2 (N:Nat) (now_3:Int) (chain_1:LL) (p_0:Zak) (h_2:Zaa) (c2_:(LL×Int)→Option Int):(LL×Int)→Option Int:=fun (times_15,v6)=>
 if (decide (v6<(len chain_1)))=true then
  chk (0≤v6)<|
  getE (chain_1[zF v6]?) Zch fun x16=>
  chk (zI (times_15 ++ [[zC .i64 x16.Time]])*8≤140737488355328)<|
  c2_ (times_15 ++ [[zC .i64 x16.Time]],w64 (v6+1))
 else
 if (decide ((len chain_1)>0))=true then
  optE (Zcc N times_15) fun x17=>
  chk (plainRow x17=true)<|
  optE (ZaF N x17) fun x18=>
  if (decide (h_2.Time≤x18))=true then
   some 5
  else
  Zaq.p3 N now_3 chain_1 p_0 h_2
 else
 Zaq.p3 N now_3 chain_1 p_0 h_2
def Zaq.p1 (N:Nat) (chain_1:LL) (now_3:Int) (p_0:Zak) (h_2:Zaa):Option Int:=
 optE (ZaD N p_0 chain_1 h_2.Time) fun x4=>
 if (h_2.Bits != x4)=true then
  some 3
 else
 optE (Zdm N p_0 h_2) fun x5=>
 if (!x5)=true then
  some 4
 else
 loopN (Zaq.p2 N now_3 chain_1 p_0 h_2) N ([],0)
def Zaq (N:Nat) (p_0:Zak) (chain_1:LL) (h_2:Zaa) (now_3:Int):Option Int:=
 optE (ZcG N h_2) fun x1=>
 if (!x1)=true then
  some 1
 else
 if (decide ((len chain_1)>0))=true then
  chk (0≤(w64 ((len chain_1)-1)))<|
  chk ((w64 ((len chain_1)-1))<(len chain_1))<|
  getE (chain_1[zF (w64 ((len chain_1)-1))]?) Zch fun x2=>
  optE (ZcZ N x2) fun x3=>
  if (!(h_2.Prev==x3))=true then
   some 2
  else
  Zaq.p1 N chain_1 now_3 p_0 h_2
 else
 Zaq.p1 N chain_1 now_3 p_0 h_2
def Zaq.p6.S (chain_1:LL) (p_0:Zak) (v21:Int) (h_2:Zaa) (st:LL):S:=mkS 125 [(6,sA 6),(9,sI (len chain_1)),(107,sV 33 p_0.Checks),(108,sI (len p_0.Checks)),(109,sI v21)] [(6,.cells h_2.ls)] st
def Zaq.p5.S (chain_1:LL) (p_0:Zak) (v19:Int) (h_2:Zaa) (st:LL):S:=mkS 125 [(4,sA 4),(6,sA 6),(9,sI (len chain_1)),(88,sV 2 p_0.Gates),(89,sI (len p_0.Gates)),(90,sI v19)] [(4,.cells p_0.ls),(6,.cells h_2.ls)] st
def Zaq.p4.S (chain_1:LL) (p_0:Zak) (h_2:Zaa) (st:LL):S:=mkS 125 [(4,sA 4),(6,sA 6),(9,sI (len chain_1))] [(4,.cells p_0.ls),(6,.cells h_2.ls)] st
def Zaq.p3.S (now_3:Int) (chain_1:LL) (p_0:Zak) (h_2:Zaa) (st:LL):S:=mkS 125 [(3,sI now_3),(4,sA 4),(6,sA 6),(9,sI (len chain_1))] [(4,.cells p_0.ls),(6,.cells h_2.ls)] st
def Zaq.p2.S (now_3:Int) (chain_1 times_15:LL) (v6:Int) (p_0:Zak) (h_2:Zaa) (st:LL):S:=mkS 125 [(3,sI now_3),(4,sA 4),(6,sA 6),(9,sI (len chain_1)),(10,.one (.h (.row 10 0) 1 0 (zI times_15))),(47,sV 68 chain_1),(48,sI (len chain_1)),(49,sI v6)] [(4,.cells p_0.ls),(6,.cells h_2.ls),(10,.row 0 true 1 times_15)] st
def Zaq.p1.S (chain_1:LL) (now_3:Int) (p_0:Zak) (h_2:Zaa) (st:LL):S:=mkS 125 [(1,sV 68 chain_1),(3,sI now_3),(4,sA 4),(6,sA 6),(9,sI (len chain_1))] [(4,.cells p_0.ls),(6,.cells h_2.ls)] st
theorem Zaq.p6_ok {chain_1 p_0 v21 h_2 st r c6_ J6} (h:Zaq.p6 N chain_1 p_0 h_2 c6_ v21=some r) (hE:En Tryz.f61 g0 w0 (Zaq.rs r) st R) (hc6 : ∀v21,c6_ v21=some r→At g0 w0 (Zaq.p6.S chain_1 p_0 v21 h_2 st) J6):At g0 w0 (Zaq.p6.S chain_1 p_0 v21 h_2 st) (XK zG R (.c (csub Zaq.B [1,1,1,1,1,1,1,1,1,1,1,0,1,0,0]) :: .h J6 :: [.b 4,.c (csub Zaq.B [1,1,1,1,1,1,1,1,1,1,1,1])])):=by
 unfold Zaq.p6 at h
 refine iteB h (fun c53 h1=>?_) (fun c53 h2=>?_)
 ·obtain ⟨c54,h3⟩:=ZaN h1
  obtain ⟨x22,c55,h4⟩:=ZdP h3
  let o1:List PS:=[.r [],.c true,.r [(1,{oe:=x22.ls})]]
  have t1 {Q:Prop} (q:Q):=aL c53 c54 (oD c53) c55 q
  refine iteB h4 (fun c56 h5=>?_) (fun c56 h6=>?_)
  ·obtain ⟨x23,c57,h7⟩:=Zae h5
   let o2:List PS:=o1 ++ [.d {ds:=[(8,q1 [.agg [zH .u8 32 x23]])],hv:=0,Hs:=[]}]
   have t2 {Q:Prop} (q:Q):=t1 (aO c56 c56 c56 c56 (ZcZ.snd c57) c56 c56 q)
   refine iteB h7 (fun c58 h8=>?_) (fun c58 h9=>?_)
   ·obtain rfl:=Zac h8
    exact afd fol hE (o2 ++ [.c true,.r []]) [] 0 [] (t2 c58)
   ·exact and_ fol (o2 ++ [.c false,.r []]) [6,9,107,108,109] [6] (t2 c58) (hc6 (w64 (v21+1)) h9)
  ·exact and_ fol (o1 ++ [.d {ds:=[(5,wF),(6,wF),(7,wF),(8,wF),(9,wF),(10,yF)],hv:=0,Hs:=[]},.c false,.r []]) [6,9,107,108,109] [6] (t1 (aN c56 c56 c56 c56 c56 c56 eF)) (hc6 (w64 (v21+1)) h6)
 ·obtain rfl:=Zac h2
  exact af fol hE [.r [],.c false,.r []] [] 0 [] c53
theorem Zaq.p5_ok {chain_1 p_0 v19 h_2 st r c5_ J5} (h:Zaq.p5 N chain_1 p_0 h_2 c5_ v19=some r) (hE:En Tryz.f61 g0 w0 (Zaq.rs r) st R) (hc5 : ∀v19,c5_ v19=some r→At g0 w0 (Zaq.p5.S chain_1 p_0 v19 h_2 st) J5):At g0 w0 (Zaq.p5.S chain_1 p_0 v19 h_2 st) (XK zG R (.c (csub Zaq.B [1,1,1,1,1,1,1,1,1,1,0,1,0,0]) :: .h J5 :: [.b 2,.c (csub Zaq.B [1,1,1,1,1,1,1,1,1,1,1])])):=by
 unfold Zaq.p5 at h
 refine iteB h (fun c48 h10=>?_) (fun c48 h11=>?_)
 ·obtain ⟨c49,h12⟩:=ZaN h10
  obtain ⟨x20,c50,h13⟩:=ZdX h12
  let o3:List PS:=[.r [],.c true,.r [(1,{oe:=x20.ls})]]
  have t3 {Q:Prop} (q:Q):=aL c48 c49 (oD c48) c50 q
  refine iteB h13 (fun c51 h14=>?_) (fun c51 h15=>?_)
  ·refine iteB h14 (fun c52 h16=>?_) (fun c52 h17=>?_)
   ·obtain rfl:=Zac h16
    exact af fol hE (o3 ++ [.r [],.c true,.r []]) [] 0 [] (t3 (aN c51 c51 c51 c51 c51 c51 c52))
   ·exact an fol (o3 ++ [.r [],.c false,.r []]) [4,6,9,88,89,90] [4,6] (t3 (aN c51 c51 c51 c51 c51 c51 c52)) (hc5 (w64 (v19+1)) h17)
  ·exact an fol (o3 ++ [.r [(5,wF),(6,wF),(7,wF),(8,wF),(9,wF),(10,yF)],.c false,.r []]) [4,6,9,88,89,90] [4,6] (t3 (aN c51 c51 c51 c51 c51 c51 eF)) (hc5 (w64 (v19+1)) h15)
 ·exact aq fol [.r [],.c false,.r []] [6,9,107,108,109] [6] c48 (At.loop N (At.loopN (fun y:Int=>Zaq.p6.S chain_1 p_0 y h_2 st) (fun c J hc y h=>Zaq.p6_ok h hE (fun v21=>hc v21)) N 0 h11))
theorem Zaq.p4_ok {chain_1 p_0 h_2 st r} (h:Zaq.p4 N chain_1 p_0 h_2=some r) (hE:En Tryz.f61 g0 w0 (Zaq.rs r) st R):At g0 w0 (Zaq.p4.S chain_1 p_0 h_2 st) (XK zG R [.c (csub Zaq.B [1,1,1,1,1,1,1,1,1,1])]):=by
 unfold Zaq.p4 at h
 exact aq fol [.r []] [4,6,9,88,89,90] [4,6] trivial (At.loop N (At.loopN (fun y:Int=>Zaq.p5.S chain_1 p_0 y h_2 st) (fun c J hc y h=>Zaq.p5_ok h hE (fun v19=>hc v19)) N 0 h))
theorem Zaq.p3_ok {now_3 chain_1 p_0 h_2 st r} (h:Zaq.p3 N now_3 chain_1 p_0 h_2=some r) (hE:En Tryz.f61 g0 w0 (Zaq.rs r) st R):At g0 w0 (Zaq.p3.S now_3 chain_1 p_0 h_2 st) (XK zG R [.c (csub Zaq.B [1,1,1,1,1,1,1,1,1])]):=by
 unfold Zaq.p3 at h
 refine iteB h (fun c45 h18=>?_) (fun c45 h19=>?_)
 ·obtain rfl:=Zac h18
  exact af fol hE [.r [(4,wF),(5,wF),(6,wF),(7,wF),(8,wF),(16,wF)],.c true,.r []] [] 0 [] (aO c45 c45 c45 c45 c45 c45 c45 eT)
 ·have t4 {Q:Prop} (q:Q):=aM c45 c45 c45 c45 c45 q
  refine iteB h19 (fun c46 h20=>?_) (fun c46 h21=>?_)
  ·have t5 {Q:Prop} (q:Q):=t4 (aO c46 c46 c46 c46 c46 c46 c46 (aK c45 c46 c45 q))
   refine iteB h20 (fun c47 h22=>?_) (fun c47 h23=>?_)
   ·obtain rfl:=Zac h22
    exact af fol hE [.r [(17,yF)],.c true,.r []] [] 0 [] (t5 c47)
   ·exact aq fol [.r [(17,yF)],.c false,.s 1] [4,6,9] [4,6] (t5 c47) (Zaq.p4_ok h23 hE)
  ·exact aq fol [.r [(9,wF),(10,wF),(11,wF),(12,wF),(13,wF),(14,wF),(15,wF),(16,yF),(17,yF)],.c false,.s 1] [4,6,9] [4,6] (t4 (aO c46 c46 c46 c46 c46 c46 c46 (aK c45 c46 c45 eF))) (Zaq.p4_ok h21 hE)
theorem Zaq.p2_ok {now_3 chain_1 times_15 v6 p_0 h_2 st r c2_ J2} (h:Zaq.p2 N now_3 chain_1 p_0 h_2 c2_ (times_15,v6)=some r) (hE:En Tryz.f61 g0 w0 (Zaq.rs r) st R) (hc2 : ∀times_15 v6,c2_ (times_15,v6)=some r→At g0 w0 (Zaq.p2.S now_3 chain_1 times_15 v6 p_0 h_2 st) J2):At g0 w0 (Zaq.p2.S now_3 chain_1 times_15 v6 p_0 h_2 st) (XK zG R (.c (csub Zaq.B [1,1,1,1,1,1,1,0,1,0,0]) :: .h J2 :: [.b 0,.c (csub Zaq.B [1,1,1,1,1,1,1,1])])):=by
 unfold Zaq.p2 at h
 refine iteB h (fun c36 h24=>?_) (fun c36 h25=>?_)
 ·obtain ⟨c37,h26⟩:=ZaN h24
  obtain ⟨x16,c38,h27⟩:=ZbS h26
  obtain ⟨c39,h28⟩:=ZaN h27
  exact an fol [.r [],.c true,.r [(1,{oe:=x16.ls})],.r [],.r []] [3,4,6,9,10,47,48,49] [4,6,10] (aO c36 c37 (oD c36) c38 z0 (eN (zI times_15)) z0 (aI (eN (1)) c39)) (hc2 (times_15 ++ [[zC .i64 x16.Time]]) (w64 (v6+1)) h28)
 ·refine iteB h25 (fun c40 h29=>?_) (fun c40 h30=>?_)
  ·obtain ⟨x17,c41,h31⟩:=Zae h29
   obtain ⟨c42,h32⟩:=ZaN h31
   obtain ⟨x18,c43,h33⟩:=Zae h32
   let o4:List PS:=[.r [],.c false,.d {ds:=[(6,{rs:=[.row true 1 x17],ns:=[65],m:=2}),(7,{rs:=[oI x18],m:=2})],hv:=64,Hs:=[64]}]
   have t6 {Q:Prop} (q:Q):=aO c36 c40 c40 c40 c40 c40 c40 (aO z0 (eN (zI times_15)) c42 (Zcc.snd c41) c40 z0 (eN (zI x17)) (aK (ZaF.snd c43) c40 c40 q))
   refine iteB h33 (fun c44 h34=>?_) (fun c44 h35=>?_)
   ·obtain rfl:=Zac h34
    exact afd fol hE (o4 ++ [.c true,.r []]) [] 0 [] (t6 c44)
   ·exact aqd fol (o4 ++ [.c false,.s 1]) [3,4,6,9] [4,6] (t6 c44) (Zaq.p3_ok h35 hE)
  ·exact aqd fol [.r [],.c false,.d {ds:=[(3,wF),(4,wF),(5,wF),(6,wF),(7,wF),(8,wF),(9,yF)],hv:=0,Hs:=[]},.c false,.s 1] [3,4,6,9] [4,6] (aO c36 c40 c40 c40 c40 c40 c40 (aI c40 eF)) (Zaq.p3_ok h30 hE)
theorem Zaq.p1_ok {chain_1 now_3 p_0 h_2 st r} (h:Zaq.p1 N chain_1 now_3 p_0 h_2=some r) (hE:En Tryz.f61 g0 w0 (Zaq.rs r) st R):At g0 w0 (Zaq.p1.S chain_1 now_3 p_0 h_2 st) (XK zG R [.c (csub Zaq.B [1,1,1,1])]):=by
 unfold Zaq.p1 at h
 obtain ⟨x4,c9,h36⟩:=Zae h
 let o5:List PS:=[.d {ds:=[(6,q1 [oI x4])],hv:=0,Hs:=[]}]
 have t7 {Q:Prop} (q:Q):=aI (ZaD.snd c9) q
 refine iteB h36 (fun c10 h37=>?_) (fun c10 h38=>?_)
 ·obtain rfl:=Zac h37
  exact afd fol hE (o5 ++ [.c true,.r []]) [] 0 [] (t7 c10)
 ·obtain ⟨x5,c11,h39⟩:=Zae h38
  let o6:List PS:=o5 ++ [.c false,.r [(2,q1 [oB x5])]]
  refine iteB h39 (fun c12 h40=>?_) (fun c12 h41=>?_)
  ·obtain rfl:=Zac h40
   exact afd fol hE (o6 ++ [.c true,.r []]) [] 0 [] (t7 (aJ c10 (Zdm.snd c11) c12))
  ·exact aqd fol (o6 ++ [.c false,.r [(0,{m:=1})],.r []]) [3,4,6,9,10,47,48,49] [4,6,10] (t7 (aJ c10 (Zdm.snd c11) c12)) (At.loop N (At.loopN (fun y:LL×Int=>Zaq.p2.S now_3 chain_1 y.1 y.2 p_0 h_2 st) (fun c J hc y h=>Zaq.p2_ok (times_15:=y.1) (v6:=y.2) h hE (fun times_15 v6=>hc (times_15,v6))) N ([],0) h41))
theorem Zaq.snd {p_0:Zak} {chain_1:LL} {h_2:Zaa} {now_3:Int} {r:Int} (h:Zaq N p_0 chain_1 h_2 now_3=some r):SndQ zG 61 [.agg p_0.ls,.one (yM 68 chain_1),.agg h_2.ls,oI now_3] (Zaq.rs r):=fun st=>
 sO Zaq.B Tryz.func61 fun g0 w0 R hE=>by
  unfold Zaq at h
  obtain ⟨x1,c1,h42⟩:=Zae h
  let o7:List PS:=[.r [],.r [],.r [(1,q1 [oB x1])]]
  have t8 {Q:Prop} (q:Q):=aI (ZcG.snd c1) q
  refine iteB h42 (fun c2 h43=>?_) (fun c2 h44=>?_)
  ·obtain rfl:=Zac h43
   exact af fol hE (o7 ++ [.c true,.r []]) [] 0 [] (t8 c2)
  ·refine iteB h44 (fun c3 h45=>?_) (fun c3 h46=>?_)
   ·obtain ⟨c4,c5,h47⟩:=ck2 h45
    obtain ⟨x2,c6,h48⟩:=ZbS h47
    obtain ⟨x3,c7,h49⟩:=Zae h48
    let o8:List PS:=o7 ++ [.c false,.d {ds:=[(9,{oe:=x2.ls}),(10,q1 [.agg [zH .u8 32 x3]])],hv:=0,Hs:=[]}]
    have t9 {Q:Prop} (q:Q):=t8 (aO c2 c3 c3 c3 c3 c3 c3 (aO c4 c5 c3 c6 c3 (ZcZ.snd c7) c3 (aI c3 q)))
    refine iteB h49 (fun c8 h50=>?_) (fun c8 h51=>?_)
    ·obtain rfl:=Zac h50
     exact afd fol hE (o8 ++ [.c true,.r []]) [] 0 [] (t9 c8)
    ·exact aqd fol (o8 ++ [.c false,.s 1]) [1,3,4,6,9] [4,6] (t9 c8) (Zaq.p1_ok h51 hE)
   ·exact aqd fol (o7 ++ [.c false,.d {ds:=[(3,wF),(4,wF),(5,wF),(6,wF),(7,wF),(8,wF),(9,wF),(10,wF),(11,wF),(12,yF)],hv:=0,Hs:=[]},.c false,.s 1]) [1,3,4,6,9] [4,6] (t8 (aO c2 c3 c3 c3 c3 c3 c3 (aL c3 c3 c3 c3 eF))) (Zaq.p1_ok h46 hE)
def Zbs.B:Code:=Tryz.f122.body.getD .skip
def Zbs.rs (r:LL×Int×LL):List CV:=[.row true 68 r.1,oI r.2.1]
def Zbs (N:Nat) (s_0:Option Nat) (e_1:Int) (st:LL):Option (LL×Int×LL):=
 optE s_0 fun i1=>
 getE (st[i1]?) Zbe fun x2=>
 some ([],e_1,zO st i1 (Zab.lo {x2 with Phase:=0}))
theorem Zbs.snd {s_0:Option Nat} {e_1:Int} {st:LL} {r:LL×Int×LL} (h:Zbs N s_0 e_1 st=some r):Snd zG 122 [.one (xQ s_0),oI e_1] st (Zbs.rs r) r.2.2:=
 sO Zbs.B Tryz.func122 fun g0 w0 R hE=>by
  unfold Zbs at h
  obtain ⟨i1,rfl,h1⟩:=Zae h
  obtain ⟨x2,c2,h2⟩:=Zbj h1
  obtain rfl:=Zac h2
  exact af fol hE [.r [(0,{m:=2})],.r [(3,{oc:=x2.lo})],.r [(1,{m:=2})]] [] 0 [0] c2
def ZdQ.B:Code:=Tryz.f124.body.getD .skip
def ZdQ.rs (r:Bool):List CV:=[oB r]
def ZdQ (N:Nat) (period_0 offset_1 height_2:Int):Option Bool:=
 if (decide (period_0≥1))=true then
  if (decide (period_0≤64))=true then
   if (decide (offset_1≥0))=true then
    if (decide (offset_1<period_0))=true then
     if (decide (height_2≥0))=true then
      chk (period_0≠0)<|
      some ((zR height_2 period_0)==offset_1)
     else
     some false
    else
    some false
   else
   some false
  else
  some false
 else
 some false
theorem ZdQ.snd {period_0 offset_1 height_2:Int} {r:Bool} (h:ZdQ N period_0 offset_1 height_2=some r):SndQ zG 124 [oI period_0,oI offset_1,oI height_2] (ZdQ.rs r):=fun st=>
 sO ZdQ.B Tryz.func124 fun g0 w0 R hE=>by
  unfold ZdQ at h
  refine iteB h (fun c1 h1=>?_) (fun c1 h2=>?_)
  ·have t1 {Q:Prop} (q:Q):=aK c1 c1 c1 q
   refine iteB h1 (fun c2 h3=>?_) (fun c2 h4=>?_)
   ·refine iteB h3 (fun c3 h5=>?_) (fun c3 h6=>?_)
    ·have t2 {Q:Prop} (q:Q):=t1 (aO c2 c2 c2 c3 c3 c3 c3 q)
     refine iteB h5 (fun c4 h7=>?_) (fun c4 h8=>?_)
     ·refine iteB h7 (fun c5 h9=>?_) (fun c5 h10=>?_)
      ·obtain ⟨c6,h11⟩:=ZaN h9
       obtain rfl:=Zac h11
       exact af fol hE [.r [],.r []] [] 0 [] (t2 (aO c4 c4 c4 c5 c5 c5 c6 (aJ c5 c5 c5)))
      ·obtain rfl:=Zac h10
       exact af fol hE [.r [],.r [(20,wF),(21,wF),(22,wF),(23,wF),(24,wF),(25,yF)]] [] 0 [] (t2 (aO c4 c4 c4 c5 c5 c5 c5 (aI c5 c5)))
     ·obtain rfl:=Zac h8
      exact af fol hE [.r [],.r [(16,wF),(17,wF),(18,yF),(20,wF),(21,wF),(22,wF),(23,wF),(24,wF),(25,yF)]] [] 0 [] (t2 (aO c4 c4 c4 eF eF eF eF (aI eF eF)))
    ·obtain rfl:=Zac h6
     exact af fol hE [.r [],.r [(11,wF),(12,wF),(13,wF),(14,yF),(16,wF),(17,wF),(18,yF),(20,wF),(21,wF),(22,wF),(23,wF),(24,wF),(25,yF)]] [] 0 [] (t1 (aO c2 c2 c2 c3 c3 c3 c3 (aO eF eF eF eF eF eF eF (aI eF eF))))
   ·obtain rfl:=Zac h4
    exact af fol hE [.r [],.r [(7,wF),(8,wF),(9,yF),(11,wF),(12,wF),(13,wF),(14,yF),(16,wF),(17,wF),(18,yF),(20,wF),(21,wF),(22,wF),(23,wF),(24,wF),(25,yF)]] [] 0 [] (t1 (aO c2 c2 c2 eF eF eF eF (aO eF eF eF eF eF eF eF (aI eF eF))))
  ·obtain rfl:=Zac h2
   exact af fol hE [.r [],.r [(3,wF),(4,wF),(5,yF),(7,wF),(8,wF),(9,yF),(11,wF),(12,wF),(13,wF),(14,yF),(16,wF),(17,wF),(18,yF),(20,wF),(21,wF),(22,wF),(23,wF),(24,wF),(25,yF)]] [] 0 [] (aO c1 c1 c1 eF eF eF eF (aO eF eF eF eF eF eF eF (aL eF eF eF eF eF)))
def ZdR.B:Code:=Tryz.f125.body.getD .skip
def ZdR.rs (r:Bool):List CV:=[oB r]
def ZdR (N:Nat) (salt_0:Int) (id_1_0:List Int):Option Bool:=
 optE (Zbh N 8 salt_0) fun x1=>
 optE (ZbJ N id_1_0) fun x2=>
 chk (zW x1+zW x2≤9223372036854775807)<|
 optE (Zbu N (x1++x2)) fun x3=>
 some ((zR (zE x3 0 0) 2)==1)
theorem ZdR.snd {salt_0:Int} {id_1_0:List Int} {r:Bool} (h:ZdR N salt_0 id_1_0=some r):SndQ zG 125 [oI salt_0,.agg [zH .u8 32 id_1_0]] (ZdR.rs r):=fun st=>
 sO ZdR.B Tryz.func125 fun g0 w0 R hE=>by
  unfold ZdR at h
  obtain ⟨x1,c1,h1⟩:=Zae h
  obtain ⟨x2,c2,h2⟩:=Zae h1
  obtain ⟨c3,h3⟩:=ZaN h2
  obtain ⟨x3,c4,h4⟩:=Zae h3
  obtain rfl:=Zac h4
  exact afd fol hE [.r [],.d {ds:=[(1,q1 [.one (wS x1)]),(3,q1 [.one (wS x2)]),(5,q1 [.agg [zH .u8 32 x3]])],hv:=192,Hs:=[64,192]},.r []] [] 0 [] (aO (Zbh.snd c1) (Zbh.snd c1) (ZbJ.snd c2) (ZbJ.snd c2) c3 c3 (Zbu.snd c4) (aI (Zbu.snd c4) (ix 0 32 (neI 2))))
def Zaw.B:Code:=Tryz.f70.body.getD .skip
def Zaw.rs (r:LL):List CV:=[.row true 1 r]
def Zaw.p2 (N:Nat) (c1_:(LL×Int)→Option LL) (s_0:Zab) (out_12 l_1:LL) (v1:Int):Option LL:=
 c1_ (out_12,w64 (v1+1))
def Zaw.p1 (N:Nat) (s_0:Zab) (l_1:LL) (c1_:(LL×Int)→Option LL):(LL×Int)→Option LL:=fun (out_7,v1)=>
 if (decide (v1<(len l_1)))=true then
  chk (0≤v1)<|
  getE (l_1[zF v1]?) Zch fun x8=>
  optE (ZdQ N s_0.Period s_0.Offset (w64 ((len s_0.Base)+v1))) fun x9=>
  if x9=true then
   optE (ZcZ N x8) fun x10=>
   optE (ZdR N s_0.Salt x10) fun x11=>
   chk (zI (out_7 ++ [[yX x11]])*1≤140737488355328)<|
   Zaw.p2 N c1_ s_0 (out_7 ++ [[yX x11]]) l_1 v1
  else
  Zaw.p2 N c1_ s_0 out_7 l_1 v1
 else
 some out_7
def Zaw (N:Nat) (s_0:Zab) (l_1:LL):Option LL:=
 loopN (Zaw.p1 N s_0 l_1) N ([],0)
def Zaw.p2.S (s_0:Zab) (out_12 l_1:LL) (v1:Int) (st:LL):S:=mkS 43 [(0,.one (.l (L.bx 93 s_0.ls))),(5,.one (.h (.row 5 0) 1 0 (zI out_12))),(8,sV 68 l_1),(9,sI (len l_1)),(10,sI v1)] [(5,.row 0 true 1 out_12)] st
def Zaw.p1.S (s_0:Zab) (out_7 l_1:LL) (v1:Int) (st:LL):S:=mkS 43 [(0,.one (.l (L.bx 93 s_0.ls))),(5,.one (.h (.row 5 0) 1 0 (zI out_7))),(8,sV 68 l_1),(9,sI (len l_1)),(10,sI v1)] [(5,.row 0 true 1 out_7)] st
theorem Zaw.p2_ok {s_0 out_12 l_1 v1 st r c1_ J1} (h:Zaw.p2 N c1_ s_0 out_12 l_1 v1=some r) (hE:En Tryz.f70 g0 w0 (Zaw.rs r) st R) (hc1 : ∀out_7 v1,c1_ (out_7,v1)=some r→At g0 w0 (Zaw.p1.S s_0 out_7 l_1 v1 st) J1):At g0 w0 (Zaw.p2.S s_0 out_12 l_1 v1 st) (XK zG R [.c (csub Zaw.B [1,1,0,1,0,0,1,1,1]),.h J1,.b 0,.c (csub Zaw.B [1,1,1])]):=by
 unfold Zaw.p2 at h
 exact an fol [.r []] [0,5,8,9,10] [5] trivial (hc1 out_12 (w64 (v1+1)) h)
theorem Zaw.p1_ok {s_0 out_7 l_1 v1 st r c1_ J1} (h:Zaw.p1 N s_0 l_1 c1_ (out_7,v1)=some r) (hE:En Tryz.f70 g0 w0 (Zaw.rs r) st R) (hc1 : ∀out_7 v1,c1_ (out_7,v1)=some r→At g0 w0 (Zaw.p1.S s_0 out_7 l_1 v1 st) J1):At g0 w0 (Zaw.p1.S s_0 out_7 l_1 v1 st) (XK zG R (.c (csub Zaw.B [1,1,0,1,0,0]) :: .h J1 :: [.b 0,.c (csub Zaw.B [1,1,1])])):=by
 unfold Zaw.p1 at h
 refine iteB h (fun c9 h1=>?_) (fun c9 h2=>?_)
 ·obtain ⟨c10,h3⟩:=ZaN h1
  obtain ⟨x8,c11,h4⟩:=ZbS h3
  obtain ⟨x9,c12,h5⟩:=Zae h4
  let o1:List PS:=[.r [],.c true,.r [(2,{oe:=x8.ls})],.d {ds:=[(3,{oe:=s_0.ls}),(7,{oe:=s_0.ls}),(11,{oe:=s_0.ls}),(15,q1 [oB x9])],hv:=0,Hs:=[]}]
  have t1 {Q:Prop} (q:Q):=aO c9 c10 (oD c9) c11 (eO s_0.ls) (eO s_0.ls) (eO s_0.ls) (aI (ZdQ.snd c12) q)
  refine iteB h5 (fun c13 h6=>?_) (fun c13 h7=>?_)
  ·obtain ⟨x10,c14,h8⟩:=Zae h6
   obtain ⟨x11,c15,h9⟩:=Zae h8
   obtain ⟨c16,h10⟩:=ZaN h9
   exact aqd fol (o1 ++ [.c true,.d {ds:=[(4,{oe:=s_0.ls}),(6,q1 [.agg [zH .u8 32 x10]]),(7,q1 [oB x11])],hv:=768,Hs:=[256,768]},.s 4]) [0,5,8,9,10] [5] (t1 (aO c13 (eO s_0.ls) (ZcZ.snd c14) (ZdR.snd c15) z0 (eN (zI out_7)) z0 (aI (eN (1)) c16))) (Zaw.p2_ok h10 hE hc1)
  ·exact aqd fol (o1 ++ [.c false,.s 4]) [0,5,8,9,10] [5] (t1 c13) (Zaw.p2_ok h7 hE hc1)
 ·obtain rfl:=Zac h2
  exact af fol hE [.r [],.c false,.r []] [] 0 [0] (aJ c9 z0 (eN (zI out_7)))
theorem Zaw.snd {s_0:Zab} {l_1:LL} {r:LL} (h:Zaw N s_0 l_1=some r):SndQ zG 70 [.one (L.bx 93 s_0.ls),.one (yM 68 l_1)] (Zaw.rs r):=fun st=>
 sO Zaw.B Tryz.func70 fun g0 w0 R hE=>by
  unfold Zaw at h
  exact aq fol [.r [(0,{m:=2})],.r [(0,{m:=1})],.r []] [0,5,8,9,10] [5] trivial (At.loop N (At.loopN (fun y:LL×Int=>Zaw.p1.S s_0 y.1 l_1 y.2 st) (fun c J hc y h=>Zaw.p1_ok (out_7:=y.1) (v1:=y.2) h hE (fun out_7 v1=>hc (out_7,v1))) N ([],0) h))
def Zca.B:Code:=Tryz.f180.body.getD .skip
def Zca.rs (r:(List Int)):List CV:=[.agg [zH .u64 4 r]]
def Zca.p1 (N:Nat) (l_0:LL) (c1_:(Int×(List Int))→Option (List Int)):(Int×(List Int))→Option (List Int):=fun (v1,out_5)=>
 if (decide (v1<(len l_0)))=true then
  chk (0≤v1)<|
  getE (l_0[zF v1]?) Zch fun x6=>
  optE (Zcy N x6.Bits) fun x7=>
  optE (Zdt N out_5 x7) fun x8=>
  c1_ (w64 (v1+1),x8)
 else
 some out_5
def Zca (N:Nat) (l_0:LL):Option (List Int):=
 loopN (Zca.p1 N l_0) N (0,zB 4 0)
def Zca.p1.S (l_0:LL) (v1:Int) (out_5:List Int) (st:LL):S:=mkS 20 [(2,sA 2),(3,sA 3),(7,sV 68 l_0),(8,sI (len l_0)),(9,sI v1)] [(2,.cells [zH .u64 4 (zB 4 0)]),(3,.cells [zH .u64 4 out_5])] st
theorem Zca.p1_ok {l_0 v1 out_5 st r c1_ J1} (h:Zca.p1 N l_0 c1_ (v1,out_5)=some r) (hE:En Tryz.f180 g0 w0 (Zca.rs r) st R) (hc1 : ∀v1 out_5,c1_ (v1,out_5)=some r→At g0 w0 (Zca.p1.S l_0 v1 out_5 st) J1):At g0 w0 (Zca.p1.S l_0 v1 out_5 st) (XK zG R (.c (csub Zca.B [1,1,0,1,0,0]) :: .h J1 :: [.b 0,.c (csub Zca.B [1,1,1])])):=by
 unfold Zca.p1 at h
 refine iteB h (fun c6 h1=>?_) (fun c6 h2=>?_)
 ·obtain ⟨c7,h3⟩:=ZaN h1
  obtain ⟨x6,c8,h4⟩:=ZbS h3
  obtain ⟨x7,c9,h5⟩:=Zae h4
  obtain ⟨x8,c10,h6⟩:=Zae h5
  exact and_ fol [.r [],.c true,.r [(1,{oe:=x6.ls})],.d {ds:=[(3,q1 [.agg [zH .u64 4 x7]]),(4,q1 [.agg [zH .u64 4 x8]])],hv:=32,Hs:=[32]},.r []] [2,3,7,8,9] [2,3] (aM c6 c7 (oD c6) c8 (Zcy.snd c9) (Zdt.snd c10)) (hc1 (w64 (v1+1)) x8 h6)
 ·obtain rfl:=Zac h2
  exact af fol hE [.r [],.c false,.r []] [] 0 [] c6
theorem Zca.snd {l_0:LL} {r:(List Int)} (h:Zca N l_0=some r):SndQ zG 180 [.one (yM 68 l_0)] (Zca.rs r):=fun st=>
 sO Zca.B Tryz.func180 fun g0 w0 R hE=>by
  unfold Zca at h
  exact aq fol [.r [],.r [],.r []] [2,3,7,8,9] [2,3] trivial (At.loop N (At.loopN (fun y:Int×(List Int)=>Zca.p1.S l_0 y.1 y.2 st) (fun c J hc y h=>Zca.p1_ok (v1:=y.1) (out_5:=y.2) h hE (fun v1 out_5=>hc (v1,out_5))) N (0,zB 4 0) h))
def ZbM.B:Code:=Tryz.f123.body.getD .skip
def ZbM.rs (r:Bool):List CV:=[oB r]
def ZbM (N:Nat) (s_0:Zab) (l_1:LL):Option Bool:=
 optE (ZcP N s_0.Base l_1) fun x1=>
 optE (Zca N x1) fun x2=>
 optE (Zbp N x2 s_0.P.MinWork) fun x3=>
 some (!x3)
theorem ZbM.snd {s_0:Zab} {l_1:LL} {r:Bool} (h:ZbM N s_0 l_1=some r):SndQ zG 123 [.one (L.bx 93 s_0.ls),.one (yM 68 l_1)] (ZbM.rs r):=fun st=>
 sO ZbM.B Tryz.func123 fun g0 w0 R hE=>by
  unfold ZbM at h
  obtain ⟨x1,c1,h1⟩:=Zae h
  obtain ⟨x2,c2,h2⟩:=Zae h1
  obtain ⟨x3,c3,h3⟩:=Zae h2
  obtain rfl:=Zac h3
  exact afd fol hE [.r [],.d {ds:=[(3,{oe:=s_0.ls}),(5,{rs:=[.row true 68 x1],ns:=[10],m:=1}),(6,{rs:=[.agg [zH .u64 4 x2]],m:=2}),(11,{oe:=s_0.ls}),(12,q1 [oB x3])],hv:=32,Hs:=[32]}] [] 0 [] (aO (eO s_0.ls) (ZcP.snd c1) z0 (eN (zI x1)) (Zca.snd c2) (eO s_0.ls) (eO s_0.ls) (Zbp.snd c3))
end Go.Dn.F
end
