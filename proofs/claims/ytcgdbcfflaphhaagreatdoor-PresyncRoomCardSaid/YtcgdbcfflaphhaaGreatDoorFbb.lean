/- Contracts of functions of the program, as shallow functions, and their proofs. -/
import Derived.Test.YtcgdbcfflaphhaaGreatDoorFba
set_option linter.all false
set_option maxRecDepth 100000
namespace Go.Dn.F
open Go.Proofs
variable {N:Nat} {g0:G} {w0:World} {R:Exit→Act→World→Prop}
noncomputable def Zay.B:Code:=Tryz.f110.body.getD .skip
noncomputable def Zay.rs (r:LL×LL):List CV:=[.row true 68 r.1]
noncomputable def Zay.p1 (N:Nat) (i1:Nat) (n_38:Int) (st:LL):Option (LL×LL):=
 getE (st[i1]?) Zbb fun x39 x40 x41 x42 x43 x44 x45 x46 x47 x48 x49 x50 x51 x52 x53 x54 x55 x56 x57 x58 x59 x60 x61 x62 x63 x64 x65 x66 x67 x68 x69 x70 x71 x72 x73 x74=>
 chk (0≤n_38)<|
 chk ((Int.toNat n_38)≤(List.length x74))<|
 chk (List.length ([]++(List.take (Int.toNat n_38) x74))*96≤140737488355328)<|
 chk (((0+(Int.toNat n_38))+((List.length x74)-(Int.toNat n_38)))≤(List.length x74))<|
 chk (List.length ([]++(List.take ((List.length x74)-(Int.toNat n_38)) (List.drop (0+(Int.toNat n_38)) x74)))*96≤140737488355328)<|
 some ([]++(List.take (Int.toNat n_38) x74),List.set st i1 [L.int .i64 x39,L.int .i64 x40,L.int .i64 x41,L.int .i64 x42,L.bool x43,L.sl 2 x44,L.sl 33 x45,L.arr .u64 4 x46,L.arr .u64 4 x47,L.int .i64 x48,L.arr .u8 32 x49,L.arr .u8 32 x50,L.int .i64 x51,L.int .i64 x52,L.int .i64 x53,L.int .i64 x54,L.int .i64 x55,L.int .i64 x56,L.int .i64 x57,L.int .i64 x58,L.arr .u8 32 x59,L.sl 1 x60,L.arr .u64 4 x61,L.int .i64 x62,L.int .i64 x63,L.int .i64 x64,L.int .i64 x65,L.int .i64 x66,L.arr .u8 32 x67,L.sl 1 x68,L.arr .u64 4 x69,L.ptr x70,L.int .i64 x71,L.int .i64 x72,L.int .i64 x73,L.own true 68 ([]++(List.take ((List.length x74)-(Int.toNat n_38)) (List.drop (0+(Int.toNat n_38)) x74)))])
noncomputable def Zay (N:Nat) (s_0:Option Nat) (st:LL):Option (LL×LL):=
 optE s_0 fun i1=>
 getE (st[i1]?) Zbb fun x2 x3 x4 x5 x6 x7 x8 x9 x10 x11 x12 x13 x14 x15 x16 x17 x18 x19 x20 x21 x22 x23 x24 x25 x26 x27 x28 x29 x30 x31 x32 x33 x34 x35 x36 x37=>
 if (x34==3)=true then
  Zay.p1 N i1 (len x37) st
 else
 Zay.p1 N i1 (if (0:Int)>(w64 ((len x37)-x36)) then 0 else (w64 ((len x37)-x36))) st
noncomputable def Zay.p1.S (i1:Nat) (n_38:Int) (st:LL):S:=mkS 44 [(0,sP (some i1)),(3,sI n_38)] [] st
theorem Zay.p1_ok {i1 n_38 st r} (h:Zay.p1 N i1 n_38 st=some r) (hE:En Tryz.f110 g0 w0 (Zay.rs r) r.2 R):At g0 w0 (Zay.p1.S i1 n_38 st) (XK Tryz.prog R [.c (csub Zay.B [1,1,1])]):=by
 unfold Zay.p1 at h
 obtain ⟨x39,x40,x41,x42,x43,x44,x45,x46,x47,x48,x49,x50,x51,x52,x53,x54,x55,x56,x57,x58,x59,x60,x61,x62,x63,x64,x65,x66,x67,x68,x69,x70,x71,x72,x73,x74,c4,h1⟩:=ZaX h
 obtain ⟨c5,c6,c7,c8,c9,h2⟩:=ck5 h1
 obtain rfl:=Zaa h2
 exact af fol hE [.r [(3,{oc:=[L.int .i64 x39,L.int .i64 x40,L.int .i64 x41,L.int .i64 x42,L.bool x43,L.sl 2 x44,L.sl 33 x45,L.arr .u64 4 x46,L.arr .u64 4 x47,L.int .i64 x48,L.arr .u8 32 x49,L.arr .u8 32 x50,L.int .i64 x51,L.int .i64 x52,L.int .i64 x53,L.int .i64 x54,L.int .i64 x55,L.int .i64 x56,L.int .i64 x57,L.int .i64 x58,L.arr .u8 32 x59,L.sl 1 x60,L.arr .u64 4 x61,L.int .i64 x62,L.int .i64 x63,L.int .i64 x64,L.int .i64 x65,L.int .i64 x66,L.arr .u8 32 x67,L.sl 1 x68,L.arr .u64 4 x69,L.ptr x70,L.int .i64 x71,L.int .i64 x72,L.int .i64 x73,L.own true 68 x74]}),(5,{oc:=[L.int .i64 x39,L.int .i64 x40,L.int .i64 x41,L.int .i64 x42,L.bool x43,L.sl 2 x44,L.sl 33 x45,L.arr .u64 4 x46,L.arr .u64 4 x47,L.int .i64 x48,L.arr .u8 32 x49,L.arr .u8 32 x50,L.int .i64 x51,L.int .i64 x52,L.int .i64 x53,L.int .i64 x54,L.int .i64 x55,L.int .i64 x56,L.int .i64 x57,L.int .i64 x58,L.arr .u8 32 x59,L.sl 1 x60,L.arr .u64 4 x61,L.int .i64 x62,L.int .i64 x63,L.int .i64 x64,L.int .i64 x65,L.int .i64 x66,L.arr .u8 32 x67,L.sl 1 x68,L.arr .u64 4 x69,L.ptr x70,L.int .i64 x71,L.int .i64 x72,L.int .i64 x73,L.own true 68 x74]}),(6,{oc:=[L.int .i64 x39,L.int .i64 x40,L.int .i64 x41,L.int .i64 x42,L.bool x43,L.sl 2 x44,L.sl 33 x45,L.arr .u64 4 x46,L.arr .u64 4 x47,L.int .i64 x48,L.arr .u8 32 x49,L.arr .u8 32 x50,L.int .i64 x51,L.int .i64 x52,L.int .i64 x53,L.int .i64 x54,L.int .i64 x55,L.int .i64 x56,L.int .i64 x57,L.int .i64 x58,L.arr .u8 32 x59,L.sl 1 x60,L.arr .u64 4 x61,L.int .i64 x62,L.int .i64 x63,L.int .i64 x64,L.int .i64 x65,L.int .i64 x66,L.arr .u8 32 x67,L.sl 1 x68,L.arr .u64 4 x69,L.ptr x70,L.int .i64 x71,L.int .i64 x72,L.int .i64 x73,L.own true 68 x74],wm:=2})],.r [(4,{oc:=[L.int .i64 x39,L.int .i64 x40,L.int .i64 x41,L.int .i64 x42,L.bool x43,L.sl 2 x44,L.sl 33 x45,L.arr .u64 4 x46,L.arr .u64 4 x47,L.int .i64 x48,L.arr .u8 32 x49,L.arr .u8 32 x50,L.int .i64 x51,L.int .i64 x52,L.int .i64 x53,L.int .i64 x54,L.int .i64 x55,L.int .i64 x56,L.int .i64 x57,L.int .i64 x58,L.arr .u8 32 x59,L.sl 1 x60,L.arr .u64 4 x61,L.int .i64 x62,L.int .i64 x63,L.int .i64 x64,L.int .i64 x65,L.int .i64 x66,L.arr .u8 32 x67,L.sl 1 x68,L.arr .u64 4 x69,L.ptr x70,L.int .i64 x71,L.int .i64 x72,L.int .i64 x73,L.own true 68 x74]}),(6,{oc:=[L.int .i64 x39,L.int .i64 x40,L.int .i64 x41,L.int .i64 x42,L.bool x43,L.sl 2 x44,L.sl 33 x45,L.arr .u64 4 x46,L.arr .u64 4 x47,L.int .i64 x48,L.arr .u8 32 x49,L.arr .u8 32 x50,L.int .i64 x51,L.int .i64 x52,L.int .i64 x53,L.int .i64 x54,L.int .i64 x55,L.int .i64 x56,L.int .i64 x57,L.int .i64 x58,L.arr .u8 32 x59,L.sl 1 x60,L.arr .u64 4 x61,L.int .i64 x62,L.int .i64 x63,L.int .i64 x64,L.int .i64 x65,L.int .i64 x66,L.arr .u8 32 x67,L.sl 1 x68,L.arr .u64 4 x69,L.ptr x70,L.int .i64 x71,L.int .i64 x72,L.int .i64 x73,L.own true 68 x74]}),(7,{oc:=[L.int .i64 x39,L.int .i64 x40,L.int .i64 x41,L.int .i64 x42,L.bool x43,L.sl 2 x44,L.sl 33 x45,L.arr .u64 4 x46,L.arr .u64 4 x47,L.int .i64 x48,L.arr .u8 32 x49,L.arr .u8 32 x50,L.int .i64 x51,L.int .i64 x52,L.int .i64 x53,L.int .i64 x54,L.int .i64 x55,L.int .i64 x56,L.int .i64 x57,L.int .i64 x58,L.arr .u8 32 x59,L.sl 1 x60,L.arr .u64 4 x61,L.int .i64 x62,L.int .i64 x63,L.int .i64 x64,L.int .i64 x65,L.int .i64 x66,L.arr .u8 32 x67,L.sl 1 x68,L.arr .u64 4 x69,L.ptr x70,L.int .i64 x71,L.int .i64 x72,L.int .i64 x73,L.own true 68 x74],wm:=3}),(10,{oc:=[L.int .i64 x39,L.int .i64 x40,L.int .i64 x41,L.int .i64 x42,L.bool x43,L.sl 2 x44,L.sl 33 x45,L.arr .u64 4 x46,L.arr .u64 4 x47,L.int .i64 x48,L.arr .u8 32 x49,L.arr .u8 32 x50,L.int .i64 x51,L.int .i64 x52,L.int .i64 x53,L.int .i64 x54,L.int .i64 x55,L.int .i64 x56,L.int .i64 x57,L.int .i64 x58,L.arr .u8 32 x59,L.sl 1 x60,L.arr .u64 4 x61,L.int .i64 x62,L.int .i64 x63,L.int .i64 x64,L.int .i64 x65,L.int .i64 x66,L.arr .u8 32 x67,L.sl 1 x68,L.arr .u64 4 x69,L.ptr x70,L.int .i64 x71,L.int .i64 x72,L.int .i64 x73,L.own true 68 x74],mv:=[40]})],.r []] [] 0 [0] (aO c4 c5 (Nat.zero_le (Int.toNat n_38)) c6 c4 z0 c6 (aO c4 c7 c4 c5 c6 (Nat.le_refl (List.length x74)) c4 (aO c8 c4 c9 c4 z0 (eN (List.length ([]++(List.take ((List.length x74)-(Int.toNat n_38)) (List.drop (0+(Int.toNat n_38)) x74))))) z0 (eN (List.length ([]++(List.take (Int.toNat n_38) x74)))))))
theorem Zay.snd {s_0:Option Nat} {st:LL} {r:LL×LL} (h:Zay N s_0 st=some r):Snd Tryz.prog 110 [.one (L.ptr s_0)] st (Zay.rs r) r.2:=
 sO Zay.B Tryz.func110 fun g0 w0 R hE=>by
  unfold Zay at h
  obtain ⟨i1,rfl,h3⟩:=Zac h
  obtain ⟨x2,x3,x4,x5,x6,x7,x8,x9,x10,x11,x12,x13,x14,x15,x16,x17,x18,x19,x20,x21,x22,x23,x24,x25,x26,x27,x28,x29,x30,x31,x32,x33,x34,x35,x36,x37,c2,h4⟩:=ZaX h3
  let o1:List PS:=[.r [(0,{m:=2})],.d {ds:=[(3,{oc:=[L.int .i64 x2,L.int .i64 x3,L.int .i64 x4,L.int .i64 x5,L.bool x6,L.sl 2 x7,L.sl 33 x8,L.arr .u64 4 x9,L.arr .u64 4 x10,L.int .i64 x11,L.arr .u8 32 x12,L.arr .u8 32 x13,L.int .i64 x14,L.int .i64 x15,L.int .i64 x16,L.int .i64 x17,L.int .i64 x18,L.int .i64 x19,L.int .i64 x20,L.int .i64 x21,L.arr .u8 32 x22,L.sl 1 x23,L.arr .u64 4 x24,L.int .i64 x25,L.int .i64 x26,L.int .i64 x27,L.int .i64 x28,L.int .i64 x29,L.arr .u8 32 x30,L.sl 1 x31,L.arr .u64 4 x32,L.ptr x33,L.int .i64 x34,L.int .i64 x35,L.int .i64 x36,L.own true 68 x37]}),(8,{oc:=[L.int .i64 x2,L.int .i64 x3,L.int .i64 x4,L.int .i64 x5,L.bool x6,L.sl 2 x7,L.sl 33 x8,L.arr .u64 4 x9,L.arr .u64 4 x10,L.int .i64 x11,L.arr .u8 32 x12,L.arr .u8 32 x13,L.int .i64 x14,L.int .i64 x15,L.int .i64 x16,L.int .i64 x17,L.int .i64 x18,L.int .i64 x19,L.int .i64 x20,L.int .i64 x21,L.arr .u8 32 x22,L.sl 1 x23,L.arr .u64 4 x24,L.int .i64 x25,L.int .i64 x26,L.int .i64 x27,L.int .i64 x28,L.int .i64 x29,L.arr .u8 32 x30,L.sl 1 x31,L.arr .u64 4 x32,L.ptr x33,L.int .i64 x34,L.int .i64 x35,L.int .i64 x36,L.own true 68 x37]})],hv:=0,Hs:=[]},.r [(3,{oc:=[L.int .i64 x2,L.int .i64 x3,L.int .i64 x4,L.int .i64 x5,L.bool x6,L.sl 2 x7,L.sl 33 x8,L.arr .u64 4 x9,L.arr .u64 4 x10,L.int .i64 x11,L.arr .u8 32 x12,L.arr .u8 32 x13,L.int .i64 x14,L.int .i64 x15,L.int .i64 x16,L.int .i64 x17,L.int .i64 x18,L.int .i64 x19,L.int .i64 x20,L.int .i64 x21,L.arr .u8 32 x22,L.sl 1 x23,L.arr .u64 4 x24,L.int .i64 x25,L.int .i64 x26,L.int .i64 x27,L.int .i64 x28,L.int .i64 x29,L.arr .u8 32 x30,L.sl 1 x31,L.arr .u64 4 x32,L.ptr x33,L.int .i64 x34,L.int .i64 x35,L.int .i64 x36,L.own true 68 x37]})]]
  refine iteB h4 (fun c3 h5=>?_) (fun c3 h6=>?_)
  ·exact aqd fol (o1 ++ [.c true,.r [(3,{oc:=[L.int .i64 x2,L.int .i64 x3,L.int .i64 x4,L.int .i64 x5,L.bool x6,L.sl 2 x7,L.sl 33 x8,L.arr .u64 4 x9,L.arr .u64 4 x10,L.int .i64 x11,L.arr .u8 32 x12,L.arr .u8 32 x13,L.int .i64 x14,L.int .i64 x15,L.int .i64 x16,L.int .i64 x17,L.int .i64 x18,L.int .i64 x19,L.int .i64 x20,L.int .i64 x21,L.arr .u8 32 x22,L.sl 1 x23,L.arr .u64 4 x24,L.int .i64 x25,L.int .i64 x26,L.int .i64 x27,L.int .i64 x28,L.int .i64 x29,L.arr .u8 32 x30,L.sl 1 x31,L.arr .u64 4 x32,L.ptr x33,L.int .i64 x34,L.int .i64 x35,L.int .i64 x36,L.own true 68 x37]})],.s 1]) [0,3] [] (aL c2 c2 c2 c3 c2) (Zay.p1_ok h5 hE)
  ·exact aqd fol (o1 ++ [.c false,.s 1]) [0,3] [] (aK c2 c2 c2 c3) (Zay.p1_ok h6 hE)
noncomputable def ZaB.B:Code:=Tryz.f60.body.getD .skip
noncomputable def ZaB.rs (r:LL×Int×LL):List CV:=[.row true 68 r.1,oI r.2.1]
noncomputable def ZaB.p1 (N:Nat) (i1:Nat) (more_2:Bool) (x34 e_42:Int) (st43:LL):Option (LL×Int×LL):=
 if (e_42 != 0)=true then
  optE (Zbz N (some i1) e_42 st43) fun (x44,x45,st46)=>
  some (x44,x45,st46)
 else
 if (!more_2)=true then
  getE (st43[i1]?) Zbb fun x47 x48 x49 x50 x51 x52 x53 x54 x55 x56 x57 x58 x59 x60 x61 x62 x63 x64 x65 x66 x67 x68 x69 x70 x71 x72 x73 x74 x75 x76 x77 x78 x79 x80 x81 x82=>
  if (x79==x34)=true then
   optE (Zbz N (some i1) 5 st43) fun (x83,x84,st85)=>
   some (x83,x84,st85)
  else
  optE (Zay N (some i1) st43) fun (x86,st87)=>
  some (x86,0,st87)
 else
 optE (Zay N (some i1) st43) fun (x88,st89)=>
 some (x88,0,st89)
noncomputable def ZaB (N:Nat) (s_0:Option Nat) (now_1:Int) (more_2:Bool) (list_3 st:LL):Option (LL×Int×LL):=
 if (Option.isNone s_0)=true then
  some ([],2,st)
 else
 optE s_0 fun i1=>
 getE (st[i1]?) Zbb fun x2 x3 x4 x5 x6 x7 x8 x9 x10 x11 x12 x13 x14 x15 x16 x17 x18 x19 x20 x21 x22 x23 x24 x25 x26 x27 x28 x29 x30 x31 x32 x33 x34 x35 x36 x37=>
 if (x34==0)=true then
  some ([],9,st)
 else
 if (x34==3)=true then
  some ([],9,st)
 else
 if (decide (now_1<0))=true then
  some ([],1,st)
 else
 if (decide (now_1>4294967296))=true then
  some ([],1,st)
 else
 if (decide ((len list_3)>64))=true then
  some ([],1,st)
 else
 if (x34==1)=true then
  optE (ZaJ N (some i1) now_1 list_3 st) fun (x38,st39)=>
  ZaB.p1 N i1 more_2 x34 x38 st39
 else
 optE (Zaj N (some i1) now_1 list_3 st) fun (x40,st41)=>
 ZaB.p1 N i1 more_2 x34 x40 st41
noncomputable def ZaB.p1.S (i1:Nat) (more_2:Bool) (x34 e_42:Int) (st43:LL):S:=mkS 77 [(0,sP (some i1)),(2,.one (.l (L.bool more_2))),(10,sI x34),(11,sI e_42)] [] st43
theorem ZaB.p1_ok {i1 more_2 x34 e_42 st43 r} (h:ZaB.p1 N i1 more_2 x34 e_42 st43=some r) (hE:En Tryz.f60 g0 w0 (ZaB.rs r) r.2.2 R):At g0 w0 (ZaB.p1.S i1 more_2 x34 e_42 st43) (XK Tryz.prog R [.c (csub ZaB.B [1,1,1,1,1])]):=by
 unfold ZaB.p1 at h
 refine iteB h (fun c12 h1=>?_) (fun c12 h2=>?_)
 ·obtain ⟨⟨x44,x45,st46⟩,c13,h3⟩:=Zac h1
  obtain rfl:=Zaa h3
  exact af fol hE [.r [],.c true,.r [(2,{rs:=[.row true 68 x44,oI x45],st:=st46,ns:=[58]})]] [] 0 [0] (aK c12 (Zbz.snd c13) z0 (eN (List.length x44)))
 ·refine iteB h2 (fun c14 h4=>?_) (fun c14 h5=>?_)
  ·obtain ⟨x47,x48,x49,x50,x51,x52,x53,x54,x55,x56,x57,x58,x59,x60,x61,x62,x63,x64,x65,x66,x67,x68,x69,x70,x71,x72,x73,x74,x75,x76,x77,x78,x79,x80,x81,x82,c15,h6⟩:=ZaX h4
   let o1:List PS:=[.r [],.c false,.r [(6,{oc:=[L.int .i64 x47,L.int .i64 x48,L.int .i64 x49,L.int .i64 x50,L.bool x51,L.sl 2 x52,L.sl 33 x53,L.arr .u64 4 x54,L.arr .u64 4 x55,L.int .i64 x56,L.arr .u8 32 x57,L.arr .u8 32 x58,L.int .i64 x59,L.int .i64 x60,L.int .i64 x61,L.int .i64 x62,L.int .i64 x63,L.int .i64 x64,L.int .i64 x65,L.int .i64 x66,L.arr .u8 32 x67,L.sl 1 x68,L.arr .u64 4 x69,L.int .i64 x70,L.int .i64 x71,L.int .i64 x72,L.int .i64 x73,L.int .i64 x74,L.arr .u8 32 x75,L.sl 1 x76,L.arr .u64 4 x77,L.ptr x78,L.int .i64 x79,L.int .i64 x80,L.int .i64 x81,L.own true 68 x82]})]]
   have t1 {Q:Prop} (q:Q):=aO c12 (not_false (Zbs c14)) (not_false (Zbs c14)) (not_false (Zbs c14)) (not_false (Zbs c14)) c15 (not_false (Zbs c14)) (aJ (not_false (Zbs c14)) (not_false (Zbs c14)) q)
   refine iteB h6 (fun c16 h7=>?_) (fun c16 h8=>?_)
   ·obtain ⟨⟨x83,x84,st85⟩,c17,h9⟩:=Zac h7
    obtain rfl:=Zaa h9
    exact af fol hE (o1 ++ [.c true,.r [(1,{rs:=[.row true 68 x83,oI x84],st:=st85,ns:=[72]})]]) [] 0 [0] (t1 (aK c16 (Zbz.snd c17) z0 (eN (List.length x83))))
   ·obtain ⟨⟨x86,st87⟩,c18,h10⟩:=Zac h8
    obtain rfl:=Zaa h10
    exact af fol hE (o1 ++ [.c false,.r [(1,{rs:=[.row true 68 x86],st:=st87,ns:=[76]})]]) [] 0 [0] (t1 (aK c16 (Zay.snd c18) z0 (eN (List.length x86))))
  ·obtain ⟨⟨x88,st89⟩,c19,h11⟩:=Zac h5
   obtain rfl:=Zaa h11
   exact af fol hE [.r [],.c false,.r [(3,wF),(4,wF),(5,wF),(6,wF),(7,wF),(8,wF),(9,yF)],.c false,.r [(1,{rs:=[.row true 68 x88],st:=st89,ns:=[76]})]] [] 0 [0] (aO c12 (not_true (Zbn c14)) (not_true (Zbn c14)) (not_true (Zbn c14)) (not_true (Zbn c14)) (not_true (Zbn c14)) (not_true (Zbn c14)) (aL (not_true (Zbn c14)) eF (Zay.snd c19) z0 (eN (List.length x88))))
theorem ZaB.snd {s_0:Option Nat} {now_1:Int} {more_2:Bool} {list_3:LL} {st:LL} {r:LL×Int×LL} (h:ZaB N s_0 now_1 more_2 list_3 st=some r):Snd Tryz.prog 60 [.one (L.ptr s_0),oI now_1,oB more_2,.one (L.sl 68 list_3)] st (ZaB.rs r) r.2.2:=
 sO ZaB.B Tryz.func60 fun g0 w0 R hE=>by
  unfold ZaB at h
  let o2:List PS:=[.r [(0,{m:=2})],.r []]
  refine iteB h (fun c1 h12=>?_) (fun c1 h13=>?_)
  ·obtain rfl:=Zaa h12
   exact af fol hE (o2 ++ [.c true,.r [(0,{m:=2})]]) [] 0 [0] c1
  ·obtain ⟨i1,rfl,h14⟩:=Zac h13
   obtain ⟨x2,x3,x4,x5,x6,x7,x8,x9,x10,x11,x12,x13,x14,x15,x16,x17,x18,x19,x20,x21,x22,x23,x24,x25,x26,x27,x28,x29,x30,x31,x32,x33,x34,x35,x36,x37,c3,h15⟩:=ZaX h14
   have t2 {Q:Prop} (q:Q):=aJ c1 c3 q
   refine iteB h15 (fun c4 h16=>?_) (fun c4 h17=>?_)
   ·obtain rfl:=Zaa h16
    exact af fol hE (o2 ++ [.c false,.r [(3,{oc:=[L.int .i64 x2,L.int .i64 x3,L.int .i64 x4,L.int .i64 x5,L.bool x6,L.sl 2 x7,L.sl 33 x8,L.arr .u64 4 x9,L.arr .u64 4 x10,L.int .i64 x11,L.arr .u8 32 x12,L.arr .u8 32 x13,L.int .i64 x14,L.int .i64 x15,L.int .i64 x16,L.int .i64 x17,L.int .i64 x18,L.int .i64 x19,L.int .i64 x20,L.int .i64 x21,L.arr .u8 32 x22,L.sl 1 x23,L.arr .u64 4 x24,L.int .i64 x25,L.int .i64 x26,L.int .i64 x27,L.int .i64 x28,L.int .i64 x29,L.arr .u8 32 x30,L.sl 1 x31,L.arr .u64 4 x32,L.ptr x33,L.int .i64 x34,L.int .i64 x35,L.int .i64 x36,L.own true 68 x37]}),(6,wF),(7,wF),(8,wF),(9,wF),(10,wF)],.c true,.r [(0,{m:=2})]]) [] 0 [0] (t2 (aN c4 c4 c4 c4 c4 c4 eT))
   ·let o3:List PS:=o2 ++ [.c false,.r [(3,{oc:=[L.int .i64 x2,L.int .i64 x3,L.int .i64 x4,L.int .i64 x5,L.bool x6,L.sl 2 x7,L.sl 33 x8,L.arr .u64 4 x9,L.arr .u64 4 x10,L.int .i64 x11,L.arr .u8 32 x12,L.arr .u8 32 x13,L.int .i64 x14,L.int .i64 x15,L.int .i64 x16,L.int .i64 x17,L.int .i64 x18,L.int .i64 x19,L.int .i64 x20,L.int .i64 x21,L.arr .u8 32 x22,L.sl 1 x23,L.arr .u64 4 x24,L.int .i64 x25,L.int .i64 x26,L.int .i64 x27,L.int .i64 x28,L.int .i64 x29,L.arr .u8 32 x30,L.sl 1 x31,L.arr .u64 4 x32,L.ptr x33,L.int .i64 x34,L.int .i64 x35,L.int .i64 x36,L.own true 68 x37]}),(9,{oc:=[L.int .i64 x2,L.int .i64 x3,L.int .i64 x4,L.int .i64 x5,L.bool x6,L.sl 2 x7,L.sl 33 x8,L.arr .u64 4 x9,L.arr .u64 4 x10,L.int .i64 x11,L.arr .u8 32 x12,L.arr .u8 32 x13,L.int .i64 x14,L.int .i64 x15,L.int .i64 x16,L.int .i64 x17,L.int .i64 x18,L.int .i64 x19,L.int .i64 x20,L.int .i64 x21,L.arr .u8 32 x22,L.sl 1 x23,L.arr .u64 4 x24,L.int .i64 x25,L.int .i64 x26,L.int .i64 x27,L.int .i64 x28,L.int .i64 x29,L.arr .u8 32 x30,L.sl 1 x31,L.arr .u64 4 x32,L.ptr x33,L.int .i64 x34,L.int .i64 x35,L.int .i64 x36,L.own true 68 x37]}),(11,yF)]]
    have t3 {Q:Prop} (q:Q):=t2 (aO c4 c4 c4 c4 c3 c4 c4 q)
    refine iteB h17 (fun c5 h18=>?_) (fun c5 h19=>?_)
    ·obtain rfl:=Zaa h18
     exact af fol hE (o3 ++ [.c true,.r [(0,{m:=2})]]) [] 0 [0] (t3 c5)
    ·refine iteB h19 (fun c6 h20=>?_) (fun c6 h21=>?_)
     ·obtain rfl:=Zaa h20
      exact af fol hE (o3 ++ [.c false,.r [(3,wF),(4,wF),(7,wF),(8,wF),(9,wF)],.c true,.r [(0,{m:=2})]]) [] 0 [0] (t3 (aO c5 c6 c6 c6 eT eT eT (aI eT eT)))
     ·have t4 {Q:Prop} (q:Q):=t3 (aL c5 c6 c6 c6 q)
      refine iteB h21 (fun c7 h22=>?_) (fun c7 h23=>?_)
      ·obtain rfl:=Zaa h22
       exact af fol hE (o3 ++ [.c false,.r [(5,yF),(7,wF),(8,wF),(9,wF)],.c true,.r [(0,{m:=2})]]) [] 0 [0] (t4 (aL c7 c7 c7 c7 eT))
      ·let o4:List PS:=o3 ++ [.c false,.r [(5,yF),(10,yF)]]
       refine iteB h23 (fun c8 h24=>?_) (fun c8 h25=>?_)
       ·obtain rfl:=Zaa h24
        exact af fol hE (o4 ++ [.c true,.r [(0,{m:=2})]]) [] 0 [0] (t4 (aL c7 c7 c7 c7 c8))
       ·let o5:List PS:=o4 ++ [.c false,.r [(3,{oc:=[L.int .i64 x2,L.int .i64 x3,L.int .i64 x4,L.int .i64 x5,L.bool x6,L.sl 2 x7,L.sl 33 x8,L.arr .u64 4 x9,L.arr .u64 4 x10,L.int .i64 x11,L.arr .u8 32 x12,L.arr .u8 32 x13,L.int .i64 x14,L.int .i64 x15,L.int .i64 x16,L.int .i64 x17,L.int .i64 x18,L.int .i64 x19,L.int .i64 x20,L.int .i64 x21,L.arr .u8 32 x22,L.sl 1 x23,L.arr .u64 4 x24,L.int .i64 x25,L.int .i64 x26,L.int .i64 x27,L.int .i64 x28,L.int .i64 x29,L.arr .u8 32 x30,L.sl 1 x31,L.arr .u64 4 x32,L.ptr x33,L.int .i64 x34,L.int .i64 x35,L.int .i64 x36,L.own true 68 x37]})],.r [],.r []]
        refine iteB h25 (fun c9 h26=>?_) (fun c9 h27=>?_)
        ·obtain ⟨⟨x38,st39⟩,c10,h28⟩:=Zac h26
         exact aq fol (o5 ++ [.c true,.r [(3,{rs:=[oI x38],st:=st39})],.s 1]) [0,2,10,11] [] (t4 (aO c7 c7 c7 c7 c8 c3 c9 (ZaJ.snd c10))) (ZaB.p1_ok h28 hE)
        ·obtain ⟨⟨x40,st41⟩,c11,h29⟩:=Zac h27
         exact aq fol (o5 ++ [.c false,.r [(3,{rs:=[oI x40],st:=st41})],.s 1]) [0,2,10,11] [] (t4 (aO c7 c7 c7 c7 c8 c3 c9 (Zaj.snd c11))) (ZaB.p1_ok h29 hE)
noncomputable def ZbQ.B:Code:=Tryz.f62.body.getD .skip
noncomputable def ZbQ.rs (r:Int):List CV:=[oI r]
noncomputable def ZbQ (N:Nat) (s_0:ZaE):Option Int:=
 some s_0.phase
theorem ZbQ.snd {s_0:ZaE} {r:Int} (h:ZbQ N s_0=some r):SndQ Tryz.prog 62 [.one (L.bx 172 s_0.ls)] (ZbQ.rs r):=fun st=>
 sO ZbQ.B Tryz.func62 fun g0 w0 R hE=>by
  unfold ZbQ at h
  obtain rfl:=Zaa h
  exact af fol hE [.r [],.r [],.c false,.r [(3,{oe:=s_0.ls})]] [] 0 [] (aI eF (eO s_0.ls))
noncomputable def Zcr.B:Code:=Tryz.f57.body.getD .skip
noncomputable def Zcr.rs (r:Bool×LL):List CV:=[oB r.1]
noncomputable def Zcr (N:Nat) (st:LL):Option (Bool×LL):=
 optE (Zdn N (Zan.mk 545259519 4 10 0 false [] [] [100,0,0,0] (List.replicate 4 0) (Zah.mk 0 (List.replicate 32 0) (List.replicate 32 0) 0 0 0))) fun x1=>
 optE (Zci N (Zan.mk 545259519 4 10 0 false [] [] [100,0,0,0] (List.replicate 4 0) (Zah.mk 0 (List.replicate 32 0) (List.replicate 32 0) 0 0 0)) (ZcP.mk x1 [2,0,0,0]) (Zbr.mk 0 2 0) 4 100 st) fun (x2,x3,st4)=>
 optE (ZaB N x2 100 false [] st4) fun (x5,x6,st7)=>
 if (x3==0)=true then
  if (x6==5)=true then
   optE x2 fun i8=>
   getE (st7[i8]?) Zbb fun x9 x10 x11 x12 x13 x14 x15 x16 x17 x18 x19 x20 x21 x22 x23 x24 x25 x26 x27 x28 x29 x30 x31 x32 x33 x34 x35 x36 x37 x38 x39 x40 x41 x42 x43 x44=>
   optE x40 fun i45=>
   getE (st7[i45]?) ZaV fun x46=>
   optE (ZbQ N (ZaE.mk (Zan.mk x9 x10 x11 x12 x13 x14 x15 x16 x17 (Zah.mk x18 x19 x20 x21 x22 x23)) (ZaF.mk (Zaq.mk (ZaL.mk x24 x25 x26 x27 x28) x29 x30) x31) (ZaF.mk (Zaq.mk (ZaL.mk x32 x33 x34 x35 x36) x37 x38) x39) x46 x41 x42 x43 x44)) fun x47=>
   if (x47==0)=true then
    optE (ZbX N (Zbr.mk 0 2 0) 10) fun x48=>
    some (x48==31,st7)
   else
   some (false,st7)
  else
  some (false,st7)
 else
 some (false,st7)
theorem Zcr.snd {st:LL} {r:Bool×LL} (h:Zcr N st=some r):Snd Tryz.prog 57 [] st (Zcr.rs r) r.2:=
 sO Zcr.B Tryz.func57 fun g0 w0 R hE=>by
  unfold Zcr at h
  obtain ⟨x1,c1,h1⟩:=Zac h
  obtain ⟨⟨x2,x3,st4⟩,c2,h2⟩:=Zac h1
  obtain ⟨⟨x5,x6,st7⟩,c3,h3⟩:=Zac h2
  let o1:List PS:=[.r [],.r [(0,{m:=3})]]
  have t1 {Q:Prop} (q:Q):=aJ (Zdn.snd c1) (Zci.snd c2) q
  refine iteB h3 (fun c4 h4=>?_) (fun c4 h5=>?_)
  ·refine iteB h4 (fun c5 h6=>?_) (fun c5 h7=>?_)
   ·obtain ⟨i8,rfl,h8⟩:=Zac h6
    obtain ⟨x9,x10,x11,x12,x13,x14,x15,x16,x17,x18,x19,x20,x21,x22,x23,x24,x25,x26,x27,x28,x29,x30,x31,x32,x33,x34,x35,x36,x37,x38,x39,x40,x41,x42,x43,x44,c7,h9⟩:=ZaX h8
    obtain ⟨i45,rfl,h10⟩:=Zac h9
    obtain ⟨x46,c9,h11⟩:=Zbl h10
    obtain ⟨x47,c10,h12⟩:=Zac h11
    let o2:List PS:=o1 ++ [.d {ds:=[(2,q1 [.agg x1.ls]),(3,{m:=3}),(6,{rs:=[.one (L.ptr (some i8)),oI x3],st:=st4})],hv:=64,Hs:=[64]},.r [(1,{rs:=[.row true 68 x5,oI x6],st:=st7,ns:=[20]})]]
    have t2 {Q:Prop} (q:Q):=t1 (aO (Snd.nl (cs:=[.one (L.ptr (some i8)),oI 100,oB false]) (ZaB.snd c3)) c4 c4 c4 c5 c5 (bO 172 c7 ((bP (bP (bP (bP (bP (bS (bS (bP (bP (bP (bP (bP (bP (bP (bP (bP (bP (bP (bP (bP (bP (bS (bP (bP (bP (bP (bP (bP (bP (bS (bP (bC 6 c9 (Zat.bv x46) (bP (bP (bP (bW bN)))))))))))))))))))))))))))))))))))):BVs st7 [L.int .i64 x9,L.int .i64 x10,L.int .i64 x11,L.int .i64 x12,L.bool x13,L.sl 2 x14,L.sl 33 x15,L.arr .u64 4 x16,L.arr .u64 4 x17,L.int .i64 x18,L.arr .u8 32 x19,L.arr .u8 32 x20,L.int .i64 x21,L.int .i64 x22,L.int .i64 x23,L.int .i64 x24,L.int .i64 x25,L.int .i64 x26,L.int .i64 x27,L.int .i64 x28,L.arr .u8 32 x29,L.sl 1 x30,L.arr .u64 4 x31,L.int .i64 x32,L.int .i64 x33,L.int .i64 x34,L.int .i64 x35,L.int .i64 x36,L.arr .u8 32 x37,L.sl 1 x38,L.arr .u64 4 x39,L.ptr (some i45),L.int .i64 x41,L.int .i64 x42,L.int .i64 x43,L.own true 68 x44] (ZaE.ls (ZaE.mk (Zan.mk x9 x10 x11 x12 x13 x14 x15 x16 x17 (Zah.mk x18 x19 x20 x21 x22 x23)) (ZaF.mk (Zaq.mk (ZaL.mk x24 x25 x26 x27 x28) x29 x30) x31) (ZaF.mk (Zaq.mk (ZaL.mk x32 x33 x34 x35 x36) x37 x38) x39) x46 x41 x42 x43 x44)))) (aK (ZbQ.snd c10) c5 c5 q))
    refine iteB h12 (fun c11 h13=>?_) (fun c11 h14=>?_)
    ·obtain ⟨x48,c12,h15⟩:=Zac h13
     obtain rfl:=Zaa h15
     exact afd fol hE (o2 ++ [.r [(8,{rs:=[oI x47],m:=10,cv:=[.one (L.bx 172 (ZaE.ls (ZaE.mk (Zan.mk x9 x10 x11 x12 x13 x14 x15 x16 x17 (Zah.mk x18 x19 x20 x21 x22 x23)) (ZaF.mk (Zaq.mk (ZaL.mk x24 x25 x26 x27 x28) x29 x30) x31) (ZaF.mk (Zaq.mk (ZaL.mk x32 x33 x34 x35 x36) x37 x38) x39) x46 x41 x42 x43 x44)))]}),(13,q1 [oI x48])]]) [] 0 [] (t2 (aL c11 c11 (ZbX.snd c12) c11 c11))
    ·obtain rfl:=Zaa h14
     exact afd fol hE (o2 ++ [.r [(8,{rs:=[oI x47],m:=10,cv:=[.one (L.bx 172 (ZaE.ls (ZaE.mk (Zan.mk x9 x10 x11 x12 x13 x14 x15 x16 x17 (Zah.mk x18 x19 x20 x21 x22 x23)) (ZaF.mk (Zaq.mk (ZaL.mk x24 x25 x26 x27 x28) x29 x30) x31) (ZaF.mk (Zaq.mk (ZaL.mk x32 x33 x34 x35 x36) x37 x38) x39) x46 x41 x42 x43 x44)))]}),(12,wF),(13,wF),(14,wF),(15,yF)]]) [] 0 [] (t2 (aK c11 c11 c11 c11))
   ·obtain rfl:=Zaa h7
    exact afd fol hE (o1 ++ [.d {ds:=[(2,q1 [.agg x1.ls]),(3,{m:=3}),(6,{rs:=[.one (L.ptr x2),oI x3],st:=st4})],hv:=64,Hs:=[64]},.r [(1,{rs:=[.row true 68 x5,oI x6],st:=st7,ns:=[20]})],.r [(7,wF),(8,wF),(9,wF),(10,yF),(12,wF),(13,wF),(14,wF),(15,yF)]]) [] 0 [] (t1 (aO (Snd.nl (cs:=[.one (L.ptr x2),oI 100,oB false]) (ZaB.snd c3)) c4 c4 c4 c5 c5 c5 (aL c5 eF eF eF eF)))
  ·obtain rfl:=Zaa h5
   exact afd fol hE (o1 ++ [.d {ds:=[(2,q1 [.agg x1.ls]),(3,{m:=3}),(6,{rs:=[.one (L.ptr x2),oI x3],st:=st4})],hv:=64,Hs:=[64]},.r [(1,{rs:=[.row true 68 x5,oI x6],st:=st7,ns:=[20]})],.r [(3,wF),(4,wF),(5,yF),(7,wF),(8,wF),(9,wF),(10,yF),(12,wF),(13,wF),(14,wF),(15,yF)]]) [] 0 [] (t1 (aO (Snd.nl (cs:=[.one (L.ptr x2),oI 100,oB false]) (ZaB.snd c3)) c4 c4 c4 eF eF eF (aL eF eF eF eF eF)))
noncomputable def Zcz.B:Code:=Tryz.f99.body.getD .skip
noncomputable def Zcz.rs (r:Bool):List CV:=[oB r]
noncomputable def Zcz (N:Nat) (h_0:Zah):Option Bool:=
 if (decide (h_0.Version≥(-2147483648)))=true then
  if (decide (h_0.Version≤2147483647))=true then
   if (decide (h_0.Time≥0))=true then
    if (decide (h_0.Time<4294967296))=true then
     if (decide (h_0.Bits≥0))=true then
      if (decide (h_0.Bits<4294967296))=true then
       if (decide (h_0.Nonce≥0))=true then
        some (decide (h_0.Nonce<4294967296))
       else
       some false
      else
      some false
     else
     some false
    else
    some false
   else
   some false
  else
  some false
 else
 some false
theorem Zcz.snd {h_0:Zah} {r:Bool} (h:Zcz N h_0=some r):SndQ Tryz.prog 99 [.agg h_0.ls] (Zcz.rs r):=fun st=>
 sO Zcz.B Tryz.func99 fun g0 w0 R hE=>by
  unfold Zcz at h
  let o1:List PS:=[.r [],.r []]
  refine iteB h (fun c1 h1=>?_) (fun c1 h2=>?_)
  ·have t1 {Q:Prop} (q:Q):=aL c1 c1 c1 c1 q
   refine iteB h1 (fun c2 h3=>?_) (fun c2 h4=>?_)
   ·have t2 {Q:Prop} (q:Q):=t1 (aL c2 c2 c2 c2 q)
    refine iteB h3 (fun c3 h5=>?_) (fun c3 h6=>?_)
    ·have t3 {Q:Prop} (q:Q):=t2 (aM c3 c3 c3 c3 c3 q)
     refine iteB h5 (fun c4 h7=>?_) (fun c4 h8=>?_)
     ·have t4 {Q:Prop} (q:Q):=t3 (aL c4 c4 c4 c4 q)
      refine iteB h7 (fun c5 h9=>?_) (fun c5 h10=>?_)
      ·refine iteB h9 (fun c6 h11=>?_) (fun c6 h12=>?_)
       ·refine iteB h11 (fun c7 h13=>?_) (fun c7 h14=>?_)
        ·obtain rfl:=Zaa h13
         exact af fol hE (o1 ++ [.r []]) [] 0 [] (t4 (aO c5 c5 c5 c5 c5 c6 c6 (aN c6 c6 c7 c7 c7 c7 c7)))
        ·obtain rfl:=Zaa h14
         exact af fol hE (o1 ++ [.r [(36,wF),(37,wF),(38,wF),(39,wF),(40,yF)]]) [] 0 [] (t4 (aO c5 c5 c5 c5 c5 c6 c6 (aN c6 c6 c7 c7 c7 c7 c7)))
       ·obtain rfl:=Zaa h12
        exact af fol hE (o1 ++ [.r [(31,wF),(32,wF),(33,wF),(34,yF),(36,wF),(37,wF),(38,wF),(39,wF),(40,yF)]]) [] 0 [] (t4 (aO c5 c5 c5 c5 c5 c6 c6 (aN c6 c6 eF eF eF eF eF)))
      ·obtain rfl:=Zaa h10
       exact af fol hE (o1 ++ [.r [(25,wF),(26,wF),(27,wF),(28,wF),(29,yF),(31,wF),(32,wF),(33,wF),(34,yF),(36,wF),(37,wF),(38,wF),(39,wF),(40,yF)]]) [] 0 [] (t4 (aO c5 c5 c5 c5 c5 eF eF (aN eF eF eF eF eF eF eF)))
     ·obtain rfl:=Zaa h8
      exact af fol hE (o1 ++ [.r [(20,wF),(21,wF),(22,wF),(23,yF),(25,wF),(26,wF),(27,wF),(28,wF),(29,yF),(31,wF),(32,wF),(33,wF),(34,yF),(36,wF),(37,wF),(38,wF),(39,wF),(40,yF)]]) [] 0 [] (t3 (aO c4 c4 c4 c4 eF eF eF (aO eF eF eF eF eF eF eF (aK eF eF eF eF))))
    ·obtain rfl:=Zaa h6
     exact af fol hE (o1 ++ [.r [(14,wF),(15,wF),(16,wF),(17,wF),(18,yF),(20,wF),(21,wF),(22,wF),(23,yF),(25,wF),(26,wF),(27,wF),(28,wF),(29,yF),(31,wF),(32,wF),(33,wF),(34,yF),(36,wF),(37,wF),(38,wF),(39,wF),(40,yF)]]) [] 0 [] (t2 (aO c3 c3 c3 c3 c3 eF eF (aO eF eF eF eF eF eF eF (aO eF eF eF eF eF eF eF (aI eF eF)))))
   ·obtain rfl:=Zaa h4
    exact af fol hE (o1 ++ [.r [(9,wF),(10,wF),(11,wF),(12,yF),(14,wF),(15,wF),(16,wF),(17,wF),(18,yF),(20,wF),(21,wF),(22,wF),(23,yF),(25,wF),(26,wF),(27,wF),(28,wF),(29,yF),(31,wF),(32,wF),(33,wF),(34,yF),(36,wF),(37,wF),(38,wF),(39,wF),(40,yF)]]) [] 0 [] (t1 (aO c2 c2 c2 c2 eF eF eF (aO eF eF eF eF eF eF eF (aO eF eF eF eF eF eF eF (aM eF eF eF eF eF eF)))))
  ·obtain rfl:=Zaa h2
   exact af fol hE (o1 ++ [.r [(4,wF),(5,wF),(6,wF),(7,yF),(9,wF),(10,wF),(11,wF),(12,yF),(14,wF),(15,wF),(16,wF),(17,wF),(18,yF),(20,wF),(21,wF),(22,wF),(23,yF),(25,wF),(26,wF),(27,wF),(28,wF),(29,yF),(31,wF),(32,wF),(33,wF),(34,yF),(36,wF),(37,wF),(38,wF),(39,wF),(40,yF)]]) [] 0 [] (aO c1 c1 c1 c1 eF eF eF (aO eF eF eF eF eF eF eF (aO eF eF eF eF eF eF eF (aO eF eF eF eF eF eF eF (aJ eF eF eF)))))
noncomputable def Zal.B:Code:=Tryz.f196.body.getD .skip
noncomputable def Zal.rs (r:(List Int)):List CV:=[.agg [L.arr .u64 4 r]]
noncomputable def Zal.p4 (N:Nat) (c3_:(Int×(List Int))→Option (List Int)) (n_13 i_19:Int) (a_18 out_22:List Int):Option (List Int):=
 c3_ (w64 (i_19+1),out_22)
noncomputable def Zal.p3 (N:Nat) (n_13:Int) (a_18:List Int) (c3_:(Int×(List Int))→Option (List Int)):(Int×(List Int))→Option (List Int):=fun (i_19,out_21)=>
 if (decide (i_19<4))=true then
  if (decide (n_13>0))=true then
   chk (0≤i_19)<|
   chk (0≤(v64 (n_13)))<|
   if (decide (i_19>0))=true then
    chk (0≤(w64 (i_19-1)))<|
    chk ((w64 (i_19-1))<4)<|
    chk (0≤(v64 (w64 (64-n_13))))<|
    Zal.p4 N c3_ n_13 i_19 a_18 (List.set (List.set out_21 (Int.toNat i_19) (shlOf .u64 (List.getD a_18 (Int.toNat i_19) 0) (v64 (n_13)))) (Int.toNat i_19) (v64 ((List.getD (List.set out_21 (Int.toNat i_19) (shlOf .u64 (List.getD a_18 (Int.toNat i_19) 0) (v64 (n_13)))) (Int.toNat i_19) 0)+(shrOf .u64 (List.getD a_18 (Int.toNat (w64 (i_19-1))) 0) (v64 (w64 (64-n_13)))))))
   else
   Zal.p4 N c3_ n_13 i_19 a_18 (List.set out_21 (Int.toNat i_19) (shlOf .u64 (List.getD a_18 (Int.toNat i_19) 0) (v64 (n_13))))
  else
  chk (0≤i_19)<|
  chk (0≤(v64 (w64 (0-n_13))))<|
  if (decide (i_19<3))=true then
   chk (0≤(w64 (i_19+1)))<|
   chk ((w64 (i_19+1))<4)<|
   chk (0≤(v64 (w64 (64+n_13))))<|
   Zal.p4 N c3_ n_13 i_19 a_18 (List.set (List.set out_21 (Int.toNat i_19) (shrOf .u64 (List.getD a_18 (Int.toNat i_19) 0) (v64 (w64 (0-n_13))))) (Int.toNat i_19) (v64 ((List.getD (List.set out_21 (Int.toNat i_19) (shrOf .u64 (List.getD a_18 (Int.toNat i_19) 0) (v64 (w64 (0-n_13))))) (Int.toNat i_19) 0)+(shlOf .u64 (List.getD a_18 (Int.toNat (w64 (i_19+1))) 0) (v64 (w64 (64+n_13)))))))
  else
  Zal.p4 N c3_ n_13 i_19 a_18 (List.set out_21 (Int.toNat i_19) (shrOf .u64 (List.getD a_18 (Int.toNat i_19) 0) (v64 (w64 (0-n_13)))))
 else
 some out_21
noncomputable def Zal.p2 (N:Nat) (c2_:(Int×(List Int))→Option (List Int)):(Int×(List Int))→Option (List Int):=fun (n_13,a_18)=>
 if (decide (n_13≤(-64)))=true then
  c2_ (w64 (n_13+64),[List.getD a_18 1 0,List.getD a_18 2 0,List.getD a_18 3 0,0])
 else
 if (n_13==0)=true then
  some a_18
 else
 loopN (Zal.p3 N n_13 a_18) N (0,List.replicate 4 0)
noncomputable def Zal.p1 (N:Nat) (c1_:(Int×(List Int))→Option (List Int)):(Int×(List Int))→Option (List Int):=fun (n_1,a_12)=>
 if (decide (n_1≥64))=true then
  c1_ (w64 (n_1-64),[0,List.getD a_12 0 0,List.getD a_12 1 0,List.getD a_12 2 0])
 else
 loopN (Zal.p2 N) N (n_1,a_12)
noncomputable def Zal (N:Nat) (a_0_0:List Int) (n_1:Int):Option (List Int):=
 if (decide (n_1≤(-256)))=true then
  some (List.replicate 4 0)
 else
 if (decide (n_1≥256))=true then
  some (List.replicate 4 0)
 else
 loopN (Zal.p1 N) N (n_1,a_0_0)
noncomputable def Zal.p4.S (n_13 i_19:Int) (a_18 out_22:List Int) (st:LL):S:=mkS 96 [(1,sI n_13),(2,sA 2),(4,sA 4),(5,sA 5),(6,sI i_19)] [(2,.cells [L.arr .u64 4 a_18]),(4,.cells [L.arr .u64 4 (List.replicate 4 0)]),(5,.cells [L.arr .u64 4 out_22])] st
noncomputable def Zal.p3.S (n_13 i_19:Int) (a_18 out_21:List Int) (st:LL):S:=mkS 96 [(1,sI n_13),(2,sA 2),(4,sA 4),(5,sA 5),(6,sI i_19)] [(2,.cells [L.arr .u64 4 a_18]),(4,.cells [L.arr .u64 4 (List.replicate 4 0)]),(5,.cells [L.arr .u64 4 out_21])] st
noncomputable def Zal.p2.S (n_13:Int) (a_18:List Int) (st:LL):S:=mkS 96 [(1,sI n_13),(2,sA 2),(4,sA 4),(5,sA 5)] [(2,.cells [L.arr .u64 4 a_18]),(4,.cells [L.arr .u64 4 (List.replicate 4 0)]),(5,.cells [L.arr .u64 4 (List.replicate 4 0)])] st
noncomputable def Zal.p1.S (n_1:Int) (a_12:List Int) (st:LL):S:=mkS 96 [(1,sI n_1),(2,sA 2),(4,sA 4),(5,sA 5)] [(2,.cells [L.arr .u64 4 a_12]),(4,.cells [L.arr .u64 4 (List.replicate 4 0)]),(5,.cells [L.arr .u64 4 (List.replicate 4 0)])] st
theorem Zal.p4_ok {n_13 i_19 a_18 out_22 st r c3_ J3} (h:Zal.p4 N c3_ n_13 i_19 a_18 out_22=some r) (hE:En Tryz.f196 g0 w0 (Zal.rs r) st R) (hc3 : ∀i_19 out_21,c3_ (i_19,out_21)=some r→At g0 w0 (Zal.p3.S n_13 i_19 a_18 out_21 st) J3):At g0 w0 (Zal.p4.S n_13 i_19 a_18 out_22 st) (XK Tryz.prog R [.c (csub Zal.B [1,1,1,1,1,1,0,1,0,0,1,1]),.h J3,.b 4,.c (csub Zal.B [1,1,1,1,1,1,1])]):=by
 unfold Zal.p4 at h
 exact an fol [.r []] [1,2,4,5,6] [2,4,5] trivial (hc3 (w64 (i_19+1)) out_22 h)
theorem Zal.p3_ok {n_13 i_19 a_18 out_21 st r c3_ J3} (h:Zal.p3 N n_13 a_18 c3_ (i_19,out_21)=some r) (hE:En Tryz.f196 g0 w0 (Zal.rs r) st R) (hc3 : ∀i_19 out_21,c3_ (i_19,out_21)=some r→At g0 w0 (Zal.p3.S n_13 i_19 a_18 out_21 st) J3):At g0 w0 (Zal.p3.S n_13 i_19 a_18 out_21 st) (XK Tryz.prog R (.c (csub Zal.B [1,1,1,1,1,1,0,1,0,0]) :: .h J3 :: [.b 4,.c (csub Zal.B [1,1,1,1,1,1,1])])):=by
 unfold Zal.p3 at h
 refine iteB h (fun c111 h1=>?_) (fun c111 h2=>?_)
 ·let o1:List PS:=[.r [],.c true,.r []]
  refine iteB h1 (fun c112 h3=>?_) (fun c112 h4=>?_)
  ·obtain ⟨c113,c114,h5⟩:=ck2 h3
   have t1 {Q:Prop} (q:Q):=aO c111 c112 c113 (oD c111) c114 c113 (oD c111) q
   refine iteB h5 (fun c115 h6=>?_) (fun c115 h7=>?_)
   ·obtain ⟨c116,c117,c118,h8⟩:=ck3 h6
    exact aqd fol (o1 ++ [.c true,.r [],.r [],.c true,.d {ds:=[],hv:=16384,Hs:=[16384]},.s 4]) [1,2,4,5,6] [2,4,5] (t1 (aO c115 c113 (oD c111) c116 c117 c118 c113 (oD c111))) (Zal.p4_ok h8 hE hc3)
   ·exact aq fol (o1 ++ [.c true,.r [],.r [],.c false,.s 4]) [1,2,4,5,6] [2,4,5] (t1 c115) (Zal.p4_ok h7 hE hc3)
  ·obtain ⟨c119,c120,h9⟩:=ck2 h4
   have t2 {Q:Prop} (q:Q):=aO c111 c112 c119 (oD c111) c120 c119 (oD c111) q
   refine iteB h9 (fun c121 h10=>?_) (fun c121 h11=>?_)
   ·obtain ⟨c122,c123,c124,h12⟩:=ck3 h10
    exact aqd fol (o1 ++ [.c false,.r [],.r [],.c true,.d {ds:=[],hv:=16384,Hs:=[16384]},.s 4]) [1,2,4,5,6] [2,4,5] (t2 (aO c121 c119 (oD c111) c122 c123 c124 c119 (oD c111))) (Zal.p4_ok h12 hE hc3)
   ·exact aq fol (o1 ++ [.c false,.r [],.r [],.c false,.s 4]) [1,2,4,5,6] [2,4,5] (t2 c121) (Zal.p4_ok h11 hE hc3)
 ·obtain rfl:=Zaa h2
  exact af fol hE [.r [],.c false,.r []] [] 0 [] c111
theorem Zal.p2_ok {n_13 a_18 st r c2_ J2} (h:Zal.p2 N c2_ (n_13,a_18)=some r) (hE:En Tryz.f196 g0 w0 (Zal.rs r) st R) (hc2 : ∀n_13 a_18,c2_ (n_13,a_18)=some r→At g0 w0 (Zal.p2.S n_13 a_18 st) J2):At g0 w0 (Zal.p2.S n_13 a_18 st) (XK Tryz.prog R (.c (csub Zal.B [1,1,1,1,0,0,0]) :: .h J2 :: [.b 2,.c (csub Zal.B [1,1,1,1,1])])):=by
 unfold Zal.p2 at h
 refine iteB h (fun c95 h13=>?_) (fun c95 h14=>?_)
 ·exact an fol [.r [],.c true,.r [(6,{m:=3})],.r []] [1,2,4,5] [2,4,5] (aI c95 (ix 1 4 (ix 2 4 (aI (leI 0 3) (ltI 3 4))))) (hc2 (w64 (n_13+64)) [List.getD a_18 1 0,List.getD a_18 2 0,List.getD a_18 3 0,0] h13)
 ·refine iteB h14 (fun c96 h15=>?_) (fun c96 h16=>?_)
  ·obtain rfl:=Zaa h15
   exact af fol hE [.r [],.c false,.r [],.c true,.r []] [] 0 [] (aI c95 c96)
  ·exact aq fol [.r [],.c false,.r [],.c false,.r []] [1,2,4,5,6] [2,4,5] (aI c95 c96) (At.loop N (At.loopN (fun y:Int×(List Int)=>Zal.p3.S n_13 y.1 a_18 y.2 st) (fun c J hc y h=>Zal.p3_ok (i_19:=y.1) (out_21:=y.2) h hE (fun i_19 out_21=>hc (i_19,out_21))) N (0,List.replicate 4 0) h16))
theorem Zal.p1_ok {n_1 a_12 st r c1_ J1} (h:Zal.p1 N c1_ (n_1,a_12)=some r) (hE:En Tryz.f196 g0 w0 (Zal.rs r) st R) (hc1 : ∀n_1 a_12,c1_ (n_1,a_12)=some r→At g0 w0 (Zal.p1.S n_1 a_12 st) J1):At g0 w0 (Zal.p1.S n_1 a_12 st) (XK Tryz.prog R (.c (csub Zal.B [1,1,1,0,0,0]) :: .h J1 :: [.b 0,.c (csub Zal.B [1,1,1,1])])):=by
 unfold Zal.p1 at h
 refine iteB h (fun c64 h17=>?_) (fun c64 h18=>?_)
 ·exact an fol [.r [],.c true,.r [(6,{m:=3})],.r []] [1,2,4,5] [2,4,5] (aI c64 (ix 0 4 (ix 1 4 (aI (leI 0 2) (ltI 2 4))))) (hc1 (w64 (n_1-64)) [0,List.getD a_12 0 0,List.getD a_12 1 0,List.getD a_12 2 0] h17)
 ·exact aq fol [.r [],.c false] [1,2,4,5] [2,4,5] c64 (At.loop N (At.loopN (fun y:Int×(List Int)=>Zal.p2.S y.1 y.2 st) (fun c J hc y h=>Zal.p2_ok (n_13:=y.1) (a_18:=y.2) h hE (fun n_13 a_18=>hc (n_13,a_18))) N (n_1,a_12) h18))
theorem Zal.snd {a_0_0:List Int} {n_1:Int} {r:(List Int)} (h:Zal N a_0_0 n_1=some r):SndQ Tryz.prog 196 [.agg [L.arr .u64 4 a_0_0],oI n_1] (Zal.rs r):=fun st=>
 sO Zal.B Tryz.func196 fun g0 w0 R hE=>by
  unfold Zal at h
  refine iteB h (fun c1 h19=>?_) (fun c1 h20=>?_)
  ·obtain rfl:=Zaa h19
   exact af fol hE [.r [],.r [],.r [(3,wF),(4,wF)],.c true,.r []] [] 0 [] (aK c1 c1 c1 eT)
  ·let o2:List PS:=[.r [],.r [],.r [(5,yF)]]
   refine iteB h20 (fun c2 h21=>?_) (fun c2 h22=>?_)
   ·obtain rfl:=Zaa h21
    exact af fol hE (o2 ++ [.c true,.r []]) [] 0 [] (aK c1 c1 c1 c2)
   ·exact aq fol (o2 ++ [.c false]) [1,2,4,5] [2,4,5] (aK c1 c1 c1 c2) (At.loop N (At.loopN (fun y:Int×(List Int)=>Zal.p1.S y.1 y.2 st) (fun c J hc y h=>Zal.p1_ok (n_1:=y.1) (a_12:=y.2) h hE (fun n_1 a_12=>hc (n_1,a_12))) N (n_1,a_0_0) h22))
noncomputable def Zax.B:Code:=Tryz.f163.body.getD .skip
noncomputable def Zax.rs (r:(List Int)×Bool×Bool):List CV:=[.agg [L.arr .u64 4 r.1],oB r.2.1,oB r.2.2]
noncomputable def Zax.p1 (N:Nat) (bits_0:Int) (over_2:Bool) (x1:List Int):Option ((List Int)×Bool×Bool):=
 if (decide ((Int.tmod bits_0 8388608)>0))=true then
  some (x1,(Int.tmod (w64 (Int.tdiv bits_0 8388608)) 2)==1,over_2)
 else
 some (x1,false,over_2)
noncomputable def Zax (N:Nat) (bits_0:Int):Option ((List Int)×Bool×Bool):=
 if (decide (bits_0<0))=true then
  some (List.replicate 4 0,false,false)
 else
 if (decide (bits_0>4294967295))=true then
  some (List.replicate 4 0,false,false)
 else
 optE (Zal N [v64 (Int.tmod bits_0 8388608),0,0,0] (w64 (8*(w64 ((w64 (Int.tdiv bits_0 16777216))-3))))) fun x1=>
 if (decide ((Int.tmod bits_0 8388608)>0))=true then
  if (decide ((w64 (Int.tdiv bits_0 16777216))>34))=true then
   Zax.p1 N bits_0 true x1
  else
  if (decide ((Int.tmod bits_0 8388608)>255))=true then
   if (decide ((w64 (Int.tdiv bits_0 16777216))>33))=true then
    Zax.p1 N bits_0 true x1
   else
   if (decide ((Int.tmod bits_0 8388608)>65535))=true then
    Zax.p1 N bits_0 (decide ((w64 (Int.tdiv bits_0 16777216))>32)) x1
   else
   Zax.p1 N bits_0 false x1
  else
  if (decide ((Int.tmod bits_0 8388608)>65535))=true then
   Zax.p1 N bits_0 (decide ((w64 (Int.tdiv bits_0 16777216))>32)) x1
  else
  Zax.p1 N bits_0 false x1
 else
 if (decide ((Int.tmod bits_0 8388608)>255))=true then
  if (decide ((w64 (Int.tdiv bits_0 16777216))>33))=true then
   Zax.p1 N bits_0 true x1
  else
  if (decide ((Int.tmod bits_0 8388608)>65535))=true then
   Zax.p1 N bits_0 (decide ((w64 (Int.tdiv bits_0 16777216))>32)) x1
  else
  Zax.p1 N bits_0 false x1
 else
 if (decide ((Int.tmod bits_0 8388608)>65535))=true then
  Zax.p1 N bits_0 (decide ((w64 (Int.tdiv bits_0 16777216))>32)) x1
 else
 Zax.p1 N bits_0 false x1
noncomputable def Zax.p1.S (bits_0:Int) (over_2:Bool) (x1:List Int) (st:LL):S:=mkS 61 [(2,sA 2),(6,sI (Int.tmod bits_0 8388608)),(7,.one (.l (L.bool ((Int.tmod (w64 (Int.tdiv bits_0 8388608)) 2)==1)))),(8,sA 8),(9,.one (.l (L.bool over_2)))] [(2,.cells [L.arr .u64 4 (List.replicate 4 0)]),(8,.cells [L.arr .u64 4 x1])] st
theorem Zax.p1_ok {bits_0 over_2 x1 st r} (h:Zax.p1 N bits_0 over_2 x1=some r) (hE:En Tryz.f163 g0 w0 (Zax.rs r) st R):At g0 w0 (Zax.p1.S bits_0 over_2 x1 st) (XK Tryz.prog R [.c (csub Zax.B [1,1,1,1,1,1,1])]):=by
 unfold Zax.p1 at h
 refine iteB h (fun c14 h1=>?_) (fun c14 h2=>?_)
 ·obtain rfl:=Zaa h1
  exact af fol hE [.r []] [] 0 [] (aI c14 c14)
 ·obtain rfl:=Zaa h2
  exact af fol hE [.r [(4,wF),(5,yF)]] [] 0 [] (aI c14 c14)
theorem Zax.snd {bits_0:Int} {r:(List Int)×Bool×Bool} (h:Zax N bits_0=some r):SndQ Tryz.prog 163 [oI bits_0] (Zax.rs r):=fun st=>
 sO Zax.B Tryz.func163 fun g0 w0 R hE=>by
  unfold Zax at h
  refine iteB h (fun c1 h3=>?_) (fun c1 h4=>?_)
  ·obtain rfl:=Zaa h3
   exact af fol hE [.r [],.r [(3,wF),(4,wF)],.c true,.r []] [] 0 [] (aK c1 c1 c1 eT)
  ·let o1:List PS:=[.r [],.r [(5,yF)]]
   have t1 {Q:Prop} (q:Q):=aK c1 c1 c1 q
   refine iteB h4 (fun c2 h5=>?_) (fun c2 h6=>?_)
   ·obtain rfl:=Zaa h5
    exact af fol hE (o1 ++ [.c true,.r []]) [] 0 [] (t1 c2)
   ·obtain ⟨x1,c3,h7⟩:=Zac h6
    let o2:List PS:=o1 ++ [.c false,.r [],.r [],.r [],.r [(2,{m:=3}),(6,q1 [.agg [L.arr .u64 4 x1]])]]
    have t2 {Q:Prop} (q:Q):=t1 (aN c2 (neI 16777216) (neI 8388608) (neI 8388608) (neI 2) (Zal.snd c3) q)
    refine iteB h7 (fun c4 h8=>?_) (fun c4 h9=>?_)
    ·have t3 {Q:Prop} (q:Q):=t2 (aK c4 c4 c4 q)
     refine iteB h8 (fun c5 h10=>?_) (fun c5 h11=>?_)
     ·exact aq fol (o2 ++ [.r [(7,wF),(8,wF),(9,wF),(12,wF),(15,wF),(16,wF),(17,wF),(20,wF)],.s 1]) [2,6,7,8,9] [2,8] (t3 (aO c5 c5 c5 c5 c5 eT eT (aJ eT eT eT))) (Zax.p1_ok h10 hE)
     ·have t4 {Q:Prop} (q:Q):=t3 (aK c5 c5 c5 q)
      refine iteB h11 (fun c6 h12=>?_) (fun c6 h13=>?_)
      ·refine iteB h12 (fun c7 h14=>?_) (fun c7 h15=>?_)
       ·exact aq fol (o2 ++ [.r [(13,yF),(15,wF),(16,wF),(17,wF),(20,wF)],.s 1]) [2,6,7,8,9] [2,8] (t4 (aO c6 c6 c5 c6 c5 c7 c7 (aJ c7 c7 c7))) (Zax.p1_ok h14 hE)
       ·refine iteB h15 (fun c8 h16=>?_) (fun c8 h17=>?_)
        ·exact aq fol (o2 ++ [.r [(13,yF),(21,yF)],.s 1]) [2,6,7,8,9] [2,8] (t4 (aO c6 c6 c5 c6 c5 c7 c7 (aM c7 c8 c8 c7 c8 c7))) (Zax.p1_ok h16 hE)
        ·exact aq fol (o2 ++ [.r [(13,yF),(18,wF),(19,wF),(20,yF),(21,yF)],.s 1]) [2,6,7,8,9] [2,8] (t4 (aO c6 c6 c5 c6 c5 c7 c7 (aM c7 c8 c8 c7 c8 c7))) (Zax.p1_ok h17 hE)
      ·have t5 {Q:Prop} (q:Q):=t4 (aO c6 c6 c5 c6 c5 eF eF (aI eF q))
       refine iteB h13 (fun c9 h18=>?_) (fun c9 h19=>?_)
       ·exact aq fol (o2 ++ [.r [(10,wF),(11,wF),(12,yF),(13,yF),(21,yF)],.s 1]) [2,6,7,8,9] [2,8] (t5 (aL c9 c9 eF c9 eF)) (Zax.p1_ok h18 hE)
       ·exact aq fol (o2 ++ [.r [(10,wF),(11,wF),(12,yF),(13,yF),(18,wF),(19,wF),(20,yF),(21,yF)],.s 1]) [2,6,7,8,9] [2,8] (t5 (aL c9 c9 eF c9 eF)) (Zax.p1_ok h19 hE)
    ·have t6 {Q:Prop} (q:Q):=t2 (aN c4 c4 c4 eF eF eF q)
     refine iteB h9 (fun c10 h20=>?_) (fun c10 h21=>?_)
     ·have t7 {Q:Prop} (q:Q):=t6 (aM c10 c10 eF c10 eF q)
      refine iteB h20 (fun c11 h22=>?_) (fun c11 h23=>?_)
      ·exact aq fol (o2 ++ [.r [(3,wF),(4,wF),(5,yF),(13,yF),(15,wF),(16,wF),(17,wF),(20,wF)],.s 1]) [2,6,7,8,9] [2,8] (t7 (aL c11 c11 c11 c11 c11)) (Zax.p1_ok h22 hE)
      ·refine iteB h23 (fun c12 h24=>?_) (fun c12 h25=>?_)
       ·exact aq fol (o2 ++ [.r [(3,wF),(4,wF),(5,yF),(13,yF),(21,yF)],.s 1]) [2,6,7,8,9] [2,8] (t7 (aO c11 c11 c11 c12 c12 c11 c12 c11)) (Zax.p1_ok h24 hE)
       ·exact aq fol (o2 ++ [.r [(3,wF),(4,wF),(5,yF),(13,yF),(18,wF),(19,wF),(20,yF),(21,yF)],.s 1]) [2,6,7,8,9] [2,8] (t7 (aO c11 c11 c11 c12 c12 c11 c12 c11)) (Zax.p1_ok h25 hE)
     ·have t8 {Q:Prop} (q:Q):=t6 (aO c10 c10 eF c10 eF eF eF (aI eF q))
      refine iteB h21 (fun c13 h26=>?_) (fun c13 h27=>?_)
      ·exact aq fol (o2 ++ [.r [(3,wF),(4,wF),(5,yF),(10,wF),(11,wF),(12,yF),(13,yF),(21,yF)],.s 1]) [2,6,7,8,9] [2,8] (t8 (aL c13 c13 eF c13 eF)) (Zax.p1_ok h26 hE)
      ·exact aq fol (o2 ++ [.r [(3,wF),(4,wF),(5,yF),(10,wF),(11,wF),(12,yF),(13,yF),(18,wF),(19,wF),(20,yF),(21,yF)],.s 1]) [2,6,7,8,9] [2,8] (t8 (aL c13 c13 eF c13 eF)) (Zax.p1_ok h27 hE)
noncomputable def ZbU.B:Code:=Tryz.f119.body.getD .skip
noncomputable def ZbU.rs (r:Int):List CV:=[oI r]
noncomputable def ZbU (N:Nat) (a_0_0:List Int) (i_1:Int):Option Int:=
 if (decide (i_1<0))=true then
  some 0
 else
 if (decide (i_1>255))=true then
  some 0
 else
 chk (0≤(w64 (Int.tdiv i_1 64)))<|
 chk ((w64 (Int.tdiv i_1 64))<4)<|
 chk (0≤(v64 (Int.tmod i_1 64)))<|
 some (w64 (Int.tmod (shrOf .u64 (List.getD a_0_0 (Int.toNat (w64 (Int.tdiv i_1 64))) 0) (v64 (Int.tmod i_1 64))) 2))
theorem ZbU.snd {a_0_0:List Int} {i_1:Int} {r:Int} (h:ZbU N a_0_0 i_1=some r):SndQ Tryz.prog 119 [.agg [L.arr .u64 4 a_0_0],oI i_1] (ZbU.rs r):=fun st=>
 sO ZbU.B Tryz.func119 fun g0 w0 R hE=>by
  unfold ZbU at h
  refine iteB h (fun c1 h1=>?_) (fun c1 h2=>?_)
  ·obtain rfl:=Zaa h1
   exact af fol hE [.r [],.r [(3,wF),(4,wF)],.c true,.r []] [] 0 [] (aK c1 c1 c1 eT)
  ·refine iteB h2 (fun c2 h3=>?_) (fun c2 h4=>?_)
   ·obtain rfl:=Zaa h3
    exact af fol hE [.r [],.r [(5,yF)],.c true,.r []] [] 0 [] (aK c1 c1 c1 c2)
   ·obtain ⟨c3,c4,c5,h5⟩:=ck3 h4
    obtain rfl:=Zaa h5
    exact af fol hE [.r [],.r [(5,yF)],.c false,.r []] [] 0 [] (aO c1 c1 c1 c2 (neI 64) c3 c4 (aJ (neI 64) c5 (neI 2)))
noncomputable def Zbc.B:Code:=Tryz.f65.body.getD .skip
noncomputable def Zbc.rs (r:Bool):List CV:=[oB r]
noncomputable def Zbc.p1 (N:Nat) (a_0_0 b_1_0:List Int) (c1_:Int→Option Bool):Int→Option Bool:=fun i_1=>
 if (decide (i_1≥0))=true then
  optE (ZbU N a_0_0 i_1) fun x2=>
  optE (ZbU N b_1_0 i_1) fun x3=>
  if (x2 != x3)=true then
   some (decide (x2<x3))
  else
  c1_ (w64 (i_1-1))
 else
 some false
noncomputable def Zbc (N:Nat) (a_0_0 b_1_0:List Int):Option Bool:=
 loopN (Zbc.p1 N a_0_0 b_1_0) N 255
noncomputable def Zbc.p1.S (i_1:Int) (a_0_0 b_1_0:List Int) (st:LL):S:=mkS 24 [(2,sA 2),(3,sA 3),(5,sI i_1)] [(2,.cells [L.arr .u64 4 a_0_0]),(3,.cells [L.arr .u64 4 b_1_0])] st
theorem Zbc.p1_ok {i_1 a_0_0 b_1_0 st r c1_ J1} (h:Zbc.p1 N a_0_0 b_1_0 c1_ i_1=some r) (hE:En Tryz.f65 g0 w0 (Zbc.rs r) st R) (hc1 : ∀i_1,c1_ i_1=some r→At g0 w0 (Zbc.p1.S i_1 a_0_0 b_1_0 st) J1):At g0 w0 (Zbc.p1.S i_1 a_0_0 b_1_0 st) (XK Tryz.prog R (.c (csub Zbc.B [1,0,1,0,0]) :: .h J1 :: [.b 0,.c (csub Zbc.B [1,1])])):=by
 unfold Zbc.p1 at h
 refine iteB h (fun c1 h1=>?_) (fun c1 h2=>?_)
 ·obtain ⟨x2,c2,h3⟩:=Zac h1
  obtain ⟨x3,c3,h4⟩:=Zac h3
  let o1:List PS:=[.r [],.c true,.d {ds:=[(2,q1 [oI x2]),(5,q1 [oI x3])],hv:=0,Hs:=[]}]
  have t1 {Q:Prop} (q:Q):=aK c1 (ZbU.snd c2) (ZbU.snd c3) q
  refine iteB h4 (fun c4 h5=>?_) (fun c4 h6=>?_)
  ·obtain rfl:=Zaa h5
   exact afd fol hE (o1 ++ [.c true,.d {ds:=[(2,q1 [oI x2]),(5,q1 [oI x3])],hv:=0,Hs:=[]}]) [] 0 [] (t1 (aJ c4 (ZbU.snd c2) (ZbU.snd c3)))
  ·exact and_ fol (o1 ++ [.c false,.r []]) [2,3,5] [2,3] (t1 c4) (hc1 (w64 (i_1-1)) h6)
 ·obtain rfl:=Zaa h2
  exact af fol hE [.r [],.c false,.r []] [] 0 [] c1
theorem Zbc.snd {a_0_0 b_1_0:List Int} {r:Bool} (h:Zbc N a_0_0 b_1_0=some r):SndQ Tryz.prog 65 [.agg [L.arr .u64 4 a_0_0],.agg [L.arr .u64 4 b_1_0]] (Zbc.rs r):=fun st=>
 sO Zbc.B Tryz.func65 fun g0 w0 R hE=>by
  unfold Zbc at h
  exact aq fol [.r [],.r []] [2,3,5] [2,3] trivial (At.loop N (At.loopN (fun y:Int=>Zbc.p1.S y a_0_0 b_1_0 st) (fun c J hc y h=>Zbc.p1_ok h hE (fun i_1=>hc i_1)) N 255 h))
noncomputable def Zcq.B:Code:=Tryz.f172.body.getD .skip
noncomputable def Zcq.rs (r:(List Int)×Bool):List CV:=[.agg [L.arr .u64 4 r.1],oB r.2]
noncomputable def Zcq (N:Nat) (bits_0 limit_1:Int):Option ((List Int)×Bool):=
 optE (Zax N bits_0) fun (x1,x2,x3)=>
 optE (Zax N limit_1) fun (x4,x5,x6)=>
 if x2=true then
  some (List.replicate 4 0,false)
 else
 if x3=true then
  some (List.replicate 4 0,false)
 else
 if x5=true then
  some (List.replicate 4 0,false)
 else
 if x6=true then
  some (List.replicate 4 0,false)
 else
 if (x1==(List.replicate 4 0))=true then
  some (List.replicate 4 0,false)
 else
 optE (Zbc N x4 x1) fun x7=>
 if x7=true then
  some (List.replicate 4 0,false)
 else
 some (x1,true)
theorem Zcq.snd {bits_0 limit_1:Int} {r:(List Int)×Bool} (h:Zcq N bits_0 limit_1=some r):SndQ Tryz.prog 172 [oI bits_0,oI limit_1] (Zcq.rs r):=fun st=>
 sO Zcq.B Tryz.func172 fun g0 w0 R hE=>by
  unfold Zcq at h
  obtain ⟨⟨x1,x2,x3⟩,c1,h1⟩:=Zac h
  obtain ⟨⟨x4,x5,x6⟩,c2,h2⟩:=Zac h1
  let o1:List PS:=[.r [],.r [(1,q1 [.agg [L.arr .u64 4 x1],oB x2,oB x3])],.r [(1,q1 [.agg [L.arr .u64 4 x4],oB x5,oB x6])]]
  have t1 {Q:Prop} (q:Q):=aJ (Zax.snd c1) (Zax.snd c2) q
  refine iteB h2 (fun c3 h3=>?_) (fun c3 h4=>?_)
  ·obtain rfl:=Zaa h3
   exact af fol hE (o1 ++ [.r [(2,wF),(5,wF),(8,wF),(11,wF),(12,wF),(13,wF),(16,wF),(17,wF),(18,wF)],.c true,.r []]) [] 0 [] (t1 (aO c3 c3 eT eT eT eT eT (aO eT eT eT eT eT eT eT eT)))
  ·refine iteB h4 (fun c4 h5=>?_) (fun c4 h6=>?_)
   ·obtain rfl:=Zaa h5
    exact af fol hE (o1 ++ [.r [(3,yF),(5,wF),(8,wF),(11,wF),(12,wF),(13,wF),(16,wF),(17,wF),(18,wF)],.c true,.r []]) [] 0 [] (t1 (aO c3 c3 c4 c4 eT eT eT (aO eT eT eT eT eT eT eT eT)))
   ·have t2 {Q:Prop} (q:Q):=t1 (aL c3 c3 c4 c4 q)
    refine iteB h6 (fun c5 h7=>?_) (fun c5 h8=>?_)
    ·obtain rfl:=Zaa h7
     exact af fol hE (o1 ++ [.r [(3,yF),(6,yF),(8,wF),(11,wF),(12,wF),(13,wF),(16,wF),(17,wF),(18,wF)],.c true,.r []]) [] 0 [] (t2 (aO c5 c5 eT eT eT eT eT (aK eT eT eT eT)))
    ·refine iteB h8 (fun c6 h9=>?_) (fun c6 h10=>?_)
     ·obtain rfl:=Zaa h9
      exact af fol hE (o1 ++ [.r [(3,yF),(6,yF),(9,yF),(11,wF),(12,wF),(13,wF),(16,wF),(17,wF),(18,wF)],.c true,.r []]) [] 0 [] (t2 (aO c5 c5 c6 c6 c6 c6 eT (aK eT eT eT eT)))
     ·have t3 {Q:Prop} (q:Q):=t2 (aN c5 c5 c6 c6 c6 c6 q)
      refine iteB h10 (fun c7 h11=>?_) (fun c7 h12=>?_)
      ·obtain rfl:=Zaa h11
       exact af fol hE (o1 ++ [.r [(3,yF),(6,yF),(9,yF),(14,yF),(16,wF),(17,wF),(18,wF)],.c true,.r []]) [] 0 [] (t3 (aL c7 c7 c7 c7 eT))
      ·obtain ⟨x7,c8,h13⟩:=Zac h12
       let o2:List PS:=o1 ++ [.r [(3,yF),(6,yF),(9,yF),(14,yF),(18,q1 [oB x7]),(19,yF)]]
       refine iteB h13 (fun c9 h14=>?_) (fun c9 h15=>?_)
       ·obtain rfl:=Zaa h14
        exact af fol hE (o2 ++ [.c true,.r []]) [] 0 [] (t3 (aM c7 c7 c7 (Zbc.snd c8) c7 c9))
       ·obtain rfl:=Zaa h15
        exact af fol hE (o2 ++ [.c false,.r []]) [] 0 [] (t3 (aM c7 c7 c7 (Zbc.snd c8) c7 c9))
noncomputable def ZcN.B:Code:=Tryz.f142.body.getD .skip
noncomputable def ZcN.rs (r:Bool):List CV:=[oB r]
noncomputable def ZcN (N:Nat) (p_0:Zan):Option Bool:=
 optE (Zcq N p_0.Limit p_0.Limit) fun (x1,x2)=>
 if x2=true then
  if (decide (p_0.Interval≥2))=true then
   if (decide (p_0.Interval≤64))=true then
    if (decide (p_0.Spacing≥1))=true then
     if (decide (p_0.Spacing≤10000))=true then
      if (decide (p_0.Future≥0))=true then
       some (decide (p_0.Future<4294967296))
      else
      some false
     else
     some false
    else
    some false
   else
   some false
  else
  some false
 else
 some false
theorem ZcN.snd {p_0:Zan} {r:Bool} (h:ZcN N p_0=some r):SndQ Tryz.prog 142 [.agg p_0.ls] (ZcN.rs r):=fun st=>
 sO ZcN.B Tryz.func142 fun g0 w0 R hE=>by
  unfold ZcN at h
  obtain ⟨⟨x1,x2⟩,c1,h1⟩:=Zac h
  let o1:List PS:=[.r [],.r [(4,q1 [.agg [L.arr .u64 4 x1],oB x2])]]
  have t1 {Q:Prop} (q:Q):=aI (Zcq.snd c1) q
  refine iteB h1 (fun c2 h2=>?_) (fun c2 h3=>?_)
  ·have t2 {Q:Prop} (q:Q):=t1 (aL c2 c2 c2 c2 q)
   refine iteB h2 (fun c3 h4=>?_) (fun c3 h5=>?_)
   ·have t3 {Q:Prop} (q:Q):=t2 (aL c3 c3 c3 c3 q)
    refine iteB h4 (fun c4 h6=>?_) (fun c4 h7=>?_)
    ·have t4 {Q:Prop} (q:Q):=t3 (aL c4 c4 c4 c4 q)
     refine iteB h6 (fun c5 h8=>?_) (fun c5 h9=>?_)
     ·refine iteB h8 (fun c6 h10=>?_) (fun c6 h11=>?_)
      ·refine iteB h10 (fun c7 h12=>?_) (fun c7 h13=>?_)
       ·obtain rfl:=Zaa h12
        exact af fol hE (o1 ++ [.r []]) [] 0 [] (t4 (aO c5 c5 c5 c5 c6 c6 c6 (aL c6 c7 c7 c7 c7)))
       ·obtain rfl:=Zaa h13
        exact af fol hE (o1 ++ [.r [(27,wF),(28,wF),(29,wF),(30,yF)]]) [] 0 [] (t4 (aO c5 c5 c5 c5 c6 c6 c6 (aL c6 c7 c7 c7 c7)))
      ·obtain rfl:=Zaa h11
       exact af fol hE (o1 ++ [.r [(22,wF),(23,wF),(24,wF),(25,yF),(27,wF),(28,wF),(29,wF),(30,yF)]]) [] 0 [] (t4 (aO c5 c5 c5 c5 c6 c6 c6 (aL c6 eF eF eF eF)))
     ·obtain rfl:=Zaa h9
      exact af fol hE (o1 ++ [.r [(17,wF),(18,wF),(19,wF),(20,yF),(22,wF),(23,wF),(24,wF),(25,yF),(27,wF),(28,wF),(29,wF),(30,yF)]]) [] 0 [] (t4 (aO c5 c5 c5 c5 eF eF eF (aL eF eF eF eF eF)))
    ·obtain rfl:=Zaa h7
     exact af fol hE (o1 ++ [.r [(12,wF),(13,wF),(14,wF),(15,yF),(17,wF),(18,wF),(19,wF),(20,yF),(22,wF),(23,wF),(24,wF),(25,yF),(27,wF),(28,wF),(29,wF),(30,yF)]]) [] 0 [] (t3 (aO c4 c4 c4 c4 eF eF eF (aO eF eF eF eF eF eF eF (aI eF eF))))
   ·obtain rfl:=Zaa h5
    exact af fol hE (o1 ++ [.r [(7,wF),(8,wF),(9,wF),(10,yF),(12,wF),(13,wF),(14,wF),(15,yF),(17,wF),(18,wF),(19,wF),(20,yF),(22,wF),(23,wF),(24,wF),(25,yF),(27,wF),(28,wF),(29,wF),(30,yF)]]) [] 0 [] (t2 (aO c3 c3 c3 c3 eF eF eF (aO eF eF eF eF eF eF eF (aM eF eF eF eF eF eF))))
  ·obtain rfl:=Zaa h3
   exact af fol hE (o1 ++ [.r [(2,wF),(3,wF),(4,wF),(5,yF),(7,wF),(8,wF),(9,wF),(10,yF),(12,wF),(13,wF),(14,wF),(15,yF),(17,wF),(18,wF),(19,wF),(20,yF),(22,wF),(23,wF),(24,wF),(25,yF),(27,wF),(28,wF),(29,wF),(30,yF)]]) [] 0 [] (t1 (aO c2 c2 c2 c2 eF eF eF (aO eF eF eF eF eF eF eF (aO eF eF eF eF eF eF eF (aJ eF eF eF)))))
noncomputable def ZaR.B:Code:=Tryz.f83.body.getD .skip
noncomputable def ZaR.rs (r:Bool):List CV:=[oB r]
noncomputable def ZaR.p2 (N:Nat) (p_0:Zan) (c2_:(Int×Int)→Option Bool):(Int×Int)→Option Bool:=fun (last_6,v7)=>
 if (decide (v7<(len p_0.Checks)))=true then
  chk (0≤v7)<|
  getE (p_0.Checks[Int.toNat v7]?) Zdc fun x8=>
  if (decide (x8.Height≤last_6))=true then
   some false
  else
  c2_ (x8.Height,w64 (v7+1))
 else
 some true
noncomputable def ZaR.p1 (N:Nat) (p_0:Zan) (c1_:(Int×Int)→Option Bool):(Int×Int)→Option Bool:=fun (last_3,v4)=>
 if (decide (v4<(len p_0.Gates)))=true then
  chk (0≤v4)<|
  getE (p_0.Gates[Int.toNat v4]?) Zdr fun x5=>
  if (decide (x5.Height≤last_3))=true then
   some false
  else
  c1_ (x5.Height,w64 (v4+1))
 else
 loopN (ZaR.p2 N p_0) N (0,0)
noncomputable def ZaR (N:Nat) (p_0:Zan):Option Bool:=
 optE (ZcN N p_0) fun x1=>
 if (!x1)=true then
  some false
 else
 optE (Zcz N p_0.Genesis) fun x2=>
 if (!x2)=true then
  some false
 else
 loopN (ZaR.p1 N p_0) N ((-1),0)
noncomputable def ZaR.p2.S (last_6:Int) (p_0:Zan) (v7:Int) (st:LL):S:=mkS 45 [(3,sI last_6),(32,sV 33 p_0.Checks),(33,sI (len p_0.Checks)),(34,sI v7)] [] st
noncomputable def ZaR.p1.S (last_3:Int) (p_0:Zan) (v4:Int) (st:LL):S:=mkS 45 [(1,sA 1),(3,sI last_3),(18,sV 2 p_0.Gates),(19,sI (len p_0.Gates)),(20,sI v4)] [(1,.cells p_0.ls)] st
theorem ZaR.p2_ok {last_6 p_0 v7 st r c2_ J2} (h:ZaR.p2 N p_0 c2_ (last_6,v7)=some r) (hE:En Tryz.f83 g0 w0 (ZaR.rs r) st R) (hc2 : ∀last_6 v7,c2_ (last_6,v7)=some r→At g0 w0 (ZaR.p2.S last_6 p_0 v7 st) J2):At g0 w0 (ZaR.p2.S last_6 p_0 v7 st) (XK Tryz.prog R (.c (csub ZaR.B [1,1,1,1,1,0,1,0,0]) :: .h J2 :: [.b 2,.c (csub ZaR.B [1,1,1,1,1,1])])):=by
 unfold ZaR.p2 at h
 refine iteB h (fun c9 h1=>?_) (fun c9 h2=>?_)
 ·obtain ⟨c10,h3⟩:=ZaS h1
  obtain ⟨x8,c11,h4⟩:=Zdx h3
  let o1:List PS:=[.r [],.c true,.r [(1,{oe:=x8.ls})],.r []]
  refine iteB h4 (fun c12 h5=>?_) (fun c12 h6=>?_)
  ·obtain rfl:=Zaa h5
   exact af fol hE (o1 ++ [.c true,.r []]) [] 0 [] (aL c9 c10 (oD c9) c11 c12)
  ·exact an fol (o1 ++ [.c false,.r [],.r []]) [3,32,33,34] [] (aL c9 c10 (oD c9) c11 c12) (hc2 x8.Height (w64 (v7+1)) h6)
 ·obtain rfl:=Zaa h2
  exact af fol hE [.r [],.c false,.r []] [] 0 [] c9
theorem ZaR.p1_ok {last_3 p_0 v4 st r c1_ J1} (h:ZaR.p1 N p_0 c1_ (last_3,v4)=some r) (hE:En Tryz.f83 g0 w0 (ZaR.rs r) st R) (hc1 : ∀last_3 v4,c1_ (last_3,v4)=some r→At g0 w0 (ZaR.p1.S last_3 p_0 v4 st) J1):At g0 w0 (ZaR.p1.S last_3 p_0 v4 st) (XK Tryz.prog R (.c (csub ZaR.B [1,1,1,0,1,0,0]) :: .h J1 :: [.b 0,.c (csub ZaR.B [1,1,1,1])])):=by
 unfold ZaR.p1 at h
 refine iteB h (fun c5 h7=>?_) (fun c5 h8=>?_)
 ·obtain ⟨c6,h9⟩:=ZaS h7
  obtain ⟨x5,c7,h10⟩:=ZdD h9
  let o2:List PS:=[.r [],.c true,.r [(1,{oe:=x5.ls})],.r []]
  refine iteB h10 (fun c8 h11=>?_) (fun c8 h12=>?_)
  ·obtain rfl:=Zaa h11
   exact af fol hE (o2 ++ [.c true,.r []]) [] 0 [] (aL c5 c6 (oD c5) c7 c8)
  ·exact an fol (o2 ++ [.c false,.r [],.r []]) [1,3,18,19,20] [1] (aL c5 c6 (oD c5) c7 c8) (hc1 x5.Height (w64 (v4+1)) h12)
 ·exact aq fol [.r [],.c false,.r [],.r []] [3,32,33,34] [] c5 (At.loop N (At.loopN (fun y:Int×Int=>ZaR.p2.S y.1 p_0 y.2 st) (fun c J hc y h=>ZaR.p2_ok (last_6:=y.1) (v7:=y.2) h hE (fun last_6 v7=>hc (last_6,v7))) N (0,0) h8))
theorem ZaR.snd {p_0:Zan} {r:Bool} (h:ZaR N p_0=some r):SndQ Tryz.prog 83 [.agg p_0.ls] (ZaR.rs r):=fun st=>
 sO ZaR.B Tryz.func83 fun g0 w0 R hE=>by
  unfold ZaR at h
  obtain ⟨x1,c1,h13⟩:=Zac h
  have t1 {Q:Prop} (q:Q):=aI (ZcN.snd c1) q
  refine iteB h13 (fun c2 h14=>?_) (fun c2 h15=>?_)
  ·obtain rfl:=Zaa h14
   exact af fol hE [.r [],.r [(1,q1 [oB x1]),(4,wF),(5,wF),(6,wF),(7,wF)],.c true,.r []] [] 0 [] (t1 (aM (not_false (Zbs c2)) (not_false (Zbs c2)) (not_false (Zbs c2)) (not_false (Zbs c2)) (not_false (Zbs c2)) eT))
  ·obtain ⟨x2,c3,h16⟩:=Zac h15
   let o3:List PS:=[.r [],.r [(1,q1 [oB x1]),(6,q1 [oB x2]),(8,yF)]]
   have t2 {Q:Prop} (q:Q):=t1 (aN (not_true (Zbn c2)) (not_true (Zbn c2)) (not_true (Zbn c2)) (Zcz.snd c3) (not_true (Zbn c2)) (not_true (Zbn c2)) q)
   refine iteB h16 (fun c4 h17=>?_) (fun c4 h18=>?_)
   ·obtain rfl:=Zaa h17
    exact af fol hE (o3 ++ [.c true,.r []]) [] 0 [] (t2 c4)
   ·exact aq fol (o3 ++ [.c false,.r [],.r []]) [1,3,18,19,20] [1] (t2 c4) (At.loop N (At.loopN (fun y:Int×Int=>ZaR.p1.S y.1 p_0 y.2 st) (fun c J hc y h=>ZaR.p1_ok (last_3:=y.1) (v4:=y.2) h hE (fun last_3 v4=>hc (last_3,v4))) N ((-1),0) h18))
noncomputable def ZaK.B:Code:=Tryz.f58.body.getD .skip
noncomputable def ZaK.rs (r:Bool):List CV:=[oB r]
noncomputable def ZaK.p2 (N:Nat) (script_1:LL) (n_1:Int) (c_0:ZaM) (c2_:Int→Option Bool):Int→Option Bool:=fun v4=>
 if (decide (v4<(len c_0.Base)))=true then
  chk (0≤v4)<|
  getE (c_0.Base[Int.toNat v4]?) ZcT fun x5=>
  optE (Zcz N x5) fun x6=>
  if (!x6)=true then
   some true
  else
  c2_ (w64 (v4+1))
 else
 if (decide ((len c_0.P.Gates)>20))=true then
  some true
 else
 if (decide ((len c_0.P.Checks)>20))=true then
  some true
 else
 if (decide ((len c_0.Base)>20))=true then
  some true
 else
 if (decide ((len script_1)>12))=true then
  some true
 else
 if (decide (n_1>200))=true then
  some true
 else
 optE (ZaR N c_0.P) fun x7=>
 some (!x7)
noncomputable def ZaK.p1 (N:Nat) (script_1:LL) (c_0:ZaM) (c1_:(Int×Int)→Option Bool):(Int×Int)→Option Bool:=fun (n_1,v2)=>
 if (decide (v2<(len script_1)))=true then
  chk (0≤v2)<|
  getE (script_1[Int.toNat v2]?) Zcd fun x3=>
  if (decide ((len x3.List_)>70))=true then
   some true
  else
  c1_ (w64 (n_1+(len x3.List_)),w64 (v2+1))
 else
 loopN (ZaK.p2 N script_1 n_1 c_0) N 0
noncomputable def ZaK (N:Nat) (c_0:ZaM) (script_1:LL):Option Bool:=
 loopN (ZaK.p1 N script_1 c_0) N (0,0)
noncomputable def ZaK.p2.S (script_1:LL) (n_1:Int) (c_0:ZaM) (v4:Int) (st:LL):S:=mkS 70 [(1,sV 3 script_1),(2,sA 2),(5,sI n_1),(27,sV 68 c_0.Base),(28,sI (len c_0.Base)),(29,sI v4)] [(2,.cells c_0.ls)] st
noncomputable def ZaK.p1.S (script_1:LL) (n_1 v2:Int) (c_0:ZaM) (st:LL):S:=mkS 70 [(1,sV 3 script_1),(2,sA 2),(5,sI n_1),(10,sV 3 script_1),(11,sI (len script_1)),(12,sI v2)] [(2,.cells c_0.ls)] st
theorem ZaK.p2_ok {script_1 n_1 c_0 v4 st r c2_ J2} (h:ZaK.p2 N script_1 n_1 c_0 c2_ v4=some r) (hE:En Tryz.f58 g0 w0 (ZaK.rs r) st R) (hc2 : ∀v4,c2_ v4=some r→At g0 w0 (ZaK.p2.S script_1 n_1 c_0 v4 st) J2):At g0 w0 (ZaK.p2.S script_1 n_1 c_0 v4 st) (XK Tryz.prog R (.c (csub ZaK.B [1,1,1,0,1,0,0]) :: .h J2 :: [.b 2,.c (csub ZaK.B [1,1,1,1])])):=by
 unfold ZaK.p2 at h
 refine iteB h (fun c5 h1=>?_) (fun c5 h2=>?_)
 ·obtain ⟨c6,h3⟩:=ZaS h1
  obtain ⟨x5,c7,h4⟩:=Zdm h3
  obtain ⟨x6,c8,h5⟩:=Zac h4
  let o1:List PS:=[.r [],.c true,.r [(1,{oe:=x5.ls})],.r [(1,q1 [oB x6])]]
  have t1 {Q:Prop} (q:Q):=aM c5 c6 (oD c5) c7 (Zcz.snd c8) q
  refine iteB h5 (fun c9 h6=>?_) (fun c9 h7=>?_)
  ·obtain rfl:=Zaa h6
   exact af fol hE (o1 ++ [.c true,.r []]) [] 0 [] (t1 c9)
  ·exact an fol (o1 ++ [.c false,.r []]) [1,2,5,27,28,29] [2] (t1 c9) (hc2 (w64 (v4+1)) h7)
 ·let o2:List PS:=[.r [],.c false]
  refine iteB h2 (fun c10 h8=>?_) (fun c10 h9=>?_)
  ·obtain rfl:=Zaa h8
   exact af fol hE (o2 ++ [.r [(6,wF),(7,wF),(8,wF),(9,wF),(10,wF),(13,wF),(14,wF),(15,wF),(16,wF),(19,wF),(20,wF),(21,wF),(24,wF),(25,wF),(28,wF),(29,wF),(30,wF),(31,wF)]]) [] 0 [] (aO c5 c10 c10 c10 c10 c10 c10 (aO eT eT eT eT eT eT eT (aO eT eT eT eT eT eT eT (aJ eT eT eT))))
  ·have t2 {Q:Prop} (q:Q):=aO c5 c10 c10 c10 c10 c10 c10 q
   refine iteB h9 (fun c11 h10=>?_) (fun c11 h11=>?_)
   ·obtain rfl:=Zaa h10
    exact af fol hE (o2 ++ [.r [(11,yF),(13,wF),(14,wF),(15,wF),(16,wF),(19,wF),(20,wF),(21,wF),(24,wF),(25,wF),(28,wF),(29,wF),(30,wF),(31,wF)]]) [] 0 [] (t2 (aO c11 c11 c11 c11 c11 eT eT (aO eT eT eT eT eT eT eT (aJ eT eT eT))))
   ·have t3 {Q:Prop} (q:Q):=t2 (aM c11 c11 c11 c11 c11 q)
    refine iteB h11 (fun c12 h12=>?_) (fun c12 h13=>?_)
    ·obtain rfl:=Zaa h12
     exact af fol hE (o2 ++ [.r [(11,yF),(17,yF),(19,wF),(20,wF),(21,wF),(24,wF),(25,wF),(28,wF),(29,wF),(30,wF),(31,wF)]]) [] 0 [] (t3 (aO c12 c12 c12 c12 eT eT eT (aL eT eT eT eT eT)))
    ·refine iteB h13 (fun c13 h14=>?_) (fun c13 h15=>?_)
     ·obtain rfl:=Zaa h14
      exact af fol hE (o2 ++ [.r [(11,yF),(17,yF),(22,yF),(24,wF),(25,wF),(28,wF),(29,wF),(30,wF),(31,wF)]]) [] 0 [] (t3 (aO c12 c12 c12 c12 c13 c13 c13 (aL eT eT eT eT eT)))
     ·refine iteB h15 (fun c14 h16=>?_) (fun c14 h17=>?_)
      ·obtain rfl:=Zaa h16
       exact af fol hE (o2 ++ [.r [(11,yF),(17,yF),(22,yF),(26,yF),(28,wF),(29,wF),(30,wF),(31,wF)]]) [] 0 [] (t3 (aO c12 c12 c12 c12 c13 c13 c13 (aL c14 c14 c14 c14 c14)))
      ·obtain ⟨x7,c15,h18⟩:=Zac h17
       obtain rfl:=Zaa h18
       exact af fol hE (o2 ++ [.r [(11,yF),(17,yF),(22,yF),(26,yF),(30,q1 [oB x7]),(32,yF)]]) [] 0 [] (t3 (aO c12 c12 c12 c12 c13 c13 c13 (aM c14 c14 c14 (ZaR.snd c15) c14 c14)))
theorem ZaK.p1_ok {script_1 n_1 v2 c_0 st r c1_ J1} (h:ZaK.p1 N script_1 c_0 c1_ (n_1,v2)=some r) (hE:En Tryz.f58 g0 w0 (ZaK.rs r) st R) (hc1 : ∀n_1 v2,c1_ (n_1,v2)=some r→At g0 w0 (ZaK.p1.S script_1 n_1 v2 c_0 st) J1):At g0 w0 (ZaK.p1.S script_1 n_1 v2 c_0 st) (XK Tryz.prog R (.c (csub ZaK.B [1,1,0,1,0,0]) :: .h J1 :: [.b 0,.c (csub ZaK.B [1,1,1])])):=by
 unfold ZaK.p1 at h
 refine iteB h (fun c1 h19=>?_) (fun c1 h20=>?_)
 ·obtain ⟨c2,h21⟩:=ZaS h19
  obtain ⟨x3,c3,h22⟩:=Zda h21
  let o3:List PS:=[.r [],.c true,.r [(1,{oe:=x3.ls})],.r [],.r []]
  refine iteB h22 (fun c4 h23=>?_) (fun c4 h24=>?_)
  ·obtain rfl:=Zaa h23
   exact af fol hE (o3 ++ [.c true,.r []]) [] 0 [] (aL c1 c2 (oD c1) c3 c4)
  ·exact an fol (o3 ++ [.c false,.r []]) [1,2,5,10,11,12] [2] (aL c1 c2 (oD c1) c3 c4) (hc1 (w64 (n_1+(len x3.List_))) (w64 (v2+1)) h24)
 ·exact aq fol [.r [],.c false,.r []] [1,2,5,27,28,29] [2] c1 (At.loop N (At.loopN (fun y:Int=>ZaK.p2.S script_1 n_1 c_0 y st) (fun c J hc y h=>ZaK.p2_ok h hE (fun v4=>hc v4)) N 0 h20))
theorem ZaK.snd {c_0:ZaM} {script_1:LL} {r:Bool} (h:ZaK N c_0 script_1=some r):SndQ Tryz.prog 58 [.agg c_0.ls,.one (L.sl 3 script_1)] (ZaK.rs r):=fun st=>
 sO ZaK.B Tryz.func58 fun g0 w0 R hE=>by
  unfold ZaK at h
  exact aq fol [.r [],.r [],.r []] [1,2,5,10,11,12] [2] trivial (At.loop N (At.loopN (fun y:Int×Int=>ZaK.p1.S script_1 y.1 y.2 c_0 st) (fun c J hc y h=>ZaK.p1_ok (n_1:=y.1) (v2:=y.2) h hE (fun n_1 v2=>hc (n_1,v2))) N (0,0) h))
noncomputable def ZcJ.B:Code:=Tryz.f198.body.getD .skip
noncomputable def ZcJ.rs (r:(List Int)):List CV:=[.agg [L.arr .u64 4 r]]
noncomputable def ZcJ (N:Nat) (a_0_0:List Int) (i_1:Int):Option (List Int):=
 chk (0≤(w64 (Int.tdiv i_1 64)))<|
 chk ((w64 (Int.tdiv i_1 64))<4)<|
 chk (0≤(v64 (Int.tmod i_1 64)))<|
 some (List.set a_0_0 (Int.toNat (w64 (Int.tdiv i_1 64))) (bitsOf .or .u64 (List.getD a_0_0 (Int.toNat (w64 (Int.tdiv i_1 64))) 0) (shlOf .u64 1 (v64 (Int.tmod i_1 64)))))
theorem ZcJ.snd {a_0_0:List Int} {i_1:Int} {r:(List Int)} (h:ZcJ N a_0_0 i_1=some r):SndQ Tryz.prog 198 [.agg [L.arr .u64 4 a_0_0],oI i_1] (ZcJ.rs r):=fun st=>
 sO ZcJ.B Tryz.func198 fun g0 w0 R hE=>by
  unfold ZcJ at h
  obtain ⟨c1,c2,c3,h1⟩:=ck3 h
  obtain rfl:=Zaa h1
  exact af fol hE [.r [],.r [],.r []] [] 0 [] (aO (neI 64) (neI 64) c1 c2 (neI 64) c3 c1 c2)
noncomputable def ZaH.B:Code:=Tryz.f165.body.getD .skip
noncomputable def ZaH.rs (r:(List Int)×Bool):List CV:=[.agg [L.arr .u64 4 r.1],oB r.2]
noncomputable def ZaH.p2 (N:Nat) (c1_:(Int×Int×(List Int))→Option ((List Int)×Bool)) (i_2 x8 x9 c_1:Int) (a_0_0 b_1_0 out_11:List Int):Option ((List Int)×Bool):=
 c1_ (w64 (Int.tdiv (w64 ((w64 (x8+x9))+c_1)) 2),w64 (i_2+1),out_11)
noncomputable def ZaH.p1 (N:Nat) (a_0_0 b_1_0:List Int) (c1_:(Int×Int×(List Int))→Option ((List Int)×Bool)):(Int×Int×(List Int))→Option ((List Int)×Bool):=fun (c_1,i_2,out_7)=>
 if (decide (i_2<256))=true then
  optE (ZbU N a_0_0 i_2) fun x8=>
  optE (ZbU N b_1_0 i_2) fun x9=>
  if ((Int.tmod (w64 ((w64 (x8+x9))+c_1)) 2)==1)=true then
   optE (ZcJ N out_7 i_2) fun x10=>
   ZaH.p2 N c1_ i_2 x8 x9 c_1 a_0_0 b_1_0 x10
  else
  ZaH.p2 N c1_ i_2 x8 x9 c_1 a_0_0 b_1_0 out_7
 else
 some (out_7,c_1==1)
noncomputable def ZaH (N:Nat) (a_0_0 b_1_0:List Int):Option ((List Int)×Bool):=
 loopN (ZaH.p1 N a_0_0 b_1_0) N (0,0,List.replicate 4 0)
noncomputable def ZaH.p2.S (i_2 x8 x9 c_1:Int) (a_0_0 b_1_0 out_11:List Int) (st:LL):S:=mkS 35 [(2,sA 2),(3,sA 3),(4,sA 4),(6,sA 6),(8,sI i_2),(9,sI (w64 ((w64 (x8+x9))+c_1)))] [(2,.cells [L.arr .u64 4 a_0_0]),(3,.cells [L.arr .u64 4 b_1_0]),(4,.cells [L.arr .u64 4 (List.replicate 4 0)]),(6,.cells [L.arr .u64 4 out_11])] st
noncomputable def ZaH.p1.S (c_1 i_2:Int) (a_0_0 b_1_0 out_7:List Int) (st:LL):S:=mkS 35 [(2,sA 2),(3,sA 3),(4,sA 4),(6,sA 6),(7,sI c_1),(8,sI i_2)] [(2,.cells [L.arr .u64 4 a_0_0]),(3,.cells [L.arr .u64 4 b_1_0]),(4,.cells [L.arr .u64 4 (List.replicate 4 0)]),(6,.cells [L.arr .u64 4 out_7])] st
theorem ZaH.p2_ok {i_2 x8 x9 c_1 a_0_0 b_1_0 out_11 st r c1_ J1} (h:ZaH.p2 N c1_ i_2 x8 x9 c_1 a_0_0 b_1_0 out_11=some r) (hE:En Tryz.f165 g0 w0 (ZaH.rs r) st R) (hc1 : ∀c_1 i_2 out_7,c1_ (c_1,i_2,out_7)=some r→At g0 w0 (ZaH.p1.S c_1 i_2 a_0_0 b_1_0 out_7 st) J1):At g0 w0 (ZaH.p2.S i_2 x8 x9 c_1 a_0_0 b_1_0 out_11 st) (XK Tryz.prog R [.c (csub ZaH.B [1,1,1,0,1,0,0,1,0,0,1,1]),.b 1,.c (csub ZaH.B [1,1,1,0,1,0,0,1,1]),.h J1,.b 0,.c (csub ZaH.B [1,1,1,1])]):=by
 unfold ZaH.p2 at h
 exact an fol [.r [],.r []] [2,3,4,6,7,8] [2,3,4,6] (neI 2) (hc1 (w64 (Int.tdiv (w64 ((w64 (x8+x9))+c_1)) 2)) (w64 (i_2+1)) out_11 h)
theorem ZaH.p1_ok {c_1 i_2 a_0_0 b_1_0 out_7 st r c1_ J1} (h:ZaH.p1 N a_0_0 b_1_0 c1_ (c_1,i_2,out_7)=some r) (hE:En Tryz.f165 g0 w0 (ZaH.rs r) st R) (hc1 : ∀c_1 i_2 out_7,c1_ (c_1,i_2,out_7)=some r→At g0 w0 (ZaH.p1.S c_1 i_2 a_0_0 b_1_0 out_7 st) J1):At g0 w0 (ZaH.p1.S c_1 i_2 a_0_0 b_1_0 out_7 st) (XK Tryz.prog R (.c (csub ZaH.B [1,1,1,0,1,0,0]) :: .h J1 :: [.b 0,.c (csub ZaH.B [1,1,1,1])])):=by
 unfold ZaH.p1 at h
 refine iteB h (fun c6 h1=>?_) (fun c6 h2=>?_)
 ·obtain ⟨x8,c7,h3⟩:=Zac h1
  obtain ⟨x9,c8,h4⟩:=Zac h3
  let o1:List PS:=[.r [],.c true,.d {ds:=[(2,q1 [oI x8]),(5,q1 [oI x9])],hv:=0,Hs:=[]},.r []]
  have t1 {Q:Prop} (q:Q):=aL c6 (ZbU.snd c7) (ZbU.snd c8) (neI 2) q
  refine iteB h4 (fun c9 h5=>?_) (fun c9 h6=>?_)
  ·obtain ⟨x10,c10,h7⟩:=Zac h5
   exact aqd fol (o1 ++ [.c true,.r [(2,q1 [.agg [L.arr .u64 4 x10]])],.s 6]) [2,3,4,6,8,9] [2,3,4,6] (t1 (aI c9 (ZcJ.snd c10))) (ZaH.p2_ok h7 hE hc1)
  ·exact aqd fol (o1 ++ [.c false,.s 6]) [2,3,4,6,8,9] [2,3,4,6] (t1 c9) (ZaH.p2_ok h6 hE hc1)
 ·obtain rfl:=Zaa h2
  exact af fol hE [.r [],.c false,.r []] [] 0 [] c6
theorem ZaH.snd {a_0_0 b_1_0:List Int} {r:(List Int)×Bool} (h:ZaH N a_0_0 b_1_0=some r):SndQ Tryz.prog 165 [.agg [L.arr .u64 4 a_0_0],.agg [L.arr .u64 4 b_1_0]] (ZaH.rs r):=fun st=>
 sO ZaH.B Tryz.func165 fun g0 w0 R hE=>by
  unfold ZaH at h
  exact aq fol [.r [],.r [],.r [],.r []] [2,3,4,6,7,8] [2,3,4,6] trivial (At.loop N (At.loopN (fun y:Int×Int×(List Int)=>ZaH.p1.S y.1 y.2.1 a_0_0 b_1_0 y.2.2 st) (fun c J hc y h=>ZaH.p1_ok (c_1:=y.1) (i_2:=y.2.1) (out_7:=y.2.2) h hE (fun c_1 i_2 out_7=>hc (c_1,i_2,out_7))) N (0,0,List.replicate 4 0) h))
noncomputable def ZaT.B:Code:=Tryz.f199.body.getD .skip
noncomputable def ZaT.rs (r:(List Int)):List CV:=[.agg [L.arr .u64 4 r]]
noncomputable def ZaT.p2 (N:Nat) (c1_:(Int×(List Int))→Option (List Int)) (i_1:Int) (a_0_0 out_8:List Int):Option (List Int):=
 c1_ (w64 (i_1+1),out_8)
noncomputable def ZaT.p1 (N:Nat) (a_0_0:List Int) (c1_:(Int×(List Int))→Option (List Int)):(Int×(List Int))→Option (List Int):=fun (i_1,out_5)=>
 if (decide (i_1<256))=true then
  optE (ZbU N a_0_0 i_1) fun x6=>
  if (x6==0)=true then
   optE (ZcJ N out_5 i_1) fun x7=>
   ZaT.p2 N c1_ i_1 a_0_0 x7
  else
  ZaT.p2 N c1_ i_1 a_0_0 out_5
 else
 some out_5
noncomputable def ZaT (N:Nat) (a_0_0:List Int):Option (List Int):=
 loopN (ZaT.p1 N a_0_0) N (0,List.replicate 4 0)
noncomputable def ZaT.p2.S (i_1:Int) (a_0_0 out_8:List Int) (st:LL):S:=mkS 18 [(1,sA 1),(2,sA 2),(3,sA 3),(4,sI i_1)] [(1,.cells [L.arr .u64 4 a_0_0]),(2,.cells [L.arr .u64 4 (List.replicate 4 0)]),(3,.cells [L.arr .u64 4 out_8])] st
noncomputable def ZaT.p1.S (i_1:Int) (a_0_0 out_5:List Int) (st:LL):S:=mkS 18 [(1,sA 1),(2,sA 2),(3,sA 3),(4,sI i_1)] [(1,.cells [L.arr .u64 4 a_0_0]),(2,.cells [L.arr .u64 4 (List.replicate 4 0)]),(3,.cells [L.arr .u64 4 out_5])] st
theorem ZaT.p2_ok {i_1 a_0_0 out_8 st r c1_ J1} (h:ZaT.p2 N c1_ i_1 a_0_0 out_8=some r) (hE:En Tryz.f199 g0 w0 (ZaT.rs r) st R) (hc1 : ∀i_1 out_5,c1_ (i_1,out_5)=some r→At g0 w0 (ZaT.p1.S i_1 a_0_0 out_5 st) J1):At g0 w0 (ZaT.p2.S i_1 a_0_0 out_8 st) (XK Tryz.prog R [.c (csub ZaT.B [1,1,0,1,0,0,1,1]),.h J1,.b 0,.c (csub ZaT.B [1,1,1])]):=by
 unfold ZaT.p2 at h
 exact an fol [.r []] [1,2,3,4] [1,2,3] trivial (hc1 (w64 (i_1+1)) out_8 h)
theorem ZaT.p1_ok {i_1 a_0_0 out_5 st r c1_ J1} (h:ZaT.p1 N a_0_0 c1_ (i_1,out_5)=some r) (hE:En Tryz.f199 g0 w0 (ZaT.rs r) st R) (hc1 : ∀i_1 out_5,c1_ (i_1,out_5)=some r→At g0 w0 (ZaT.p1.S i_1 a_0_0 out_5 st) J1):At g0 w0 (ZaT.p1.S i_1 a_0_0 out_5 st) (XK Tryz.prog R (.c (csub ZaT.B [1,1,0,1,0,0]) :: .h J1 :: [.b 0,.c (csub ZaT.B [1,1,1])])):=by
 unfold ZaT.p1 at h
 refine iteB h (fun c5 h1=>?_) (fun c5 h2=>?_)
 ·obtain ⟨x6,c6,h3⟩:=Zac h1
  let o1:List PS:=[.r [],.c true,.r [(2,q1 [oI x6])]]
  refine iteB h3 (fun c7 h4=>?_) (fun c7 h5=>?_)
  ·obtain ⟨x7,c8,h6⟩:=Zac h4
   exact aq fol (o1 ++ [.c true,.r [(2,q1 [.agg [L.arr .u64 4 x7]])],.s 4]) [1,2,3,4] [1,2,3] (aK c5 (ZbU.snd c6) c7 (ZcJ.snd c8)) (ZaT.p2_ok h6 hE hc1)
  ·exact aq fol (o1 ++ [.c false,.s 4]) [1,2,3,4] [1,2,3] (aJ c5 (ZbU.snd c6) c7) (ZaT.p2_ok h5 hE hc1)
 ·obtain rfl:=Zaa h2
  exact af fol hE [.r [],.c false,.r []] [] 0 [] c5
theorem ZaT.snd {a_0_0:List Int} {r:(List Int)} (h:ZaT N a_0_0=some r):SndQ Tryz.prog 199 [.agg [L.arr .u64 4 a_0_0]] (ZaT.rs r):=fun st=>
 sO ZaT.B Tryz.func199 fun g0 w0 R hE=>by
  unfold ZaT at h
  exact aq fol [.r [],.r [],.r []] [1,2,3,4] [1,2,3] trivial (At.loop N (At.loopN (fun y:Int×(List Int)=>ZaT.p1.S y.1 a_0_0 y.2 st) (fun c J hc y h=>ZaT.p1_ok (i_1:=y.1) (out_5:=y.2) h hE (fun i_1 out_5=>hc (i_1,out_5))) N (0,List.replicate 4 0) h))
noncomputable def ZbZ.B:Code:=Tryz.f166.body.getD .skip
noncomputable def ZbZ.rs (r:(List Int)):List CV:=[.agg [L.arr .u64 4 r]]
noncomputable def ZbZ (N:Nat):Option (List Int):=
 optE (ZaT N (List.replicate 4 0)) fun x1=>
 some x1
theorem ZbZ.snd {r:(List Int)} (h:ZbZ N=some r):SndQ Tryz.prog 166 [] (ZbZ.rs r):=fun st=>
 sO ZbZ.B Tryz.func166 fun g0 w0 R hE=>by
  unfold ZbZ at h
  obtain ⟨x1,c1,h1⟩:=Zac h
  obtain rfl:=Zaa h1
  exact af fol hE [.r [],.r [(1,q1 [.agg [L.arr .u64 4 x1]])]] [] 0 [] (ZaT.snd c1)
noncomputable def ZcK.B:Code:=Tryz.f197.body.getD .skip
noncomputable def ZcK.rs (r:(List Int)×Bool):List CV:=[.agg [L.arr .u64 4 r.1],oB r.2]
noncomputable def ZcK (N:Nat) (a_0_0 b_1_0:List Int):Option ((List Int)×Bool):=
 optE (ZaT N b_1_0) fun x1=>
 optE (ZaH N a_0_0 x1) fun (x2,x3)=>
 optE (ZaH N x2 [1,0,0,0]) fun (x4,x5)=>
 optE (Zbc N a_0_0 b_1_0) fun x6=>
 some (x4,x6)
theorem ZcK.snd {a_0_0 b_1_0:List Int} {r:(List Int)×Bool} (h:ZcK N a_0_0 b_1_0=some r):SndQ Tryz.prog 197 [.agg [L.arr .u64 4 a_0_0],.agg [L.arr .u64 4 b_1_0]] (ZcK.rs r):=fun st=>
 sO ZcK.B Tryz.func197 fun g0 w0 R hE=>by
  unfold ZcK at h
  obtain ⟨x1,c1,h1⟩:=Zac h
  obtain ⟨⟨x2,x3⟩,c2,h2⟩:=Zac h1
  obtain ⟨⟨x4,x5⟩,c3,h3⟩:=Zac h2
  obtain ⟨x6,c4,h4⟩:=Zac h3
  obtain rfl:=Zaa h4
  exact afd fol hE [.r [],.d {ds:=[(2,q1 [.agg [L.arr .u64 4 x1]]),(3,q1 [.agg [L.arr .u64 4 x2],oB x3])],hv:=384,Hs:=[128,384]},.r [(1,{m:=3}),(2,q1 [.agg [L.arr .u64 4 x4],oB x5])],.d {ds:=[(3,q1 [oB x6])],hv:=16,Hs:=[16]}] [] 0 [] (aM (ZaT.snd c1) (ZaT.snd c1) (ZaH.snd c2) (ZaH.snd c2) (ZaH.snd c3) (Zbc.snd c4))
noncomputable def ZaQ.B:Code:=Tryz.f164.body.getD .skip
noncomputable def ZaQ.rs (r:(List Int)):List CV:=[.agg [L.arr .u64 4 r]]
noncomputable def ZaQ.p2 (N:Nat) (c1_:(Int×(List Int)×(List Int))→Option (List Int)) (i_5:Int) (target_0_0 x1 out_36 rest_37:List Int):Option (List Int):=
 c1_ (w64 (i_5-1),out_36,rest_37)
noncomputable def ZaQ.p3 (N:Nat) (out_41:List Int):Option (List Int):=
 some out_41
noncomputable def ZaQ.p1 (N:Nat) (target_0_0 x1:List Int) (c1_:(Int×(List Int)×(List Int))→Option (List Int)):(Int×(List Int)×(List Int))→Option (List Int):=fun (i_5,out_23,rest_24)=>
 if (decide (i_5≥0))=true then
  optE (Zal N x1 i_5) fun x25=>
  optE (Zal N x25 (w64 (0-i_5))) fun x26=>
  if (!(x26==x1))=true then
   ZaQ.p2 N c1_ i_5 target_0_0 x1 out_23 rest_24
  else
  optE (ZcK N x25 [1,0,0,0]) fun (x27,x28)=>
  optE (Zbc N rest_24 x27) fun x29=>
  if (!x29)=true then
   optE (ZcK N rest_24 x25) fun (x30,x31)=>
   optE (Zal N [1,0,0,0] i_5) fun x32=>
   optE (ZaH N out_23 x32) fun (x33,x34)=>
   optE (ZbZ N ) fun x35=>
   if (x30==x35)=true then
    some x33
   else
   ZaQ.p2 N c1_ i_5 target_0_0 x1 x33 x30
  else
  ZaQ.p2 N c1_ i_5 target_0_0 x1 out_23 rest_24
 else
 optE (Zbc N rest_24 target_0_0) fun x38=>
 if (!x38)=true then
  optE (ZaH N out_23 [1,0,0,0]) fun (x39,x40)=>
  ZaQ.p3 N x39
 else
 ZaQ.p3 N out_23
noncomputable def ZaQ (N:Nat) (target_0_0:List Int):Option (List Int):=
 optE (ZaH N target_0_0 [1,0,0,0]) fun (x1,x2)=>
 if x2=true then
  some [1,0,0,0]
 else
 if (target_0_0==(List.replicate 4 0))=true then
  optE (ZbZ N ) fun x3=>
  some x3
 else
 optE (ZbZ N ) fun x4=>
 loopN (ZaQ.p1 N target_0_0 x1) N (255,List.replicate 4 0,x4)
noncomputable def ZaQ.p2.S (i_5:Int) (target_0_0 x1 out_36 rest_37:List Int) (st:LL):S:=mkS 79 [(1,sA 1),(2,sA 2),(3,sA 3),(4,sA 4),(6,sA 6),(7,sA 7),(8,sI i_5)] [(1,.cells [L.arr .u64 4 target_0_0]),(2,.cells [L.arr .u64 4 (List.replicate 4 0)]),(3,.cells [L.arr .u64 4 [1,0,0,0]]),(4,.cells [L.arr .u64 4 x1]),(6,.cells [L.arr .u64 4 out_36]),(7,.cells [L.arr .u64 4 rest_37])] st
noncomputable def ZaQ.p3.S (out_41:List Int) (st:LL):S:=mkS 79 [(2,sA 2),(6,sA 6)] [(2,.cells [L.arr .u64 4 (List.replicate 4 0)]),(6,.cells [L.arr .u64 4 out_41])] st
noncomputable def ZaQ.p1.S (i_5:Int) (target_0_0 x1 out_23 rest_24:List Int) (st:LL):S:=mkS 79 [(1,sA 1),(2,sA 2),(3,sA 3),(4,sA 4),(6,sA 6),(7,sA 7),(8,sI i_5)] [(1,.cells [L.arr .u64 4 target_0_0]),(2,.cells [L.arr .u64 4 (List.replicate 4 0)]),(3,.cells [L.arr .u64 4 [1,0,0,0]]),(4,.cells [L.arr .u64 4 x1]),(6,.cells [L.arr .u64 4 out_23]),(7,.cells [L.arr .u64 4 rest_24])] st
theorem ZaQ.p2_ok {i_5 target_0_0 x1 out_36 rest_37 st r c1_ J1} (h:ZaQ.p2 N c1_ i_5 target_0_0 x1 out_36 rest_37=some r) (hE:En Tryz.f164 g0 w0 (ZaQ.rs r) st R) (hc1 : ∀i_5 out_23 rest_24,c1_ (i_5,out_23,rest_24)=some r→At g0 w0 (ZaQ.p1.S i_5 target_0_0 x1 out_23 rest_24 st) J1):At g0 w0 (ZaQ.p2.S i_5 target_0_0 x1 out_36 rest_37 st) (XK Tryz.prog R [.c (csub ZaQ.B [1,1,1,1,1,1,1,0,1,0,0,1,1]),.h J1,.b 0,.c (csub ZaQ.B [1,1,1,1,1,1,1,1])]):=by
 unfold ZaQ.p2 at h
 exact an fol [.r []] [1,2,3,4,6,7,8] [1,2,3,4,6,7] trivial (hc1 (w64 (i_5-1)) out_36 rest_37 h)
theorem ZaQ.p3_ok {out_41 st r} (h:ZaQ.p3 N out_41=some r) (hE:En Tryz.f164 g0 w0 (ZaQ.rs r) st R):At g0 w0 (ZaQ.p3.S out_41 st) (XK Tryz.prog R [.c (csub ZaQ.B [1,1,1,1,1,1,1,1,1])]):=by
 unfold ZaQ.p3 at h
 obtain rfl:=Zaa h
 exact af fol hE [.r []] [] 0 [] trivial
theorem ZaQ.p1_ok {i_5 target_0_0 x1 out_23 rest_24 st r c1_ J1} (h:ZaQ.p1 N target_0_0 x1 c1_ (i_5,out_23,rest_24)=some r) (hE:En Tryz.f164 g0 w0 (ZaQ.rs r) st R) (hc1 : ∀i_5 out_23 rest_24,c1_ (i_5,out_23,rest_24)=some r→At g0 w0 (ZaQ.p1.S i_5 target_0_0 x1 out_23 rest_24 st) J1):At g0 w0 (ZaQ.p1.S i_5 target_0_0 x1 out_23 rest_24 st) (XK Tryz.prog R (.c (csub ZaQ.B [1,1,1,1,1,1,1,0,1,0,0]) :: .h J1 :: [.b 0,.c (csub ZaQ.B [1,1,1,1,1,1,1,1])])):=by
 unfold ZaQ.p1 at h
 refine iteB h (fun c21 h1=>?_) (fun c21 h2=>?_)
 ·obtain ⟨x25,c22,h3⟩:=Zac h1
  obtain ⟨x26,c23,h4⟩:=Zac h3
  let o1:List PS:=[.r [],.c true,.r [(2,q1 [.agg [L.arr .u64 4 x25]])],.d {ds:=[(3,q1 [.agg [L.arr .u64 4 x26]])],hv:=0,Hs:=[]}]
  have t1 {Q:Prop} (q:Q):=aK c21 (Zal.snd c22) (Zal.snd c23) q
  refine iteB h4 (fun c24 h5=>?_) (fun c24 h6=>?_)
  ·exact aqd fol (o1 ++ [.c true,.s 4]) [1,2,3,4,6,7,8] [1,2,3,4,6,7] (t1 c24) (ZaQ.p2_ok h5 hE hc1)
  ·obtain ⟨⟨x27,x28⟩,c25,h7⟩:=Zac h6
   obtain ⟨x29,c26,h8⟩:=Zac h7
   let o2:List PS:=o1 ++ [.c false,.r [(2,q1 [.agg [L.arr .u64 4 x27],oB x28])],.r [(2,q1 [oB x29])]]
   have t2 {Q:Prop} (q:Q):=t1 (aK c24 (ZcK.snd c25) (Zbc.snd c26) q)
   refine iteB h8 (fun c27 h9=>?_) (fun c27 h10=>?_)
   ·obtain ⟨⟨x30,x31⟩,c28,h11⟩:=Zac h9
    obtain ⟨x32,c29,h12⟩:=Zac h11
    obtain ⟨⟨x33,x34⟩,c30,h13⟩:=Zac h12
    obtain ⟨x35,c31,h14⟩:=Zac h13
    let o3:List PS:=o2 ++ [.c true,.r [(2,q1 [.agg [L.arr .u64 4 x30],oB x31])],.d {ds:=[(3,q1 [.agg [L.arr .u64 4 x32]]),(4,q1 [.agg [L.arr .u64 4 x33],oB x34])],hv:=256,Hs:=[256]},.d {ds:=[(1,q1 [.agg [L.arr .u64 4 x35]])],hv:=0,Hs:=[]}]
    have t3 {Q:Prop} (q:Q):=t2 (aM c27 (ZcK.snd c28) (Zal.snd c29) (ZaH.snd c30) (ZbZ.snd c31) q)
    refine iteB h14 (fun c32 h15=>?_) (fun c32 h16=>?_)
    ·obtain rfl:=Zaa h15
     exact afd fol hE (o3 ++ [.c true,.r []]) [] 0 [] (t3 c32)
    ·exact aqd fol (o3 ++ [.c false,.s 4]) [1,2,3,4,6,7,8] [1,2,3,4,6,7] (t3 c32) (ZaQ.p2_ok h16 hE hc1)
   ·exact aqd fol (o2 ++ [.c false,.s 4]) [1,2,3,4,6,7,8] [1,2,3,4,6,7] (t2 c27) (ZaQ.p2_ok h10 hE hc1)
 ·obtain ⟨x38,c33,h17⟩:=Zac h2
  let o4:List PS:=[.r [],.c false,.r [(2,q1 [oB x38])]]
  refine iteB h17 (fun c34 h18=>?_) (fun c34 h19=>?_)
  ·obtain ⟨⟨x39,x40⟩,c35,h20⟩:=Zac h18
   exact aq fol (o4 ++ [.c true,.r [(2,q1 [.agg [L.arr .u64 4 x39],oB x40])],.s 1]) [2,6] [2,6] (aK c21 (Zbc.snd c33) c34 (ZaH.snd c35)) (ZaQ.p3_ok h20 hE)
  ·exact aq fol (o4 ++ [.c false,.s 1]) [2,6] [2,6] (aJ c21 (Zbc.snd c33) c34) (ZaQ.p3_ok h19 hE)
theorem ZaQ.snd {target_0_0:List Int} {r:(List Int)} (h:ZaQ N target_0_0=some r):SndQ Tryz.prog 164 [.agg [L.arr .u64 4 target_0_0]] (ZaQ.rs r):=fun st=>
 sO ZaQ.B Tryz.func164 fun g0 w0 R hE=>by
  unfold ZaQ at h
  obtain ⟨⟨x1,x2⟩,c1,h21⟩:=Zac h
  let o5:List PS:=[.r [],.r [(0,{m:=3})],.r [(2,q1 [.agg [L.arr .u64 4 x1],oB x2])],.r []]
  have t4 {Q:Prop} (q:Q):=aI (ZaH.snd c1) q
  refine iteB h21 (fun c2 h22=>?_) (fun c2 h23=>?_)
  ·obtain rfl:=Zaa h22
   exact af fol hE (o5 ++ [.c true,.r []]) [] 0 [] (t4 c2)
  ·refine iteB h23 (fun c3 h24=>?_) (fun c3 h25=>?_)
   ·obtain ⟨x3,c4,h26⟩:=Zac h24
    obtain rfl:=Zaa h26
    exact af fol hE (o5 ++ [.c false,.r [],.c true,.r [(0,q1 [.agg [L.arr .u64 4 x3]])]]) [] 0 [] (t4 (aJ c2 c3 (ZbZ.snd c4)))
   ·obtain ⟨x4,c5,h27⟩:=Zac h25
    exact aq fol (o5 ++ [.c false,.r [],.c false,.r [],.r [(0,q1 [.agg [L.arr .u64 4 x4]])],.r []]) [1,2,3,4,6,7,8] [1,2,3,4,6,7] (t4 (aJ c2 c3 (ZbZ.snd c5))) (At.loop N (At.loopN (fun y:Int×(List Int)×(List Int)=>ZaQ.p1.S y.1 target_0_0 x1 y.2.1 y.2.2 st) (fun c J hc y h=>ZaQ.p1_ok (i_5:=y.1) (out_23:=y.2.1) (rest_24:=y.2.2) h hE (fun i_5 out_23 rest_24=>hc (i_5,out_23,rest_24))) N (255,List.replicate 4 0,x4) h27))
noncomputable def Zcc.B:Code:=Tryz.f104.body.getD .skip
noncomputable def Zcc.rs (r:(List Int)):List CV:=[.agg [L.arr .u64 4 r]]
noncomputable def Zcc (N:Nat) (bits_0:Int):Option (List Int):=
 optE (Zax N bits_0) fun (x1,x2,x3)=>
 if x2=true then
  some (List.replicate 4 0)
 else
 if x3=true then
  some (List.replicate 4 0)
 else
 if (x1==(List.replicate 4 0))=true then
  some (List.replicate 4 0)
 else
 optE (ZaQ N x1) fun x4=>
 some x4
theorem Zcc.snd {bits_0:Int} {r:(List Int)} (h:Zcc N bits_0=some r):SndQ Tryz.prog 104 [oI bits_0] (Zcc.rs r):=fun st=>
 sO Zcc.B Tryz.func104 fun g0 w0 R hE=>by
  unfold Zcc at h
  obtain ⟨⟨x1,x2,x3⟩,c1,h1⟩:=Zac h
  let o1:List PS:=[.r [],.r [(1,q1 [.agg [L.arr .u64 4 x1],oB x2,oB x3])]]
  have t1 {Q:Prop} (q:Q):=aI (Zax.snd c1) q
  refine iteB h1 (fun c2 h2=>?_) (fun c2 h3=>?_)
  ·obtain rfl:=Zaa h2
   exact af fol hE (o1 ++ [.r [(2,wF),(5,wF),(6,wF),(7,wF)],.c true,.r []]) [] 0 [] (t1 (aN c2 c2 eT eT eT eT eT))
  ·refine iteB h3 (fun c3 h4=>?_) (fun c3 h5=>?_)
   ·obtain rfl:=Zaa h4
    exact af fol hE (o1 ++ [.r [(3,yF),(5,wF),(6,wF),(7,wF)],.c true,.r []]) [] 0 [] (t1 (aN c2 c2 c3 c3 c3 c3 eT))
   ·let o2:List PS:=o1 ++ [.r [(3,yF),(8,yF)]]
    refine iteB h5 (fun c4 h6=>?_) (fun c4 h7=>?_)
    ·obtain rfl:=Zaa h6
     exact af fol hE (o2 ++ [.c true,.r []]) [] 0 [] (t1 (aN c2 c2 c3 c3 c3 c3 c4))
    ·obtain ⟨x4,c5,h8⟩:=Zac h7
     obtain rfl:=Zaa h8
     exact af fol hE (o2 ++ [.c false,.r [(1,q1 [.agg [L.arr .u64 4 x4]])]]) [] 0 [] (t1 (aO c2 c2 c3 c3 c3 c3 c4 (ZaQ.snd c5)))
noncomputable def ZcZ.B:Code:=Tryz.f105.body.getD .skip
noncomputable def ZcZ.rs (r:(List Int)):List CV:=[.agg [L.arr .u64 4 r]]
noncomputable def ZcZ (N:Nat) (a_0_0 b_1_0:List Int):Option (List Int):=
 optE (ZaH N a_0_0 b_1_0) fun (x1,x2)=>
 if x2=true then
  optE (ZbZ N ) fun x3=>
  some x3
 else
 some x1
theorem ZcZ.snd {a_0_0 b_1_0:List Int} {r:(List Int)} (h:ZcZ N a_0_0 b_1_0=some r):SndQ Tryz.prog 105 [.agg [L.arr .u64 4 a_0_0],.agg [L.arr .u64 4 b_1_0]] (ZcZ.rs r):=fun st=>
 sO ZcZ.B Tryz.func105 fun g0 w0 R hE=>by
  unfold ZcZ at h
  obtain ⟨⟨x1,x2⟩,c1,h1⟩:=Zac h
  let o1:List PS:=[.r [],.r [(2,q1 [.agg [L.arr .u64 4 x1],oB x2])],.r []]
  refine iteB h1 (fun c2 h2=>?_) (fun c2 h3=>?_)
  ·obtain ⟨x3,c3,h4⟩:=Zac h2
   obtain rfl:=Zaa h4
   exact af fol hE (o1 ++ [.c true,.r [(0,q1 [.agg [L.arr .u64 4 x3]])]]) [] 0 [] (aJ (ZaH.snd c1) c2 (ZbZ.snd c3))
  ·obtain rfl:=Zaa h3
   exact af fol hE (o1 ++ [.c false,.r []]) [] 0 [] (aI (ZaH.snd c1) c2)
noncomputable def Zas.B:Code:=Tryz.f106.body.getD .skip
noncomputable def Zas.rs (r:Int):List CV:=[oI r]
noncomputable def Zas.p4 (N:Nat) (c2_:(Int×Int×Int)→Option Int) (c1_:Int→Option Int) (times_0:LL) (i_1 less_7 same_10 j_4:Int):Option Int:=
 c2_ (less_7,same_10,w64 (j_4+1))
noncomputable def Zas.p3 (N:Nat) (c2_:(Int×Int×Int)→Option Int) (c1_:Int→Option Int) (times_0:LL) (i_1 less_7 same_3 j_4:Int):Option Int:=
 chk (0≤j_4)<|
 chk (j_4<(len times_0))<|
 getE (times_0[Int.toNat j_4]?) ZdS fun x8=>
 chk (0≤i_1)<|
 chk (i_1<(len times_0))<|
 getE (times_0[Int.toNat i_1]?) ZdS fun x9=>
 if (x8==x9)=true then
  Zas.p4 N c2_ c1_ times_0 i_1 less_7 (w64 (same_3+1)) j_4
 else
 Zas.p4 N c2_ c1_ times_0 i_1 less_7 same_3 j_4
noncomputable def Zas.p2 (N:Nat) (c1_:Int→Option Int) (times_0:LL) (i_1:Int) (c2_:(Int×Int×Int)→Option Int):(Int×Int×Int)→Option Int:=fun (less_2,same_3,j_4)=>
 if (decide (j_4<(if (11:Int)<(len times_0) then 11 else (len times_0))))=true then
  chk (0≤j_4)<|
  chk (j_4<(len times_0))<|
  getE (times_0[Int.toNat j_4]?) ZdS fun x5=>
  chk (0≤i_1)<|
  chk (i_1<(len times_0))<|
  getE (times_0[Int.toNat i_1]?) ZdS fun x6=>
  if (decide (x5<x6))=true then
   Zas.p3 N c2_ c1_ times_0 i_1 (w64 (less_2+1)) same_3 j_4
  else
  Zas.p3 N c2_ c1_ times_0 i_1 less_2 same_3 j_4
 else
 if (decide (less_2≤(w64 (Int.tdiv (if (11:Int)<(len times_0) then 11 else (len times_0)) 2))))=true then
  if (decide ((w64 (Int.tdiv (if (11:Int)<(len times_0) then 11 else (len times_0)) 2))<(w64 (less_2+same_3))))=true then
   chk (0≤i_1)<|
   chk (i_1<(len times_0))<|
   getE (times_0[Int.toNat i_1]?) ZdS fun x11=>
   some x11
  else
  c1_ (w64 (i_1+1))
 else
 c1_ (w64 (i_1+1))
noncomputable def Zas.p1 (N:Nat) (times_0:LL) (c1_:Int→Option Int):Int→Option Int:=fun i_1=>
 if (decide (i_1<(if (11:Int)<(len times_0) then 11 else (len times_0))))=true then
  loopN (Zas.p2 N c1_ times_0 i_1) N (0,0,0)
 else
 some 0
noncomputable def Zas (N:Nat) (times_0:LL):Option Int:=
 loopN (Zas.p1 N times_0) N 0
noncomputable def Zas.p4.S (times_0:LL) (i_1 less_7 same_10 j_4:Int) (st:LL):S:=mkS 59 [(0,sV 1 times_0),(3,sI (if (11:Int)<(len times_0) then 11 else (len times_0))),(4,sI i_1),(5,sI less_7),(6,sI same_10),(7,sI j_4)] [] st
noncomputable def Zas.p3.S (times_0:LL) (i_1 less_7 same_3 j_4:Int) (st:LL):S:=mkS 59 [(0,sV 1 times_0),(3,sI (if (11:Int)<(len times_0) then 11 else (len times_0))),(4,sI i_1),(5,sI less_7),(6,sI same_3),(7,sI j_4)] [] st
noncomputable def Zas.p2.S (times_0:LL) (i_1 less_2 same_3 j_4:Int) (st:LL):S:=mkS 59 [(0,sV 1 times_0),(3,sI (if (11:Int)<(len times_0) then 11 else (len times_0))),(4,sI i_1),(5,sI less_2),(6,sI same_3),(7,sI j_4)] [] st
noncomputable def Zas.p1.S (times_0:LL) (i_1:Int) (st:LL):S:=mkS 59 [(0,sV 1 times_0),(3,sI (if (11:Int)<(len times_0) then 11 else (len times_0))),(4,sI i_1)] [] st
theorem Zas.p4_ok {times_0 i_1 less_7 same_10 j_4 st r c2_ c1_ J2 J1} (h:Zas.p4 N c2_ c1_ times_0 i_1 less_7 same_10 j_4=some r) (hE:En Tryz.f106 g0 w0 (Zas.rs r) st R) (hc2 : ∀less_2 same_3 j_4,c2_ (less_2,same_3,j_4)=some r→At g0 w0 (Zas.p2.S times_0 i_1 less_2 same_3 j_4 st) J2) (hc1 : ∀i_1,c1_ i_1=some r→At g0 w0 (Zas.p1.S times_0 i_1 st) J1):At g0 w0 (Zas.p4.S times_0 i_1 less_7 same_10 j_4 st) (XK Tryz.prog R [.c (csub Zas.B [1,1,0,1,0,0,1,0,0,1,1,0,1,0,0,1,1]),.h J2,.b 2,.c (csub Zas.B [1,1,0,1,0,0,1,0,0,1,1,1]),.b 1,.c (csub Zas.B [1,1,0,1,0,0,1,1]),.h J1,.b 0,.c (csub Zas.B [1,1,1])]):=by
 unfold Zas.p4 at h
 exact an fol [.r []] [0,3,4,5,6,7] [] trivial (hc2 less_7 same_10 (w64 (j_4+1)) h)
theorem Zas.p3_ok {times_0 i_1 less_7 same_3 j_4 st r c2_ c1_ J2 J1} (h:Zas.p3 N c2_ c1_ times_0 i_1 less_7 same_3 j_4=some r) (hE:En Tryz.f106 g0 w0 (Zas.rs r) st R) (hc2 : ∀less_2 same_3 j_4,c2_ (less_2,same_3,j_4)=some r→At g0 w0 (Zas.p2.S times_0 i_1 less_2 same_3 j_4 st) J2) (hc1 : ∀i_1,c1_ i_1=some r→At g0 w0 (Zas.p1.S times_0 i_1 st) J1):At g0 w0 (Zas.p3.S times_0 i_1 less_7 same_3 j_4 st) (XK Tryz.prog R [.c (csub Zas.B [1,1,0,1,0,0,1,0,0,1,1,0,1,0,0,1,0,0,1]),.b 3,.c (csub Zas.B [1,1,0,1,0,0,1,0,0,1,1,0,1,0,0,1,1]),.h J2,.b 2,.c (csub Zas.B [1,1,0,1,0,0,1,0,0,1,1,1]),.b 1,.c (csub Zas.B [1,1,0,1,0,0,1,1]),.h J1,.b 0,.c (csub Zas.B [1,1,1])]):=by
 unfold Zas.p3 at h
 obtain ⟨c10,c11,h1⟩:=ck2 h
 obtain ⟨x8,c12,h2⟩:=ZcS h1
 obtain ⟨c13,c14,h3⟩:=ck2 h2
 obtain ⟨x9,c15,h4⟩:=ZcS h3
 let o1:List PS:=[.d {ds:=[(3,{oe:=[L.int .i64 x8]}),(7,{oe:=[L.int .i64 x9]})],hv:=0,Hs:=[]}]
 refine iteB h4 (fun c16 h5=>?_) (fun c16 h6=>?_)
 ·exact aqd fol (o1 ++ [.c true,.r [],.s 9]) [0,3,4,5,6,7] [] (aN c10 c11 c12 c13 c14 c15 c16) (Zas.p4_ok h5 hE hc2 hc1)
 ·exact aqd fol (o1 ++ [.c false,.s 9]) [0,3,4,5,6,7] [] (aN c10 c11 c12 c13 c14 c15 c16) (Zas.p4_ok h6 hE hc2 hc1)
theorem Zas.p2_ok {times_0 i_1 less_2 same_3 j_4 st r c1_ c2_ J1 J2} (h:Zas.p2 N c1_ times_0 i_1 c2_ (less_2,same_3,j_4)=some r) (hE:En Tryz.f106 g0 w0 (Zas.rs r) st R) (hc1 : ∀i_1,c1_ i_1=some r→At g0 w0 (Zas.p1.S times_0 i_1 st) J1) (hc2 : ∀less_2 same_3 j_4,c2_ (less_2,same_3,j_4)=some r→At g0 w0 (Zas.p2.S times_0 i_1 less_2 same_3 j_4 st) J2):At g0 w0 (Zas.p2.S times_0 i_1 less_2 same_3 j_4 st) (XK Tryz.prog R (.c (csub Zas.B [1,1,0,1,0,0,1,0,0,1,1,0,1,0,0]) :: .h J2 :: [.b 2,.c (csub Zas.B [1,1,0,1,0,0,1,0,0,1,1,1]),.b 1,.c (csub Zas.B [1,1,0,1,0,0,1,1]),.h J1,.b 0,.c (csub Zas.B [1,1,1])])):=by
 unfold Zas.p2 at h
 refine iteB h (fun c2 h7=>?_) (fun c2 h8=>?_)
 ·obtain ⟨c3,c4,h9⟩:=ck2 h7
  obtain ⟨x5,c5,h10⟩:=ZcS h9
  obtain ⟨c6,c7,h11⟩:=ck2 h10
  obtain ⟨x6,c8,h12⟩:=ZcS h11
  let o2:List PS:=[.r [],.c true,.d {ds:=[(3,{oe:=[L.int .i64 x5]}),(7,{oe:=[L.int .i64 x6]})],hv:=0,Hs:=[]}]
  refine iteB h12 (fun c9 h13=>?_) (fun c9 h14=>?_)
  ·exact aqd fol (o2 ++ [.c true,.r [],.s 11]) [0,3,4,5,6,7] [] (aO c2 c3 c4 c5 c6 c7 c8 c9) (Zas.p3_ok h13 hE hc2 hc1)
  ·exact aqd fol (o2 ++ [.c false,.s 11]) [0,3,4,5,6,7] [] (aO c2 c3 c4 c5 c6 c7 c8 c9) (Zas.p3_ok h14 hE hc2 hc1)
 ·refine iteB h8 (fun c17 h15=>?_) (fun c17 h16=>?_)
  ·have t1 {Q:Prop} (q:Q):=aO c2 (neI 2) c17 c17 (neI 2) c17 c17 (aK c17 c17 c17 q)
   refine iteB h15 (fun c18 h17=>?_) (fun c18 h18=>?_)
   ·obtain ⟨c19,c20,h19⟩:=ck2 h17
    obtain ⟨x11,c21,h20⟩:=ZcS h19
    obtain rfl:=Zaa h20
    exact af fol hE [.r [],.c false,.r [],.c true,.r [(3,{oe:=[L.int .i64 x11]})]] [] 0 [] (t1 (aK c18 c19 c20 c21))
   ·exact an fol [.r [],.c false,.r [],.c false,.r []] [0,3,4] [] (t1 c18) (hc1 (w64 (i_1+1)) h18)
  ·exact an fol [.r [],.c false,.r [(5,wF),(6,wF),(7,wF),(8,wF),(9,wF),(10,wF),(11,yF)],.c false,.r []] [0,3,4] [] (aO c2 (neI 2) c17 c17 c17 c17 c17 (aJ c17 c17 eF)) (hc1 (w64 (i_1+1)) h16)
theorem Zas.p1_ok {times_0 i_1 st r c1_ J1} (h:Zas.p1 N times_0 c1_ i_1=some r) (hE:En Tryz.f106 g0 w0 (Zas.rs r) st R) (hc1 : ∀i_1,c1_ i_1=some r→At g0 w0 (Zas.p1.S times_0 i_1 st) J1):At g0 w0 (Zas.p1.S times_0 i_1 st) (XK Tryz.prog R (.c (csub Zas.B [1,1,0,1,0,0]) :: .h J1 :: [.b 0,.c (csub Zas.B [1,1,1])])):=by
 unfold Zas.p1 at h
 refine iteB h (fun c1 h21=>?_) (fun c1 h22=>?_)
 ·exact aq fol [.r [],.c true,.r [],.r [],.r []] [0,3,4,5,6,7] [] c1 (At.loop N (At.loopN (fun y:Int×Int×Int=>Zas.p2.S times_0 i_1 y.1 y.2.1 y.2.2 st) (fun c J hc y h=>Zas.p2_ok (less_2:=y.1) (same_3:=y.2.1) (j_4:=y.2.2) h hE hc1 (fun less_2 same_3 j_4=>hc (less_2,same_3,j_4))) N (0,0,0) h21))
 ·obtain rfl:=Zaa h22
  exact af fol hE [.r [],.c false,.r []] [] 0 [] c1
theorem Zas.snd {times_0:LL} {r:Int} (h:Zas N times_0=some r):SndQ Tryz.prog 106 [.one (L.sl 1 times_0)] (Zas.rs r):=fun st=>
 sO Zas.B Tryz.func106 fun g0 w0 R hE=>by
  unfold Zas at h
  exact aq fol [.r [],.r [],.r []] [0,3,4] [] trivial (At.loop N (At.loopN (fun y:Int=>Zas.p1.S times_0 y st) (fun c J hc y h=>Zas.p1_ok h hE (fun i_1=>hc i_1)) N 0 h))
noncomputable def Zbd.B:Code:=Tryz.f59.body.getD .skip
noncomputable def Zbd.rs (r:(Option Nat)×(Option Nat)×LL):List CV:=[.one (L.ptr r.1),.one (L.ptr r.2.1)]
noncomputable def Zbd.p1 (N:Nat) (c_0:ZaM) (st:LL) (c1_:(LL×Int×Zaq×(List Int))→Option ((Option Nat)×(Option Nat)×LL)):(LL×Int×Zaq×(List Int))→Option ((Option Nat)×(Option Nat)×LL):=fun (v15,v3,at_13,sum_14)=>
 if (decide (v3<(len c_0.Base)))=true then
  chk (0≤v3)<|
  getE (c_0.Base[Int.toNat v3]?) ZcT fun x16=>
  optE (Zcf N c_0.P at_13 x16) fun x17=>
  chk (List.length (v15 ++ [x16.ls])*96≤140737488355328)<|
  optE (Zcc N x16.Bits) fun x18=>
  optE (ZcZ N sum_14 x18) fun x19=>
  c1_ (v15 ++ [x16.ls],w64 (v3+1),x17,x19)
 else
 optE (Zci N c_0.P (ZcP.mk at_13 sum_14) c_0.Plan c_0.Size c_0.Now st) fun (x20,x21,st22)=>
 if (x21 != 0)=true then
  some (none,none,st22)
 else
 optE (Zas N at_13.Times) fun x23=>
 optE (ZbX N c_0.Plan (if (0:Int)>(w64 ((w64 (c_0.Now+c_0.P.Future))-x23)) then 0 else (w64 ((w64 (c_0.Now+c_0.P.Future))-x23)))) fun x24=>
 some (x20,(some (List.length st22)),st22 ++ [ZbA.lo (ZbA.mk c_0.P v15 [] [] 0 c_0.Plan.Salt c_0.Plan.Period c_0.Plan.Offset c_0.Size x24 1)])
noncomputable def Zbd (N:Nat) (c_0:ZaM) (st:LL):Option ((Option Nat)×(Option Nat)×LL):=
 optE (Zdn N c_0.P) fun x1=>
 optE (Zcc N c_0.P.Genesis.Bits) fun x2=>
 loopN (Zbd.p1 N c_0 st) N ([c_0.P.Genesis.ls],0,x1,x2)
noncomputable def Zbd.p1.S (v15:LL) (c_0:ZaM) (v3:Int) (at_13:Zaq) (sum_14:List Int) (st:LL):S:=mkS 95 [(1,sA 1),(4,sA 4),(5,.one (.h (.row 18 0) 68 0 (List.length v15))),(6,sA 6),(25,sV 68 c_0.Base),(26,sI (len c_0.Base)),(27,sI v3)] [(1,.cells c_0.ls),(4,.cells at_13.ls),(6,.cells [L.arr .u64 4 sum_14]),(18,.row 0 true 68 v15)] st
theorem Zbd.p1_ok {v15 c_0 v3 at_13 sum_14 st r c1_ J1} (h:Zbd.p1 N c_0 st c1_ (v15,v3,at_13,sum_14)=some r) (hE:En Tryz.f59 g0 w0 (Zbd.rs r) r.2.2 R) (hc1 : ∀v15 v3 at_13 sum_14,c1_ (v15,v3,at_13,sum_14)=some r→At g0 w0 (Zbd.p1.S v15 c_0 v3 at_13 sum_14 st) J1):At g0 w0 (Zbd.p1.S v15 c_0 v3 at_13 sum_14 st) (XK Tryz.prog R (.c (csub Zbd.B [1,1,1,1,0,1,0,0]) :: .h J1 :: [.b 0,.c (csub Zbd.B [1,1,1,1,1])])):=by
 unfold Zbd.p1 at h
 refine iteB h (fun c14 h1=>?_) (fun c14 h2=>?_)
 ·obtain ⟨c15,h3⟩:=ZaS h1
  obtain ⟨x16,c16,h4⟩:=Zdm h3
  obtain ⟨x17,c17,h5⟩:=Zac h4
  obtain ⟨c18,h6⟩:=ZaS h5
  obtain ⟨x18,c19,h7⟩:=Zac h6
  obtain ⟨x19,c20,h8⟩:=Zac h7
  exact and_ fol [.r [],.c true,.r [(1,{oe:=x16.ls})],.r [(4,q1 [.agg x17.ls])],.r [],.d {ds:=[(3,q1 [.agg [L.arr .u64 4 x18]]),(4,q1 [.agg [L.arr .u64 4 x19]])],hv:=32,Hs:=[32]},.r []] [1,4,5,6,25,26,27] [1,4,6,18] (aO c14 c15 (oD c14) c16 (Zcf.snd c17) z0 (eN (List.length v15)) (aL z0 (eN (1)) c18 (Zcc.snd c19) (ZcZ.snd c20))) (hc1 (v15 ++ [x16.ls]) (w64 (v3+1)) x17 x19 h8)
 ·obtain ⟨⟨x20,x21,st22⟩,c21,h9⟩:=Zac h2
  let o1:List PS:=[.r [],.c false,.r [(11,{rs:=[.one (L.ptr x20),oI x21],st:=st22})],.r []]
  refine iteB h9 (fun c22 h10=>?_) (fun c22 h11=>?_)
  ·obtain rfl:=Zaa h10
   exact af fol hE (o1 ++ [.c true,.r []]) [] 0 [] (aJ c14 (Zci.snd c21) c22)
  ·obtain ⟨x23,c23,h12⟩:=Zac h11
   obtain ⟨x24,c24,h13⟩:=Zac h12
   obtain rfl:=Zaa h13
   exact afd fol hE (o1 ++ [.c false,.d {ds:=[(10,q1 [oI x23]),(13,q1 [oI x24])],hv:=0,Hs:=[]},.d {ds:=[(16,{ns:=[16],mv:=[17]}),(17,{m:=1,fz:=[18]})],hv:=131072,Hs:=[131072]}]) [] 0 [] (aN c14 (Zci.snd c21) c22 (Zas.snd c23) (ZbX.snd c24) z0 (eN (List.length v15)))
theorem Zbd.snd {c_0:ZaM} {st:LL} {r:(Option Nat)×(Option Nat)×LL} (h:Zbd N c_0 st=some r):Snd Tryz.prog 59 [.agg c_0.ls] st (Zbd.rs r) r.2.2:=
 sO Zbd.B Tryz.func59 fun g0 w0 R hE=>by
  unfold Zbd at h
  obtain ⟨x1,c1,h14⟩:=Zac h
  obtain ⟨x2,c2,h15⟩:=Zac h14
  exact aq fol [.r [],.r [(2,q1 [.agg x1.ls])],.r [],.r [(4,q1 [.agg [L.arr .u64 4 x2]])],.r []] [1,4,5,6,25,26,27] [1,4,6,18] (aI (Zdn.snd c1) (Zcc.snd c2)) (At.loop N (At.loopN (fun y:LL×Int×Zaq×(List Int)=>Zbd.p1.S y.1 c_0 y.2.1 y.2.2.1 y.2.2.2 st) (fun c J hc y h=>Zbd.p1_ok (v15:=y.1) (v3:=y.2.1) (at_13:=y.2.2.1) (sum_14:=y.2.2.2) h hE (fun v15 v3 at_13 sum_14=>hc (v15,v3,at_13,sum_14))) N ([c_0.P.Genesis.ls],0,x1,x2) h15))
noncomputable def ZbO.B:Code:=Tryz.f66.body.getD .skip
noncomputable def ZbO.rs (r:Int):List CV:=[oI r]
noncomputable def ZbO (N:Nat) (s_0:ZaE):Option Int:=
 optE (Zbg N s_0.book) fun x1=>
 some x1
theorem ZbO.snd {s_0:ZaE} {r:Int} (h:ZbO N s_0=some r):SndQ Tryz.prog 66 [.one (L.bx 172 s_0.ls)] (ZbO.rs r):=fun st=>
 sO ZbO.B Tryz.func66 fun g0 w0 R hE=>by
  unfold ZbO at h
  obtain ⟨x1,c1,h1⟩:=Zac h
  obtain rfl:=Zaa h1
  exact af fol hE [.r [],.r [],.c false,.r [(3,{oe:=s_0.ls}),(4,q0 [oI x1])]] [] 0 [] (aJ eF (eO s_0.ls) (Zbg.snd c1))
noncomputable def Zcw.B:Code:=Tryz.f66.body.getD .skip
noncomputable def Zcw.rs (r:Int×LL):List CV:=[oI r.1]
noncomputable def Zcw (N:Nat) (s_0:Option Nat) (st:LL):Option (Int×LL):=
 if (Option.isNone s_0)=true then
  some (0,st)
 else
 optE s_0 fun i1=>
 getE (st[i1]?) Zbb fun x2 x3 x4 x5 x6 x7 x8 x9 x10 x11 x12 x13 x14 x15 x16 x17 x18 x19 x20 x21 x22 x23 x24 x25 x26 x27 x28 x29 x30 x31 x32 x33 x34 x35 x36 x37=>
 optE x33 fun i38=>
 getE (st[i38]?) ZaV fun x39=>
 optE (Zbg N x39) fun x40=>
 some (x40,st)
theorem Zcw.snd {s_0:Option Nat} {st:LL} {r:Int×LL} (h:Zcw N s_0 st=some r):Snd Tryz.prog 66 [.one (L.ptr s_0)] st (Zcw.rs r) r.2:=
 sO Zcw.B Tryz.func66 fun g0 w0 R hE=>by
  unfold Zcw at h
  refine iteB h (fun c1 h1=>?_) (fun c1 h2=>?_)
  ·obtain rfl:=Zaa h1
   exact af fol hE [.r [],.r [],.c true,.r []] [] 0 [] c1
  ·obtain ⟨i1,rfl,h3⟩:=Zac h2
   obtain ⟨x2,x3,x4,x5,x6,x7,x8,x9,x10,x11,x12,x13,x14,x15,x16,x17,x18,x19,x20,x21,x22,x23,x24,x25,x26,x27,x28,x29,x30,x31,x32,x33,x34,x35,x36,x37,c3,h4⟩:=ZaX h3
   obtain ⟨i38,rfl,h5⟩:=Zac h4
   obtain ⟨x39,c5,h6⟩:=Zbl h5
   obtain ⟨x40,c6,h7⟩:=Zac h6
   obtain rfl:=Zaa h7
   exact af fol hE [.r [],.r [],.c false,.r [(3,{oc:=[L.int .i64 x2,L.int .i64 x3,L.int .i64 x4,L.int .i64 x5,L.bool x6,L.sl 2 x7,L.sl 33 x8,L.arr .u64 4 x9,L.arr .u64 4 x10,L.int .i64 x11,L.arr .u8 32 x12,L.arr .u8 32 x13,L.int .i64 x14,L.int .i64 x15,L.int .i64 x16,L.int .i64 x17,L.int .i64 x18,L.int .i64 x19,L.int .i64 x20,L.int .i64 x21,L.arr .u8 32 x22,L.sl 1 x23,L.arr .u64 4 x24,L.int .i64 x25,L.int .i64 x26,L.int .i64 x27,L.int .i64 x28,L.int .i64 x29,L.arr .u8 32 x30,L.sl 1 x31,L.arr .u64 4 x32,L.ptr (some i38),L.int .i64 x34,L.int .i64 x35,L.int .i64 x36,L.own true 68 x37]}),(4,{rs:=[oI x40],m:=10,cv:=[.one (L.bx 6 x39.ls)]})]] [] 0 [] (aK c1 c3 (bO 6 c5 (Zat.bv x39)) (Zbg.snd c6))
noncomputable def ZbN.B:Code:=Tryz.f67.body.getD .skip
noncomputable def ZbN.rs (r:Int):List CV:=[oI r]
noncomputable def ZbN (N:Nat) (s_0:ZaE):Option Int:=
 some (len s_0.buffer)
theorem ZbN.snd {s_0:ZaE} {r:Int} (h:ZbN N s_0=some r):SndQ Tryz.prog 67 [.one (L.bx 172 s_0.ls)] (ZbN.rs r):=fun st=>
 sO ZbN.B Tryz.func67 fun g0 w0 R hE=>by
  unfold ZbN at h
  obtain rfl:=Zaa h
  exact af fol hE [.r [],.r [],.c false,.r [(3,{oe:=s_0.ls})]] [] 0 [] (aI eF (eO s_0.ls))
noncomputable def Zcv.B:Code:=Tryz.f67.body.getD .skip
noncomputable def Zcv.rs (r:Int×LL):List CV:=[oI r.1]
noncomputable def Zcv (N:Nat) (s_0:Option Nat) (st:LL):Option (Int×LL):=
 if (Option.isNone s_0)=true then
  some (0,st)
 else
 optE s_0 fun i1=>
 getE (st[i1]?) Zbb fun x2 x3 x4 x5 x6 x7 x8 x9 x10 x11 x12 x13 x14 x15 x16 x17 x18 x19 x20 x21 x22 x23 x24 x25 x26 x27 x28 x29 x30 x31 x32 x33 x34 x35 x36 x37=>
 some ((len x37),st)
theorem Zcv.snd {s_0:Option Nat} {st:LL} {r:Int×LL} (h:Zcv N s_0 st=some r):Snd Tryz.prog 67 [.one (L.ptr s_0)] st (Zcv.rs r) r.2:=
 sO Zcv.B Tryz.func67 fun g0 w0 R hE=>by
  unfold Zcv at h
  refine iteB h (fun c1 h1=>?_) (fun c1 h2=>?_)
  ·obtain rfl:=Zaa h1
   exact af fol hE [.r [],.r [],.c true,.r []] [] 0 [] c1
  ·obtain ⟨i1,rfl,h3⟩:=Zac h2
   obtain ⟨x2,x3,x4,x5,x6,x7,x8,x9,x10,x11,x12,x13,x14,x15,x16,x17,x18,x19,x20,x21,x22,x23,x24,x25,x26,x27,x28,x29,x30,x31,x32,x33,x34,x35,x36,x37,c3,h4⟩:=ZaX h3
   obtain rfl:=Zaa h4
   exact af fol hE [.r [],.r [],.c false,.r [(3,{oc:=[L.int .i64 x2,L.int .i64 x3,L.int .i64 x4,L.int .i64 x5,L.bool x6,L.sl 2 x7,L.sl 33 x8,L.arr .u64 4 x9,L.arr .u64 4 x10,L.int .i64 x11,L.arr .u8 32 x12,L.arr .u8 32 x13,L.int .i64 x14,L.int .i64 x15,L.int .i64 x16,L.int .i64 x17,L.int .i64 x18,L.int .i64 x19,L.int .i64 x20,L.int .i64 x21,L.arr .u8 32 x22,L.sl 1 x23,L.arr .u64 4 x24,L.int .i64 x25,L.int .i64 x26,L.int .i64 x27,L.int .i64 x28,L.int .i64 x29,L.arr .u8 32 x30,L.sl 1 x31,L.arr .u64 4 x32,L.ptr x33,L.int .i64 x34,L.int .i64 x35,L.int .i64 x36,L.own true 68 x37]})]] [] 0 [] (aI c1 c3)
noncomputable def ZaG.B:Code:=Tryz.f11.body.getD .skip
noncomputable def ZaG.rs (r:Bool×LL):List CV:=[oB r.1]
noncomputable def ZaG.p1 (N:Nat) (script_1:LL) (c_0:ZaM) (c1_:((Option Nat)×(Option Nat)×Int×LL)→Option (Bool×LL)):((Option Nat)×(Option Nat)×Int×LL)→Option (Bool×LL):=fun (s_57,m_58,v7,st59)=>
 if (decide (v7<(len script_1)))=true then
  chk (0≤v7)<|
  getE (script_1[Int.toNat v7]?) Zcd fun x60=>
  optE (ZaB N s_57 x60.Now x60.More x60.List_ st59) fun (x61,x62,st63)=>
  optE s_57 fun i64=>
  getE (st63[i64]?) Zbb fun x65 x66 x67 x68 x69 x70 x71 x72 x73 x74 x75 x76 x77 x78 x79 x80 x81 x82 x83 x84 x85 x86 x87 x88 x89 x90 x91 x92 x93 x94 x95 x96 x97 x98 x99 x100=>
  optE x96 fun i101=>
  getE (st63[i101]?) ZaV fun x102=>
  optE (ZbO N (ZaE.mk (Zan.mk x65 x66 x67 x68 x69 x70 x71 x72 x73 (Zah.mk x74 x75 x76 x77 x78 x79)) (ZaF.mk (Zaq.mk (ZaL.mk x80 x81 x82 x83 x84) x85 x86) x87) (ZaF.mk (Zaq.mk (ZaL.mk x88 x89 x90 x91 x92) x93 x94) x95) x102 x97 x98 x99 x100)) fun x103=>
  optE m_58 fun i104=>
  getE (st63[i104]?) Zcg fun x105=>
  if (decide (x103>(w64 (x105.Most+1))))=true then
   some (false,st63)
  else
  optE (ZbN N (ZaE.mk (Zan.mk x65 x66 x67 x68 x69 x70 x71 x72 x73 (Zah.mk x74 x75 x76 x77 x78 x79)) (ZaF.mk (Zaq.mk (ZaL.mk x80 x81 x82 x83 x84) x85 x86) x87) (ZaF.mk (Zaq.mk (ZaL.mk x88 x89 x90 x91 x92) x93 x94) x95) x102 x97 x98 x99 x100)) fun x106=>
  if (decide (x106>c_0.Size))=true then
   some (false,st63)
  else
  c1_ ((some i64),(some i104),w64 (v7+1),st63)
 else
 optE m_58 fun i107=>
 getE (st59[i107]?) Zcg fun x108=>
 some (decide (x108.Most≤51539607553),st59)
noncomputable def ZaG (N:Nat) (c_0:ZaM) (script_1 st:LL):Option (Bool×LL):=
 optE (Zcr N st) fun (x1,st2)=>
 if (!x1)=true then
  some (false,st2)
 else
 optE (ZaK N c_0 script_1) fun x3=>
 if x3=true then
  some (true,st2)
 else
 optE (Zbd N c_0 st2) fun (x4,x5,st6)=>
 if (Option.isNone x4)=true then
  some (true,st6)
 else
 loopN (ZaG.p1 N script_1 c_0) N (x4,x5,0,st6)
noncomputable def ZaG.p1.S (s_57 m_58:Option Nat) (script_1:LL) (v7:Int) (c_0:ZaM) (st59:LL):S:=mkS 56 [(2,sA 2),(5,sP s_57),(6,sP m_58),(21,sV 3 script_1),(22,sI (len script_1)),(23,sI v7)] [(2,.cells c_0.ls)] st59
theorem ZaG.p1_ok {s_57 m_58 script_1 v7 c_0 st59 r c1_ J1} (h:ZaG.p1 N script_1 c_0 c1_ (s_57,m_58,v7,st59)=some r) (hE:En Tryz.f11 g0 w0 (ZaG.rs r) r.2 R) (hc1 : ∀s_57 m_58 v7 st59,c1_ (s_57,m_58,v7,st59)=some r→At g0 w0 (ZaG.p1.S s_57 m_58 script_1 v7 c_0 st59) J1):At g0 w0 (ZaG.p1.S s_57 m_58 script_1 v7 c_0 st59) (XK Tryz.prog R (.c (csub ZaG.B [1,1,1,1,1,0,1,0,0]) :: .h J1 :: [.b 0,.c (csub ZaG.B [1,1,1,1,1,1])])):=by
 unfold ZaG.p1 at h
 refine iteB h (fun c23 h1=>?_) (fun c23 h2=>?_)
 ·obtain ⟨c24,h3⟩:=ZaS h1
  obtain ⟨x60,c25,h4⟩:=Zda h3
  obtain ⟨⟨x61,x62,st63⟩,c26,h5⟩:=Zac h4
  obtain ⟨i64,rfl,h6⟩:=Zac h5
  obtain ⟨x65,x66,x67,x68,x69,x70,x71,x72,x73,x74,x75,x76,x77,x78,x79,x80,x81,x82,x83,x84,x85,x86,x87,x88,x89,x90,x91,x92,x93,x94,x95,x96,x97,x98,x99,x100,c28,h7⟩:=ZaX h6
  obtain ⟨i101,rfl,h8⟩:=Zac h7
  obtain ⟨x102,c30,h9⟩:=Zbl h8
  obtain ⟨x103,c31,h10⟩:=Zac h9
  obtain ⟨i104,rfl,h11⟩:=Zac h10
  obtain ⟨x105,c33,h12⟩:=Zde h11
  let o1:List PS:=[.r [],.c true,.r [(1,{oe:=x60.ls})],.r [(7,{rs:=[.row true 68 x61,oI x62],st:=st63,ns:=[34]})]]
  have t1 {Q:Prop} (q:Q):=aO c23 c24 (oD c23) c25 (ZaB.snd c26) (bO 172 c28 ((bP (bP (bP (bP (bP (bS (bS (bP (bP (bP (bP (bP (bP (bP (bP (bP (bP (bP (bP (bP (bP (bS (bP (bP (bP (bP (bP (bP (bP (bS (bP (bC 6 c30 (Zat.bv x102) (bP (bP (bP (bW bN)))))))))))))))))))))))))))))))))))):BVs st63 [L.int .i64 x65,L.int .i64 x66,L.int .i64 x67,L.int .i64 x68,L.bool x69,L.sl 2 x70,L.sl 33 x71,L.arr .u64 4 x72,L.arr .u64 4 x73,L.int .i64 x74,L.arr .u8 32 x75,L.arr .u8 32 x76,L.int .i64 x77,L.int .i64 x78,L.int .i64 x79,L.int .i64 x80,L.int .i64 x81,L.int .i64 x82,L.int .i64 x83,L.int .i64 x84,L.arr .u8 32 x85,L.sl 1 x86,L.arr .u64 4 x87,L.int .i64 x88,L.int .i64 x89,L.int .i64 x90,L.int .i64 x91,L.int .i64 x92,L.arr .u8 32 x93,L.sl 1 x94,L.arr .u64 4 x95,L.ptr (some i101),L.int .i64 x97,L.int .i64 x98,L.int .i64 x99,L.own true 68 x100] (ZaE.ls (ZaE.mk (Zan.mk x65 x66 x67 x68 x69 x70 x71 x72 x73 (Zah.mk x74 x75 x76 x77 x78 x79)) (ZaF.mk (Zaq.mk (ZaL.mk x80 x81 x82 x83 x84) x85 x86) x87) (ZaF.mk (Zaq.mk (ZaL.mk x88 x89 x90 x91 x92) x93 x94) x95) x102 x97 x98 x99 x100)))) (ZbO.snd c31) (aJ c33 c33 q)
  refine iteB h12 (fun c34 h13=>?_) (fun c34 h14=>?_)
  ·obtain rfl:=Zaa h13
   exact afd fol hE (o1 ++ [.d {ds:=[(1,{rs:=[oI x103],m:=10,cv:=[.one (L.bx 172 (ZaE.ls (ZaE.mk (Zan.mk x65 x66 x67 x68 x69 x70 x71 x72 x73 (Zah.mk x74 x75 x76 x77 x78 x79)) (ZaF.mk (Zaq.mk (ZaL.mk x80 x81 x82 x83 x84) x85 x86) x87) (ZaF.mk (Zaq.mk (ZaL.mk x88 x89 x90 x91 x92) x93 x94) x95) x102 x97 x98 x99 x100)))]}),(5,{oc:=x105.lo}),(9,wF),(10,wF),(11,wF),(12,wF),(13,wF)],hv:=2,Hs:=[2]},.c true,.r []]) [] 0 [] (t1 (aN c34 c34 c34 c34 c34 c34 eT))
  ·obtain ⟨x106,c35,h15⟩:=Zac h14
   let o2:List PS:=o1 ++ [.d {ds:=[(1,{rs:=[oI x103],m:=10,cv:=[.one (L.bx 172 (ZaE.ls (ZaE.mk (Zan.mk x65 x66 x67 x68 x69 x70 x71 x72 x73 (Zah.mk x74 x75 x76 x77 x78 x79)) (ZaF.mk (Zaq.mk (ZaL.mk x80 x81 x82 x83 x84) x85 x86) x87) (ZaF.mk (Zaq.mk (ZaL.mk x88 x89 x90 x91 x92) x93 x94) x95) x102 x97 x98 x99 x100)))]}),(5,{oc:=x105.lo}),(10,{rs:=[oI x106],m:=10,cv:=[.one (L.bx 172 (ZaE.ls (ZaE.mk (Zan.mk x65 x66 x67 x68 x69 x70 x71 x72 x73 (Zah.mk x74 x75 x76 x77 x78 x79)) (ZaF.mk (Zaq.mk (ZaL.mk x80 x81 x82 x83 x84) x85 x86) x87) (ZaF.mk (Zaq.mk (ZaL.mk x88 x89 x90 x91 x92) x93 x94) x95) x102 x97 x98 x99 x100)))]}),(14,yF)],hv:=1026,Hs:=[2,1026]}]
   have t2 {Q:Prop} (q:Q):=t1 (aO c34 c34 (bO 172 c28 ((bP (bP (bP (bP (bP (bS (bS (bP (bP (bP (bP (bP (bP (bP (bP (bP (bP (bP (bP (bP (bP (bS (bP (bP (bP (bP (bP (bP (bP (bS (bP (bC 6 c30 (Zat.bv x102) (bP (bP (bP (bW bN)))))))))))))))))))))))))))))))))))):BVs st63 [L.int .i64 x65,L.int .i64 x66,L.int .i64 x67,L.int .i64 x68,L.bool x69,L.sl 2 x70,L.sl 33 x71,L.arr .u64 4 x72,L.arr .u64 4 x73,L.int .i64 x74,L.arr .u8 32 x75,L.arr .u8 32 x76,L.int .i64 x77,L.int .i64 x78,L.int .i64 x79,L.int .i64 x80,L.int .i64 x81,L.int .i64 x82,L.int .i64 x83,L.int .i64 x84,L.arr .u8 32 x85,L.sl 1 x86,L.arr .u64 4 x87,L.int .i64 x88,L.int .i64 x89,L.int .i64 x90,L.int .i64 x91,L.int .i64 x92,L.arr .u8 32 x93,L.sl 1 x94,L.arr .u64 4 x95,L.ptr (some i101),L.int .i64 x97,L.int .i64 x98,L.int .i64 x99,L.own true 68 x100] (ZaE.ls (ZaE.mk (Zan.mk x65 x66 x67 x68 x69 x70 x71 x72 x73 (Zah.mk x74 x75 x76 x77 x78 x79)) (ZaF.mk (Zaq.mk (ZaL.mk x80 x81 x82 x83 x84) x85 x86) x87) (ZaF.mk (Zaq.mk (ZaL.mk x88 x89 x90 x91 x92) x93 x94) x95) x102 x97 x98 x99 x100)))) (ZbN.snd c35) c34 c34 c34 (aK c34 c34 c34 q))
   refine iteB h15 (fun c36 h16=>?_) (fun c36 h17=>?_)
   ·obtain rfl:=Zaa h16
    exact afd fol hE (o2 ++ [.c true,.r []]) [] 0 [] (t2 c36)
   ·exact and_ fol (o2 ++ [.c false,.r []]) [2,5,6,21,22,23] [2] (t2 c36) (hc1 (some i64) (some i104) (w64 (v7+1)) st63 h17)
 ·obtain ⟨i107,rfl,h18⟩:=Zac h2
  obtain ⟨x108,c38,h19⟩:=Zde h18
  obtain rfl:=Zaa h19
  exact af fol hE [.r [],.c false,.r [(3,{oc:=x108.lo})]] [] 0 [] (aI c23 c38)
theorem ZaG.snd {c_0:ZaM} {script_1:LL} {st:LL} {r:Bool×LL} (h:ZaG N c_0 script_1 st=some r):Snd Tryz.prog 11 [.agg c_0.ls,.one (L.sl 3 script_1)] st (ZaG.rs r) r.2:=
 sO ZaG.B Tryz.func11 fun g0 w0 R hE=>by
  unfold ZaG at h
  obtain ⟨⟨x1,st2⟩,c1,h20⟩:=Zac h
  let o3:List PS:=[.r [],.r [(0,{rs:=[oB x1],st:=st2})]]
  have t3 {Q:Prop} (q:Q):=aI (Zcr.snd c1) q
  refine iteB h20 (fun c2 h21=>?_) (fun c2 h22=>?_)
  ·obtain rfl:=Zaa h21
   exact af fol hE (o3 ++ [.c true,.r []]) [] 0 [] (t3 c2)
  ·obtain ⟨x3,c3,h23⟩:=Zac h22
   let o4:List PS:=o3 ++ [.c false,.r [(2,q1 [oB x3])]]
   have t4 {Q:Prop} (q:Q):=t3 (aJ c2 (ZaK.snd c3) q)
   refine iteB h23 (fun c4 h24=>?_) (fun c4 h25=>?_)
   ·obtain rfl:=Zaa h24
    exact af fol hE (o4 ++ [.c true,.r []]) [] 0 [] (t4 c4)
   ·obtain ⟨⟨x4,x5,st6⟩,c5,h26⟩:=Zac h25
    let o5:List PS:=o4 ++ [.c false,.r [(1,{rs:=[.one (L.ptr x4),.one (L.ptr x5)],st:=st6})],.r []]
    refine iteB h26 (fun c6 h27=>?_) (fun c6 h28=>?_)
    ·obtain rfl:=Zaa h27
     exact af fol hE (o5 ++ [.c true,.r []]) [] 0 [] (t4 (aJ c4 (Zbd.snd c5) c6))
    ·exact aq fol (o5 ++ [.c false,.r []]) [2,5,6,21,22,23] [2] (t4 (aJ c4 (Zbd.snd c5) c6)) (At.loop N (At.loopN (fun y:(Option Nat)×(Option Nat)×Int×LL=>ZaG.p1.S y.1 y.2.1 script_1 y.2.2.1 c_0 y.2.2.2) (fun c J hc y h=>ZaG.p1_ok (s_57:=y.1) (m_58:=y.2.1) (v7:=y.2.2.1) (st59:=y.2.2.2) h hE (fun s_57 m_58 v7 st59=>hc (s_57,m_58,v7,st59))) N (x4,x5,0,st6) h28))
end Go.Dn.F
