/- Contracts of functions of the program, as shallow functions, and their proofs. -/
import Derived.Test.YtcgdbcfflaphhaaGreatDoorFba
set_option linter.all false
set_option maxRecDepth 100000
namespace Go.Dn.F
open Go.Proofs
variable {N:Nat} {g0:G} {w0:World} {R:Exit→Act→World→Prop}
noncomputable def ZaC.B:Code:=Tryz.f110.body.getD .skip
noncomputable def ZaC.rs (r:LL×LL):List CV:=[.row true 68 r.1]
noncomputable def ZaC.p1 (N:Nat) (i1:Nat) (n_38:Int) (st:LL):Option (LL×LL):=
 getE (st[i1]?) Zby fun x39 x40 x41 x42 x43 x44 x45 x46 x47 x48 x49 x50 x51 x52 x53 x54 x55 x56 x57 x58 x59 x60 x61 x62 x63 x64 x65 x66 x67 x68 x69 x70 x71 x72 x73 x74=>
 chk (0≤n_38)<|
 chk ((Int.toNat n_38)≤(List.length x74))<|
 chk (List.length ([]++(List.take (Int.toNat n_38) x74))*96≤140737488355328)<|
 chk (((0+(Int.toNat n_38))+((List.length x74)-(Int.toNat n_38)))≤(List.length x74))<|
 chk (List.length ([]++(List.take ((List.length x74)-(Int.toNat n_38)) (List.drop (0+(Int.toNat n_38)) x74)))*96≤140737488355328)<|
 some ([]++(List.take (Int.toNat n_38) x74),List.set st i1 [L.int .i64 x39,L.int .i64 x40,L.int .i64 x41,L.int .i64 x42,L.bool x43,L.sl 2 x44,L.sl 33 x45,L.arr .u64 4 x46,L.arr .u64 4 x47,L.int .i64 x48,L.arr .u8 32 x49,L.arr .u8 32 x50,L.int .i64 x51,L.int .i64 x52,L.int .i64 x53,L.int .i64 x54,L.int .i64 x55,L.int .i64 x56,L.int .i64 x57,L.int .i64 x58,L.arr .u8 32 x59,L.sl 1 x60,L.arr .u64 4 x61,L.int .i64 x62,L.int .i64 x63,L.int .i64 x64,L.int .i64 x65,L.int .i64 x66,L.arr .u8 32 x67,L.sl 1 x68,L.arr .u64 4 x69,L.ptr x70,L.int .i64 x71,L.int .i64 x72,L.int .i64 x73,L.own true 68 ([]++(List.take ((List.length x74)-(Int.toNat n_38)) (List.drop (0+(Int.toNat n_38)) x74)))])
noncomputable def ZaC (N:Nat) (s_0:Option Nat) (st:LL):Option (LL×LL):=
 optE s_0 fun i1=>
 getE (st[i1]?) Zby fun x2 x3 x4 x5 x6 x7 x8 x9 x10 x11 x12 x13 x14 x15 x16 x17 x18 x19 x20 x21 x22 x23 x24 x25 x26 x27 x28 x29 x30 x31 x32 x33 x34 x35 x36 x37=>
 if (x34==3)=true then
  ZaC.p1 N i1 (len x37) st
 else
 ZaC.p1 N i1 (if (0:Int)>(w64 ((len x37)-x36)) then 0 else (w64 ((len x37)-x36))) st
noncomputable def ZaC.p1.S (i1:Nat) (n_38:Int) (st:LL):S:=mkS 44 [(0,sP (some i1)),(3,sI n_38)] [] st
theorem ZaC.p1_ok {i1 n_38 st r} (h:ZaC.p1 N i1 n_38 st=some r) (hE:En Tryz.f110 g0 w0 (ZaC.rs r) r.2 R):At g0 w0 (ZaC.p1.S i1 n_38 st) (XK Tryz.prog R [.c (csub ZaC.B [1,1,1])]):=by
 unfold ZaC.p1 at h
 obtain ⟨x39,x40,x41,x42,x43,x44,x45,x46,x47,x48,x49,x50,x51,x52,x53,x54,x55,x56,x57,x58,x59,x60,x61,x62,x63,x64,x65,x66,x67,x68,x69,x70,x71,x72,x73,x74,c4,h1⟩:=Zbv h
 obtain ⟨c5,c6,c7,c8,c9,h2⟩:=ck5 h1
 obtain rfl:=Zac h2
 exact af fol hE [.r [(3,{oc:=[L.int .i64 x39,L.int .i64 x40,L.int .i64 x41,L.int .i64 x42,L.bool x43,L.sl 2 x44,L.sl 33 x45,L.arr .u64 4 x46,L.arr .u64 4 x47,L.int .i64 x48,L.arr .u8 32 x49,L.arr .u8 32 x50,L.int .i64 x51,L.int .i64 x52,L.int .i64 x53,L.int .i64 x54,L.int .i64 x55,L.int .i64 x56,L.int .i64 x57,L.int .i64 x58,L.arr .u8 32 x59,L.sl 1 x60,L.arr .u64 4 x61,L.int .i64 x62,L.int .i64 x63,L.int .i64 x64,L.int .i64 x65,L.int .i64 x66,L.arr .u8 32 x67,L.sl 1 x68,L.arr .u64 4 x69,L.ptr x70,L.int .i64 x71,L.int .i64 x72,L.int .i64 x73,L.own true 68 x74]}),(5,{oc:=[L.int .i64 x39,L.int .i64 x40,L.int .i64 x41,L.int .i64 x42,L.bool x43,L.sl 2 x44,L.sl 33 x45,L.arr .u64 4 x46,L.arr .u64 4 x47,L.int .i64 x48,L.arr .u8 32 x49,L.arr .u8 32 x50,L.int .i64 x51,L.int .i64 x52,L.int .i64 x53,L.int .i64 x54,L.int .i64 x55,L.int .i64 x56,L.int .i64 x57,L.int .i64 x58,L.arr .u8 32 x59,L.sl 1 x60,L.arr .u64 4 x61,L.int .i64 x62,L.int .i64 x63,L.int .i64 x64,L.int .i64 x65,L.int .i64 x66,L.arr .u8 32 x67,L.sl 1 x68,L.arr .u64 4 x69,L.ptr x70,L.int .i64 x71,L.int .i64 x72,L.int .i64 x73,L.own true 68 x74]}),(6,{oc:=[L.int .i64 x39,L.int .i64 x40,L.int .i64 x41,L.int .i64 x42,L.bool x43,L.sl 2 x44,L.sl 33 x45,L.arr .u64 4 x46,L.arr .u64 4 x47,L.int .i64 x48,L.arr .u8 32 x49,L.arr .u8 32 x50,L.int .i64 x51,L.int .i64 x52,L.int .i64 x53,L.int .i64 x54,L.int .i64 x55,L.int .i64 x56,L.int .i64 x57,L.int .i64 x58,L.arr .u8 32 x59,L.sl 1 x60,L.arr .u64 4 x61,L.int .i64 x62,L.int .i64 x63,L.int .i64 x64,L.int .i64 x65,L.int .i64 x66,L.arr .u8 32 x67,L.sl 1 x68,L.arr .u64 4 x69,L.ptr x70,L.int .i64 x71,L.int .i64 x72,L.int .i64 x73,L.own true 68 x74],wm:=2})],.r [(4,{oc:=[L.int .i64 x39,L.int .i64 x40,L.int .i64 x41,L.int .i64 x42,L.bool x43,L.sl 2 x44,L.sl 33 x45,L.arr .u64 4 x46,L.arr .u64 4 x47,L.int .i64 x48,L.arr .u8 32 x49,L.arr .u8 32 x50,L.int .i64 x51,L.int .i64 x52,L.int .i64 x53,L.int .i64 x54,L.int .i64 x55,L.int .i64 x56,L.int .i64 x57,L.int .i64 x58,L.arr .u8 32 x59,L.sl 1 x60,L.arr .u64 4 x61,L.int .i64 x62,L.int .i64 x63,L.int .i64 x64,L.int .i64 x65,L.int .i64 x66,L.arr .u8 32 x67,L.sl 1 x68,L.arr .u64 4 x69,L.ptr x70,L.int .i64 x71,L.int .i64 x72,L.int .i64 x73,L.own true 68 x74]}),(6,{oc:=[L.int .i64 x39,L.int .i64 x40,L.int .i64 x41,L.int .i64 x42,L.bool x43,L.sl 2 x44,L.sl 33 x45,L.arr .u64 4 x46,L.arr .u64 4 x47,L.int .i64 x48,L.arr .u8 32 x49,L.arr .u8 32 x50,L.int .i64 x51,L.int .i64 x52,L.int .i64 x53,L.int .i64 x54,L.int .i64 x55,L.int .i64 x56,L.int .i64 x57,L.int .i64 x58,L.arr .u8 32 x59,L.sl 1 x60,L.arr .u64 4 x61,L.int .i64 x62,L.int .i64 x63,L.int .i64 x64,L.int .i64 x65,L.int .i64 x66,L.arr .u8 32 x67,L.sl 1 x68,L.arr .u64 4 x69,L.ptr x70,L.int .i64 x71,L.int .i64 x72,L.int .i64 x73,L.own true 68 x74]}),(7,{oc:=[L.int .i64 x39,L.int .i64 x40,L.int .i64 x41,L.int .i64 x42,L.bool x43,L.sl 2 x44,L.sl 33 x45,L.arr .u64 4 x46,L.arr .u64 4 x47,L.int .i64 x48,L.arr .u8 32 x49,L.arr .u8 32 x50,L.int .i64 x51,L.int .i64 x52,L.int .i64 x53,L.int .i64 x54,L.int .i64 x55,L.int .i64 x56,L.int .i64 x57,L.int .i64 x58,L.arr .u8 32 x59,L.sl 1 x60,L.arr .u64 4 x61,L.int .i64 x62,L.int .i64 x63,L.int .i64 x64,L.int .i64 x65,L.int .i64 x66,L.arr .u8 32 x67,L.sl 1 x68,L.arr .u64 4 x69,L.ptr x70,L.int .i64 x71,L.int .i64 x72,L.int .i64 x73,L.own true 68 x74],wm:=3}),(10,{oc:=[L.int .i64 x39,L.int .i64 x40,L.int .i64 x41,L.int .i64 x42,L.bool x43,L.sl 2 x44,L.sl 33 x45,L.arr .u64 4 x46,L.arr .u64 4 x47,L.int .i64 x48,L.arr .u8 32 x49,L.arr .u8 32 x50,L.int .i64 x51,L.int .i64 x52,L.int .i64 x53,L.int .i64 x54,L.int .i64 x55,L.int .i64 x56,L.int .i64 x57,L.int .i64 x58,L.arr .u8 32 x59,L.sl 1 x60,L.arr .u64 4 x61,L.int .i64 x62,L.int .i64 x63,L.int .i64 x64,L.int .i64 x65,L.int .i64 x66,L.arr .u8 32 x67,L.sl 1 x68,L.arr .u64 4 x69,L.ptr x70,L.int .i64 x71,L.int .i64 x72,L.int .i64 x73,L.own true 68 x74],mv:=[40]})],.r []] [] 0 [0] (aO c4 c5 (Nat.zero_le (Int.toNat n_38)) c6 c4 z0 c6 (aO c4 c7 c4 c5 c6 (Nat.le_refl (List.length x74)) c4 (aO c8 c4 c9 c4 z0 (eN (List.length ([]++(List.take ((List.length x74)-(Int.toNat n_38)) (List.drop (0+(Int.toNat n_38)) x74))))) z0 (eN (List.length ([]++(List.take (Int.toNat n_38) x74)))))))
theorem ZaC.snd {s_0:Option Nat} {st:LL} {r:LL×LL} (h:ZaC N s_0 st=some r):Snd Tryz.prog 110 [.one (L.ptr s_0)] st (ZaC.rs r) r.2:=
 sO ZaC.B Tryz.func110 fun g0 w0 R hE=>by
  unfold ZaC at h
  obtain ⟨i1,rfl,h3⟩:=Zad h
  obtain ⟨x2,x3,x4,x5,x6,x7,x8,x9,x10,x11,x12,x13,x14,x15,x16,x17,x18,x19,x20,x21,x22,x23,x24,x25,x26,x27,x28,x29,x30,x31,x32,x33,x34,x35,x36,x37,c2,h4⟩:=Zbv h3
  let o1:List PS:=[.r [(0,{m:=2})],.d {ds:=[(3,{oc:=[L.int .i64 x2,L.int .i64 x3,L.int .i64 x4,L.int .i64 x5,L.bool x6,L.sl 2 x7,L.sl 33 x8,L.arr .u64 4 x9,L.arr .u64 4 x10,L.int .i64 x11,L.arr .u8 32 x12,L.arr .u8 32 x13,L.int .i64 x14,L.int .i64 x15,L.int .i64 x16,L.int .i64 x17,L.int .i64 x18,L.int .i64 x19,L.int .i64 x20,L.int .i64 x21,L.arr .u8 32 x22,L.sl 1 x23,L.arr .u64 4 x24,L.int .i64 x25,L.int .i64 x26,L.int .i64 x27,L.int .i64 x28,L.int .i64 x29,L.arr .u8 32 x30,L.sl 1 x31,L.arr .u64 4 x32,L.ptr x33,L.int .i64 x34,L.int .i64 x35,L.int .i64 x36,L.own true 68 x37]}),(8,{oc:=[L.int .i64 x2,L.int .i64 x3,L.int .i64 x4,L.int .i64 x5,L.bool x6,L.sl 2 x7,L.sl 33 x8,L.arr .u64 4 x9,L.arr .u64 4 x10,L.int .i64 x11,L.arr .u8 32 x12,L.arr .u8 32 x13,L.int .i64 x14,L.int .i64 x15,L.int .i64 x16,L.int .i64 x17,L.int .i64 x18,L.int .i64 x19,L.int .i64 x20,L.int .i64 x21,L.arr .u8 32 x22,L.sl 1 x23,L.arr .u64 4 x24,L.int .i64 x25,L.int .i64 x26,L.int .i64 x27,L.int .i64 x28,L.int .i64 x29,L.arr .u8 32 x30,L.sl 1 x31,L.arr .u64 4 x32,L.ptr x33,L.int .i64 x34,L.int .i64 x35,L.int .i64 x36,L.own true 68 x37]})],hv:=0,Hs:=[]},.r [(3,{oc:=[L.int .i64 x2,L.int .i64 x3,L.int .i64 x4,L.int .i64 x5,L.bool x6,L.sl 2 x7,L.sl 33 x8,L.arr .u64 4 x9,L.arr .u64 4 x10,L.int .i64 x11,L.arr .u8 32 x12,L.arr .u8 32 x13,L.int .i64 x14,L.int .i64 x15,L.int .i64 x16,L.int .i64 x17,L.int .i64 x18,L.int .i64 x19,L.int .i64 x20,L.int .i64 x21,L.arr .u8 32 x22,L.sl 1 x23,L.arr .u64 4 x24,L.int .i64 x25,L.int .i64 x26,L.int .i64 x27,L.int .i64 x28,L.int .i64 x29,L.arr .u8 32 x30,L.sl 1 x31,L.arr .u64 4 x32,L.ptr x33,L.int .i64 x34,L.int .i64 x35,L.int .i64 x36,L.own true 68 x37]})]]
  refine iteB h4 (fun c3 h5=>?_) (fun c3 h6=>?_)
  ·exact aqd fol (o1 ++ [.c true,.r [(3,{oc:=[L.int .i64 x2,L.int .i64 x3,L.int .i64 x4,L.int .i64 x5,L.bool x6,L.sl 2 x7,L.sl 33 x8,L.arr .u64 4 x9,L.arr .u64 4 x10,L.int .i64 x11,L.arr .u8 32 x12,L.arr .u8 32 x13,L.int .i64 x14,L.int .i64 x15,L.int .i64 x16,L.int .i64 x17,L.int .i64 x18,L.int .i64 x19,L.int .i64 x20,L.int .i64 x21,L.arr .u8 32 x22,L.sl 1 x23,L.arr .u64 4 x24,L.int .i64 x25,L.int .i64 x26,L.int .i64 x27,L.int .i64 x28,L.int .i64 x29,L.arr .u8 32 x30,L.sl 1 x31,L.arr .u64 4 x32,L.ptr x33,L.int .i64 x34,L.int .i64 x35,L.int .i64 x36,L.own true 68 x37]})],.s 1]) [0,3] [] (aL c2 c2 c2 c3 c2) (ZaC.p1_ok h5 hE)
  ·exact aqd fol (o1 ++ [.c false,.s 1]) [0,3] [] (aK c2 c2 c2 c3) (ZaC.p1_ok h6 hE)
noncomputable def ZaJ.B:Code:=Tryz.f60.body.getD .skip
noncomputable def ZaJ.rs (r:LL×Int×LL):List CV:=[.row true 68 r.1,oI r.2.1]
noncomputable def ZaJ.p1 (N:Nat) (i1:Nat) (more_2:Bool) (x34 e_42:Int) (st43:LL):Option (LL×Int×LL):=
 if (e_42 != 0)=true then
  optE (ZbA N (some i1) e_42 st43) fun (x44,x45,st46)=>
  some (x44,x45,st46)
 else
 if (!more_2)=true then
  getE (st43[i1]?) Zby fun x47 x48 x49 x50 x51 x52 x53 x54 x55 x56 x57 x58 x59 x60 x61 x62 x63 x64 x65 x66 x67 x68 x69 x70 x71 x72 x73 x74 x75 x76 x77 x78 x79 x80 x81 x82=>
  if (x79==x34)=true then
   optE (ZbA N (some i1) 5 st43) fun (x83,x84,st85)=>
   some (x83,x84,st85)
  else
  optE (ZaC N (some i1) st43) fun (x86,st87)=>
  some (x86,0,st87)
 else
 optE (ZaC N (some i1) st43) fun (x88,st89)=>
 some (x88,0,st89)
noncomputable def ZaJ (N:Nat) (s_0:Option Nat) (now_1:Int) (more_2:Bool) (list_3 st:LL):Option (LL×Int×LL):=
 if (Option.isNone s_0)=true then
  some ([],2,st)
 else
 optE s_0 fun i1=>
 getE (st[i1]?) Zby fun x2 x3 x4 x5 x6 x7 x8 x9 x10 x11 x12 x13 x14 x15 x16 x17 x18 x19 x20 x21 x22 x23 x24 x25 x26 x27 x28 x29 x30 x31 x32 x33 x34 x35 x36 x37=>
 if (x34==0)=true then
  some ([],9,st)
 else
 if (x34==3)=true then
  some ([],9,st)
 else
 if (decide (now_1<0))=true then
  some ([],1,st)
 else
 if (decide (now_1>4294967296))=true then
  some ([],1,st)
 else
 if (decide ((len list_3)>64))=true then
  some ([],1,st)
 else
 if (x34==1)=true then
  optE (ZaQ N (some i1) now_1 list_3 st) fun (x38,st39)=>
  ZaJ.p1 N i1 more_2 x34 x38 st39
 else
 optE (Zan N (some i1) now_1 list_3 st) fun (x40,st41)=>
 ZaJ.p1 N i1 more_2 x34 x40 st41
noncomputable def ZaJ.p1.S (i1:Nat) (more_2:Bool) (x34 e_42:Int) (st43:LL):S:=mkS 77 [(0,sP (some i1)),(2,.one (.l (L.bool more_2))),(10,sI x34),(11,sI e_42)] [] st43
theorem ZaJ.p1_ok {i1 more_2 x34 e_42 st43 r} (h:ZaJ.p1 N i1 more_2 x34 e_42 st43=some r) (hE:En Tryz.f60 g0 w0 (ZaJ.rs r) r.2.2 R):At g0 w0 (ZaJ.p1.S i1 more_2 x34 e_42 st43) (XK Tryz.prog R [.c (csub ZaJ.B [1,1,1,1,1])]):=by
 unfold ZaJ.p1 at h
 refine iteB h (fun c12 h1=>?_) (fun c12 h2=>?_)
 ·obtain ⟨⟨x44,x45,st46⟩,c13,h3⟩:=Zad h1
  obtain rfl:=Zac h3
  exact af fol hE [.r [],.c true,.r [(2,{rs:=[.row true 68 x44,oI x45],st:=st46,ns:=[58]})]] [] 0 [0] (aK c12 (ZbA.snd c13) z0 (eN (List.length x44)))
 ·refine iteB h2 (fun c14 h4=>?_) (fun c14 h5=>?_)
  ·obtain ⟨x47,x48,x49,x50,x51,x52,x53,x54,x55,x56,x57,x58,x59,x60,x61,x62,x63,x64,x65,x66,x67,x68,x69,x70,x71,x72,x73,x74,x75,x76,x77,x78,x79,x80,x81,x82,c15,h6⟩:=Zbv h4
   let o1:List PS:=[.r [],.c false,.r [(6,{oc:=[L.int .i64 x47,L.int .i64 x48,L.int .i64 x49,L.int .i64 x50,L.bool x51,L.sl 2 x52,L.sl 33 x53,L.arr .u64 4 x54,L.arr .u64 4 x55,L.int .i64 x56,L.arr .u8 32 x57,L.arr .u8 32 x58,L.int .i64 x59,L.int .i64 x60,L.int .i64 x61,L.int .i64 x62,L.int .i64 x63,L.int .i64 x64,L.int .i64 x65,L.int .i64 x66,L.arr .u8 32 x67,L.sl 1 x68,L.arr .u64 4 x69,L.int .i64 x70,L.int .i64 x71,L.int .i64 x72,L.int .i64 x73,L.int .i64 x74,L.arr .u8 32 x75,L.sl 1 x76,L.arr .u64 4 x77,L.ptr x78,L.int .i64 x79,L.int .i64 x80,L.int .i64 x81,L.own true 68 x82]})]]
   have t1 {Q:Prop} (q:Q):=aO c12 (not_false (Zbd c14)) (not_false (Zbd c14)) (not_false (Zbd c14)) (not_false (Zbd c14)) c15 (not_false (Zbd c14)) (aJ (not_false (Zbd c14)) (not_false (Zbd c14)) q)
   refine iteB h6 (fun c16 h7=>?_) (fun c16 h8=>?_)
   ·obtain ⟨⟨x83,x84,st85⟩,c17,h9⟩:=Zad h7
    obtain rfl:=Zac h9
    exact af fol hE (o1 ++ [.c true,.r [(1,{rs:=[.row true 68 x83,oI x84],st:=st85,ns:=[72]})]]) [] 0 [0] (t1 (aK c16 (ZbA.snd c17) z0 (eN (List.length x83))))
   ·obtain ⟨⟨x86,st87⟩,c18,h10⟩:=Zad h8
    obtain rfl:=Zac h10
    exact af fol hE (o1 ++ [.c false,.r [(1,{rs:=[.row true 68 x86],st:=st87,ns:=[76]})]]) [] 0 [0] (t1 (aK c16 (ZaC.snd c18) z0 (eN (List.length x86))))
  ·obtain ⟨⟨x88,st89⟩,c19,h11⟩:=Zad h5
   obtain rfl:=Zac h11
   exact af fol hE [.r [],.c false,.r [(3,wF),(4,wF),(5,wF),(6,wF),(7,wF),(8,wF),(9,yF)],.c false,.r [(1,{rs:=[.row true 68 x88],st:=st89,ns:=[76]})]] [] 0 [0] (aO c12 (not_true (ZaZ c14)) (not_true (ZaZ c14)) (not_true (ZaZ c14)) (not_true (ZaZ c14)) (not_true (ZaZ c14)) (not_true (ZaZ c14)) (aL (not_true (ZaZ c14)) eF (ZaC.snd c19) z0 (eN (List.length x88))))
theorem ZaJ.snd {s_0:Option Nat} {now_1:Int} {more_2:Bool} {list_3:LL} {st:LL} {r:LL×Int×LL} (h:ZaJ N s_0 now_1 more_2 list_3 st=some r):Snd Tryz.prog 60 [.one (L.ptr s_0),oI now_1,oB more_2,.one (L.sl 68 list_3)] st (ZaJ.rs r) r.2.2:=
 sO ZaJ.B Tryz.func60 fun g0 w0 R hE=>by
  unfold ZaJ at h
  let o2:List PS:=[.r [(0,{m:=2})],.r []]
  refine iteB h (fun c1 h12=>?_) (fun c1 h13=>?_)
  ·obtain rfl:=Zac h12
   exact af fol hE (o2 ++ [.c true,.r [(0,{m:=2})]]) [] 0 [0] c1
  ·obtain ⟨i1,rfl,h14⟩:=Zad h13
   obtain ⟨x2,x3,x4,x5,x6,x7,x8,x9,x10,x11,x12,x13,x14,x15,x16,x17,x18,x19,x20,x21,x22,x23,x24,x25,x26,x27,x28,x29,x30,x31,x32,x33,x34,x35,x36,x37,c3,h15⟩:=Zbv h14
   have t2 {Q:Prop} (q:Q):=aJ c1 c3 q
   refine iteB h15 (fun c4 h16=>?_) (fun c4 h17=>?_)
   ·obtain rfl:=Zac h16
    exact af fol hE (o2 ++ [.c false,.r [(3,{oc:=[L.int .i64 x2,L.int .i64 x3,L.int .i64 x4,L.int .i64 x5,L.bool x6,L.sl 2 x7,L.sl 33 x8,L.arr .u64 4 x9,L.arr .u64 4 x10,L.int .i64 x11,L.arr .u8 32 x12,L.arr .u8 32 x13,L.int .i64 x14,L.int .i64 x15,L.int .i64 x16,L.int .i64 x17,L.int .i64 x18,L.int .i64 x19,L.int .i64 x20,L.int .i64 x21,L.arr .u8 32 x22,L.sl 1 x23,L.arr .u64 4 x24,L.int .i64 x25,L.int .i64 x26,L.int .i64 x27,L.int .i64 x28,L.int .i64 x29,L.arr .u8 32 x30,L.sl 1 x31,L.arr .u64 4 x32,L.ptr x33,L.int .i64 x34,L.int .i64 x35,L.int .i64 x36,L.own true 68 x37]}),(6,wF),(7,wF),(8,wF),(9,wF),(10,wF)],.c true,.r [(0,{m:=2})]]) [] 0 [0] (t2 (aN c4 c4 c4 c4 c4 c4 eT))
   ·let o3:List PS:=o2 ++ [.c false,.r [(3,{oc:=[L.int .i64 x2,L.int .i64 x3,L.int .i64 x4,L.int .i64 x5,L.bool x6,L.sl 2 x7,L.sl 33 x8,L.arr .u64 4 x9,L.arr .u64 4 x10,L.int .i64 x11,L.arr .u8 32 x12,L.arr .u8 32 x13,L.int .i64 x14,L.int .i64 x15,L.int .i64 x16,L.int .i64 x17,L.int .i64 x18,L.int .i64 x19,L.int .i64 x20,L.int .i64 x21,L.arr .u8 32 x22,L.sl 1 x23,L.arr .u64 4 x24,L.int .i64 x25,L.int .i64 x26,L.int .i64 x27,L.int .i64 x28,L.int .i64 x29,L.arr .u8 32 x30,L.sl 1 x31,L.arr .u64 4 x32,L.ptr x33,L.int .i64 x34,L.int .i64 x35,L.int .i64 x36,L.own true 68 x37]}),(9,{oc:=[L.int .i64 x2,L.int .i64 x3,L.int .i64 x4,L.int .i64 x5,L.bool x6,L.sl 2 x7,L.sl 33 x8,L.arr .u64 4 x9,L.arr .u64 4 x10,L.int .i64 x11,L.arr .u8 32 x12,L.arr .u8 32 x13,L.int .i64 x14,L.int .i64 x15,L.int .i64 x16,L.int .i64 x17,L.int .i64 x18,L.int .i64 x19,L.int .i64 x20,L.int .i64 x21,L.arr .u8 32 x22,L.sl 1 x23,L.arr .u64 4 x24,L.int .i64 x25,L.int .i64 x26,L.int .i64 x27,L.int .i64 x28,L.int .i64 x29,L.arr .u8 32 x30,L.sl 1 x31,L.arr .u64 4 x32,L.ptr x33,L.int .i64 x34,L.int .i64 x35,L.int .i64 x36,L.own true 68 x37]}),(11,yF)]]
    have t3 {Q:Prop} (q:Q):=t2 (aO c4 c4 c4 c4 c3 c4 c4 q)
    refine iteB h17 (fun c5 h18=>?_) (fun c5 h19=>?_)
    ·obtain rfl:=Zac h18
     exact af fol hE (o3 ++ [.c true,.r [(0,{m:=2})]]) [] 0 [0] (t3 c5)
    ·refine iteB h19 (fun c6 h20=>?_) (fun c6 h21=>?_)
     ·obtain rfl:=Zac h20
      exact af fol hE (o3 ++ [.c false,.r [(3,wF),(4,wF),(7,wF),(8,wF),(9,wF)],.c true,.r [(0,{m:=2})]]) [] 0 [0] (t3 (aO c5 c6 c6 c6 eT eT eT (aI eT eT)))
     ·have t4 {Q:Prop} (q:Q):=t3 (aL c5 c6 c6 c6 q)
      refine iteB h21 (fun c7 h22=>?_) (fun c7 h23=>?_)
      ·obtain rfl:=Zac h22
       exact af fol hE (o3 ++ [.c false,.r [(5,yF),(7,wF),(8,wF),(9,wF)],.c true,.r [(0,{m:=2})]]) [] 0 [0] (t4 (aL c7 c7 c7 c7 eT))
      ·let o4:List PS:=o3 ++ [.c false,.r [(5,yF),(10,yF)]]
       refine iteB h23 (fun c8 h24=>?_) (fun c8 h25=>?_)
       ·obtain rfl:=Zac h24
        exact af fol hE (o4 ++ [.c true,.r [(0,{m:=2})]]) [] 0 [0] (t4 (aL c7 c7 c7 c7 c8))
       ·let o5:List PS:=o4 ++ [.c false,.r [(3,{oc:=[L.int .i64 x2,L.int .i64 x3,L.int .i64 x4,L.int .i64 x5,L.bool x6,L.sl 2 x7,L.sl 33 x8,L.arr .u64 4 x9,L.arr .u64 4 x10,L.int .i64 x11,L.arr .u8 32 x12,L.arr .u8 32 x13,L.int .i64 x14,L.int .i64 x15,L.int .i64 x16,L.int .i64 x17,L.int .i64 x18,L.int .i64 x19,L.int .i64 x20,L.int .i64 x21,L.arr .u8 32 x22,L.sl 1 x23,L.arr .u64 4 x24,L.int .i64 x25,L.int .i64 x26,L.int .i64 x27,L.int .i64 x28,L.int .i64 x29,L.arr .u8 32 x30,L.sl 1 x31,L.arr .u64 4 x32,L.ptr x33,L.int .i64 x34,L.int .i64 x35,L.int .i64 x36,L.own true 68 x37]})],.r [],.r []]
        refine iteB h25 (fun c9 h26=>?_) (fun c9 h27=>?_)
        ·obtain ⟨⟨x38,st39⟩,c10,h28⟩:=Zad h26
         exact aq fol (o5 ++ [.c true,.r [(3,{rs:=[oI x38],st:=st39})],.s 1]) [0,2,10,11] [] (t4 (aO c7 c7 c7 c7 c8 c3 c9 (ZaQ.snd c10))) (ZaJ.p1_ok h28 hE)
        ·obtain ⟨⟨x40,st41⟩,c11,h29⟩:=Zad h27
         exact aq fol (o5 ++ [.c false,.r [(3,{rs:=[oI x40],st:=st41})],.s 1]) [0,2,10,11] [] (t4 (aO c7 c7 c7 c7 c8 c3 c9 (Zan.snd c11))) (ZaJ.p1_ok h29 hE)
noncomputable def ZbJ.B:Code:=Tryz.f62.body.getD .skip
noncomputable def ZbJ.rs (r:Int):List CV:=[oI r]
noncomputable def ZbJ (N:Nat) (s_0:Zbg):Option Int:=
 some s_0.phase
theorem ZbJ.snd {s_0:Zbg} {r:Int} (h:ZbJ N s_0=some r):SndQ Tryz.prog 62 [.one (L.bx 172 s_0.ls)] (ZbJ.rs r):=fun st=>
 sO ZbJ.B Tryz.func62 fun g0 w0 R hE=>by
  unfold ZbJ at h
  obtain rfl:=Zac h
  exact af fol hE [.r [],.r [],.c false,.r [(3,{oe:=s_0.ls})]] [] 0 [] (aI eF (eO s_0.ls))
noncomputable def ZcJ.B:Code:=Tryz.f57.body.getD .skip
noncomputable def ZcJ.rs (r:Bool×LL):List CV:=[oB r.1]
noncomputable def ZcJ (N:Nat) (st:LL):Option (Bool×LL):=
 optE (ZdM N (Zag.mk 545259519 4 10 0 false [] [] [100,0,0,0] (List.replicate 4 0) (Zaa.mk 0 (List.replicate 32 0) (List.replicate 32 0) 0 0 0))) fun x1=>
 optE (ZcC N (Zag.mk 545259519 4 10 0 false [] [] [100,0,0,0] (List.replicate 4 0) (Zaa.mk 0 (List.replicate 32 0) (List.replicate 32 0) 0 0 0)) (Zdn.mk x1 [2,0,0,0]) (Zbj.mk 0 2 0) 4 100 st) fun (x2,x3,st4)=>
 optE (ZaJ N x2 100 false [] st4) fun (x5,x6,st7)=>
 if (x3==0)=true then
  if (x6==5)=true then
   optE x2 fun i8=>
   getE (st7[i8]?) Zby fun x9 x10 x11 x12 x13 x14 x15 x16 x17 x18 x19 x20 x21 x22 x23 x24 x25 x26 x27 x28 x29 x30 x31 x32 x33 x34 x35 x36 x37 x38 x39 x40 x41 x42 x43 x44=>
   optE x40 fun i45=>
   getE (st7[i45]?) Zbm fun x46=>
   optE (ZbJ N (Zbg.mk (Zag.mk x9 x10 x11 x12 x13 x14 x15 x16 x17 (Zaa.mk x18 x19 x20 x21 x22 x23)) (Zba.mk (Zax.mk (Zbb.mk x24 x25 x26 x27 x28) x29 x30) x31) (Zba.mk (Zax.mk (Zbb.mk x32 x33 x34 x35 x36) x37 x38) x39) x46 x41 x42 x43 x44)) fun x47=>
   if (x47==0)=true then
    optE (Zcm N (Zbj.mk 0 2 0) 10) fun x48=>
    some (x48==31,st7)
   else
   some (false,st7)
  else
  some (false,st7)
 else
 some (false,st7)
theorem ZcJ.snd {st:LL} {r:Bool×LL} (h:ZcJ N st=some r):Snd Tryz.prog 57 [] st (ZcJ.rs r) r.2:=
 sO ZcJ.B Tryz.func57 fun g0 w0 R hE=>by
  unfold ZcJ at h
  obtain ⟨x1,c1,h1⟩:=Zad h
  obtain ⟨⟨x2,x3,st4⟩,c2,h2⟩:=Zad h1
  obtain ⟨⟨x5,x6,st7⟩,c3,h3⟩:=Zad h2
  let o1:List PS:=[.r [],.r [(0,{m:=3})]]
  have t1 {Q:Prop} (q:Q):=aJ (ZdM.snd c1) (ZcC.snd c2) q
  refine iteB h3 (fun c4 h4=>?_) (fun c4 h5=>?_)
  ·refine iteB h4 (fun c5 h6=>?_) (fun c5 h7=>?_)
   ·obtain ⟨i8,rfl,h8⟩:=Zad h6
    obtain ⟨x9,x10,x11,x12,x13,x14,x15,x16,x17,x18,x19,x20,x21,x22,x23,x24,x25,x26,x27,x28,x29,x30,x31,x32,x33,x34,x35,x36,x37,x38,x39,x40,x41,x42,x43,x44,c7,h9⟩:=Zbv h8
    obtain ⟨i45,rfl,h10⟩:=Zad h9
    obtain ⟨x46,c9,h11⟩:=ZbC h10
    obtain ⟨x47,c10,h12⟩:=Zad h11
    let o2:List PS:=o1 ++ [.d {ds:=[(2,q1 [.agg x1.ls]),(3,{m:=3}),(6,{rs:=[.one (L.ptr (some i8)),oI x3],st:=st4})],hv:=64,Hs:=[64]},.r [(1,{rs:=[.row true 68 x5,oI x6],st:=st7,ns:=[20]})]]
    have t2 {Q:Prop} (q:Q):=t1 (aO (Snd.nl (cs:=[.one (L.ptr (some i8)),oI 100,oB false]) (ZaJ.snd c3)) c4 c4 c4 c5 c5 (bO 172 c7 ((bP (bP (bP (bP (bP (bS (bS (bP (bP (bP (bP (bP (bP (bP (bP (bP (bP (bP (bP (bP (bP (bS (bP (bP (bP (bP (bP (bP (bP (bS (bP (bC 6 c9 (Zay.bv x46) (bP (bP (bP (bW bN)))))))))))))))))))))))))))))))))))):BVs st7 [L.int .i64 x9,L.int .i64 x10,L.int .i64 x11,L.int .i64 x12,L.bool x13,L.sl 2 x14,L.sl 33 x15,L.arr .u64 4 x16,L.arr .u64 4 x17,L.int .i64 x18,L.arr .u8 32 x19,L.arr .u8 32 x20,L.int .i64 x21,L.int .i64 x22,L.int .i64 x23,L.int .i64 x24,L.int .i64 x25,L.int .i64 x26,L.int .i64 x27,L.int .i64 x28,L.arr .u8 32 x29,L.sl 1 x30,L.arr .u64 4 x31,L.int .i64 x32,L.int .i64 x33,L.int .i64 x34,L.int .i64 x35,L.int .i64 x36,L.arr .u8 32 x37,L.sl 1 x38,L.arr .u64 4 x39,L.ptr (some i45),L.int .i64 x41,L.int .i64 x42,L.int .i64 x43,L.own true 68 x44] (Zbg.ls (Zbg.mk (Zag.mk x9 x10 x11 x12 x13 x14 x15 x16 x17 (Zaa.mk x18 x19 x20 x21 x22 x23)) (Zba.mk (Zax.mk (Zbb.mk x24 x25 x26 x27 x28) x29 x30) x31) (Zba.mk (Zax.mk (Zbb.mk x32 x33 x34 x35 x36) x37 x38) x39) x46 x41 x42 x43 x44)))) (aK (ZbJ.snd c10) c5 c5 q))
    refine iteB h12 (fun c11 h13=>?_) (fun c11 h14=>?_)
    ·obtain ⟨x48,c12,h15⟩:=Zad h13
     obtain rfl:=Zac h15
     exact afd fol hE (o2 ++ [.r [(8,{rs:=[oI x47],m:=10,cv:=[.one (L.bx 172 (Zbg.ls (Zbg.mk (Zag.mk x9 x10 x11 x12 x13 x14 x15 x16 x17 (Zaa.mk x18 x19 x20 x21 x22 x23)) (Zba.mk (Zax.mk (Zbb.mk x24 x25 x26 x27 x28) x29 x30) x31) (Zba.mk (Zax.mk (Zbb.mk x32 x33 x34 x35 x36) x37 x38) x39) x46 x41 x42 x43 x44)))]}),(13,q1 [oI x48])]]) [] 0 [] (t2 (aL c11 c11 (Zcm.snd c12) c11 c11))
    ·obtain rfl:=Zac h14
     exact afd fol hE (o2 ++ [.r [(8,{rs:=[oI x47],m:=10,cv:=[.one (L.bx 172 (Zbg.ls (Zbg.mk (Zag.mk x9 x10 x11 x12 x13 x14 x15 x16 x17 (Zaa.mk x18 x19 x20 x21 x22 x23)) (Zba.mk (Zax.mk (Zbb.mk x24 x25 x26 x27 x28) x29 x30) x31) (Zba.mk (Zax.mk (Zbb.mk x32 x33 x34 x35 x36) x37 x38) x39) x46 x41 x42 x43 x44)))]}),(12,wF),(13,wF),(14,wF),(15,yF)]]) [] 0 [] (t2 (aK c11 c11 c11 c11))
   ·obtain rfl:=Zac h7
    exact afd fol hE (o1 ++ [.d {ds:=[(2,q1 [.agg x1.ls]),(3,{m:=3}),(6,{rs:=[.one (L.ptr x2),oI x3],st:=st4})],hv:=64,Hs:=[64]},.r [(1,{rs:=[.row true 68 x5,oI x6],st:=st7,ns:=[20]})],.r [(7,wF),(8,wF),(9,wF),(10,yF),(12,wF),(13,wF),(14,wF),(15,yF)]]) [] 0 [] (t1 (aO (Snd.nl (cs:=[.one (L.ptr x2),oI 100,oB false]) (ZaJ.snd c3)) c4 c4 c4 c5 c5 c5 (aL c5 eF eF eF eF)))
  ·obtain rfl:=Zac h5
   exact afd fol hE (o1 ++ [.d {ds:=[(2,q1 [.agg x1.ls]),(3,{m:=3}),(6,{rs:=[.one (L.ptr x2),oI x3],st:=st4})],hv:=64,Hs:=[64]},.r [(1,{rs:=[.row true 68 x5,oI x6],st:=st7,ns:=[20]})],.r [(3,wF),(4,wF),(5,yF),(7,wF),(8,wF),(9,wF),(10,yF),(12,wF),(13,wF),(14,wF),(15,yF)]]) [] 0 [] (t1 (aO (Snd.nl (cs:=[.one (L.ptr x2),oI 100,oB false]) (ZaJ.snd c3)) c4 c4 c4 eF eF eF (aL eF eF eF eF eF)))
noncomputable def Zcn.B:Code:=Tryz.f99.body.getD .skip
noncomputable def Zcn.rs (r:Bool):List CV:=[oB r]
noncomputable def Zcn (N:Nat) (h_0:Zaa):Option Bool:=
 if (decide (h_0.Version≥(-2147483648)))=true then
  if (decide (h_0.Version≤2147483647))=true then
   if (decide (h_0.Time≥0))=true then
    if (decide (h_0.Time<4294967296))=true then
     if (decide (h_0.Bits≥0))=true then
      if (decide (h_0.Bits<4294967296))=true then
       if (decide (h_0.Nonce≥0))=true then
        some (decide (h_0.Nonce<4294967296))
       else
       some false
      else
      some false
     else
     some false
    else
    some false
   else
   some false
  else
  some false
 else
 some false
theorem Zcn.snd {h_0:Zaa} {r:Bool} (h:Zcn N h_0=some r):SndQ Tryz.prog 99 [.agg h_0.ls] (Zcn.rs r):=fun st=>
 sO Zcn.B Tryz.func99 fun g0 w0 R hE=>by
  unfold Zcn at h
  let o1:List PS:=[.r [],.r []]
  refine iteB h (fun c1 h1=>?_) (fun c1 h2=>?_)
  ·have t1 {Q:Prop} (q:Q):=aL c1 c1 c1 c1 q
   refine iteB h1 (fun c2 h3=>?_) (fun c2 h4=>?_)
   ·have t2 {Q:Prop} (q:Q):=t1 (aL c2 c2 c2 c2 q)
    refine iteB h3 (fun c3 h5=>?_) (fun c3 h6=>?_)
    ·have t3 {Q:Prop} (q:Q):=t2 (aM c3 c3 c3 c3 c3 q)
     refine iteB h5 (fun c4 h7=>?_) (fun c4 h8=>?_)
     ·have t4 {Q:Prop} (q:Q):=t3 (aL c4 c4 c4 c4 q)
      refine iteB h7 (fun c5 h9=>?_) (fun c5 h10=>?_)
      ·refine iteB h9 (fun c6 h11=>?_) (fun c6 h12=>?_)
       ·refine iteB h11 (fun c7 h13=>?_) (fun c7 h14=>?_)
        ·obtain rfl:=Zac h13
         exact af fol hE (o1 ++ [.r []]) [] 0 [] (t4 (aO c5 c5 c5 c5 c5 c6 c6 (aN c6 c6 c7 c7 c7 c7 c7)))
        ·obtain rfl:=Zac h14
         exact af fol hE (o1 ++ [.r [(36,wF),(37,wF),(38,wF),(39,wF),(40,yF)]]) [] 0 [] (t4 (aO c5 c5 c5 c5 c5 c6 c6 (aN c6 c6 c7 c7 c7 c7 c7)))
       ·obtain rfl:=Zac h12
        exact af fol hE (o1 ++ [.r [(31,wF),(32,wF),(33,wF),(34,yF),(36,wF),(37,wF),(38,wF),(39,wF),(40,yF)]]) [] 0 [] (t4 (aO c5 c5 c5 c5 c5 c6 c6 (aN c6 c6 eF eF eF eF eF)))
      ·obtain rfl:=Zac h10
       exact af fol hE (o1 ++ [.r [(25,wF),(26,wF),(27,wF),(28,wF),(29,yF),(31,wF),(32,wF),(33,wF),(34,yF),(36,wF),(37,wF),(38,wF),(39,wF),(40,yF)]]) [] 0 [] (t4 (aO c5 c5 c5 c5 c5 eF eF (aN eF eF eF eF eF eF eF)))
     ·obtain rfl:=Zac h8
      exact af fol hE (o1 ++ [.r [(20,wF),(21,wF),(22,wF),(23,yF),(25,wF),(26,wF),(27,wF),(28,wF),(29,yF),(31,wF),(32,wF),(33,wF),(34,yF),(36,wF),(37,wF),(38,wF),(39,wF),(40,yF)]]) [] 0 [] (t3 (aO c4 c4 c4 c4 eF eF eF (aO eF eF eF eF eF eF eF (aK eF eF eF eF))))
    ·obtain rfl:=Zac h6
     exact af fol hE (o1 ++ [.r [(14,wF),(15,wF),(16,wF),(17,wF),(18,yF),(20,wF),(21,wF),(22,wF),(23,yF),(25,wF),(26,wF),(27,wF),(28,wF),(29,yF),(31,wF),(32,wF),(33,wF),(34,yF),(36,wF),(37,wF),(38,wF),(39,wF),(40,yF)]]) [] 0 [] (t2 (aO c3 c3 c3 c3 c3 eF eF (aO eF eF eF eF eF eF eF (aO eF eF eF eF eF eF eF (aI eF eF)))))
   ·obtain rfl:=Zac h4
    exact af fol hE (o1 ++ [.r [(9,wF),(10,wF),(11,wF),(12,yF),(14,wF),(15,wF),(16,wF),(17,wF),(18,yF),(20,wF),(21,wF),(22,wF),(23,yF),(25,wF),(26,wF),(27,wF),(28,wF),(29,yF),(31,wF),(32,wF),(33,wF),(34,yF),(36,wF),(37,wF),(38,wF),(39,wF),(40,yF)]]) [] 0 [] (t1 (aO c2 c2 c2 c2 eF eF eF (aO eF eF eF eF eF eF eF (aO eF eF eF eF eF eF eF (aM eF eF eF eF eF eF)))))
  ·obtain rfl:=Zac h2
   exact af fol hE (o1 ++ [.r [(4,wF),(5,wF),(6,wF),(7,yF),(9,wF),(10,wF),(11,wF),(12,yF),(14,wF),(15,wF),(16,wF),(17,wF),(18,yF),(20,wF),(21,wF),(22,wF),(23,yF),(25,wF),(26,wF),(27,wF),(28,wF),(29,yF),(31,wF),(32,wF),(33,wF),(34,yF),(36,wF),(37,wF),(38,wF),(39,wF),(40,yF)]]) [] 0 [] (aO c1 c1 c1 c1 eF eF eF (aO eF eF eF eF eF eF eF (aO eF eF eF eF eF eF eF (aO eF eF eF eF eF eF eF (aJ eF eF eF)))))
noncomputable def Zam.B:Code:=Tryz.f196.body.getD .skip
noncomputable def Zam.rs (r:(List Int)):List CV:=[.agg [L.arr .u64 4 r]]
noncomputable def Zam.p4 (N:Nat) (c3_:(Int×(List Int))→Option (List Int)) (n_13 i_19:Int) (a_18 out_22:List Int):Option (List Int):=
 c3_ (w64 (i_19+1),out_22)
noncomputable def Zam.p3 (N:Nat) (n_13:Int) (a_18:List Int) (c3_:(Int×(List Int))→Option (List Int)):(Int×(List Int))→Option (List Int):=fun (i_19,out_21)=>
 if (decide (i_19<4))=true then
  if (decide (n_13>0))=true then
   chk (0≤i_19)<|
   chk (0≤(v64 (n_13)))<|
   if (decide (i_19>0))=true then
    chk (0≤(w64 (i_19-1)))<|
    chk ((w64 (i_19-1))<4)<|
    chk (0≤(v64 (w64 (64-n_13))))<|
    Zam.p4 N c3_ n_13 i_19 a_18 (List.set (List.set out_21 (Int.toNat i_19) (shlOf .u64 (List.getD a_18 (Int.toNat i_19) 0) (v64 (n_13)))) (Int.toNat i_19) (v64 ((List.getD (List.set out_21 (Int.toNat i_19) (shlOf .u64 (List.getD a_18 (Int.toNat i_19) 0) (v64 (n_13)))) (Int.toNat i_19) 0)+(shrOf .u64 (List.getD a_18 (Int.toNat (w64 (i_19-1))) 0) (v64 (w64 (64-n_13)))))))
   else
   Zam.p4 N c3_ n_13 i_19 a_18 (List.set out_21 (Int.toNat i_19) (shlOf .u64 (List.getD a_18 (Int.toNat i_19) 0) (v64 (n_13))))
  else
  chk (0≤i_19)<|
  chk (0≤(v64 (w64 (0-n_13))))<|
  if (decide (i_19<3))=true then
   chk (0≤(w64 (i_19+1)))<|
   chk ((w64 (i_19+1))<4)<|
   chk (0≤(v64 (w64 (64+n_13))))<|
   Zam.p4 N c3_ n_13 i_19 a_18 (List.set (List.set out_21 (Int.toNat i_19) (shrOf .u64 (List.getD a_18 (Int.toNat i_19) 0) (v64 (w64 (0-n_13))))) (Int.toNat i_19) (v64 ((List.getD (List.set out_21 (Int.toNat i_19) (shrOf .u64 (List.getD a_18 (Int.toNat i_19) 0) (v64 (w64 (0-n_13))))) (Int.toNat i_19) 0)+(shlOf .u64 (List.getD a_18 (Int.toNat (w64 (i_19+1))) 0) (v64 (w64 (64+n_13)))))))
  else
  Zam.p4 N c3_ n_13 i_19 a_18 (List.set out_21 (Int.toNat i_19) (shrOf .u64 (List.getD a_18 (Int.toNat i_19) 0) (v64 (w64 (0-n_13)))))
 else
 some out_21
noncomputable def Zam.p2 (N:Nat) (c2_:(Int×(List Int))→Option (List Int)):(Int×(List Int))→Option (List Int):=fun (n_13,a_18)=>
 if (decide (n_13≤(-64)))=true then
  c2_ (w64 (n_13+64),[List.getD a_18 1 0,List.getD a_18 2 0,List.getD a_18 3 0,0])
 else
 if (n_13==0)=true then
  some a_18
 else
 loopN (Zam.p3 N n_13 a_18) N (0,List.replicate 4 0)
noncomputable def Zam.p1 (N:Nat) (c1_:(Int×(List Int))→Option (List Int)):(Int×(List Int))→Option (List Int):=fun (n_1,a_12)=>
 if (decide (n_1≥64))=true then
  c1_ (w64 (n_1-64),[0,List.getD a_12 0 0,List.getD a_12 1 0,List.getD a_12 2 0])
 else
 loopN (Zam.p2 N) N (n_1,a_12)
noncomputable def Zam (N:Nat) (a_0_0:List Int) (n_1:Int):Option (List Int):=
 if (decide (n_1≤(-256)))=true then
  some (List.replicate 4 0)
 else
 if (decide (n_1≥256))=true then
  some (List.replicate 4 0)
 else
 loopN (Zam.p1 N) N (n_1,a_0_0)
noncomputable def Zam.p4.S (n_13 i_19:Int) (a_18 out_22:List Int) (st:LL):S:=mkS 96 [(1,sI n_13),(2,sA 2),(4,sA 4),(5,sA 5),(6,sI i_19)] [(2,.cells [L.arr .u64 4 a_18]),(4,.cells [L.arr .u64 4 (List.replicate 4 0)]),(5,.cells [L.arr .u64 4 out_22])] st
noncomputable def Zam.p3.S (n_13 i_19:Int) (a_18 out_21:List Int) (st:LL):S:=mkS 96 [(1,sI n_13),(2,sA 2),(4,sA 4),(5,sA 5),(6,sI i_19)] [(2,.cells [L.arr .u64 4 a_18]),(4,.cells [L.arr .u64 4 (List.replicate 4 0)]),(5,.cells [L.arr .u64 4 out_21])] st
noncomputable def Zam.p2.S (n_13:Int) (a_18:List Int) (st:LL):S:=mkS 96 [(1,sI n_13),(2,sA 2),(4,sA 4),(5,sA 5)] [(2,.cells [L.arr .u64 4 a_18]),(4,.cells [L.arr .u64 4 (List.replicate 4 0)]),(5,.cells [L.arr .u64 4 (List.replicate 4 0)])] st
noncomputable def Zam.p1.S (n_1:Int) (a_12:List Int) (st:LL):S:=mkS 96 [(1,sI n_1),(2,sA 2),(4,sA 4),(5,sA 5)] [(2,.cells [L.arr .u64 4 a_12]),(4,.cells [L.arr .u64 4 (List.replicate 4 0)]),(5,.cells [L.arr .u64 4 (List.replicate 4 0)])] st
theorem Zam.p4_ok {n_13 i_19 a_18 out_22 st r c3_ J3} (h:Zam.p4 N c3_ n_13 i_19 a_18 out_22=some r) (hE:En Tryz.f196 g0 w0 (Zam.rs r) st R) (hc3 : ∀i_19 out_21,c3_ (i_19,out_21)=some r→At g0 w0 (Zam.p3.S n_13 i_19 a_18 out_21 st) J3):At g0 w0 (Zam.p4.S n_13 i_19 a_18 out_22 st) (XK Tryz.prog R [.c (csub Zam.B [1,1,1,1,1,1,0,1,0,0,1,1]),.h J3,.b 4,.c (csub Zam.B [1,1,1,1,1,1,1])]):=by
 unfold Zam.p4 at h
 exact an fol [.r []] [1,2,4,5,6] [2,4,5] trivial (hc3 (w64 (i_19+1)) out_22 h)
theorem Zam.p3_ok {n_13 i_19 a_18 out_21 st r c3_ J3} (h:Zam.p3 N n_13 a_18 c3_ (i_19,out_21)=some r) (hE:En Tryz.f196 g0 w0 (Zam.rs r) st R) (hc3 : ∀i_19 out_21,c3_ (i_19,out_21)=some r→At g0 w0 (Zam.p3.S n_13 i_19 a_18 out_21 st) J3):At g0 w0 (Zam.p3.S n_13 i_19 a_18 out_21 st) (XK Tryz.prog R (.c (csub Zam.B [1,1,1,1,1,1,0,1,0,0]) :: .h J3 :: [.b 4,.c (csub Zam.B [1,1,1,1,1,1,1])])):=by
 unfold Zam.p3 at h
 refine iteB h (fun c111 h1=>?_) (fun c111 h2=>?_)
 ·let o1:List PS:=[.r [],.c true,.r []]
  refine iteB h1 (fun c112 h3=>?_) (fun c112 h4=>?_)
  ·obtain ⟨c113,c114,h5⟩:=ck2 h3
   have t1 {Q:Prop} (q:Q):=aO c111 c112 c113 (oD c111) c114 c113 (oD c111) q
   refine iteB h5 (fun c115 h6=>?_) (fun c115 h7=>?_)
   ·obtain ⟨c116,c117,c118,h8⟩:=ck3 h6
    exact aqd fol (o1 ++ [.c true,.r [],.r [],.c true,.d {ds:=[],hv:=16384,Hs:=[16384]},.s 4]) [1,2,4,5,6] [2,4,5] (t1 (aO c115 c113 (oD c111) c116 c117 c118 c113 (oD c111))) (Zam.p4_ok h8 hE hc3)
   ·exact aq fol (o1 ++ [.c true,.r [],.r [],.c false,.s 4]) [1,2,4,5,6] [2,4,5] (t1 c115) (Zam.p4_ok h7 hE hc3)
  ·obtain ⟨c119,c120,h9⟩:=ck2 h4
   have t2 {Q:Prop} (q:Q):=aO c111 c112 c119 (oD c111) c120 c119 (oD c111) q
   refine iteB h9 (fun c121 h10=>?_) (fun c121 h11=>?_)
   ·obtain ⟨c122,c123,c124,h12⟩:=ck3 h10
    exact aqd fol (o1 ++ [.c false,.r [],.r [],.c true,.d {ds:=[],hv:=16384,Hs:=[16384]},.s 4]) [1,2,4,5,6] [2,4,5] (t2 (aO c121 c119 (oD c111) c122 c123 c124 c119 (oD c111))) (Zam.p4_ok h12 hE hc3)
   ·exact aq fol (o1 ++ [.c false,.r [],.r [],.c false,.s 4]) [1,2,4,5,6] [2,4,5] (t2 c121) (Zam.p4_ok h11 hE hc3)
 ·obtain rfl:=Zac h2
  exact af fol hE [.r [],.c false,.r []] [] 0 [] c111
theorem Zam.p2_ok {n_13 a_18 st r c2_ J2} (h:Zam.p2 N c2_ (n_13,a_18)=some r) (hE:En Tryz.f196 g0 w0 (Zam.rs r) st R) (hc2 : ∀n_13 a_18,c2_ (n_13,a_18)=some r→At g0 w0 (Zam.p2.S n_13 a_18 st) J2):At g0 w0 (Zam.p2.S n_13 a_18 st) (XK Tryz.prog R (.c (csub Zam.B [1,1,1,1,0,0,0]) :: .h J2 :: [.b 2,.c (csub Zam.B [1,1,1,1,1])])):=by
 unfold Zam.p2 at h
 refine iteB h (fun c95 h13=>?_) (fun c95 h14=>?_)
 ·exact an fol [.r [],.c true,.r [(6,{m:=3})],.r []] [1,2,4,5] [2,4,5] (aI c95 (ix 1 4 (ix 2 4 (aI (leI 0 3) (ltI 3 4))))) (hc2 (w64 (n_13+64)) [List.getD a_18 1 0,List.getD a_18 2 0,List.getD a_18 3 0,0] h13)
 ·refine iteB h14 (fun c96 h15=>?_) (fun c96 h16=>?_)
  ·obtain rfl:=Zac h15
   exact af fol hE [.r [],.c false,.r [],.c true,.r []] [] 0 [] (aI c95 c96)
  ·exact aq fol [.r [],.c false,.r [],.c false,.r []] [1,2,4,5,6] [2,4,5] (aI c95 c96) (At.loop N (At.loopN (fun y:Int×(List Int)=>Zam.p3.S n_13 y.1 a_18 y.2 st) (fun c J hc y h=>Zam.p3_ok (i_19:=y.1) (out_21:=y.2) h hE (fun i_19 out_21=>hc (i_19,out_21))) N (0,List.replicate 4 0) h16))
theorem Zam.p1_ok {n_1 a_12 st r c1_ J1} (h:Zam.p1 N c1_ (n_1,a_12)=some r) (hE:En Tryz.f196 g0 w0 (Zam.rs r) st R) (hc1 : ∀n_1 a_12,c1_ (n_1,a_12)=some r→At g0 w0 (Zam.p1.S n_1 a_12 st) J1):At g0 w0 (Zam.p1.S n_1 a_12 st) (XK Tryz.prog R (.c (csub Zam.B [1,1,1,0,0,0]) :: .h J1 :: [.b 0,.c (csub Zam.B [1,1,1,1])])):=by
 unfold Zam.p1 at h
 refine iteB h (fun c64 h17=>?_) (fun c64 h18=>?_)
 ·exact an fol [.r [],.c true,.r [(6,{m:=3})],.r []] [1,2,4,5] [2,4,5] (aI c64 (ix 0 4 (ix 1 4 (aI (leI 0 2) (ltI 2 4))))) (hc1 (w64 (n_1-64)) [0,List.getD a_12 0 0,List.getD a_12 1 0,List.getD a_12 2 0] h17)
 ·exact aq fol [.r [],.c false] [1,2,4,5] [2,4,5] c64 (At.loop N (At.loopN (fun y:Int×(List Int)=>Zam.p2.S y.1 y.2 st) (fun c J hc y h=>Zam.p2_ok (n_13:=y.1) (a_18:=y.2) h hE (fun n_13 a_18=>hc (n_13,a_18))) N (n_1,a_12) h18))
theorem Zam.snd {a_0_0:List Int} {n_1:Int} {r:(List Int)} (h:Zam N a_0_0 n_1=some r):SndQ Tryz.prog 196 [.agg [L.arr .u64 4 a_0_0],oI n_1] (Zam.rs r):=fun st=>
 sO Zam.B Tryz.func196 fun g0 w0 R hE=>by
  unfold Zam at h
  refine iteB h (fun c1 h19=>?_) (fun c1 h20=>?_)
  ·obtain rfl:=Zac h19
   exact af fol hE [.r [],.r [],.r [(3,wF),(4,wF)],.c true,.r []] [] 0 [] (aK c1 c1 c1 eT)
  ·let o2:List PS:=[.r [],.r [],.r [(5,yF)]]
   refine iteB h20 (fun c2 h21=>?_) (fun c2 h22=>?_)
   ·obtain rfl:=Zac h21
    exact af fol hE (o2 ++ [.c true,.r []]) [] 0 [] (aK c1 c1 c1 c2)
   ·exact aq fol (o2 ++ [.c false]) [1,2,4,5] [2,4,5] (aK c1 c1 c1 c2) (At.loop N (At.loopN (fun y:Int×(List Int)=>Zam.p1.S y.1 y.2 st) (fun c J hc y h=>Zam.p1_ok (n_1:=y.1) (a_12:=y.2) h hE (fun n_1 a_12=>hc (n_1,a_12))) N (n_1,a_0_0) h22))
noncomputable def ZaH.B:Code:=Tryz.f163.body.getD .skip
noncomputable def ZaH.rs (r:(List Int)×Bool×Bool):List CV:=[.agg [L.arr .u64 4 r.1],oB r.2.1,oB r.2.2]
noncomputable def ZaH.p1 (N:Nat) (bits_0:Int) (over_2:Bool) (x1:List Int):Option ((List Int)×Bool×Bool):=
 if (decide ((Int.tmod bits_0 8388608)>0))=true then
  some (x1,(Int.tmod (w64 (Int.tdiv bits_0 8388608)) 2)==1,over_2)
 else
 some (x1,false,over_2)
noncomputable def ZaH (N:Nat) (bits_0:Int):Option ((List Int)×Bool×Bool):=
 if (decide (bits_0<0))=true then
  some (List.replicate 4 0,false,false)
 else
 if (decide (bits_0>4294967295))=true then
  some (List.replicate 4 0,false,false)
 else
 optE (Zam N [v64 (Int.tmod bits_0 8388608),0,0,0] (w64 (8*(w64 ((w64 (Int.tdiv bits_0 16777216))-3))))) fun x1=>
 if (decide ((Int.tmod bits_0 8388608)>0))=true then
  if (decide ((w64 (Int.tdiv bits_0 16777216))>34))=true then
   ZaH.p1 N bits_0 true x1
  else
  if (decide ((Int.tmod bits_0 8388608)>255))=true then
   if (decide ((w64 (Int.tdiv bits_0 16777216))>33))=true then
    ZaH.p1 N bits_0 true x1
   else
   if (decide ((Int.tmod bits_0 8388608)>65535))=true then
    ZaH.p1 N bits_0 (decide ((w64 (Int.tdiv bits_0 16777216))>32)) x1
   else
   ZaH.p1 N bits_0 false x1
  else
  if (decide ((Int.tmod bits_0 8388608)>65535))=true then
   ZaH.p1 N bits_0 (decide ((w64 (Int.tdiv bits_0 16777216))>32)) x1
  else
  ZaH.p1 N bits_0 false x1
 else
 if (decide ((Int.tmod bits_0 8388608)>255))=true then
  if (decide ((w64 (Int.tdiv bits_0 16777216))>33))=true then
   ZaH.p1 N bits_0 true x1
  else
  if (decide ((Int.tmod bits_0 8388608)>65535))=true then
   ZaH.p1 N bits_0 (decide ((w64 (Int.tdiv bits_0 16777216))>32)) x1
  else
  ZaH.p1 N bits_0 false x1
 else
 if (decide ((Int.tmod bits_0 8388608)>65535))=true then
  ZaH.p1 N bits_0 (decide ((w64 (Int.tdiv bits_0 16777216))>32)) x1
 else
 ZaH.p1 N bits_0 false x1
noncomputable def ZaH.p1.S (bits_0:Int) (over_2:Bool) (x1:List Int) (st:LL):S:=mkS 61 [(2,sA 2),(6,sI (Int.tmod bits_0 8388608)),(7,.one (.l (L.bool ((Int.tmod (w64 (Int.tdiv bits_0 8388608)) 2)==1)))),(8,sA 8),(9,.one (.l (L.bool over_2)))] [(2,.cells [L.arr .u64 4 (List.replicate 4 0)]),(8,.cells [L.arr .u64 4 x1])] st
theorem ZaH.p1_ok {bits_0 over_2 x1 st r} (h:ZaH.p1 N bits_0 over_2 x1=some r) (hE:En Tryz.f163 g0 w0 (ZaH.rs r) st R):At g0 w0 (ZaH.p1.S bits_0 over_2 x1 st) (XK Tryz.prog R [.c (csub ZaH.B [1,1,1,1,1,1,1])]):=by
 unfold ZaH.p1 at h
 refine iteB h (fun c14 h1=>?_) (fun c14 h2=>?_)
 ·obtain rfl:=Zac h1
  exact af fol hE [.r []] [] 0 [] (aI c14 c14)
 ·obtain rfl:=Zac h2
  exact af fol hE [.r [(4,wF),(5,yF)]] [] 0 [] (aI c14 c14)
theorem ZaH.snd {bits_0:Int} {r:(List Int)×Bool×Bool} (h:ZaH N bits_0=some r):SndQ Tryz.prog 163 [oI bits_0] (ZaH.rs r):=fun st=>
 sO ZaH.B Tryz.func163 fun g0 w0 R hE=>by
  unfold ZaH at h
  refine iteB h (fun c1 h3=>?_) (fun c1 h4=>?_)
  ·obtain rfl:=Zac h3
   exact af fol hE [.r [],.r [(3,wF),(4,wF)],.c true,.r []] [] 0 [] (aK c1 c1 c1 eT)
  ·let o1:List PS:=[.r [],.r [(5,yF)]]
   have t1 {Q:Prop} (q:Q):=aK c1 c1 c1 q
   refine iteB h4 (fun c2 h5=>?_) (fun c2 h6=>?_)
   ·obtain rfl:=Zac h5
    exact af fol hE (o1 ++ [.c true,.r []]) [] 0 [] (t1 c2)
   ·obtain ⟨x1,c3,h7⟩:=Zad h6
    let o2:List PS:=o1 ++ [.c false,.r [],.r [],.r [],.r [(2,{m:=3}),(6,q1 [.agg [L.arr .u64 4 x1]])]]
    have t2 {Q:Prop} (q:Q):=t1 (aN c2 (neI 16777216) (neI 8388608) (neI 8388608) (neI 2) (Zam.snd c3) q)
    refine iteB h7 (fun c4 h8=>?_) (fun c4 h9=>?_)
    ·have t3 {Q:Prop} (q:Q):=t2 (aK c4 c4 c4 q)
     refine iteB h8 (fun c5 h10=>?_) (fun c5 h11=>?_)
     ·exact aq fol (o2 ++ [.r [(7,wF),(8,wF),(9,wF),(12,wF),(15,wF),(16,wF),(17,wF),(20,wF)],.s 1]) [2,6,7,8,9] [2,8] (t3 (aO c5 c5 c5 c5 c5 eT eT (aJ eT eT eT))) (ZaH.p1_ok h10 hE)
     ·have t4 {Q:Prop} (q:Q):=t3 (aK c5 c5 c5 q)
      refine iteB h11 (fun c6 h12=>?_) (fun c6 h13=>?_)
      ·refine iteB h12 (fun c7 h14=>?_) (fun c7 h15=>?_)
       ·exact aq fol (o2 ++ [.r [(13,yF),(15,wF),(16,wF),(17,wF),(20,wF)],.s 1]) [2,6,7,8,9] [2,8] (t4 (aO c6 c6 c5 c6 c5 c7 c7 (aJ c7 c7 c7))) (ZaH.p1_ok h14 hE)
       ·refine iteB h15 (fun c8 h16=>?_) (fun c8 h17=>?_)
        ·exact aq fol (o2 ++ [.r [(13,yF),(21,yF)],.s 1]) [2,6,7,8,9] [2,8] (t4 (aO c6 c6 c5 c6 c5 c7 c7 (aM c7 c8 c8 c7 c8 c7))) (ZaH.p1_ok h16 hE)
        ·exact aq fol (o2 ++ [.r [(13,yF),(18,wF),(19,wF),(20,yF),(21,yF)],.s 1]) [2,6,7,8,9] [2,8] (t4 (aO c6 c6 c5 c6 c5 c7 c7 (aM c7 c8 c8 c7 c8 c7))) (ZaH.p1_ok h17 hE)
      ·have t5 {Q:Prop} (q:Q):=t4 (aO c6 c6 c5 c6 c5 eF eF (aI eF q))
       refine iteB h13 (fun c9 h18=>?_) (fun c9 h19=>?_)
       ·exact aq fol (o2 ++ [.r [(10,wF),(11,wF),(12,yF),(13,yF),(21,yF)],.s 1]) [2,6,7,8,9] [2,8] (t5 (aL c9 c9 eF c9 eF)) (ZaH.p1_ok h18 hE)
       ·exact aq fol (o2 ++ [.r [(10,wF),(11,wF),(12,yF),(13,yF),(18,wF),(19,wF),(20,yF),(21,yF)],.s 1]) [2,6,7,8,9] [2,8] (t5 (aL c9 c9 eF c9 eF)) (ZaH.p1_ok h19 hE)
    ·have t6 {Q:Prop} (q:Q):=t2 (aN c4 c4 c4 eF eF eF q)
     refine iteB h9 (fun c10 h20=>?_) (fun c10 h21=>?_)
     ·have t7 {Q:Prop} (q:Q):=t6 (aM c10 c10 eF c10 eF q)
      refine iteB h20 (fun c11 h22=>?_) (fun c11 h23=>?_)
      ·exact aq fol (o2 ++ [.r [(3,wF),(4,wF),(5,yF),(13,yF),(15,wF),(16,wF),(17,wF),(20,wF)],.s 1]) [2,6,7,8,9] [2,8] (t7 (aL c11 c11 c11 c11 c11)) (ZaH.p1_ok h22 hE)
      ·refine iteB h23 (fun c12 h24=>?_) (fun c12 h25=>?_)
       ·exact aq fol (o2 ++ [.r [(3,wF),(4,wF),(5,yF),(13,yF),(21,yF)],.s 1]) [2,6,7,8,9] [2,8] (t7 (aO c11 c11 c11 c12 c12 c11 c12 c11)) (ZaH.p1_ok h24 hE)
       ·exact aq fol (o2 ++ [.r [(3,wF),(4,wF),(5,yF),(13,yF),(18,wF),(19,wF),(20,yF),(21,yF)],.s 1]) [2,6,7,8,9] [2,8] (t7 (aO c11 c11 c11 c12 c12 c11 c12 c11)) (ZaH.p1_ok h25 hE)
     ·have t8 {Q:Prop} (q:Q):=t6 (aO c10 c10 eF c10 eF eF eF (aI eF q))
      refine iteB h21 (fun c13 h26=>?_) (fun c13 h27=>?_)
      ·exact aq fol (o2 ++ [.r [(3,wF),(4,wF),(5,yF),(10,wF),(11,wF),(12,yF),(13,yF),(21,yF)],.s 1]) [2,6,7,8,9] [2,8] (t8 (aL c13 c13 eF c13 eF)) (ZaH.p1_ok h26 hE)
      ·exact aq fol (o2 ++ [.r [(3,wF),(4,wF),(5,yF),(10,wF),(11,wF),(12,yF),(13,yF),(18,wF),(19,wF),(20,yF),(21,yF)],.s 1]) [2,6,7,8,9] [2,8] (t8 (aL c13 c13 eF c13 eF)) (ZaH.p1_ok h27 hE)
noncomputable def Zci.B:Code:=Tryz.f119.body.getD .skip
noncomputable def Zci.rs (r:Int):List CV:=[oI r]
noncomputable def Zci (N:Nat) (a_0_0:List Int) (i_1:Int):Option Int:=
 if (decide (i_1<0))=true then
  some 0
 else
 if (decide (i_1>255))=true then
  some 0
 else
 chk (0≤(w64 (Int.tdiv i_1 64)))<|
 chk ((w64 (Int.tdiv i_1 64))<4)<|
 chk (0≤(v64 (Int.tmod i_1 64)))<|
 some (w64 (Int.tmod (shrOf .u64 (List.getD a_0_0 (Int.toNat (w64 (Int.tdiv i_1 64))) 0) (v64 (Int.tmod i_1 64))) 2))
theorem Zci.snd {a_0_0:List Int} {i_1:Int} {r:Int} (h:Zci N a_0_0 i_1=some r):SndQ Tryz.prog 119 [.agg [L.arr .u64 4 a_0_0],oI i_1] (Zci.rs r):=fun st=>
 sO Zci.B Tryz.func119 fun g0 w0 R hE=>by
  unfold Zci at h
  refine iteB h (fun c1 h1=>?_) (fun c1 h2=>?_)
  ·obtain rfl:=Zac h1
   exact af fol hE [.r [],.r [(3,wF),(4,wF)],.c true,.r []] [] 0 [] (aK c1 c1 c1 eT)
  ·refine iteB h2 (fun c2 h3=>?_) (fun c2 h4=>?_)
   ·obtain rfl:=Zac h3
    exact af fol hE [.r [],.r [(5,yF)],.c true,.r []] [] 0 [] (aK c1 c1 c1 c2)
   ·obtain ⟨c3,c4,c5,h5⟩:=ck3 h4
    obtain rfl:=Zac h5
    exact af fol hE [.r [],.r [(5,yF)],.c false,.r []] [] 0 [] (aO c1 c1 c1 c2 (neI 64) c3 c4 (aJ (neI 64) c5 (neI 2)))
noncomputable def Zbf.B:Code:=Tryz.f65.body.getD .skip
noncomputable def Zbf.rs (r:Bool):List CV:=[oB r]
noncomputable def Zbf.p1 (N:Nat) (a_0_0 b_1_0:List Int) (c1_:Int→Option Bool):Int→Option Bool:=fun i_1=>
 if (decide (i_1≥0))=true then
  optE (Zci N a_0_0 i_1) fun x2=>
  optE (Zci N b_1_0 i_1) fun x3=>
  if (x2 != x3)=true then
   some (decide (x2<x3))
  else
  c1_ (w64 (i_1-1))
 else
 some false
noncomputable def Zbf (N:Nat) (a_0_0 b_1_0:List Int):Option Bool:=
 loopN (Zbf.p1 N a_0_0 b_1_0) N 255
noncomputable def Zbf.p1.S (i_1:Int) (a_0_0 b_1_0:List Int) (st:LL):S:=mkS 24 [(2,sA 2),(3,sA 3),(5,sI i_1)] [(2,.cells [L.arr .u64 4 a_0_0]),(3,.cells [L.arr .u64 4 b_1_0])] st
theorem Zbf.p1_ok {i_1 a_0_0 b_1_0 st r c1_ J1} (h:Zbf.p1 N a_0_0 b_1_0 c1_ i_1=some r) (hE:En Tryz.f65 g0 w0 (Zbf.rs r) st R) (hc1 : ∀i_1,c1_ i_1=some r→At g0 w0 (Zbf.p1.S i_1 a_0_0 b_1_0 st) J1):At g0 w0 (Zbf.p1.S i_1 a_0_0 b_1_0 st) (XK Tryz.prog R (.c (csub Zbf.B [1,0,1,0,0]) :: .h J1 :: [.b 0,.c (csub Zbf.B [1,1])])):=by
 unfold Zbf.p1 at h
 refine iteB h (fun c1 h1=>?_) (fun c1 h2=>?_)
 ·obtain ⟨x2,c2,h3⟩:=Zad h1
  obtain ⟨x3,c3,h4⟩:=Zad h3
  let o1:List PS:=[.r [],.c true,.d {ds:=[(2,q1 [oI x2]),(5,q1 [oI x3])],hv:=0,Hs:=[]}]
  have t1 {Q:Prop} (q:Q):=aK c1 (Zci.snd c2) (Zci.snd c3) q
  refine iteB h4 (fun c4 h5=>?_) (fun c4 h6=>?_)
  ·obtain rfl:=Zac h5
   exact afd fol hE (o1 ++ [.c true,.d {ds:=[(2,q1 [oI x2]),(5,q1 [oI x3])],hv:=0,Hs:=[]}]) [] 0 [] (t1 (aJ c4 (Zci.snd c2) (Zci.snd c3)))
  ·exact and_ fol (o1 ++ [.c false,.r []]) [2,3,5] [2,3] (t1 c4) (hc1 (w64 (i_1-1)) h6)
 ·obtain rfl:=Zac h2
  exact af fol hE [.r [],.c false,.r []] [] 0 [] c1
theorem Zbf.snd {a_0_0 b_1_0:List Int} {r:Bool} (h:Zbf N a_0_0 b_1_0=some r):SndQ Tryz.prog 65 [.agg [L.arr .u64 4 a_0_0],.agg [L.arr .u64 4 b_1_0]] (Zbf.rs r):=fun st=>
 sO Zbf.B Tryz.func65 fun g0 w0 R hE=>by
  unfold Zbf at h
  exact aq fol [.r [],.r []] [2,3,5] [2,3] trivial (At.loop N (At.loopN (fun y:Int=>Zbf.p1.S y a_0_0 b_1_0 st) (fun c J hc y h=>Zbf.p1_ok h hE (fun i_1=>hc i_1)) N 255 h))
noncomputable def Zca.B:Code:=Tryz.f172.body.getD .skip
noncomputable def Zca.rs (r:(List Int)×Bool):List CV:=[.agg [L.arr .u64 4 r.1],oB r.2]
noncomputable def Zca (N:Nat) (bits_0 limit_1:Int):Option ((List Int)×Bool):=
 optE (ZaH N bits_0) fun (x1,x2,x3)=>
 optE (ZaH N limit_1) fun (x4,x5,x6)=>
 if x2=true then
  some (List.replicate 4 0,false)
 else
 if x3=true then
  some (List.replicate 4 0,false)
 else
 if x5=true then
  some (List.replicate 4 0,false)
 else
 if x6=true then
  some (List.replicate 4 0,false)
 else
 if (x1==(List.replicate 4 0))=true then
  some (List.replicate 4 0,false)
 else
 optE (Zbf N x4 x1) fun x7=>
 if x7=true then
  some (List.replicate 4 0,false)
 else
 some (x1,true)
theorem Zca.snd {bits_0 limit_1:Int} {r:(List Int)×Bool} (h:Zca N bits_0 limit_1=some r):SndQ Tryz.prog 172 [oI bits_0,oI limit_1] (Zca.rs r):=fun st=>
 sO Zca.B Tryz.func172 fun g0 w0 R hE=>by
  unfold Zca at h
  obtain ⟨⟨x1,x2,x3⟩,c1,h1⟩:=Zad h
  obtain ⟨⟨x4,x5,x6⟩,c2,h2⟩:=Zad h1
  let o1:List PS:=[.r [],.r [(1,q1 [.agg [L.arr .u64 4 x1],oB x2,oB x3])],.r [(1,q1 [.agg [L.arr .u64 4 x4],oB x5,oB x6])]]
  have t1 {Q:Prop} (q:Q):=aJ (ZaH.snd c1) (ZaH.snd c2) q
  refine iteB h2 (fun c3 h3=>?_) (fun c3 h4=>?_)
  ·obtain rfl:=Zac h3
   exact af fol hE (o1 ++ [.r [(2,wF),(5,wF),(8,wF),(11,wF),(12,wF),(13,wF),(16,wF),(17,wF),(18,wF)],.c true,.r []]) [] 0 [] (t1 (aO c3 c3 eT eT eT eT eT (aO eT eT eT eT eT eT eT eT)))
  ·refine iteB h4 (fun c4 h5=>?_) (fun c4 h6=>?_)
   ·obtain rfl:=Zac h5
    exact af fol hE (o1 ++ [.r [(3,yF),(5,wF),(8,wF),(11,wF),(12,wF),(13,wF),(16,wF),(17,wF),(18,wF)],.c true,.r []]) [] 0 [] (t1 (aO c3 c3 c4 c4 eT eT eT (aO eT eT eT eT eT eT eT eT)))
   ·have t2 {Q:Prop} (q:Q):=t1 (aL c3 c3 c4 c4 q)
    refine iteB h6 (fun c5 h7=>?_) (fun c5 h8=>?_)
    ·obtain rfl:=Zac h7
     exact af fol hE (o1 ++ [.r [(3,yF),(6,yF),(8,wF),(11,wF),(12,wF),(13,wF),(16,wF),(17,wF),(18,wF)],.c true,.r []]) [] 0 [] (t2 (aO c5 c5 eT eT eT eT eT (aK eT eT eT eT)))
    ·refine iteB h8 (fun c6 h9=>?_) (fun c6 h10=>?_)
     ·obtain rfl:=Zac h9
      exact af fol hE (o1 ++ [.r [(3,yF),(6,yF),(9,yF),(11,wF),(12,wF),(13,wF),(16,wF),(17,wF),(18,wF)],.c true,.r []]) [] 0 [] (t2 (aO c5 c5 c6 c6 c6 c6 eT (aK eT eT eT eT)))
     ·have t3 {Q:Prop} (q:Q):=t2 (aN c5 c5 c6 c6 c6 c6 q)
      refine iteB h10 (fun c7 h11=>?_) (fun c7 h12=>?_)
      ·obtain rfl:=Zac h11
       exact af fol hE (o1 ++ [.r [(3,yF),(6,yF),(9,yF),(14,yF),(16,wF),(17,wF),(18,wF)],.c true,.r []]) [] 0 [] (t3 (aL c7 c7 c7 c7 eT))
      ·obtain ⟨x7,c8,h13⟩:=Zad h12
       let o2:List PS:=o1 ++ [.r [(3,yF),(6,yF),(9,yF),(14,yF),(18,q1 [oB x7]),(19,yF)]]
       refine iteB h13 (fun c9 h14=>?_) (fun c9 h15=>?_)
       ·obtain rfl:=Zac h14
        exact af fol hE (o2 ++ [.c true,.r []]) [] 0 [] (t3 (aM c7 c7 c7 (Zbf.snd c8) c7 c9))
       ·obtain rfl:=Zac h15
        exact af fol hE (o2 ++ [.c false,.r []]) [] 0 [] (t3 (aM c7 c7 c7 (Zbf.snd c8) c7 c9))
noncomputable def ZcO.B:Code:=Tryz.f142.body.getD .skip
noncomputable def ZcO.rs (r:Bool):List CV:=[oB r]
noncomputable def ZcO (N:Nat) (p_0:Zag):Option Bool:=
 optE (Zca N p_0.Limit p_0.Limit) fun (x1,x2)=>
 if x2=true then
  if (decide (p_0.Interval≥2))=true then
   if (decide (p_0.Interval≤64))=true then
    if (decide (p_0.Spacing≥1))=true then
     if (decide (p_0.Spacing≤10000))=true then
      if (decide (p_0.Future≥0))=true then
       some (decide (p_0.Future<4294967296))
      else
      some false
     else
     some false
    else
    some false
   else
   some false
  else
  some false
 else
 some false
theorem ZcO.snd {p_0:Zag} {r:Bool} (h:ZcO N p_0=some r):SndQ Tryz.prog 142 [.agg p_0.ls] (ZcO.rs r):=fun st=>
 sO ZcO.B Tryz.func142 fun g0 w0 R hE=>by
  unfold ZcO at h
  obtain ⟨⟨x1,x2⟩,c1,h1⟩:=Zad h
  let o1:List PS:=[.r [],.r [(4,q1 [.agg [L.arr .u64 4 x1],oB x2])]]
  have t1 {Q:Prop} (q:Q):=aI (Zca.snd c1) q
  refine iteB h1 (fun c2 h2=>?_) (fun c2 h3=>?_)
  ·have t2 {Q:Prop} (q:Q):=t1 (aL c2 c2 c2 c2 q)
   refine iteB h2 (fun c3 h4=>?_) (fun c3 h5=>?_)
   ·have t3 {Q:Prop} (q:Q):=t2 (aL c3 c3 c3 c3 q)
    refine iteB h4 (fun c4 h6=>?_) (fun c4 h7=>?_)
    ·have t4 {Q:Prop} (q:Q):=t3 (aL c4 c4 c4 c4 q)
     refine iteB h6 (fun c5 h8=>?_) (fun c5 h9=>?_)
     ·refine iteB h8 (fun c6 h10=>?_) (fun c6 h11=>?_)
      ·refine iteB h10 (fun c7 h12=>?_) (fun c7 h13=>?_)
       ·obtain rfl:=Zac h12
        exact af fol hE (o1 ++ [.r []]) [] 0 [] (t4 (aO c5 c5 c5 c5 c6 c6 c6 (aL c6 c7 c7 c7 c7)))
       ·obtain rfl:=Zac h13
        exact af fol hE (o1 ++ [.r [(27,wF),(28,wF),(29,wF),(30,yF)]]) [] 0 [] (t4 (aO c5 c5 c5 c5 c6 c6 c6 (aL c6 c7 c7 c7 c7)))
      ·obtain rfl:=Zac h11
       exact af fol hE (o1 ++ [.r [(22,wF),(23,wF),(24,wF),(25,yF),(27,wF),(28,wF),(29,wF),(30,yF)]]) [] 0 [] (t4 (aO c5 c5 c5 c5 c6 c6 c6 (aL c6 eF eF eF eF)))
     ·obtain rfl:=Zac h9
      exact af fol hE (o1 ++ [.r [(17,wF),(18,wF),(19,wF),(20,yF),(22,wF),(23,wF),(24,wF),(25,yF),(27,wF),(28,wF),(29,wF),(30,yF)]]) [] 0 [] (t4 (aO c5 c5 c5 c5 eF eF eF (aL eF eF eF eF eF)))
    ·obtain rfl:=Zac h7
     exact af fol hE (o1 ++ [.r [(12,wF),(13,wF),(14,wF),(15,yF),(17,wF),(18,wF),(19,wF),(20,yF),(22,wF),(23,wF),(24,wF),(25,yF),(27,wF),(28,wF),(29,wF),(30,yF)]]) [] 0 [] (t3 (aO c4 c4 c4 c4 eF eF eF (aO eF eF eF eF eF eF eF (aI eF eF))))
   ·obtain rfl:=Zac h5
    exact af fol hE (o1 ++ [.r [(7,wF),(8,wF),(9,wF),(10,yF),(12,wF),(13,wF),(14,wF),(15,yF),(17,wF),(18,wF),(19,wF),(20,yF),(22,wF),(23,wF),(24,wF),(25,yF),(27,wF),(28,wF),(29,wF),(30,yF)]]) [] 0 [] (t2 (aO c3 c3 c3 c3 eF eF eF (aO eF eF eF eF eF eF eF (aM eF eF eF eF eF eF))))
  ·obtain rfl:=Zac h3
   exact af fol hE (o1 ++ [.r [(2,wF),(3,wF),(4,wF),(5,yF),(7,wF),(8,wF),(9,wF),(10,yF),(12,wF),(13,wF),(14,wF),(15,yF),(17,wF),(18,wF),(19,wF),(20,yF),(22,wF),(23,wF),(24,wF),(25,yF),(27,wF),(28,wF),(29,wF),(30,yF)]]) [] 0 [] (t1 (aO c2 c2 c2 c2 eF eF eF (aO eF eF eF eF eF eF eF (aO eF eF eF eF eF eF eF (aJ eF eF eF)))))
noncomputable def ZaX.B:Code:=Tryz.f83.body.getD .skip
noncomputable def ZaX.rs (r:Bool):List CV:=[oB r]
noncomputable def ZaX.p2 (N:Nat) (p_0:Zag) (c2_:(Int×Int)→Option Bool):(Int×Int)→Option Bool:=fun (last_6,v7)=>
 if (decide (v7<(len p_0.Checks)))=true then
  chk (0≤v7)<|
  getE (p_0.Checks[Int.toNat v7]?) Zdp fun x8=>
  if (decide (x8.Height≤last_6))=true then
   some false
  else
  c2_ (x8.Height,w64 (v7+1))
 else
 some true
noncomputable def ZaX.p1 (N:Nat) (p_0:Zag) (c1_:(Int×Int)→Option Bool):(Int×Int)→Option Bool:=fun (last_3,v4)=>
 if (decide (v4<(len p_0.Gates)))=true then
  chk (0≤v4)<|
  getE (p_0.Gates[Int.toNat v4]?) ZdA fun x5=>
  if (decide (x5.Height≤last_3))=true then
   some false
  else
  c1_ (x5.Height,w64 (v4+1))
 else
 loopN (ZaX.p2 N p_0) N (0,0)
noncomputable def ZaX (N:Nat) (p_0:Zag):Option Bool:=
 optE (ZcO N p_0) fun x1=>
 if (!x1)=true then
  some false
 else
 optE (Zcn N p_0.Genesis) fun x2=>
 if (!x2)=true then
  some false
 else
 loopN (ZaX.p1 N p_0) N ((-1),0)
noncomputable def ZaX.p2.S (last_6:Int) (p_0:Zag) (v7:Int) (st:LL):S:=mkS 45 [(3,sI last_6),(32,sV 33 p_0.Checks),(33,sI (len p_0.Checks)),(34,sI v7)] [] st
noncomputable def ZaX.p1.S (last_3:Int) (p_0:Zag) (v4:Int) (st:LL):S:=mkS 45 [(1,sA 1),(3,sI last_3),(18,sV 2 p_0.Gates),(19,sI (len p_0.Gates)),(20,sI v4)] [(1,.cells p_0.ls)] st
theorem ZaX.p2_ok {last_6 p_0 v7 st r c2_ J2} (h:ZaX.p2 N p_0 c2_ (last_6,v7)=some r) (hE:En Tryz.f83 g0 w0 (ZaX.rs r) st R) (hc2 : ∀last_6 v7,c2_ (last_6,v7)=some r→At g0 w0 (ZaX.p2.S last_6 p_0 v7 st) J2):At g0 w0 (ZaX.p2.S last_6 p_0 v7 st) (XK Tryz.prog R (.c (csub ZaX.B [1,1,1,1,1,0,1,0,0]) :: .h J2 :: [.b 2,.c (csub ZaX.B [1,1,1,1,1,1])])):=by
 unfold ZaX.p2 at h
 refine iteB h (fun c9 h1=>?_) (fun c9 h2=>?_)
 ·obtain ⟨c10,h3⟩:=ZaN h1
  obtain ⟨x8,c11,h4⟩:=Zdx h3
  let o1:List PS:=[.r [],.c true,.r [(1,{oe:=x8.ls})],.r []]
  refine iteB h4 (fun c12 h5=>?_) (fun c12 h6=>?_)
  ·obtain rfl:=Zac h5
   exact af fol hE (o1 ++ [.c true,.r []]) [] 0 [] (aL c9 c10 (oD c9) c11 c12)
  ·exact an fol (o1 ++ [.c false,.r [],.r []]) [3,32,33,34] [] (aL c9 c10 (oD c9) c11 c12) (hc2 x8.Height (w64 (v7+1)) h6)
 ·obtain rfl:=Zac h2
  exact af fol hE [.r [],.c false,.r []] [] 0 [] c9
theorem ZaX.p1_ok {last_3 p_0 v4 st r c1_ J1} (h:ZaX.p1 N p_0 c1_ (last_3,v4)=some r) (hE:En Tryz.f83 g0 w0 (ZaX.rs r) st R) (hc1 : ∀last_3 v4,c1_ (last_3,v4)=some r→At g0 w0 (ZaX.p1.S last_3 p_0 v4 st) J1):At g0 w0 (ZaX.p1.S last_3 p_0 v4 st) (XK Tryz.prog R (.c (csub ZaX.B [1,1,1,0,1,0,0]) :: .h J1 :: [.b 0,.c (csub ZaX.B [1,1,1,1])])):=by
 unfold ZaX.p1 at h
 refine iteB h (fun c5 h7=>?_) (fun c5 h8=>?_)
 ·obtain ⟨c6,h9⟩:=ZaN h7
  obtain ⟨x5,c7,h10⟩:=ZdF h9
  let o2:List PS:=[.r [],.c true,.r [(1,{oe:=x5.ls})],.r []]
  refine iteB h10 (fun c8 h11=>?_) (fun c8 h12=>?_)
  ·obtain rfl:=Zac h11
   exact af fol hE (o2 ++ [.c true,.r []]) [] 0 [] (aL c5 c6 (oD c5) c7 c8)
  ·exact an fol (o2 ++ [.c false,.r [],.r []]) [1,3,18,19,20] [1] (aL c5 c6 (oD c5) c7 c8) (hc1 x5.Height (w64 (v4+1)) h12)
 ·exact aq fol [.r [],.c false,.r [],.r []] [3,32,33,34] [] c5 (At.loop N (At.loopN (fun y:Int×Int=>ZaX.p2.S y.1 p_0 y.2 st) (fun c J hc y h=>ZaX.p2_ok (last_6:=y.1) (v7:=y.2) h hE (fun last_6 v7=>hc (last_6,v7))) N (0,0) h8))
theorem ZaX.snd {p_0:Zag} {r:Bool} (h:ZaX N p_0=some r):SndQ Tryz.prog 83 [.agg p_0.ls] (ZaX.rs r):=fun st=>
 sO ZaX.B Tryz.func83 fun g0 w0 R hE=>by
  unfold ZaX at h
  obtain ⟨x1,c1,h13⟩:=Zad h
  have t1 {Q:Prop} (q:Q):=aI (ZcO.snd c1) q
  refine iteB h13 (fun c2 h14=>?_) (fun c2 h15=>?_)
  ·obtain rfl:=Zac h14
   exact af fol hE [.r [],.r [(1,q1 [oB x1]),(4,wF),(5,wF),(6,wF),(7,wF)],.c true,.r []] [] 0 [] (t1 (aM (not_false (Zbd c2)) (not_false (Zbd c2)) (not_false (Zbd c2)) (not_false (Zbd c2)) (not_false (Zbd c2)) eT))
  ·obtain ⟨x2,c3,h16⟩:=Zad h15
   let o3:List PS:=[.r [],.r [(1,q1 [oB x1]),(6,q1 [oB x2]),(8,yF)]]
   have t2 {Q:Prop} (q:Q):=t1 (aN (not_true (ZaZ c2)) (not_true (ZaZ c2)) (not_true (ZaZ c2)) (Zcn.snd c3) (not_true (ZaZ c2)) (not_true (ZaZ c2)) q)
   refine iteB h16 (fun c4 h17=>?_) (fun c4 h18=>?_)
   ·obtain rfl:=Zac h17
    exact af fol hE (o3 ++ [.c true,.r []]) [] 0 [] (t2 c4)
   ·exact aq fol (o3 ++ [.c false,.r [],.r []]) [1,3,18,19,20] [1] (t2 c4) (At.loop N (At.loopN (fun y:Int×Int=>ZaX.p1.S y.1 p_0 y.2 st) (fun c J hc y h=>ZaX.p1_ok (last_3:=y.1) (v4:=y.2) h hE (fun last_3 v4=>hc (last_3,v4))) N ((-1),0) h18))
noncomputable def ZaS.B:Code:=Tryz.f58.body.getD .skip
noncomputable def ZaS.rs (r:Bool):List CV:=[oB r]
noncomputable def ZaS.p2 (N:Nat) (script_1:LL) (n_1:Int) (c_0:ZaL) (c2_:Int→Option Bool):Int→Option Bool:=fun v4=>
 if (decide (v4<(len c_0.Base)))=true then
  chk (0≤v4)<|
  getE (c_0.Base[Int.toNat v4]?) Zcs fun x5=>
  optE (Zcn N x5) fun x6=>
  if (!x6)=true then
   some true
  else
  c2_ (w64 (v4+1))
 else
 if (decide ((len c_0.P.Gates)>20))=true then
  some true
 else
 if (decide ((len c_0.P.Checks)>20))=true then
  some true
 else
 if (decide ((len c_0.Base)>20))=true then
  some true
 else
 if (decide ((len script_1)>12))=true then
  some true
 else
 if (decide (n_1>200))=true then
  some true
 else
 optE (ZaX N c_0.P) fun x7=>
 some (!x7)
noncomputable def ZaS.p1 (N:Nat) (script_1:LL) (c_0:ZaL) (c1_:(Int×Int)→Option Bool):(Int×Int)→Option Bool:=fun (n_1,v2)=>
 if (decide (v2<(len script_1)))=true then
  chk (0≤v2)<|
  getE (script_1[Int.toNat v2]?) Zcx fun x3=>
  if (decide ((len x3.List_)>70))=true then
   some true
  else
  c1_ (w64 (n_1+(len x3.List_)),w64 (v2+1))
 else
 loopN (ZaS.p2 N script_1 n_1 c_0) N 0
noncomputable def ZaS (N:Nat) (c_0:ZaL) (script_1:LL):Option Bool:=
 loopN (ZaS.p1 N script_1 c_0) N (0,0)
noncomputable def ZaS.p2.S (script_1:LL) (n_1:Int) (c_0:ZaL) (v4:Int) (st:LL):S:=mkS 70 [(1,sV 3 script_1),(2,sA 2),(5,sI n_1),(27,sV 68 c_0.Base),(28,sI (len c_0.Base)),(29,sI v4)] [(2,.cells c_0.ls)] st
noncomputable def ZaS.p1.S (script_1:LL) (n_1 v2:Int) (c_0:ZaL) (st:LL):S:=mkS 70 [(1,sV 3 script_1),(2,sA 2),(5,sI n_1),(10,sV 3 script_1),(11,sI (len script_1)),(12,sI v2)] [(2,.cells c_0.ls)] st
theorem ZaS.p2_ok {script_1 n_1 c_0 v4 st r c2_ J2} (h:ZaS.p2 N script_1 n_1 c_0 c2_ v4=some r) (hE:En Tryz.f58 g0 w0 (ZaS.rs r) st R) (hc2 : ∀v4,c2_ v4=some r→At g0 w0 (ZaS.p2.S script_1 n_1 c_0 v4 st) J2):At g0 w0 (ZaS.p2.S script_1 n_1 c_0 v4 st) (XK Tryz.prog R (.c (csub ZaS.B [1,1,1,0,1,0,0]) :: .h J2 :: [.b 2,.c (csub ZaS.B [1,1,1,1])])):=by
 unfold ZaS.p2 at h
 refine iteB h (fun c5 h1=>?_) (fun c5 h2=>?_)
 ·obtain ⟨c6,h3⟩:=ZaN h1
  obtain ⟨x5,c7,h4⟩:=Zco h3
  obtain ⟨x6,c8,h5⟩:=Zad h4
  let o1:List PS:=[.r [],.c true,.r [(1,{oe:=x5.ls})],.r [(1,q1 [oB x6])]]
  have t1 {Q:Prop} (q:Q):=aM c5 c6 (oD c5) c7 (Zcn.snd c8) q
  refine iteB h5 (fun c9 h6=>?_) (fun c9 h7=>?_)
  ·obtain rfl:=Zac h6
   exact af fol hE (o1 ++ [.c true,.r []]) [] 0 [] (t1 c9)
  ·exact an fol (o1 ++ [.c false,.r []]) [1,2,5,27,28,29] [2] (t1 c9) (hc2 (w64 (v4+1)) h7)
 ·let o2:List PS:=[.r [],.c false]
  refine iteB h2 (fun c10 h8=>?_) (fun c10 h9=>?_)
  ·obtain rfl:=Zac h8
   exact af fol hE (o2 ++ [.r [(6,wF),(7,wF),(8,wF),(9,wF),(10,wF),(13,wF),(14,wF),(15,wF),(16,wF),(19,wF),(20,wF),(21,wF),(24,wF),(25,wF),(28,wF),(29,wF),(30,wF),(31,wF)]]) [] 0 [] (aO c5 c10 c10 c10 c10 c10 c10 (aO eT eT eT eT eT eT eT (aO eT eT eT eT eT eT eT (aJ eT eT eT))))
  ·have t2 {Q:Prop} (q:Q):=aO c5 c10 c10 c10 c10 c10 c10 q
   refine iteB h9 (fun c11 h10=>?_) (fun c11 h11=>?_)
   ·obtain rfl:=Zac h10
    exact af fol hE (o2 ++ [.r [(11,yF),(13,wF),(14,wF),(15,wF),(16,wF),(19,wF),(20,wF),(21,wF),(24,wF),(25,wF),(28,wF),(29,wF),(30,wF),(31,wF)]]) [] 0 [] (t2 (aO c11 c11 c11 c11 c11 eT eT (aO eT eT eT eT eT eT eT (aJ eT eT eT))))
   ·have t3 {Q:Prop} (q:Q):=t2 (aM c11 c11 c11 c11 c11 q)
    refine iteB h11 (fun c12 h12=>?_) (fun c12 h13=>?_)
    ·obtain rfl:=Zac h12
     exact af fol hE (o2 ++ [.r [(11,yF),(17,yF),(19,wF),(20,wF),(21,wF),(24,wF),(25,wF),(28,wF),(29,wF),(30,wF),(31,wF)]]) [] 0 [] (t3 (aO c12 c12 c12 c12 eT eT eT (aL eT eT eT eT eT)))
    ·refine iteB h13 (fun c13 h14=>?_) (fun c13 h15=>?_)
     ·obtain rfl:=Zac h14
      exact af fol hE (o2 ++ [.r [(11,yF),(17,yF),(22,yF),(24,wF),(25,wF),(28,wF),(29,wF),(30,wF),(31,wF)]]) [] 0 [] (t3 (aO c12 c12 c12 c12 c13 c13 c13 (aL eT eT eT eT eT)))
     ·refine iteB h15 (fun c14 h16=>?_) (fun c14 h17=>?_)
      ·obtain rfl:=Zac h16
       exact af fol hE (o2 ++ [.r [(11,yF),(17,yF),(22,yF),(26,yF),(28,wF),(29,wF),(30,wF),(31,wF)]]) [] 0 [] (t3 (aO c12 c12 c12 c12 c13 c13 c13 (aL c14 c14 c14 c14 c14)))
      ·obtain ⟨x7,c15,h18⟩:=Zad h17
       obtain rfl:=Zac h18
       exact af fol hE (o2 ++ [.r [(11,yF),(17,yF),(22,yF),(26,yF),(30,q1 [oB x7]),(32,yF)]]) [] 0 [] (t3 (aO c12 c12 c12 c12 c13 c13 c13 (aM c14 c14 c14 (ZaX.snd c15) c14 c14)))
theorem ZaS.p1_ok {script_1 n_1 v2 c_0 st r c1_ J1} (h:ZaS.p1 N script_1 c_0 c1_ (n_1,v2)=some r) (hE:En Tryz.f58 g0 w0 (ZaS.rs r) st R) (hc1 : ∀n_1 v2,c1_ (n_1,v2)=some r→At g0 w0 (ZaS.p1.S script_1 n_1 v2 c_0 st) J1):At g0 w0 (ZaS.p1.S script_1 n_1 v2 c_0 st) (XK Tryz.prog R (.c (csub ZaS.B [1,1,0,1,0,0]) :: .h J1 :: [.b 0,.c (csub ZaS.B [1,1,1])])):=by
 unfold ZaS.p1 at h
 refine iteB h (fun c1 h19=>?_) (fun c1 h20=>?_)
 ·obtain ⟨c2,h21⟩:=ZaN h19
  obtain ⟨x3,c3,h22⟩:=Zdz h21
  let o3:List PS:=[.r [],.c true,.r [(1,{oe:=x3.ls})],.r [],.r []]
  refine iteB h22 (fun c4 h23=>?_) (fun c4 h24=>?_)
  ·obtain rfl:=Zac h23
   exact af fol hE (o3 ++ [.c true,.r []]) [] 0 [] (aL c1 c2 (oD c1) c3 c4)
  ·exact an fol (o3 ++ [.c false,.r []]) [1,2,5,10,11,12] [2] (aL c1 c2 (oD c1) c3 c4) (hc1 (w64 (n_1+(len x3.List_))) (w64 (v2+1)) h24)
 ·exact aq fol [.r [],.c false,.r []] [1,2,5,27,28,29] [2] c1 (At.loop N (At.loopN (fun y:Int=>ZaS.p2.S script_1 n_1 c_0 y st) (fun c J hc y h=>ZaS.p2_ok h hE (fun v4=>hc v4)) N 0 h20))
theorem ZaS.snd {c_0:ZaL} {script_1:LL} {r:Bool} (h:ZaS N c_0 script_1=some r):SndQ Tryz.prog 58 [.agg c_0.ls,.one (L.sl 3 script_1)] (ZaS.rs r):=fun st=>
 sO ZaS.B Tryz.func58 fun g0 w0 R hE=>by
  unfold ZaS at h
  exact aq fol [.r [],.r [],.r []] [1,2,5,10,11,12] [2] trivial (At.loop N (At.loopN (fun y:Int×Int=>ZaS.p1.S script_1 y.1 y.2 c_0 st) (fun c J hc y h=>ZaS.p1_ok (n_1:=y.1) (v2:=y.2) h hE (fun n_1 v2=>hc (n_1,v2))) N (0,0) h))
noncomputable def Zdb.B:Code:=Tryz.f198.body.getD .skip
noncomputable def Zdb.rs (r:(List Int)):List CV:=[.agg [L.arr .u64 4 r]]
noncomputable def Zdb (N:Nat) (a_0_0:List Int) (i_1:Int):Option (List Int):=
 chk (0≤(w64 (Int.tdiv i_1 64)))<|
 chk ((w64 (Int.tdiv i_1 64))<4)<|
 chk (0≤(v64 (Int.tmod i_1 64)))<|
 some (List.set a_0_0 (Int.toNat (w64 (Int.tdiv i_1 64))) (bitsOf .or .u64 (List.getD a_0_0 (Int.toNat (w64 (Int.tdiv i_1 64))) 0) (shlOf .u64 1 (v64 (Int.tmod i_1 64)))))
theorem Zdb.snd {a_0_0:List Int} {i_1:Int} {r:(List Int)} (h:Zdb N a_0_0 i_1=some r):SndQ Tryz.prog 198 [.agg [L.arr .u64 4 a_0_0],oI i_1] (Zdb.rs r):=fun st=>
 sO Zdb.B Tryz.func198 fun g0 w0 R hE=>by
  unfold Zdb at h
  obtain ⟨c1,c2,c3,h1⟩:=ck3 h
  obtain rfl:=Zac h1
  exact af fol hE [.r [],.r [],.r []] [] 0 [] (aO (neI 64) (neI 64) c1 c2 (neI 64) c3 c1 c2)
noncomputable def ZaO.B:Code:=Tryz.f165.body.getD .skip
noncomputable def ZaO.rs (r:(List Int)×Bool):List CV:=[.agg [L.arr .u64 4 r.1],oB r.2]
noncomputable def ZaO.p2 (N:Nat) (c1_:(Int×Int×(List Int))→Option ((List Int)×Bool)) (i_2 x8 x9 c_1:Int) (a_0_0 b_1_0 out_11:List Int):Option ((List Int)×Bool):=
 c1_ (w64 (Int.tdiv (w64 ((w64 (x8+x9))+c_1)) 2),w64 (i_2+1),out_11)
noncomputable def ZaO.p1 (N:Nat) (a_0_0 b_1_0:List Int) (c1_:(Int×Int×(List Int))→Option ((List Int)×Bool)):(Int×Int×(List Int))→Option ((List Int)×Bool):=fun (c_1,i_2,out_7)=>
 if (decide (i_2<256))=true then
  optE (Zci N a_0_0 i_2) fun x8=>
  optE (Zci N b_1_0 i_2) fun x9=>
  if ((Int.tmod (w64 ((w64 (x8+x9))+c_1)) 2)==1)=true then
   optE (Zdb N out_7 i_2) fun x10=>
   ZaO.p2 N c1_ i_2 x8 x9 c_1 a_0_0 b_1_0 x10
  else
  ZaO.p2 N c1_ i_2 x8 x9 c_1 a_0_0 b_1_0 out_7
 else
 some (out_7,c_1==1)
noncomputable def ZaO (N:Nat) (a_0_0 b_1_0:List Int):Option ((List Int)×Bool):=
 loopN (ZaO.p1 N a_0_0 b_1_0) N (0,0,List.replicate 4 0)
noncomputable def ZaO.p2.S (i_2 x8 x9 c_1:Int) (a_0_0 b_1_0 out_11:List Int) (st:LL):S:=mkS 35 [(2,sA 2),(3,sA 3),(4,sA 4),(6,sA 6),(8,sI i_2),(9,sI (w64 ((w64 (x8+x9))+c_1)))] [(2,.cells [L.arr .u64 4 a_0_0]),(3,.cells [L.arr .u64 4 b_1_0]),(4,.cells [L.arr .u64 4 (List.replicate 4 0)]),(6,.cells [L.arr .u64 4 out_11])] st
noncomputable def ZaO.p1.S (c_1 i_2:Int) (a_0_0 b_1_0 out_7:List Int) (st:LL):S:=mkS 35 [(2,sA 2),(3,sA 3),(4,sA 4),(6,sA 6),(7,sI c_1),(8,sI i_2)] [(2,.cells [L.arr .u64 4 a_0_0]),(3,.cells [L.arr .u64 4 b_1_0]),(4,.cells [L.arr .u64 4 (List.replicate 4 0)]),(6,.cells [L.arr .u64 4 out_7])] st
theorem ZaO.p2_ok {i_2 x8 x9 c_1 a_0_0 b_1_0 out_11 st r c1_ J1} (h:ZaO.p2 N c1_ i_2 x8 x9 c_1 a_0_0 b_1_0 out_11=some r) (hE:En Tryz.f165 g0 w0 (ZaO.rs r) st R) (hc1 : ∀c_1 i_2 out_7,c1_ (c_1,i_2,out_7)=some r→At g0 w0 (ZaO.p1.S c_1 i_2 a_0_0 b_1_0 out_7 st) J1):At g0 w0 (ZaO.p2.S i_2 x8 x9 c_1 a_0_0 b_1_0 out_11 st) (XK Tryz.prog R [.c (csub ZaO.B [1,1,1,0,1,0,0,1,0,0,1,1]),.b 1,.c (csub ZaO.B [1,1,1,0,1,0,0,1,1]),.h J1,.b 0,.c (csub ZaO.B [1,1,1,1])]):=by
 unfold ZaO.p2 at h
 exact an fol [.r [],.r []] [2,3,4,6,7,8] [2,3,4,6] (neI 2) (hc1 (w64 (Int.tdiv (w64 ((w64 (x8+x9))+c_1)) 2)) (w64 (i_2+1)) out_11 h)
theorem ZaO.p1_ok {c_1 i_2 a_0_0 b_1_0 out_7 st r c1_ J1} (h:ZaO.p1 N a_0_0 b_1_0 c1_ (c_1,i_2,out_7)=some r) (hE:En Tryz.f165 g0 w0 (ZaO.rs r) st R) (hc1 : ∀c_1 i_2 out_7,c1_ (c_1,i_2,out_7)=some r→At g0 w0 (ZaO.p1.S c_1 i_2 a_0_0 b_1_0 out_7 st) J1):At g0 w0 (ZaO.p1.S c_1 i_2 a_0_0 b_1_0 out_7 st) (XK Tryz.prog R (.c (csub ZaO.B [1,1,1,0,1,0,0]) :: .h J1 :: [.b 0,.c (csub ZaO.B [1,1,1,1])])):=by
 unfold ZaO.p1 at h
 refine iteB h (fun c6 h1=>?_) (fun c6 h2=>?_)
 ·obtain ⟨x8,c7,h3⟩:=Zad h1
  obtain ⟨x9,c8,h4⟩:=Zad h3
  let o1:List PS:=[.r [],.c true,.d {ds:=[(2,q1 [oI x8]),(5,q1 [oI x9])],hv:=0,Hs:=[]},.r []]
  have t1 {Q:Prop} (q:Q):=aL c6 (Zci.snd c7) (Zci.snd c8) (neI 2) q
  refine iteB h4 (fun c9 h5=>?_) (fun c9 h6=>?_)
  ·obtain ⟨x10,c10,h7⟩:=Zad h5
   exact aqd fol (o1 ++ [.c true,.r [(2,q1 [.agg [L.arr .u64 4 x10]])],.s 6]) [2,3,4,6,8,9] [2,3,4,6] (t1 (aI c9 (Zdb.snd c10))) (ZaO.p2_ok h7 hE hc1)
  ·exact aqd fol (o1 ++ [.c false,.s 6]) [2,3,4,6,8,9] [2,3,4,6] (t1 c9) (ZaO.p2_ok h6 hE hc1)
 ·obtain rfl:=Zac h2
  exact af fol hE [.r [],.c false,.r []] [] 0 [] c6
theorem ZaO.snd {a_0_0 b_1_0:List Int} {r:(List Int)×Bool} (h:ZaO N a_0_0 b_1_0=some r):SndQ Tryz.prog 165 [.agg [L.arr .u64 4 a_0_0],.agg [L.arr .u64 4 b_1_0]] (ZaO.rs r):=fun st=>
 sO ZaO.B Tryz.func165 fun g0 w0 R hE=>by
  unfold ZaO at h
  exact aq fol [.r [],.r [],.r [],.r []] [2,3,4,6,7,8] [2,3,4,6] trivial (At.loop N (At.loopN (fun y:Int×Int×(List Int)=>ZaO.p1.S y.1 y.2.1 a_0_0 b_1_0 y.2.2 st) (fun c J hc y h=>ZaO.p1_ok (c_1:=y.1) (i_2:=y.2.1) (out_7:=y.2.2) h hE (fun c_1 i_2 out_7=>hc (c_1,i_2,out_7))) N (0,0,List.replicate 4 0) h))
noncomputable def Zbc.B:Code:=Tryz.f199.body.getD .skip
noncomputable def Zbc.rs (r:(List Int)):List CV:=[.agg [L.arr .u64 4 r]]
noncomputable def Zbc.p2 (N:Nat) (c1_:(Int×(List Int))→Option (List Int)) (i_1:Int) (a_0_0 out_8:List Int):Option (List Int):=
 c1_ (w64 (i_1+1),out_8)
noncomputable def Zbc.p1 (N:Nat) (a_0_0:List Int) (c1_:(Int×(List Int))→Option (List Int)):(Int×(List Int))→Option (List Int):=fun (i_1,out_5)=>
 if (decide (i_1<256))=true then
  optE (Zci N a_0_0 i_1) fun x6=>
  if (x6==0)=true then
   optE (Zdb N out_5 i_1) fun x7=>
   Zbc.p2 N c1_ i_1 a_0_0 x7
  else
  Zbc.p2 N c1_ i_1 a_0_0 out_5
 else
 some out_5
noncomputable def Zbc (N:Nat) (a_0_0:List Int):Option (List Int):=
 loopN (Zbc.p1 N a_0_0) N (0,List.replicate 4 0)
noncomputable def Zbc.p2.S (i_1:Int) (a_0_0 out_8:List Int) (st:LL):S:=mkS 18 [(1,sA 1),(2,sA 2),(3,sA 3),(4,sI i_1)] [(1,.cells [L.arr .u64 4 a_0_0]),(2,.cells [L.arr .u64 4 (List.replicate 4 0)]),(3,.cells [L.arr .u64 4 out_8])] st
noncomputable def Zbc.p1.S (i_1:Int) (a_0_0 out_5:List Int) (st:LL):S:=mkS 18 [(1,sA 1),(2,sA 2),(3,sA 3),(4,sI i_1)] [(1,.cells [L.arr .u64 4 a_0_0]),(2,.cells [L.arr .u64 4 (List.replicate 4 0)]),(3,.cells [L.arr .u64 4 out_5])] st
theorem Zbc.p2_ok {i_1 a_0_0 out_8 st r c1_ J1} (h:Zbc.p2 N c1_ i_1 a_0_0 out_8=some r) (hE:En Tryz.f199 g0 w0 (Zbc.rs r) st R) (hc1 : ∀i_1 out_5,c1_ (i_1,out_5)=some r→At g0 w0 (Zbc.p1.S i_1 a_0_0 out_5 st) J1):At g0 w0 (Zbc.p2.S i_1 a_0_0 out_8 st) (XK Tryz.prog R [.c (csub Zbc.B [1,1,0,1,0,0,1,1]),.h J1,.b 0,.c (csub Zbc.B [1,1,1])]):=by
 unfold Zbc.p2 at h
 exact an fol [.r []] [1,2,3,4] [1,2,3] trivial (hc1 (w64 (i_1+1)) out_8 h)
theorem Zbc.p1_ok {i_1 a_0_0 out_5 st r c1_ J1} (h:Zbc.p1 N a_0_0 c1_ (i_1,out_5)=some r) (hE:En Tryz.f199 g0 w0 (Zbc.rs r) st R) (hc1 : ∀i_1 out_5,c1_ (i_1,out_5)=some r→At g0 w0 (Zbc.p1.S i_1 a_0_0 out_5 st) J1):At g0 w0 (Zbc.p1.S i_1 a_0_0 out_5 st) (XK Tryz.prog R (.c (csub Zbc.B [1,1,0,1,0,0]) :: .h J1 :: [.b 0,.c (csub Zbc.B [1,1,1])])):=by
 unfold Zbc.p1 at h
 refine iteB h (fun c5 h1=>?_) (fun c5 h2=>?_)
 ·obtain ⟨x6,c6,h3⟩:=Zad h1
  let o1:List PS:=[.r [],.c true,.r [(2,q1 [oI x6])]]
  refine iteB h3 (fun c7 h4=>?_) (fun c7 h5=>?_)
  ·obtain ⟨x7,c8,h6⟩:=Zad h4
   exact aq fol (o1 ++ [.c true,.r [(2,q1 [.agg [L.arr .u64 4 x7]])],.s 4]) [1,2,3,4] [1,2,3] (aK c5 (Zci.snd c6) c7 (Zdb.snd c8)) (Zbc.p2_ok h6 hE hc1)
  ·exact aq fol (o1 ++ [.c false,.s 4]) [1,2,3,4] [1,2,3] (aJ c5 (Zci.snd c6) c7) (Zbc.p2_ok h5 hE hc1)
 ·obtain rfl:=Zac h2
  exact af fol hE [.r [],.c false,.r []] [] 0 [] c5
theorem Zbc.snd {a_0_0:List Int} {r:(List Int)} (h:Zbc N a_0_0=some r):SndQ Tryz.prog 199 [.agg [L.arr .u64 4 a_0_0]] (Zbc.rs r):=fun st=>
 sO Zbc.B Tryz.func199 fun g0 w0 R hE=>by
  unfold Zbc at h
  exact aq fol [.r [],.r [],.r []] [1,2,3,4] [1,2,3] trivial (At.loop N (At.loopN (fun y:Int×(List Int)=>Zbc.p1.S y.1 a_0_0 y.2 st) (fun c J hc y h=>Zbc.p1_ok (i_1:=y.1) (out_5:=y.2) h hE (fun i_1 out_5=>hc (i_1,out_5))) N (0,List.replicate 4 0) h))
noncomputable def Zcq.B:Code:=Tryz.f166.body.getD .skip
noncomputable def Zcq.rs (r:(List Int)):List CV:=[.agg [L.arr .u64 4 r]]
noncomputable def Zcq (N:Nat):Option (List Int):=
 optE (Zbc N (List.replicate 4 0)) fun x1=>
 some x1
theorem Zcq.snd {r:(List Int)} (h:Zcq N=some r):SndQ Tryz.prog 166 [] (Zcq.rs r):=fun st=>
 sO Zcq.B Tryz.func166 fun g0 w0 R hE=>by
  unfold Zcq at h
  obtain ⟨x1,c1,h1⟩:=Zad h
  obtain rfl:=Zac h1
  exact af fol hE [.r [],.r [(1,q1 [.agg [L.arr .u64 4 x1]])]] [] 0 [] (Zbc.snd c1)
noncomputable def Zdc.B:Code:=Tryz.f197.body.getD .skip
noncomputable def Zdc.rs (r:(List Int)×Bool):List CV:=[.agg [L.arr .u64 4 r.1],oB r.2]
noncomputable def Zdc (N:Nat) (a_0_0 b_1_0:List Int):Option ((List Int)×Bool):=
 optE (Zbc N b_1_0) fun x1=>
 optE (ZaO N a_0_0 x1) fun (x2,x3)=>
 optE (ZaO N x2 [1,0,0,0]) fun (x4,x5)=>
 optE (Zbf N a_0_0 b_1_0) fun x6=>
 some (x4,x6)
theorem Zdc.snd {a_0_0 b_1_0:List Int} {r:(List Int)×Bool} (h:Zdc N a_0_0 b_1_0=some r):SndQ Tryz.prog 197 [.agg [L.arr .u64 4 a_0_0],.agg [L.arr .u64 4 b_1_0]] (Zdc.rs r):=fun st=>
 sO Zdc.B Tryz.func197 fun g0 w0 R hE=>by
  unfold Zdc at h
  obtain ⟨x1,c1,h1⟩:=Zad h
  obtain ⟨⟨x2,x3⟩,c2,h2⟩:=Zad h1
  obtain ⟨⟨x4,x5⟩,c3,h3⟩:=Zad h2
  obtain ⟨x6,c4,h4⟩:=Zad h3
  obtain rfl:=Zac h4
  exact afd fol hE [.r [],.d {ds:=[(2,q1 [.agg [L.arr .u64 4 x1]]),(3,q1 [.agg [L.arr .u64 4 x2],oB x3])],hv:=384,Hs:=[128,384]},.r [(1,{m:=3}),(2,q1 [.agg [L.arr .u64 4 x4],oB x5])],.d {ds:=[(3,q1 [oB x6])],hv:=16,Hs:=[16]}] [] 0 [] (aM (Zbc.snd c1) (Zbc.snd c1) (ZaO.snd c2) (ZaO.snd c2) (ZaO.snd c3) (Zbf.snd c4))
noncomputable def ZaW.B:Code:=Tryz.f164.body.getD .skip
noncomputable def ZaW.rs (r:(List Int)):List CV:=[.agg [L.arr .u64 4 r]]
noncomputable def ZaW.p2 (N:Nat) (c1_:(Int×(List Int)×(List Int))→Option (List Int)) (i_5:Int) (target_0_0 x1 out_36 rest_37:List Int):Option (List Int):=
 c1_ (w64 (i_5-1),out_36,rest_37)
noncomputable def ZaW.p3 (N:Nat) (out_41:List Int):Option (List Int):=
 some out_41
noncomputable def ZaW.p1 (N:Nat) (target_0_0 x1:List Int) (c1_:(Int×(List Int)×(List Int))→Option (List Int)):(Int×(List Int)×(List Int))→Option (List Int):=fun (i_5,out_23,rest_24)=>
 if (decide (i_5≥0))=true then
  optE (Zam N x1 i_5) fun x25=>
  optE (Zam N x25 (w64 (0-i_5))) fun x26=>
  if (!(x26==x1))=true then
   ZaW.p2 N c1_ i_5 target_0_0 x1 out_23 rest_24
  else
  optE (Zdc N x25 [1,0,0,0]) fun (x27,x28)=>
  optE (Zbf N rest_24 x27) fun x29=>
  if (!x29)=true then
   optE (Zdc N rest_24 x25) fun (x30,x31)=>
   optE (Zam N [1,0,0,0] i_5) fun x32=>
   optE (ZaO N out_23 x32) fun (x33,x34)=>
   optE (Zcq N ) fun x35=>
   if (x30==x35)=true then
    some x33
   else
   ZaW.p2 N c1_ i_5 target_0_0 x1 x33 x30
  else
  ZaW.p2 N c1_ i_5 target_0_0 x1 out_23 rest_24
 else
 optE (Zbf N rest_24 target_0_0) fun x38=>
 if (!x38)=true then
  optE (ZaO N out_23 [1,0,0,0]) fun (x39,x40)=>
  ZaW.p3 N x39
 else
 ZaW.p3 N out_23
noncomputable def ZaW (N:Nat) (target_0_0:List Int):Option (List Int):=
 optE (ZaO N target_0_0 [1,0,0,0]) fun (x1,x2)=>
 if x2=true then
  some [1,0,0,0]
 else
 if (target_0_0==(List.replicate 4 0))=true then
  optE (Zcq N ) fun x3=>
  some x3
 else
 optE (Zcq N ) fun x4=>
 loopN (ZaW.p1 N target_0_0 x1) N (255,List.replicate 4 0,x4)
noncomputable def ZaW.p2.S (i_5:Int) (target_0_0 x1 out_36 rest_37:List Int) (st:LL):S:=mkS 79 [(1,sA 1),(2,sA 2),(3,sA 3),(4,sA 4),(6,sA 6),(7,sA 7),(8,sI i_5)] [(1,.cells [L.arr .u64 4 target_0_0]),(2,.cells [L.arr .u64 4 (List.replicate 4 0)]),(3,.cells [L.arr .u64 4 [1,0,0,0]]),(4,.cells [L.arr .u64 4 x1]),(6,.cells [L.arr .u64 4 out_36]),(7,.cells [L.arr .u64 4 rest_37])] st
noncomputable def ZaW.p3.S (out_41:List Int) (st:LL):S:=mkS 79 [(2,sA 2),(6,sA 6)] [(2,.cells [L.arr .u64 4 (List.replicate 4 0)]),(6,.cells [L.arr .u64 4 out_41])] st
noncomputable def ZaW.p1.S (i_5:Int) (target_0_0 x1 out_23 rest_24:List Int) (st:LL):S:=mkS 79 [(1,sA 1),(2,sA 2),(3,sA 3),(4,sA 4),(6,sA 6),(7,sA 7),(8,sI i_5)] [(1,.cells [L.arr .u64 4 target_0_0]),(2,.cells [L.arr .u64 4 (List.replicate 4 0)]),(3,.cells [L.arr .u64 4 [1,0,0,0]]),(4,.cells [L.arr .u64 4 x1]),(6,.cells [L.arr .u64 4 out_23]),(7,.cells [L.arr .u64 4 rest_24])] st
theorem ZaW.p2_ok {i_5 target_0_0 x1 out_36 rest_37 st r c1_ J1} (h:ZaW.p2 N c1_ i_5 target_0_0 x1 out_36 rest_37=some r) (hE:En Tryz.f164 g0 w0 (ZaW.rs r) st R) (hc1 : ∀i_5 out_23 rest_24,c1_ (i_5,out_23,rest_24)=some r→At g0 w0 (ZaW.p1.S i_5 target_0_0 x1 out_23 rest_24 st) J1):At g0 w0 (ZaW.p2.S i_5 target_0_0 x1 out_36 rest_37 st) (XK Tryz.prog R [.c (csub ZaW.B [1,1,1,1,1,1,1,0,1,0,0,1,1]),.h J1,.b 0,.c (csub ZaW.B [1,1,1,1,1,1,1,1])]):=by
 unfold ZaW.p2 at h
 exact an fol [.r []] [1,2,3,4,6,7,8] [1,2,3,4,6,7] trivial (hc1 (w64 (i_5-1)) out_36 rest_37 h)
theorem ZaW.p3_ok {out_41 st r} (h:ZaW.p3 N out_41=some r) (hE:En Tryz.f164 g0 w0 (ZaW.rs r) st R):At g0 w0 (ZaW.p3.S out_41 st) (XK Tryz.prog R [.c (csub ZaW.B [1,1,1,1,1,1,1,1,1])]):=by
 unfold ZaW.p3 at h
 obtain rfl:=Zac h
 exact af fol hE [.r []] [] 0 [] trivial
theorem ZaW.p1_ok {i_5 target_0_0 x1 out_23 rest_24 st r c1_ J1} (h:ZaW.p1 N target_0_0 x1 c1_ (i_5,out_23,rest_24)=some r) (hE:En Tryz.f164 g0 w0 (ZaW.rs r) st R) (hc1 : ∀i_5 out_23 rest_24,c1_ (i_5,out_23,rest_24)=some r→At g0 w0 (ZaW.p1.S i_5 target_0_0 x1 out_23 rest_24 st) J1):At g0 w0 (ZaW.p1.S i_5 target_0_0 x1 out_23 rest_24 st) (XK Tryz.prog R (.c (csub ZaW.B [1,1,1,1,1,1,1,0,1,0,0]) :: .h J1 :: [.b 0,.c (csub ZaW.B [1,1,1,1,1,1,1,1])])):=by
 unfold ZaW.p1 at h
 refine iteB h (fun c21 h1=>?_) (fun c21 h2=>?_)
 ·obtain ⟨x25,c22,h3⟩:=Zad h1
  obtain ⟨x26,c23,h4⟩:=Zad h3
  let o1:List PS:=[.r [],.c true,.r [(2,q1 [.agg [L.arr .u64 4 x25]])],.d {ds:=[(3,q1 [.agg [L.arr .u64 4 x26]])],hv:=0,Hs:=[]}]
  have t1 {Q:Prop} (q:Q):=aK c21 (Zam.snd c22) (Zam.snd c23) q
  refine iteB h4 (fun c24 h5=>?_) (fun c24 h6=>?_)
  ·exact aqd fol (o1 ++ [.c true,.s 4]) [1,2,3,4,6,7,8] [1,2,3,4,6,7] (t1 c24) (ZaW.p2_ok h5 hE hc1)
  ·obtain ⟨⟨x27,x28⟩,c25,h7⟩:=Zad h6
   obtain ⟨x29,c26,h8⟩:=Zad h7
   let o2:List PS:=o1 ++ [.c false,.r [(2,q1 [.agg [L.arr .u64 4 x27],oB x28])],.r [(2,q1 [oB x29])]]
   have t2 {Q:Prop} (q:Q):=t1 (aK c24 (Zdc.snd c25) (Zbf.snd c26) q)
   refine iteB h8 (fun c27 h9=>?_) (fun c27 h10=>?_)
   ·obtain ⟨⟨x30,x31⟩,c28,h11⟩:=Zad h9
    obtain ⟨x32,c29,h12⟩:=Zad h11
    obtain ⟨⟨x33,x34⟩,c30,h13⟩:=Zad h12
    obtain ⟨x35,c31,h14⟩:=Zad h13
    let o3:List PS:=o2 ++ [.c true,.r [(2,q1 [.agg [L.arr .u64 4 x30],oB x31])],.d {ds:=[(3,q1 [.agg [L.arr .u64 4 x32]]),(4,q1 [.agg [L.arr .u64 4 x33],oB x34])],hv:=256,Hs:=[256]},.d {ds:=[(1,q1 [.agg [L.arr .u64 4 x35]])],hv:=0,Hs:=[]}]
    have t3 {Q:Prop} (q:Q):=t2 (aM c27 (Zdc.snd c28) (Zam.snd c29) (ZaO.snd c30) (Zcq.snd c31) q)
    refine iteB h14 (fun c32 h15=>?_) (fun c32 h16=>?_)
    ·obtain rfl:=Zac h15
     exact afd fol hE (o3 ++ [.c true,.r []]) [] 0 [] (t3 c32)
    ·exact aqd fol (o3 ++ [.c false,.s 4]) [1,2,3,4,6,7,8] [1,2,3,4,6,7] (t3 c32) (ZaW.p2_ok h16 hE hc1)
   ·exact aqd fol (o2 ++ [.c false,.s 4]) [1,2,3,4,6,7,8] [1,2,3,4,6,7] (t2 c27) (ZaW.p2_ok h10 hE hc1)
 ·obtain ⟨x38,c33,h17⟩:=Zad h2
  let o4:List PS:=[.r [],.c false,.r [(2,q1 [oB x38])]]
  refine iteB h17 (fun c34 h18=>?_) (fun c34 h19=>?_)
  ·obtain ⟨⟨x39,x40⟩,c35,h20⟩:=Zad h18
   exact aq fol (o4 ++ [.c true,.r [(2,q1 [.agg [L.arr .u64 4 x39],oB x40])],.s 1]) [2,6] [2,6] (aK c21 (Zbf.snd c33) c34 (ZaO.snd c35)) (ZaW.p3_ok h20 hE)
  ·exact aq fol (o4 ++ [.c false,.s 1]) [2,6] [2,6] (aJ c21 (Zbf.snd c33) c34) (ZaW.p3_ok h19 hE)
theorem ZaW.snd {target_0_0:List Int} {r:(List Int)} (h:ZaW N target_0_0=some r):SndQ Tryz.prog 164 [.agg [L.arr .u64 4 target_0_0]] (ZaW.rs r):=fun st=>
 sO ZaW.B Tryz.func164 fun g0 w0 R hE=>by
  unfold ZaW at h
  obtain ⟨⟨x1,x2⟩,c1,h21⟩:=Zad h
  let o5:List PS:=[.r [],.r [(0,{m:=3})],.r [(2,q1 [.agg [L.arr .u64 4 x1],oB x2])],.r []]
  have t4 {Q:Prop} (q:Q):=aI (ZaO.snd c1) q
  refine iteB h21 (fun c2 h22=>?_) (fun c2 h23=>?_)
  ·obtain rfl:=Zac h22
   exact af fol hE (o5 ++ [.c true,.r []]) [] 0 [] (t4 c2)
  ·refine iteB h23 (fun c3 h24=>?_) (fun c3 h25=>?_)
   ·obtain ⟨x3,c4,h26⟩:=Zad h24
    obtain rfl:=Zac h26
    exact af fol hE (o5 ++ [.c false,.r [],.c true,.r [(0,q1 [.agg [L.arr .u64 4 x3]])]]) [] 0 [] (t4 (aJ c2 c3 (Zcq.snd c4)))
   ·obtain ⟨x4,c5,h27⟩:=Zad h25
    exact aq fol (o5 ++ [.c false,.r [],.c false,.r [],.r [(0,q1 [.agg [L.arr .u64 4 x4]])],.r []]) [1,2,3,4,6,7,8] [1,2,3,4,6,7] (t4 (aJ c2 c3 (Zcq.snd c5))) (At.loop N (At.loopN (fun y:Int×(List Int)×(List Int)=>ZaW.p1.S y.1 target_0_0 x1 y.2.1 y.2.2 st) (fun c J hc y h=>ZaW.p1_ok (i_5:=y.1) (out_23:=y.2.1) (rest_24:=y.2.2) h hE (fun i_5 out_23 rest_24=>hc (i_5,out_23,rest_24))) N (255,List.replicate 4 0,x4) h27))
noncomputable def Zcw.B:Code:=Tryz.f104.body.getD .skip
noncomputable def Zcw.rs (r:(List Int)):List CV:=[.agg [L.arr .u64 4 r]]
noncomputable def Zcw (N:Nat) (bits_0:Int):Option (List Int):=
 optE (ZaH N bits_0) fun (x1,x2,x3)=>
 if x2=true then
  some (List.replicate 4 0)
 else
 if x3=true then
  some (List.replicate 4 0)
 else
 if (x1==(List.replicate 4 0))=true then
  some (List.replicate 4 0)
 else
 optE (ZaW N x1) fun x4=>
 some x4
theorem Zcw.snd {bits_0:Int} {r:(List Int)} (h:Zcw N bits_0=some r):SndQ Tryz.prog 104 [oI bits_0] (Zcw.rs r):=fun st=>
 sO Zcw.B Tryz.func104 fun g0 w0 R hE=>by
  unfold Zcw at h
  obtain ⟨⟨x1,x2,x3⟩,c1,h1⟩:=Zad h
  let o1:List PS:=[.r [],.r [(1,q1 [.agg [L.arr .u64 4 x1],oB x2,oB x3])]]
  have t1 {Q:Prop} (q:Q):=aI (ZaH.snd c1) q
  refine iteB h1 (fun c2 h2=>?_) (fun c2 h3=>?_)
  ·obtain rfl:=Zac h2
   exact af fol hE (o1 ++ [.r [(2,wF),(5,wF),(6,wF),(7,wF)],.c true,.r []]) [] 0 [] (t1 (aN c2 c2 eT eT eT eT eT))
  ·refine iteB h3 (fun c3 h4=>?_) (fun c3 h5=>?_)
   ·obtain rfl:=Zac h4
    exact af fol hE (o1 ++ [.r [(3,yF),(5,wF),(6,wF),(7,wF)],.c true,.r []]) [] 0 [] (t1 (aN c2 c2 c3 c3 c3 c3 eT))
   ·let o2:List PS:=o1 ++ [.r [(3,yF),(8,yF)]]
    refine iteB h5 (fun c4 h6=>?_) (fun c4 h7=>?_)
    ·obtain rfl:=Zac h6
     exact af fol hE (o2 ++ [.c true,.r []]) [] 0 [] (t1 (aN c2 c2 c3 c3 c3 c3 c4))
    ·obtain ⟨x4,c5,h8⟩:=Zad h7
     obtain rfl:=Zac h8
     exact af fol hE (o2 ++ [.c false,.r [(1,q1 [.agg [L.arr .u64 4 x4]])]]) [] 0 [] (t1 (aO c2 c2 c3 c3 c3 c3 c4 (ZaW.snd c5)))
noncomputable def Zdy.B:Code:=Tryz.f105.body.getD .skip
noncomputable def Zdy.rs (r:(List Int)):List CV:=[.agg [L.arr .u64 4 r]]
noncomputable def Zdy (N:Nat) (a_0_0 b_1_0:List Int):Option (List Int):=
 optE (ZaO N a_0_0 b_1_0) fun (x1,x2)=>
 if x2=true then
  optE (Zcq N ) fun x3=>
  some x3
 else
 some x1
theorem Zdy.snd {a_0_0 b_1_0:List Int} {r:(List Int)} (h:Zdy N a_0_0 b_1_0=some r):SndQ Tryz.prog 105 [.agg [L.arr .u64 4 a_0_0],.agg [L.arr .u64 4 b_1_0]] (Zdy.rs r):=fun st=>
 sO Zdy.B Tryz.func105 fun g0 w0 R hE=>by
  unfold Zdy at h
  obtain ⟨⟨x1,x2⟩,c1,h1⟩:=Zad h
  let o1:List PS:=[.r [],.r [(2,q1 [.agg [L.arr .u64 4 x1],oB x2])],.r []]
  refine iteB h1 (fun c2 h2=>?_) (fun c2 h3=>?_)
  ·obtain ⟨x3,c3,h4⟩:=Zad h2
   obtain rfl:=Zac h4
   exact af fol hE (o1 ++ [.c true,.r [(0,q1 [.agg [L.arr .u64 4 x3]])]]) [] 0 [] (aJ (ZaO.snd c1) c2 (Zcq.snd c3))
  ·obtain rfl:=Zac h3
   exact af fol hE (o1 ++ [.c false,.r []]) [] 0 [] (aI (ZaO.snd c1) c2)
noncomputable def ZaB.B:Code:=Tryz.f106.body.getD .skip
noncomputable def ZaB.rs (r:Int):List CV:=[oI r]
noncomputable def ZaB.p4 (N:Nat) (c2_:(Int×Int×Int)→Option Int) (c1_:Int→Option Int) (times_0:LL) (i_1 less_7 same_10 j_4:Int):Option Int:=
 c2_ (less_7,same_10,w64 (j_4+1))
noncomputable def ZaB.p3 (N:Nat) (c2_:(Int×Int×Int)→Option Int) (c1_:Int→Option Int) (times_0:LL) (i_1 less_7 same_3 j_4:Int):Option Int:=
 chk (0≤j_4)<|
 chk (j_4<(len times_0))<|
 getE (times_0[Int.toNat j_4]?) Zej fun x8=>
 chk (0≤i_1)<|
 chk (i_1<(len times_0))<|
 getE (times_0[Int.toNat i_1]?) Zej fun x9=>
 if (x8==x9)=true then
  ZaB.p4 N c2_ c1_ times_0 i_1 less_7 (w64 (same_3+1)) j_4
 else
 ZaB.p4 N c2_ c1_ times_0 i_1 less_7 same_3 j_4
noncomputable def ZaB.p2 (N:Nat) (c1_:Int→Option Int) (times_0:LL) (i_1:Int) (c2_:(Int×Int×Int)→Option Int):(Int×Int×Int)→Option Int:=fun (less_2,same_3,j_4)=>
 if (decide (j_4<(if (11:Int)<(len times_0) then 11 else (len times_0))))=true then
  chk (0≤j_4)<|
  chk (j_4<(len times_0))<|
  getE (times_0[Int.toNat j_4]?) Zej fun x5=>
  chk (0≤i_1)<|
  chk (i_1<(len times_0))<|
  getE (times_0[Int.toNat i_1]?) Zej fun x6=>
  if (decide (x5<x6))=true then
   ZaB.p3 N c2_ c1_ times_0 i_1 (w64 (less_2+1)) same_3 j_4
  else
  ZaB.p3 N c2_ c1_ times_0 i_1 less_2 same_3 j_4
 else
 if (decide (less_2≤(w64 (Int.tdiv (if (11:Int)<(len times_0) then 11 else (len times_0)) 2))))=true then
  if (decide ((w64 (Int.tdiv (if (11:Int)<(len times_0) then 11 else (len times_0)) 2))<(w64 (less_2+same_3))))=true then
   chk (0≤i_1)<|
   chk (i_1<(len times_0))<|
   getE (times_0[Int.toNat i_1]?) Zej fun x11=>
   some x11
  else
  c1_ (w64 (i_1+1))
 else
 c1_ (w64 (i_1+1))
noncomputable def ZaB.p1 (N:Nat) (times_0:LL) (c1_:Int→Option Int):Int→Option Int:=fun i_1=>
 if (decide (i_1<(if (11:Int)<(len times_0) then 11 else (len times_0))))=true then
  loopN (ZaB.p2 N c1_ times_0 i_1) N (0,0,0)
 else
 some 0
noncomputable def ZaB (N:Nat) (times_0:LL):Option Int:=
 loopN (ZaB.p1 N times_0) N 0
noncomputable def ZaB.p4.S (times_0:LL) (i_1 less_7 same_10 j_4:Int) (st:LL):S:=mkS 59 [(0,sV 1 times_0),(3,sI (if (11:Int)<(len times_0) then 11 else (len times_0))),(4,sI i_1),(5,sI less_7),(6,sI same_10),(7,sI j_4)] [] st
noncomputable def ZaB.p3.S (times_0:LL) (i_1 less_7 same_3 j_4:Int) (st:LL):S:=mkS 59 [(0,sV 1 times_0),(3,sI (if (11:Int)<(len times_0) then 11 else (len times_0))),(4,sI i_1),(5,sI less_7),(6,sI same_3),(7,sI j_4)] [] st
noncomputable def ZaB.p2.S (times_0:LL) (i_1 less_2 same_3 j_4:Int) (st:LL):S:=mkS 59 [(0,sV 1 times_0),(3,sI (if (11:Int)<(len times_0) then 11 else (len times_0))),(4,sI i_1),(5,sI less_2),(6,sI same_3),(7,sI j_4)] [] st
noncomputable def ZaB.p1.S (times_0:LL) (i_1:Int) (st:LL):S:=mkS 59 [(0,sV 1 times_0),(3,sI (if (11:Int)<(len times_0) then 11 else (len times_0))),(4,sI i_1)] [] st
theorem ZaB.p4_ok {times_0 i_1 less_7 same_10 j_4 st r c2_ c1_ J2 J1} (h:ZaB.p4 N c2_ c1_ times_0 i_1 less_7 same_10 j_4=some r) (hE:En Tryz.f106 g0 w0 (ZaB.rs r) st R) (hc2 : ∀less_2 same_3 j_4,c2_ (less_2,same_3,j_4)=some r→At g0 w0 (ZaB.p2.S times_0 i_1 less_2 same_3 j_4 st) J2) (hc1 : ∀i_1,c1_ i_1=some r→At g0 w0 (ZaB.p1.S times_0 i_1 st) J1):At g0 w0 (ZaB.p4.S times_0 i_1 less_7 same_10 j_4 st) (XK Tryz.prog R [.c (csub ZaB.B [1,1,0,1,0,0,1,0,0,1,1,0,1,0,0,1,1]),.h J2,.b 2,.c (csub ZaB.B [1,1,0,1,0,0,1,0,0,1,1,1]),.b 1,.c (csub ZaB.B [1,1,0,1,0,0,1,1]),.h J1,.b 0,.c (csub ZaB.B [1,1,1])]):=by
 unfold ZaB.p4 at h
 exact an fol [.r []] [0,3,4,5,6,7] [] trivial (hc2 less_7 same_10 (w64 (j_4+1)) h)
theorem ZaB.p3_ok {times_0 i_1 less_7 same_3 j_4 st r c2_ c1_ J2 J1} (h:ZaB.p3 N c2_ c1_ times_0 i_1 less_7 same_3 j_4=some r) (hE:En Tryz.f106 g0 w0 (ZaB.rs r) st R) (hc2 : ∀less_2 same_3 j_4,c2_ (less_2,same_3,j_4)=some r→At g0 w0 (ZaB.p2.S times_0 i_1 less_2 same_3 j_4 st) J2) (hc1 : ∀i_1,c1_ i_1=some r→At g0 w0 (ZaB.p1.S times_0 i_1 st) J1):At g0 w0 (ZaB.p3.S times_0 i_1 less_7 same_3 j_4 st) (XK Tryz.prog R [.c (csub ZaB.B [1,1,0,1,0,0,1,0,0,1,1,0,1,0,0,1,0,0,1]),.b 3,.c (csub ZaB.B [1,1,0,1,0,0,1,0,0,1,1,0,1,0,0,1,1]),.h J2,.b 2,.c (csub ZaB.B [1,1,0,1,0,0,1,0,0,1,1,1]),.b 1,.c (csub ZaB.B [1,1,0,1,0,0,1,1]),.h J1,.b 0,.c (csub ZaB.B [1,1,1])]):=by
 unfold ZaB.p3 at h
 obtain ⟨c10,c11,h1⟩:=ck2 h
 obtain ⟨x8,c12,h2⟩:=Zdh h1
 obtain ⟨c13,c14,h3⟩:=ck2 h2
 obtain ⟨x9,c15,h4⟩:=Zdh h3
 let o1:List PS:=[.d {ds:=[(3,{oe:=[L.int .i64 x8]}),(7,{oe:=[L.int .i64 x9]})],hv:=0,Hs:=[]}]
 refine iteB h4 (fun c16 h5=>?_) (fun c16 h6=>?_)
 ·exact aqd fol (o1 ++ [.c true,.r [],.s 9]) [0,3,4,5,6,7] [] (aN c10 c11 c12 c13 c14 c15 c16) (ZaB.p4_ok h5 hE hc2 hc1)
 ·exact aqd fol (o1 ++ [.c false,.s 9]) [0,3,4,5,6,7] [] (aN c10 c11 c12 c13 c14 c15 c16) (ZaB.p4_ok h6 hE hc2 hc1)
theorem ZaB.p2_ok {times_0 i_1 less_2 same_3 j_4 st r c1_ c2_ J1 J2} (h:ZaB.p2 N c1_ times_0 i_1 c2_ (less_2,same_3,j_4)=some r) (hE:En Tryz.f106 g0 w0 (ZaB.rs r) st R) (hc1 : ∀i_1,c1_ i_1=some r→At g0 w0 (ZaB.p1.S times_0 i_1 st) J1) (hc2 : ∀less_2 same_3 j_4,c2_ (less_2,same_3,j_4)=some r→At g0 w0 (ZaB.p2.S times_0 i_1 less_2 same_3 j_4 st) J2):At g0 w0 (ZaB.p2.S times_0 i_1 less_2 same_3 j_4 st) (XK Tryz.prog R (.c (csub ZaB.B [1,1,0,1,0,0,1,0,0,1,1,0,1,0,0]) :: .h J2 :: [.b 2,.c (csub ZaB.B [1,1,0,1,0,0,1,0,0,1,1,1]),.b 1,.c (csub ZaB.B [1,1,0,1,0,0,1,1]),.h J1,.b 0,.c (csub ZaB.B [1,1,1])])):=by
 unfold ZaB.p2 at h
 refine iteB h (fun c2 h7=>?_) (fun c2 h8=>?_)
 ·obtain ⟨c3,c4,h9⟩:=ck2 h7
  obtain ⟨x5,c5,h10⟩:=Zdh h9
  obtain ⟨c6,c7,h11⟩:=ck2 h10
  obtain ⟨x6,c8,h12⟩:=Zdh h11
  let o2:List PS:=[.r [],.c true,.d {ds:=[(3,{oe:=[L.int .i64 x5]}),(7,{oe:=[L.int .i64 x6]})],hv:=0,Hs:=[]}]
  refine iteB h12 (fun c9 h13=>?_) (fun c9 h14=>?_)
  ·exact aqd fol (o2 ++ [.c true,.r [],.s 11]) [0,3,4,5,6,7] [] (aO c2 c3 c4 c5 c6 c7 c8 c9) (ZaB.p3_ok h13 hE hc2 hc1)
  ·exact aqd fol (o2 ++ [.c false,.s 11]) [0,3,4,5,6,7] [] (aO c2 c3 c4 c5 c6 c7 c8 c9) (ZaB.p3_ok h14 hE hc2 hc1)
 ·refine iteB h8 (fun c17 h15=>?_) (fun c17 h16=>?_)
  ·have t1 {Q:Prop} (q:Q):=aO c2 (neI 2) c17 c17 (neI 2) c17 c17 (aK c17 c17 c17 q)
   refine iteB h15 (fun c18 h17=>?_) (fun c18 h18=>?_)
   ·obtain ⟨c19,c20,h19⟩:=ck2 h17
    obtain ⟨x11,c21,h20⟩:=Zdh h19
    obtain rfl:=Zac h20
    exact af fol hE [.r [],.c false,.r [],.c true,.r [(3,{oe:=[L.int .i64 x11]})]] [] 0 [] (t1 (aK c18 c19 c20 c21))
   ·exact an fol [.r [],.c false,.r [],.c false,.r []] [0,3,4] [] (t1 c18) (hc1 (w64 (i_1+1)) h18)
  ·exact an fol [.r [],.c false,.r [(5,wF),(6,wF),(7,wF),(8,wF),(9,wF),(10,wF),(11,yF)],.c false,.r []] [0,3,4] [] (aO c2 (neI 2) c17 c17 c17 c17 c17 (aJ c17 c17 eF)) (hc1 (w64 (i_1+1)) h16)
theorem ZaB.p1_ok {times_0 i_1 st r c1_ J1} (h:ZaB.p1 N times_0 c1_ i_1=some r) (hE:En Tryz.f106 g0 w0 (ZaB.rs r) st R) (hc1 : ∀i_1,c1_ i_1=some r→At g0 w0 (ZaB.p1.S times_0 i_1 st) J1):At g0 w0 (ZaB.p1.S times_0 i_1 st) (XK Tryz.prog R (.c (csub ZaB.B [1,1,0,1,0,0]) :: .h J1 :: [.b 0,.c (csub ZaB.B [1,1,1])])):=by
 unfold ZaB.p1 at h
 refine iteB h (fun c1 h21=>?_) (fun c1 h22=>?_)
 ·exact aq fol [.r [],.c true,.r [],.r [],.r []] [0,3,4,5,6,7] [] c1 (At.loop N (At.loopN (fun y:Int×Int×Int=>ZaB.p2.S times_0 i_1 y.1 y.2.1 y.2.2 st) (fun c J hc y h=>ZaB.p2_ok (less_2:=y.1) (same_3:=y.2.1) (j_4:=y.2.2) h hE hc1 (fun less_2 same_3 j_4=>hc (less_2,same_3,j_4))) N (0,0,0) h21))
 ·obtain rfl:=Zac h22
  exact af fol hE [.r [],.c false,.r []] [] 0 [] c1
theorem ZaB.snd {times_0:LL} {r:Int} (h:ZaB N times_0=some r):SndQ Tryz.prog 106 [.one (L.sl 1 times_0)] (ZaB.rs r):=fun st=>
 sO ZaB.B Tryz.func106 fun g0 w0 R hE=>by
  unfold ZaB at h
  exact aq fol [.r [],.r [],.r []] [0,3,4] [] trivial (At.loop N (At.loopN (fun y:Int=>ZaB.p1.S times_0 y st) (fun c J hc y h=>ZaB.p1_ok h hE (fun i_1=>hc i_1)) N 0 h))
noncomputable def Zbo.B:Code:=Tryz.f59.body.getD .skip
noncomputable def Zbo.rs (r:(Option Nat)×(Option Nat)×LL):List CV:=[.one (L.ptr r.1),.one (L.ptr r.2.1)]
noncomputable def Zbo.p1 (N:Nat) (c_0:ZaL) (st:LL) (c1_:(LL×Int×Zax×(List Int))→Option ((Option Nat)×(Option Nat)×LL)):(LL×Int×Zax×(List Int))→Option ((Option Nat)×(Option Nat)×LL):=fun (v15,v3,at_13,sum_14)=>
 if (decide (v3<(len c_0.Base)))=true then
  chk (0≤v3)<|
  getE (c_0.Base[Int.toNat v3]?) Zcs fun x16=>
  optE (Zcz N c_0.P at_13 x16) fun x17=>
  chk (List.length (v15 ++ [x16.ls])*96≤140737488355328)<|
  optE (Zcw N x16.Bits) fun x18=>
  optE (Zdy N sum_14 x18) fun x19=>
  c1_ (v15 ++ [x16.ls],w64 (v3+1),x17,x19)
 else
 optE (ZcC N c_0.P (Zdn.mk at_13 sum_14) c_0.Plan c_0.Size c_0.Now st) fun (x20,x21,st22)=>
 if (x21 != 0)=true then
  some (none,none,st22)
 else
 optE (ZaB N at_13.Times) fun x23=>
 optE (Zcm N c_0.Plan (if (0:Int)>(w64 ((w64 (c_0.Now+c_0.P.Future))-x23)) then 0 else (w64 ((w64 (c_0.Now+c_0.P.Future))-x23)))) fun x24=>
 some (x20,(some (List.length st22)),st22 ++ [ZbN.lo (ZbN.mk c_0.P v15 [] [] 0 c_0.Plan.Salt c_0.Plan.Period c_0.Plan.Offset c_0.Size x24 1)])
noncomputable def Zbo (N:Nat) (c_0:ZaL) (st:LL):Option ((Option Nat)×(Option Nat)×LL):=
 optE (ZdM N c_0.P) fun x1=>
 optE (Zcw N c_0.P.Genesis.Bits) fun x2=>
 loopN (Zbo.p1 N c_0 st) N ([c_0.P.Genesis.ls],0,x1,x2)
noncomputable def Zbo.p1.S (v15:LL) (c_0:ZaL) (v3:Int) (at_13:Zax) (sum_14:List Int) (st:LL):S:=mkS 95 [(1,sA 1),(4,sA 4),(5,.one (.h (.row 18 0) 68 0 (List.length v15))),(6,sA 6),(25,sV 68 c_0.Base),(26,sI (len c_0.Base)),(27,sI v3)] [(1,.cells c_0.ls),(4,.cells at_13.ls),(6,.cells [L.arr .u64 4 sum_14]),(18,.row 0 true 68 v15)] st
theorem Zbo.p1_ok {v15 c_0 v3 at_13 sum_14 st r c1_ J1} (h:Zbo.p1 N c_0 st c1_ (v15,v3,at_13,sum_14)=some r) (hE:En Tryz.f59 g0 w0 (Zbo.rs r) r.2.2 R) (hc1 : ∀v15 v3 at_13 sum_14,c1_ (v15,v3,at_13,sum_14)=some r→At g0 w0 (Zbo.p1.S v15 c_0 v3 at_13 sum_14 st) J1):At g0 w0 (Zbo.p1.S v15 c_0 v3 at_13 sum_14 st) (XK Tryz.prog R (.c (csub Zbo.B [1,1,1,1,0,1,0,0]) :: .h J1 :: [.b 0,.c (csub Zbo.B [1,1,1,1,1])])):=by
 unfold Zbo.p1 at h
 refine iteB h (fun c14 h1=>?_) (fun c14 h2=>?_)
 ·obtain ⟨c15,h3⟩:=ZaN h1
  obtain ⟨x16,c16,h4⟩:=Zco h3
  obtain ⟨x17,c17,h5⟩:=Zad h4
  obtain ⟨c18,h6⟩:=ZaN h5
  obtain ⟨x18,c19,h7⟩:=Zad h6
  obtain ⟨x19,c20,h8⟩:=Zad h7
  exact and_ fol [.r [],.c true,.r [(1,{oe:=x16.ls})],.r [(4,q1 [.agg x17.ls])],.r [],.d {ds:=[(3,q1 [.agg [L.arr .u64 4 x18]]),(4,q1 [.agg [L.arr .u64 4 x19]])],hv:=32,Hs:=[32]},.r []] [1,4,5,6,25,26,27] [1,4,6,18] (aO c14 c15 (oD c14) c16 (Zcz.snd c17) z0 (eN (List.length v15)) (aL z0 (eN (1)) c18 (Zcw.snd c19) (Zdy.snd c20))) (hc1 (v15 ++ [x16.ls]) (w64 (v3+1)) x17 x19 h8)
 ·obtain ⟨⟨x20,x21,st22⟩,c21,h9⟩:=Zad h2
  let o1:List PS:=[.r [],.c false,.r [(11,{rs:=[.one (L.ptr x20),oI x21],st:=st22})],.r []]
  refine iteB h9 (fun c22 h10=>?_) (fun c22 h11=>?_)
  ·obtain rfl:=Zac h10
   exact af fol hE (o1 ++ [.c true,.r []]) [] 0 [] (aJ c14 (ZcC.snd c21) c22)
  ·obtain ⟨x23,c23,h12⟩:=Zad h11
   obtain ⟨x24,c24,h13⟩:=Zad h12
   obtain rfl:=Zac h13
   exact afd fol hE (o1 ++ [.c false,.d {ds:=[(10,q1 [oI x23]),(13,q1 [oI x24])],hv:=0,Hs:=[]},.d {ds:=[(16,{ns:=[16],mv:=[17]}),(17,{m:=1,fz:=[18]})],hv:=131072,Hs:=[131072]}]) [] 0 [] (aN c14 (ZcC.snd c21) c22 (ZaB.snd c23) (Zcm.snd c24) z0 (eN (List.length v15)))
theorem Zbo.snd {c_0:ZaL} {st:LL} {r:(Option Nat)×(Option Nat)×LL} (h:Zbo N c_0 st=some r):Snd Tryz.prog 59 [.agg c_0.ls] st (Zbo.rs r) r.2.2:=
 sO Zbo.B Tryz.func59 fun g0 w0 R hE=>by
  unfold Zbo at h
  obtain ⟨x1,c1,h14⟩:=Zad h
  obtain ⟨x2,c2,h15⟩:=Zad h14
  exact aq fol [.r [],.r [(2,q1 [.agg x1.ls])],.r [],.r [(4,q1 [.agg [L.arr .u64 4 x2]])],.r []] [1,4,5,6,25,26,27] [1,4,6,18] (aI (ZdM.snd c1) (Zcw.snd c2)) (At.loop N (At.loopN (fun y:LL×Int×Zax×(List Int)=>Zbo.p1.S y.1 c_0 y.2.1 y.2.2.1 y.2.2.2 st) (fun c J hc y h=>Zbo.p1_ok (v15:=y.1) (v3:=y.2.1) (at_13:=y.2.2.1) (sum_14:=y.2.2.2) h hE (fun v15 v3 at_13 sum_14=>hc (v15,v3,at_13,sum_14))) N ([c_0.P.Genesis.ls],0,x1,x2) h15))
noncomputable def ZaY.B:Code:=Tryz.f159.body.getD .skip
noncomputable def ZaY.rs (r:ByteArray):List CV:=[.one (L.str r)]
noncomputable def ZaY.p1 (N:Nat) (size_0:Int) (c1_:(Int×ByteArray×Int)→Option ByteArray):(Int×ByteArray×Int)→Option ByteArray:=fun (u_1,s_3,i_2)=>
 if (decide (i_2<(if (8:Int)<(if (1:Int)>size_0 then 1 else size_0) then 8 else (if (1:Int)>size_0 then 1 else size_0))))=true then
  chk (isB [[L.int .u8 (v8 (Int.tmod u_1 256))]]=true)<|
  chk (ByteArray.size s_3+ByteArray.size (istr (List.map leafI [[L.int .u8 (v8 (Int.tmod u_1 256))]]))≤9223372036854775807)<|
  c1_ (v64 (Int.tdiv u_1 256),s_3++(istr (List.map leafI [[L.int .u8 (v8 (Int.tmod u_1 256))]])),w64 (i_2+1))
 else
 some s_3
noncomputable def ZaY (N:Nat) (size_0 n_1:Int):Option ByteArray:=
 loopN (ZaY.p1 N size_0) N (v64 (n_1),(ByteArray.mk #[]),0)
noncomputable def ZaY.p1.S (size_0 u_1:Int) (s_3:ByteArray) (i_2:Int) (st:LL):S:=mkS 27 [(0,sI size_0),(5,.one (.l (L.int .u64 u_1))),(6,.one (.l (L.str s_3))),(7,sI i_2)] [] st
theorem ZaY.p1_ok {size_0 u_1 s_3 i_2 st r c1_ J1} (h:ZaY.p1 N size_0 c1_ (u_1,s_3,i_2)=some r) (hE:En Tryz.f159 g0 w0 (ZaY.rs r) st R) (hc1 : ∀u_1 s_3 i_2,c1_ (u_1,s_3,i_2)=some r→At g0 w0 (ZaY.p1.S size_0 u_1 s_3 i_2 st) J1):At g0 w0 (ZaY.p1.S size_0 u_1 s_3 i_2 st) (XK Tryz.prog R (.c (csub ZaY.B [1,1,1,0,1,0,0]) :: .h J1 :: [.b 0,.c (csub ZaY.B [1,1,1,1])])):=by
 unfold ZaY.p1 at h
 refine iteB h (fun c4 h1=>?_) (fun c4 h2=>?_)
 ·obtain ⟨c5,c6,h3⟩:=ck2 h1
  exact an fol [.r [],.c true,.r [],.r [],.r []] [0,5,6,7] [] (aN c4 (neI 256) z0 (eN (1)) c5 c6 (neI 256)) (hc1 (v64 (Int.tdiv u_1 256)) (s_3++(istr (List.map leafI [[L.int .u8 (v8 (Int.tmod u_1 256))]]))) (w64 (i_2+1)) h3)
 ·obtain rfl:=Zac h2
  exact af fol hE [.r [],.c false,.r []] [] 0 [] c4
theorem ZaY.snd {size_0 n_1:Int} {r:ByteArray} (h:ZaY N size_0 n_1=some r):SndQ Tryz.prog 159 [oI size_0,oI n_1] (ZaY.rs r):=fun st=>
 sO ZaY.B Tryz.func159 fun g0 w0 R hE=>by
  unfold ZaY at h
  exact aq fol [.r [],.r [],.r [],.r []] [0,5,6,7] [] trivial (At.loop N (At.loopN (fun y:Int×ByteArray×Int=>ZaY.p1.S size_0 y.1 y.2.1 y.2.2 st) (fun c J hc y h=>ZaY.p1_ok (u_1:=y.1) (s_3:=y.2.1) (i_2:=y.2.2) h hE (fun u_1 s_3 i_2=>hc (u_1,s_3,i_2))) N (v64 (n_1),(ByteArray.mk #[]),0) h))
noncomputable def ZbI.B:Code:=Tryz.f160.body.getD .skip
noncomputable def ZbI.rs (r:ByteArray):List CV:=[.one (L.str r)]
noncomputable def ZbI.p1 (N:Nat) (h_0_0:List Int) (c1_:(ByteArray×Int)→Option ByteArray):(ByteArray×Int)→Option ByteArray:=fun (s_2,i_1)=>
 if (decide (i_1<32))=true then
  chk (0≤i_1)<|
  chk (isB [[L.int .u8 (List.getD h_0_0 (Int.toNat i_1) 0)]]=true)<|
  chk (ByteArray.size s_2+ByteArray.size (istr (List.map leafI [[L.int .u8 (List.getD h_0_0 (Int.toNat i_1) 0)]]))≤9223372036854775807)<|
  c1_ (s_2++(istr (List.map leafI [[L.int .u8 (List.getD h_0_0 (Int.toNat i_1) 0)]])),w64 (i_1+1))
 else
 some s_2
noncomputable def ZbI (N:Nat) (h_0_0:List Int):Option ByteArray:=
 loopN (ZbI.p1 N h_0_0) N ((ByteArray.mk #[]),0)
noncomputable def ZbI.p1.S (s_2:ByteArray) (i_1:Int) (h_0_0:List Int) (st:LL):S:=mkS 17 [(1,sA 1),(3,.one (.l (L.str s_2))),(4,sI i_1)] [(1,.cells [L.arr .u8 32 h_0_0])] st
theorem ZbI.p1_ok {s_2 i_1 h_0_0 st r c1_ J1} (h:ZbI.p1 N h_0_0 c1_ (s_2,i_1)=some r) (hE:En Tryz.f160 g0 w0 (ZbI.rs r) st R) (hc1 : ∀s_2 i_1,c1_ (s_2,i_1)=some r→At g0 w0 (ZbI.p1.S s_2 i_1 h_0_0 st) J1):At g0 w0 (ZbI.p1.S s_2 i_1 h_0_0 st) (XK Tryz.prog R (.c (csub ZbI.B [1,1,0,1,0,0]) :: .h J1 :: [.b 0,.c (csub ZbI.B [1,1,1])])):=by
 unfold ZbI.p1 at h
 refine iteB h (fun c5 h1=>?_) (fun c5 h2=>?_)
 ·obtain ⟨c6,c7,c8,h3⟩:=ck3 h1
  exact an fol [.r [],.c true,.r [],.r []] [1,3,4] [1] (aN c5 c6 (oD c5) z0 (eN (1)) c7 c8) (hc1 (s_2++(istr (List.map leafI [[L.int .u8 (List.getD h_0_0 (Int.toNat i_1) 0)]]))) (w64 (i_1+1)) h3)
 ·obtain rfl:=Zac h2
  exact af fol hE [.r [],.c false,.r []] [] 0 [] c5
theorem ZbI.snd {h_0_0:List Int} {r:ByteArray} (h:ZbI N h_0_0=some r):SndQ Tryz.prog 160 [.agg [L.arr .u8 32 h_0_0]] (ZbI.rs r):=fun st=>
 sO ZbI.B Tryz.func160 fun g0 w0 R hE=>by
  unfold ZbI at h
  exact aq fol [.r [],.r [],.r []] [1,3,4] [1] trivial (At.loop N (At.loopN (fun y:ByteArray×Int=>ZbI.p1.S y.1 y.2 h_0_0 st) (fun c J hc y h=>ZbI.p1_ok (s_2:=y.1) (i_1:=y.2) h hE (fun s_2 i_1=>hc (s_2,i_1))) N ((ByteArray.mk #[]),0) h))
noncomputable def ZcQ.B:Code:=Tryz.f101.body.getD .skip
noncomputable def ZcQ.rs (r:ByteArray):List CV:=[.one (L.str r)]
noncomputable def ZcQ (N:Nat) (h_0:Zaa):Option ByteArray:=
 optE (ZaY N 4 h_0.Version) fun x1=>
 optE (ZbI N h_0.Prev) fun x2=>
 chk (ByteArray.size x1+ByteArray.size x2≤9223372036854775807)<|
 optE (ZbI N h_0.Root) fun x3=>
 chk (ByteArray.size (x1++x2)+ByteArray.size x3≤9223372036854775807)<|
 optE (ZaY N 4 h_0.Time) fun x4=>
 chk (ByteArray.size ((x1++x2)++x3)+ByteArray.size x4≤9223372036854775807)<|
 optE (ZaY N 4 h_0.Bits) fun x5=>
 chk (ByteArray.size (((x1++x2)++x3)++x4)+ByteArray.size x5≤9223372036854775807)<|
 optE (ZaY N 4 h_0.Nonce) fun x6=>
 chk (ByteArray.size ((((x1++x2)++x3)++x4)++x5)+ByteArray.size x6≤9223372036854775807)<|
 some (((((x1++x2)++x3)++x4)++x5)++x6)
theorem ZcQ.snd {h_0:Zaa} {r:ByteArray} (h:ZcQ N h_0=some r):SndQ Tryz.prog 101 [.agg h_0.ls] (ZcQ.rs r):=fun st=>
 sO ZcQ.B Tryz.func101 fun g0 w0 R hE=>by
  unfold ZcQ at h
  obtain ⟨x1,c1,h1⟩:=Zad h
  obtain ⟨x2,c2,h2⟩:=Zad h1
  obtain ⟨c3,h3⟩:=ZaN h2
  obtain ⟨x3,c4,h4⟩:=Zad h3
  obtain ⟨c5,h5⟩:=ZaN h4
  obtain ⟨x4,c6,h6⟩:=Zad h5
  obtain ⟨c7,h7⟩:=ZaN h6
  obtain ⟨x5,c8,h8⟩:=Zad h7
  obtain ⟨c9,h9⟩:=ZaN h8
  obtain ⟨x6,c10,h10⟩:=Zad h9
  obtain ⟨c11,h11⟩:=ZaN h10
  obtain rfl:=Zac h11
  exact afd fol hE [.r [],.d {ds:=[(2,q1 [.one (L.str x1)]),(5,q1 [.one (L.str x2)]),(9,q1 [.one (L.str x3)])],hv:=0,Hs:=[]},.d {ds:=[(3,q1 [.one (L.str x4)]),(7,q1 [.one (L.str x5)]),(11,q1 [.one (L.str x6)])],hv:=0,Hs:=[]}] [] 0 [] (aO (ZaY.snd c1) (ZbI.snd c2) c3 (ZbI.snd c4) c5 (ZaY.snd c6) c7 (aK (ZaY.snd c8) c9 (ZaY.snd c10) c11))
noncomputable def ZaM.B:Code:=Tryz.f192.body.getD .skip
noncomputable def ZaM.rs (r:ByteArray):List CV:=[.one (L.str r)]
noncomputable def ZaM.p2 (N:Nat) (s_4:ByteArray) (c2_:(Int×ByteArray×Int)→Option ByteArray):(Int×ByteArray×Int)→Option ByteArray:=fun (n_5,tail_7,i_6)=>
 if (decide (i_6<8))=true then
  chk (isB [[L.int .u8 (v8 (Int.tmod n_5 256))]]=true)<|
  chk (ByteArray.size (istr (List.map leafI [[L.int .u8 (v8 (Int.tmod n_5 256))]]))+ByteArray.size tail_7≤9223372036854775807)<|
  c2_ (w64 (Int.tdiv n_5 256),(istr (List.map leafI [[L.int .u8 (v8 (Int.tmod n_5 256))]]))++tail_7,w64 (i_6+1))
 else
 chk (ByteArray.size s_4+ByteArray.size tail_7≤9223372036854775807)<|
 some (s_4++tail_7)
noncomputable def ZaM.p1 (N:Nat) (s_0:ByteArray) (c1_:ByteArray→Option ByteArray):ByteArray→Option ByteArray:=fun s_4=>
 if ((Int.tmod ((ByteArray.size s_4:Nat):Int) 64) != 56)=true then
  chk (ByteArray.size s_4+ByteArray.size (ByteArray.mk #[0])≤9223372036854775807)<|
  c1_ (s_4++(ByteArray.mk #[0]))
 else
 loopN (ZaM.p2 N s_4) N (w64 (8*((ByteArray.size s_0:Nat):Int)),(ByteArray.mk #[]),0)
noncomputable def ZaM (N:Nat) (s_0:ByteArray):Option ByteArray:=
 chk (ByteArray.size s_0+ByteArray.size (ByteArray.mk #[128])≤9223372036854775807)<|
 loopN (ZaM.p1 N s_0) N (s_0++(ByteArray.mk #[128]))
noncomputable def ZaM.p2.S (s_4:ByteArray) (n_5:Int) (tail_7:ByteArray) (i_6:Int) (st:LL):S:=mkS 34 [(0,.one (.l (L.str s_4))),(3,sI n_5),(4,.one (.l (L.str tail_7))),(5,sI i_6)] [] st
noncomputable def ZaM.p1.S (s_4 s_0:ByteArray) (st:LL):S:=mkS 34 [(0,.one (.l (L.str s_4))),(3,sI ((ByteArray.size s_0:Nat):Int))] [] st
theorem ZaM.p2_ok {s_4 n_5 tail_7 i_6 st r c2_ J2} (h:ZaM.p2 N s_4 c2_ (n_5,tail_7,i_6)=some r) (hE:En Tryz.f192 g0 w0 (ZaM.rs r) st R) (hc2 : ∀n_5 tail_7 i_6,c2_ (n_5,tail_7,i_6)=some r→At g0 w0 (ZaM.p2.S s_4 n_5 tail_7 i_6 st) J2):At g0 w0 (ZaM.p2.S s_4 n_5 tail_7 i_6 st) (XK Tryz.prog R (.c (csub ZaM.B [1,1,1,1,1,1,0,1,0,0]) :: .h J2 :: [.b 2,.c (csub ZaM.B [1,1,1,1,1,1,1])])):=by
 unfold ZaM.p2 at h
 refine iteB h (fun c18 h1=>?_) (fun c18 h2=>?_)
 ·obtain ⟨c19,c20,h3⟩:=ck2 h1
  exact an fol [.r [],.c true,.r [],.r [],.r []] [0,3,4,5] [] (aN c18 (neI 256) z0 (eN (1)) c19 c20 (neI 256)) (hc2 (w64 (Int.tdiv n_5 256)) ((istr (List.map leafI [[L.int .u8 (v8 (Int.tmod n_5 256))]]))++tail_7) (w64 (i_6+1)) h3)
 ·obtain ⟨c21,h4⟩:=ZaN h2
  obtain rfl:=Zac h4
  exact af fol hE [.r [],.c false,.r []] [] 0 [] (aI c18 c21)
theorem ZaM.p1_ok {s_4 s_0 st r c1_ J1} (h:ZaM.p1 N s_0 c1_ s_4=some r) (hE:En Tryz.f192 g0 w0 (ZaM.rs r) st R) (hc1 : ∀s_4,c1_ s_4=some r→At g0 w0 (ZaM.p1.S s_4 s_0 st) J1):At g0 w0 (ZaM.p1.S s_4 s_0 st) (XK Tryz.prog R (.c (csub ZaM.B [1,1,1,0,0,0]) :: .h J1 :: [.b 0,.c (csub ZaM.B [1,1,1,1])])):=by
 unfold ZaM.p1 at h
 refine iteB h (fun c12 h5=>?_) (fun c12 h6=>?_)
 ·obtain ⟨c13,h7⟩:=ZaN h5
  exact an fol [.r [],.c true,.r []] [0,3] [] (aJ (neI 64) c12 c13) (hc1 (s_4++(ByteArray.mk #[0])) h7)
 ·exact aq fol [.r [],.c false,.r [],.r [],.r []] [0,3,4,5] [] (aI (neI 64) c12) (At.loop N (At.loopN (fun y:Int×ByteArray×Int=>ZaM.p2.S s_4 y.1 y.2.1 y.2.2 st) (fun c J hc y h=>ZaM.p2_ok (n_5:=y.1) (tail_7:=y.2.1) (i_6:=y.2.2) h hE (fun n_5 tail_7 i_6=>hc (n_5,tail_7,i_6))) N (w64 (8*((ByteArray.size s_0:Nat):Int)),(ByteArray.mk #[]),0) h6))
theorem ZaM.snd {s_0:ByteArray} {r:ByteArray} (h:ZaM N s_0=some r):SndQ Tryz.prog 192 [.one (L.str s_0)] (ZaM.rs r):=fun st=>
 sO ZaM.B Tryz.func192 fun g0 w0 R hE=>by
  unfold ZaM at h
  obtain ⟨c1,h8⟩:=ZaN h
  exact aq fol [.r [],.r [],.r []] [0,3] [] c1 (At.loop N (At.loopN (fun y:ByteArray=>ZaM.p1.S y s_0 st) (fun c J hc y h=>ZaM.p1_ok h hE (fun s_4=>hc s_4)) N (s_0++(ByteArray.mk #[128])) h8))
noncomputable def ZaR.B:Code:=Tryz.f193.body.getD .skip
noncomputable def ZaR.rs (r:Int):List CV:=[.one (L.int .u32 r)]
noncomputable def ZaR (N:Nat) (x_0 n_1:Int):Option Int:=
 chk (0≤n_1)<|
 chk (0≤(v64 (32-n_1)))<|
 some (v32 ((shrOf .u32 x_0 n_1)+(shlOf .u32 x_0 (v64 (32-n_1)))))
theorem ZaR.snd {x_0 n_1:Int} {r:Int} (h:ZaR N x_0 n_1=some r):SndQ Tryz.prog 193 [.one (L.int .u32 x_0),.one (L.int .u64 n_1)] (ZaR.rs r):=fun st=>
 sO ZaR.B Tryz.func193 fun g0 w0 R hE=>by
  unfold ZaR at h
  obtain ⟨c1,c2,h1⟩:=ck2 h
  obtain rfl:=Zac h1
  exact af fol hE [.r [],.r []] [] 0 [] (aI c1 c2)
noncomputable def Zek.B:Code:=Tryz.f194.body.getD .skip
noncomputable def Zek.rs (r:Int):List CV:=[.one (L.int .u32 r)]
noncomputable def Zek (N:Nat) (i_0:Int):Option Int:=
 chk (0≤i_0)<|
 chk (i_0<64)<|
 some (List.getD [1116352408,1899447441,3049323471,3921009573,961987163,1508970993,2453635748,2870763221,3624381080,310598401,607225278,1426881987,1925078388,2162078206,2614888103,3248222580,3835390401,4022224774,264347078,604807628,770255983,1249150122,1555081692,1996064986,2554220882,2821834349,2952996808,3210313671,3336571891,3584528711,113926993,338241895,666307205,773529912,1294757372,1396182291,1695183700,1986661051,2177026350,2456956037,2730485921,2820302411,3259730800,3345764771,3516065817,3600352804,4094571909,275423344,430227734,506948616,659060556,883997877,958139571,1322822218,1537002063,1747873779,1955562222,2024104815,2227730452,2361852424,2428436474,2756734187,3204031479,3329325298] (Int.toNat i_0) 0)
theorem Zek.snd {i_0:Int} {r:Int} (h:Zek N i_0=some r):SndQ Tryz.prog 194 [oI i_0] (Zek.rs r):=fun st=>
 sO Zek.B Tryz.func194 fun g0 w0 R hE=>by
  unfold Zek at h
  obtain ⟨c1,c2,h1⟩:=ck2 h
  obtain rfl:=Zac h1
  exact af fol hE [.r [],.r [(0,{m:=3})]] [] 0 [] (aI c1 c2)
noncomputable def Zap.B:Code:=Tryz.f158.body.getD .skip
noncomputable def Zap.rs (r:(List Int)):List CV:=[.agg [L.arr .u8 32 r]]
noncomputable def Zap.p3 (N:Nat) (c2_:(Int×(List Int))→Option (List Int)) (c1_:(Int×(List Int))→Option (List Int)) (x1:ByteArray) (at_2 i_112:Int) (h_111:List Int) (c3_:(Int×(List Int))→Option (List Int)):(Int×(List Int))→Option (List Int):=fun (j_166,w_167)=>
 if (decide (j_166<4))=true then
  chk (0≤i_112)<|
  chk (i_112<64)<|
  chk (0≤(w64 ((w64 (at_2+(w64 (4*i_112))))+j_166)))<|
  chk ((w64 ((w64 (at_2+(w64 (4*i_112))))+j_166))<((ByteArray.size x1:Nat):Int))<|
  c3_ (w64 (j_166+1),List.set w_167 (Int.toNat i_112) (v32 ((v32 ((List.getD w_167 (Int.toNat i_112) 0)*256))+(v32 (((UInt8.toNat (List.getD (Array.toList (ByteArray.data x1)) (Int.toNat (w64 ((w64 (at_2+(w64 (4*i_112))))+j_166))) 0):Nat):Int))))))
 else
 c2_ (w64 (i_112+1),w_167)
noncomputable def Zap.p6 (N:Nat) (c1_:(Int×(List Int))→Option (List Int)) (x1:ByteArray) (at_2:Int) (s_208:List Int) (c6_:(Int×(List Int))→Option (List Int)):(Int×(List Int))→Option (List Int):=fun (i_216,h_217)=>
 if (decide (i_216<8))=true then
  chk (0≤i_216)<|
  c6_ (w64 (i_216+1),List.set h_217 (Int.toNat i_216) (v32 ((List.getD h_217 (Int.toNat i_216) 0)+(List.getD s_208 (Int.toNat i_216) 0))))
 else
 c1_ (w64 (at_2+64),h_217)
noncomputable def Zap.p5 (N:Nat) (c1_:(Int×(List Int))→Option (List Int)) (x1:ByteArray) (at_2:Int) (h_111 w_193:List Int) (c5_:(Int×(List Int))→Option (List Int)):(Int×(List Int))→Option (List Int):=fun (i_198,s_208)=>
 if (decide (i_198<64))=true then
  optE (ZaR N (List.getD s_208 4 0) 6) fun x209=>
  optE (ZaR N (List.getD s_208 4 0) 11) fun x210=>
  optE (ZaR N (List.getD s_208 4 0) 25) fun x211=>
  optE (Zek N i_198) fun x212=>
  chk (0≤i_198)<|
  optE (ZaR N (List.getD s_208 0 0) 2) fun x213=>
  optE (ZaR N (List.getD s_208 0 0) 13) fun x214=>
  optE (ZaR N (List.getD s_208 0 0) 22) fun x215=>
  c5_ (w64 (i_198+1),[v32 ((v32 ((v32 ((v32 ((v32 ((List.getD s_208 7 0)+(bitsOf .xor .u32 (bitsOf .xor .u32 x209 x210) x211)))+(bitsOf .or .u32 (bitsOf .and .u32 (List.getD s_208 4 0) (List.getD s_208 5 0)) (bitsOf .and .u32 (v32 (4294967295-(List.getD s_208 4 0))) (List.getD s_208 6 0)))))+x212))+(List.getD w_193 (Int.toNat i_198) 0)))+(v32 ((bitsOf .xor .u32 (bitsOf .xor .u32 x213 x214) x215)+(bitsOf .or .u32 (bitsOf .or .u32 (bitsOf .and .u32 (List.getD s_208 0 0) (List.getD s_208 1 0)) (bitsOf .and .u32 (List.getD s_208 0 0) (List.getD s_208 2 0))) (bitsOf .and .u32 (List.getD s_208 1 0) (List.getD s_208 2 0)))))),List.getD s_208 0 0,List.getD s_208 1 0,List.getD s_208 2 0,v32 ((List.getD s_208 3 0)+(v32 ((v32 ((v32 ((v32 ((List.getD s_208 7 0)+(bitsOf .xor .u32 (bitsOf .xor .u32 x209 x210) x211)))+(bitsOf .or .u32 (bitsOf .and .u32 (List.getD s_208 4 0) (List.getD s_208 5 0)) (bitsOf .and .u32 (v32 (4294967295-(List.getD s_208 4 0))) (List.getD s_208 6 0)))))+x212))+(List.getD w_193 (Int.toNat i_198) 0)))),List.getD s_208 4 0,List.getD s_208 5 0,List.getD s_208 6 0])
 else
 loopN (Zap.p6 N c1_ x1 at_2 s_208) N (0,h_111)
noncomputable def Zap.p4 (N:Nat) (c1_:(Int×(List Int))→Option (List Int)) (x1:ByteArray) (at_2:Int) (h_111:List Int) (c4_:(Int×(List Int))→Option (List Int)):(Int×(List Int))→Option (List Int):=fun (i_168,w_193)=>
 if (decide (i_168<64))=true then
  chk (0≤(w64 (i_168-15)))<|
  chk ((w64 (i_168-15))<64)<|
  optE (ZaR N (List.getD w_193 (Int.toNat (w64 (i_168-15))) 0) 7) fun x194=>
  optE (ZaR N (List.getD w_193 (Int.toNat (w64 (i_168-15))) 0) 18) fun x195=>
  chk (0≤(w64 (i_168-2)))<|
  chk ((w64 (i_168-2))<64)<|
  optE (ZaR N (List.getD w_193 (Int.toNat (w64 (i_168-2))) 0) 17) fun x196=>
  optE (ZaR N (List.getD w_193 (Int.toNat (w64 (i_168-2))) 0) 19) fun x197=>
  chk (0≤(w64 (i_168-16)))<|
  chk ((w64 (i_168-16))<64)<|
  chk (0≤(w64 (i_168-7)))<|
  chk ((w64 (i_168-7))<64)<|
  chk (0≤i_168)<|
  c4_ (w64 (i_168+1),List.set w_193 (Int.toNat i_168) (v32 ((v32 ((v32 ((List.getD w_193 (Int.toNat (w64 (i_168-16))) 0)+(bitsOf .xor .u32 (bitsOf .xor .u32 x194 x195) (v32 (Int.tdiv (List.getD w_193 (Int.toNat (w64 (i_168-15))) 0) 8)))))+(List.getD w_193 (Int.toNat (w64 (i_168-7))) 0)))+(bitsOf .xor .u32 (bitsOf .xor .u32 x196 x197) (v32 (Int.tdiv (List.getD w_193 (Int.toNat (w64 (i_168-2))) 0) 1024))))))
 else
 loopN (Zap.p5 N c1_ x1 at_2 h_111 w_193) N (0,h_111)
noncomputable def Zap.p2 (N:Nat) (c1_:(Int×(List Int))→Option (List Int)) (x1:ByteArray) (at_2:Int) (h_111:List Int) (c2_:(Int×(List Int))→Option (List Int)):(Int×(List Int))→Option (List Int):=fun (i_112,w_165)=>
 if (decide (i_112<16))=true then
  loopN (Zap.p3 N c2_ c1_ x1 at_2 i_112 h_111) N (0,w_165)
 else
 loopN (Zap.p4 N c1_ x1 at_2 h_111) N (16,w_165)
noncomputable def Zap.p7 (N:Nat) (h_111:List Int) (c7_:(Int×(List Int))→Option (List Int)):(Int×(List Int))→Option (List Int):=fun (i_218,out_219)=>
 if (decide (i_218<32))=true then
  chk (0≤(w64 (Int.tdiv i_218 4)))<|
  chk ((w64 (Int.tdiv i_218 4))<8)<|
  chk (0≤(v64 (w64 (24-(w64 (8*(Int.tmod i_218 4)))))))<|
  chk (0≤i_218)<|
  c7_ (w64 (i_218+1),List.set out_219 (Int.toNat i_218) (v8 (Int.tmod (shrOf .u32 (List.getD h_111 (Int.toNat (w64 (Int.tdiv i_218 4))) 0) (v64 (w64 (24-(w64 (8*(Int.tmod i_218 4))))))) 256)))
 else
 some out_219
noncomputable def Zap.p1 (N:Nat) (x1:ByteArray) (c1_:(Int×(List Int))→Option (List Int)):(Int×(List Int))→Option (List Int):=fun (at_2,h_111)=>
 if (decide (at_2<((ByteArray.size x1:Nat):Int)))=true then
  loopN (Zap.p2 N c1_ x1 at_2 h_111) N (0,List.replicate 64 0)
 else
 loopN (Zap.p7 N h_111) N (0,List.replicate 32 0)
noncomputable def Zap (N:Nat) (s_0:ByteArray):Option (List Int):=
 optE (ZaM N s_0) fun x1=>
 loopN (Zap.p1 N x1) N (0,[1779033703,3144134277,1013904242,2773480762,1359893119,2600822924,528734635,1541459225])
noncomputable def Zap.p3.S (x1:ByteArray) (at_2 i_112 j_166:Int) (h_111 w_167:List Int) (st:LL):S:=mkS 225 [(2,sA 2),(3,sA 3),(4,.one (.l (L.str x1))),(5,sI at_2),(6,sA 6),(7,sI i_112),(8,sI j_166)] [(2,.cells [L.arr .u8 32 (List.replicate 32 0)]),(3,.cells [L.arr .u32 8 h_111]),(6,.cells [L.arr .u32 64 w_167])] st
noncomputable def Zap.p6.S (x1:ByteArray) (at_2 i_216:Int) (h_217 s_208:List Int) (st:LL):S:=mkS 225 [(2,sA 2),(3,sA 3),(4,.one (.l (L.str x1))),(5,sI at_2),(12,sA 12),(16,sI i_216)] [(2,.cells [L.arr .u8 32 (List.replicate 32 0)]),(3,.cells [L.arr .u32 8 h_217]),(12,.cells [L.arr .u32 8 s_208])] st
noncomputable def Zap.p5.S (x1:ByteArray) (at_2 i_198:Int) (h_111 w_193 s_208:List Int) (st:LL):S:=mkS 225 [(2,sA 2),(3,sA 3),(4,.one (.l (L.str x1))),(5,sI at_2),(6,sA 6),(12,sA 12),(13,sI i_198)] [(2,.cells [L.arr .u8 32 (List.replicate 32 0)]),(3,.cells [L.arr .u32 8 h_111]),(6,.cells [L.arr .u32 64 w_193]),(12,.cells [L.arr .u32 8 s_208])] st
noncomputable def Zap.p4.S (x1:ByteArray) (at_2 i_168:Int) (h_111 w_193:List Int) (st:LL):S:=mkS 225 [(2,sA 2),(3,sA 3),(4,.one (.l (L.str x1))),(5,sI at_2),(6,sA 6),(9,sI i_168)] [(2,.cells [L.arr .u8 32 (List.replicate 32 0)]),(3,.cells [L.arr .u32 8 h_111]),(6,.cells [L.arr .u32 64 w_193])] st
noncomputable def Zap.p2.S (x1:ByteArray) (at_2 i_112:Int) (h_111 w_165:List Int) (st:LL):S:=mkS 225 [(2,sA 2),(3,sA 3),(4,.one (.l (L.str x1))),(5,sI at_2),(6,sA 6),(7,sI i_112)] [(2,.cells [L.arr .u8 32 (List.replicate 32 0)]),(3,.cells [L.arr .u32 8 h_111]),(6,.cells [L.arr .u32 64 w_165])] st
noncomputable def Zap.p7.S (i_218:Int) (h_111 out_219:List Int) (st:LL):S:=mkS 225 [(2,sA 2),(3,sA 3),(17,sA 17),(18,sI i_218)] [(2,.cells [L.arr .u8 32 (List.replicate 32 0)]),(3,.cells [L.arr .u32 8 h_111]),(17,.cells [L.arr .u8 32 out_219])] st
noncomputable def Zap.p1.S (x1:ByteArray) (at_2:Int) (h_111:List Int) (st:LL):S:=mkS 225 [(2,sA 2),(3,sA 3),(4,.one (.l (L.str x1))),(5,sI at_2)] [(2,.cells [L.arr .u8 32 (List.replicate 32 0)]),(3,.cells [L.arr .u32 8 h_111])] st
theorem Zap.p3_ok {x1 at_2 i_112 j_166 h_111 w_167 st r c2_ c1_ c3_ J2 J1 J3} (h:Zap.p3 N c2_ c1_ x1 at_2 i_112 h_111 c3_ (j_166,w_167)=some r) (hE:En Tryz.f158 g0 w0 (Zap.rs r) st R) (hc2 : ∀i_112 w_165,c2_ (i_112,w_165)=some r→At g0 w0 (Zap.p2.S x1 at_2 i_112 h_111 w_165 st) J2) (hc1 : ∀at_2 h_111,c1_ (at_2,h_111)=some r→At g0 w0 (Zap.p1.S x1 at_2 h_111 st) J1) (hc3 : ∀j_166 w_167,c3_ (j_166,w_167)=some r→At g0 w0 (Zap.p3.S x1 at_2 i_112 j_166 h_111 w_167 st) J3):At g0 w0 (Zap.p3.S x1 at_2 i_112 j_166 h_111 w_167 st) (XK Tryz.prog R (.c (csub Zap.B [1,1,1,0,1,0,0,1,0,0,1,0,1,0,0,1,0,0,1,0,0]) :: .h J3 :: [.b 4,.b 3,.c (csub Zap.B [1,1,1,0,1,0,0,1,0,0,1,0,1,0,0,1,1]),.h J2,.b 2,.c (csub Zap.B [1,1,1,0,1,0,0,1,0,0,1,1]),.b 1,.c (csub Zap.B [1,1,1,0,1,0,0,1,1]),.h J1,.b 0,.c (csub Zap.B [1,1,1,1])])):=by
 unfold Zap.p3 at h
 refine iteB h (fun c293 h1=>?_) (fun c293 h2=>?_)
 ·obtain ⟨c294,c295,c296,c297,h3⟩:=ck4 h1
  exact and_ fol [.r [],.c true,.d {ds:=[],hv:=65536,Hs:=[65536]},.r []] [2,3,4,5,6,7,8] [2,3,6] (aN c293 c294 c295 c296 c297 c294 c295) (hc3 (w64 (j_166+1)) (List.set w_167 (Int.toNat i_112) (v32 ((v32 ((List.getD w_167 (Int.toNat i_112) 0)*256))+(v32 (((UInt8.toNat (List.getD (Array.toList (ByteArray.data x1)) (Int.toNat (w64 ((w64 (at_2+(w64 (4*i_112))))+j_166))) 0):Nat):Int)))))) h3)
 ·exact an fol [.r [],.c false,.r []] [2,3,4,5,6,7] [2,3,6] c293 (hc2 (w64 (i_112+1)) w_167 h2)
theorem Zap.p6_ok {x1 at_2 i_216 h_217 s_208 st r c1_ c6_ J1 J6} (h:Zap.p6 N c1_ x1 at_2 s_208 c6_ (i_216,h_217)=some r) (hE:En Tryz.f158 g0 w0 (Zap.rs r) st R) (hc1 : ∀at_2 h_111,c1_ (at_2,h_111)=some r→At g0 w0 (Zap.p1.S x1 at_2 h_111 st) J1) (hc6 : ∀i_216 h_217,c6_ (i_216,h_217)=some r→At g0 w0 (Zap.p6.S x1 at_2 i_216 h_217 s_208 st) J6):At g0 w0 (Zap.p6.S x1 at_2 i_216 h_217 s_208 st) (XK Tryz.prog R (.c (csub Zap.B [1,1,1,0,1,0,0,1,0,0,1,1,1,1,1,1,0,0]) :: .h J6 :: [.b 10,.b 1,.c (csub Zap.B [1,1,1,0,1,0,0,1,1]),.h J1,.b 0,.c (csub Zap.B [1,1,1,1])])):=by
 unfold Zap.p6 at h
 refine iteB h (fun c376 h4=>?_) (fun c376 h5=>?_)
 ·obtain ⟨c377,h6⟩:=ZaN h4
  exact and_ fol [.r [],.c true,.d {ds:=[],hv:=512,Hs:=[512]},.r []] [2,3,4,5,12,16] [2,3,12] (aN c376 c377 (oD c376) c377 (oD c376) c377 (oD c376)) (hc6 (w64 (i_216+1)) (List.set h_217 (Int.toNat i_216) (v32 ((List.getD h_217 (Int.toNat i_216) 0)+(List.getD s_208 (Int.toNat i_216) 0)))) h6)
 ·exact an fol [.r [],.c false,.r []] [2,3,4,5] [2,3] c376 (hc1 (w64 (at_2+64)) h_217 h5)
theorem Zap.p5_ok {x1 at_2 i_198 h_111 w_193 s_208 st r c1_ c5_ J1 J5} (h:Zap.p5 N c1_ x1 at_2 h_111 w_193 c5_ (i_198,s_208)=some r) (hE:En Tryz.f158 g0 w0 (Zap.rs r) st R) (hc1 : ∀at_2 h_111,c1_ (at_2,h_111)=some r→At g0 w0 (Zap.p1.S x1 at_2 h_111 st) J1) (hc5 : ∀i_198 s_208,c5_ (i_198,s_208)=some r→At g0 w0 (Zap.p5.S x1 at_2 i_198 h_111 w_193 s_208 st) J5):At g0 w0 (Zap.p5.S x1 at_2 i_198 h_111 w_193 s_208 st) (XK Tryz.prog R (.c (csub Zap.B [1,1,1,0,1,0,0,1,0,0,1,1,1,1,0,1,0,0]) :: .h J5 :: [.b 8,.c (csub Zap.B [1,1,1,0,1,0,0,1,0,0,1,1,1,1,1]),.b 1,.c (csub Zap.B [1,1,1,0,1,0,0,1,1]),.h J1,.b 0,.c (csub Zap.B [1,1,1,1])])):=by
 unfold Zap.p5 at h
 refine iteB h (fun c365 h7=>?_) (fun c365 h8=>?_)
 ·obtain ⟨x209,c366,h9⟩:=Zad h7
  obtain ⟨x210,c367,h10⟩:=Zad h9
  obtain ⟨x211,c368,h11⟩:=Zad h10
  obtain ⟨x212,c369,h12⟩:=Zad h11
  obtain ⟨c370,h13⟩:=ZaN h12
  obtain ⟨x213,c371,h14⟩:=Zad h13
  obtain ⟨x214,c372,h15⟩:=Zad h14
  obtain ⟨x215,c373,h16⟩:=Zad h15
  exact and_ fol [.r [],.c true,.d {ds:=[(4,q1 [.one (L.int .u32 x209)]),(7,q1 [.one (L.int .u32 x210)]),(11,q1 [.one (L.int .u32 x211)]),(28,q1 [.one (L.int .u32 x212)])],hv:=0,Hs:=[]},.d {ds:=[(2,q1 [.one (L.int .u32 x213)]),(5,q1 [.one (L.int .u32 x214)]),(9,q1 [.one (L.int .u32 x215)])],hv:=0,Hs:=[]},.r [(19,{m:=3})],.r []] [2,3,4,5,6,12,13] [2,3,6,12] (aI c365 (ix 7 8 (ix 4 8 (aI (ZaR.snd c366) (ix 4 8 (aI (ZaR.snd c367) (ix 4 8 (aI (ZaR.snd c368) (ix 4 8 (ix 5 8 (ix 4 8 (ix 6 8 (aK (Zek.snd c369) c370 (oD c365) (ix 0 8 (aI (ZaR.snd c371) (ix 0 8 (aI (ZaR.snd c372) (ix 0 8 (aI (ZaR.snd c373) (ix 0 8 (ix 1 8 (ix 0 8 (ix 2 8 (ix 1 8 (ix 2 8 (ix 0 8 (ix 1 8 (ix 2 8 (ix 3 8 (ix 4 8 (ix 5 8 (aI (leI 0 6) (ltI 6 8))))))))))))))))))))))))))))))))) (hc5 (w64 (i_198+1)) [v32 ((v32 ((v32 ((v32 ((v32 ((List.getD s_208 7 0)+(bitsOf .xor .u32 (bitsOf .xor .u32 x209 x210) x211)))+(bitsOf .or .u32 (bitsOf .and .u32 (List.getD s_208 4 0) (List.getD s_208 5 0)) (bitsOf .and .u32 (v32 (4294967295-(List.getD s_208 4 0))) (List.getD s_208 6 0)))))+x212))+(List.getD w_193 (Int.toNat i_198) 0)))+(v32 ((bitsOf .xor .u32 (bitsOf .xor .u32 x213 x214) x215)+(bitsOf .or .u32 (bitsOf .or .u32 (bitsOf .and .u32 (List.getD s_208 0 0) (List.getD s_208 1 0)) (bitsOf .and .u32 (List.getD s_208 0 0) (List.getD s_208 2 0))) (bitsOf .and .u32 (List.getD s_208 1 0) (List.getD s_208 2 0)))))),List.getD s_208 0 0,List.getD s_208 1 0,List.getD s_208 2 0,v32 ((List.getD s_208 3 0)+(v32 ((v32 ((v32 ((v32 ((List.getD s_208 7 0)+(bitsOf .xor .u32 (bitsOf .xor .u32 x209 x210) x211)))+(bitsOf .or .u32 (bitsOf .and .u32 (List.getD s_208 4 0) (List.getD s_208 5 0)) (bitsOf .and .u32 (v32 (4294967295-(List.getD s_208 4 0))) (List.getD s_208 6 0)))))+x212))+(List.getD w_193 (Int.toNat i_198) 0)))),List.getD s_208 4 0,List.getD s_208 5 0,List.getD s_208 6 0] h16)
 ·exact aq fol [.r [],.c false,.r []] [2,3,4,5,12,16] [2,3,12] c365 (At.loop N (At.loopN (fun y:Int×(List Int)=>Zap.p6.S x1 at_2 y.1 y.2 s_208 st) (fun c J hc y h=>Zap.p6_ok (i_216:=y.1) (h_217:=y.2) h hE hc1 (fun i_216 h_217=>hc (i_216,h_217))) N (0,h_111) h8))
theorem Zap.p4_ok {x1 at_2 i_168 h_111 w_193 st r c1_ c4_ J1 J4} (h:Zap.p4 N c1_ x1 at_2 h_111 c4_ (i_168,w_193)=some r) (hE:En Tryz.f158 g0 w0 (Zap.rs r) st R) (hc1 : ∀at_2 h_111,c1_ (at_2,h_111)=some r→At g0 w0 (Zap.p1.S x1 at_2 h_111 st) J1) (hc4 : ∀i_168 w_193,c4_ (i_168,w_193)=some r→At g0 w0 (Zap.p4.S x1 at_2 i_168 h_111 w_193 st) J4):At g0 w0 (Zap.p4.S x1 at_2 i_168 h_111 w_193 st) (XK Tryz.prog R (.c (csub Zap.B [1,1,1,0,1,0,0,1,0,0,1,1,0,1,0,0]) :: .h J4 :: [.b 6,.c (csub Zap.B [1,1,1,0,1,0,0,1,0,0,1,1,1]),.b 1,.c (csub Zap.B [1,1,1,0,1,0,0,1,1]),.h J1,.b 0,.c (csub Zap.B [1,1,1,1])])):=by
 unfold Zap.p4 at h
 refine iteB h (fun c338 h17=>?_) (fun c338 h18=>?_)
 ·obtain ⟨c339,c340,h19⟩:=ck2 h17
  obtain ⟨x194,c341,h20⟩:=Zad h19
  obtain ⟨x195,c342,h21⟩:=Zad h20
  obtain ⟨c343,c344,h22⟩:=ck2 h21
  obtain ⟨x196,c345,h23⟩:=Zad h22
  obtain ⟨x197,c346,h24⟩:=Zad h23
  obtain ⟨c347,c348,c349,c350,c351,h25⟩:=ck5 h24
  exact and_ fol [.r [],.c true,.d {ds:=[(4,q1 [.one (L.int .u32 x194)]),(9,q1 [.one (L.int .u32 x195)])],hv:=0,Hs:=[]},.d {ds:=[(4,q1 [.one (L.int .u32 x196)]),(9,q1 [.one (L.int .u32 x197)])],hv:=0,Hs:=[]},.d {ds:=[],hv:=32768,Hs:=[32768]},.r []] [2,3,4,5,6,9] [2,3,6] (aO c338 c339 c340 (ZaR.snd c341) c339 c340 (ZaR.snd c342) (aO c339 c340 (neI 8) c343 c344 (ZaR.snd c345) c343 (aO c344 (ZaR.snd c346) c343 c344 (neI 1024) c347 c348 (aK c349 c350 c351 (oD c338))))) (hc4 (w64 (i_168+1)) (List.set w_193 (Int.toNat i_168) (v32 ((v32 ((v32 ((List.getD w_193 (Int.toNat (w64 (i_168-16))) 0)+(bitsOf .xor .u32 (bitsOf .xor .u32 x194 x195) (v32 (Int.tdiv (List.getD w_193 (Int.toNat (w64 (i_168-15))) 0) 8)))))+(List.getD w_193 (Int.toNat (w64 (i_168-7))) 0)))+(bitsOf .xor .u32 (bitsOf .xor .u32 x196 x197) (v32 (Int.tdiv (List.getD w_193 (Int.toNat (w64 (i_168-2))) 0) 1024)))))) h25)
 ·exact aq fol [.r [],.c false,.r [],.r []] [2,3,4,5,6,12,13] [2,3,6,12] c338 (At.loop N (At.loopN (fun y:Int×(List Int)=>Zap.p5.S x1 at_2 y.1 h_111 w_193 y.2 st) (fun c J hc y h=>Zap.p5_ok (i_198:=y.1) (s_208:=y.2) h hE hc1 (fun i_198 s_208=>hc (i_198,s_208))) N (0,h_111) h18))
theorem Zap.p2_ok {x1 at_2 i_112 h_111 w_165 st r c1_ c2_ J1 J2} (h:Zap.p2 N c1_ x1 at_2 h_111 c2_ (i_112,w_165)=some r) (hE:En Tryz.f158 g0 w0 (Zap.rs r) st R) (hc1 : ∀at_2 h_111,c1_ (at_2,h_111)=some r→At g0 w0 (Zap.p1.S x1 at_2 h_111 st) J1) (hc2 : ∀i_112 w_165,c2_ (i_112,w_165)=some r→At g0 w0 (Zap.p2.S x1 at_2 i_112 h_111 w_165 st) J2):At g0 w0 (Zap.p2.S x1 at_2 i_112 h_111 w_165 st) (XK Tryz.prog R (.c (csub Zap.B [1,1,1,0,1,0,0,1,0,0,1,0,1,0,0]) :: .h J2 :: [.b 2,.c (csub Zap.B [1,1,1,0,1,0,0,1,0,0,1,1]),.b 1,.c (csub Zap.B [1,1,1,0,1,0,0,1,1]),.h J1,.b 0,.c (csub Zap.B [1,1,1,1])])):=by
 unfold Zap.p2 at h
 refine iteB h (fun c287 h26=>?_) (fun c287 h27=>?_)
 ·exact aq fol [.r [],.c true,.r []] [2,3,4,5,6,7,8] [2,3,6] c287 (At.loop N (At.loopN (fun y:Int×(List Int)=>Zap.p3.S x1 at_2 i_112 y.1 h_111 y.2 st) (fun c J hc y h=>Zap.p3_ok (j_166:=y.1) (w_167:=y.2) h hE hc2 hc1 (fun j_166 w_167=>hc (j_166,w_167))) N (0,w_165) h26))
 ·exact aq fol [.r [],.c false,.r []] [2,3,4,5,6,9] [2,3,6] c287 (At.loop N (At.loopN (fun y:Int×(List Int)=>Zap.p4.S x1 at_2 y.1 h_111 y.2 st) (fun c J hc y h=>Zap.p4_ok (i_168:=y.1) (w_193:=y.2) h hE hc1 (fun i_168 w_193=>hc (i_168,w_193))) N (16,w_165) h27))
theorem Zap.p7_ok {i_218 h_111 out_219 st r c7_ J7} (h:Zap.p7 N h_111 c7_ (i_218,out_219)=some r) (hE:En Tryz.f158 g0 w0 (Zap.rs r) st R) (hc7 : ∀i_218 out_219,c7_ (i_218,out_219)=some r→At g0 w0 (Zap.p7.S i_218 h_111 out_219 st) J7):At g0 w0 (Zap.p7.S i_218 h_111 out_219 st) (XK Tryz.prog R (.c (csub Zap.B [1,1,1,1,1,0,1,0,0]) :: .h J7 :: [.b 12,.c (csub Zap.B [1,1,1,1,1,1])])):=by
 unfold Zap.p7 at h
 refine iteB h (fun c383 h28=>?_) (fun c383 h29=>?_)
 ·obtain ⟨c384,c385,c386,c387,h30⟩:=ck4 h28
  exact an fol [.r [],.c true,.r [],.r []] [2,3,17,18] [2,3,17] (aO c383 (neI 4) c384 c385 (neI 4) c386 (neI 256) (aI c387 (oD c383))) (hc7 (w64 (i_218+1)) (List.set out_219 (Int.toNat i_218) (v8 (Int.tmod (shrOf .u32 (List.getD h_111 (Int.toNat (w64 (Int.tdiv i_218 4))) 0) (v64 (w64 (24-(w64 (8*(Int.tmod i_218 4))))))) 256))) h30)
 ·obtain rfl:=Zac h29
  exact af fol hE [.r [],.c false,.r []] [] 0 [] c383
theorem Zap.p1_ok {x1 at_2 h_111 st r c1_ J1} (h:Zap.p1 N x1 c1_ (at_2,h_111)=some r) (hE:En Tryz.f158 g0 w0 (Zap.rs r) st R) (hc1 : ∀at_2 h_111,c1_ (at_2,h_111)=some r→At g0 w0 (Zap.p1.S x1 at_2 h_111 st) J1):At g0 w0 (Zap.p1.S x1 at_2 h_111 st) (XK Tryz.prog R (.c (csub Zap.B [1,1,1,0,1,0,0]) :: .h J1 :: [.b 0,.c (csub Zap.B [1,1,1,1])])):=by
 unfold Zap.p1 at h
 refine iteB h (fun c195 h31=>?_) (fun c195 h32=>?_)
 ·exact aq fol [.r [],.c true,.r [],.r []] [2,3,4,5,6,7] [2,3,6] c195 (At.loop N (At.loopN (fun y:Int×(List Int)=>Zap.p2.S x1 at_2 y.1 h_111 y.2 st) (fun c J hc y h=>Zap.p2_ok (i_112:=y.1) (w_165:=y.2) h hE hc1 (fun i_112 w_165=>hc (i_112,w_165))) N (0,List.replicate 64 0) h31))
 ·exact aq fol [.r [],.c false,.r [],.r []] [2,3,17,18] [2,3,17] c195 (At.loop N (At.loopN (fun y:Int×(List Int)=>Zap.p7.S y.1 h_111 y.2 st) (fun c J hc y h=>Zap.p7_ok (i_218:=y.1) (out_219:=y.2) h hE (fun i_218 out_219=>hc (i_218,out_219))) N (0,List.replicate 32 0) h32))
theorem Zap.snd {s_0:ByteArray} {r:(List Int)} (h:Zap N s_0=some r):SndQ Tryz.prog 158 [.one (L.str s_0)] (Zap.rs r):=fun st=>
 sO Zap.B Tryz.func158 fun g0 w0 R hE=>by
  unfold Zap at h
  obtain ⟨x1,c1,h33⟩:=Zad h
  exact aq fol [.r [],.r [(0,{m:=3})],.r [(1,q1 [.one (L.str x1)])],.r []] [2,3,4,5] [2,3] (ZaM.snd c1) (At.loop N (At.loopN (fun y:Int×(List Int)=>Zap.p1.S x1 y.1 y.2 st) (fun c J hc y h=>Zap.p1_ok (at_2:=y.1) (h_111:=y.2) h hE (fun at_2 h_111=>hc (at_2,h_111))) N (0,[1779033703,3144134277,1013904242,2773480762,1359893119,2600822924,528734635,1541459225]) h33))
noncomputable def Zbs.B:Code:=Tryz.f100.body.getD .skip
noncomputable def Zbs.rs (r:(List Int)):List CV:=[.agg [L.arr .u8 32 r]]
noncomputable def Zbs.p1 (N:Nat) (x1:List Int) (c1_:(ByteArray×Int)→Option (List Int)):(ByteArray×Int)→Option (List Int):=fun (b_4,i_2)=>
 if (decide (i_2<32))=true then
  chk (0≤i_2)<|
  chk (isB [[L.int .u8 (List.getD x1 (Int.toNat i_2) 0)]]=true)<|
  chk (ByteArray.size b_4+ByteArray.size (istr (List.map leafI [[L.int .u8 (List.getD x1 (Int.toNat i_2) 0)]]))≤9223372036854775807)<|
  c1_ (b_4++(istr (List.map leafI [[L.int .u8 (List.getD x1 (Int.toNat i_2) 0)]])),w64 (i_2+1))
 else
 optE (Zap N b_4) fun x5=>
 some x5
noncomputable def Zbs (N:Nat) (s_0:ByteArray):Option (List Int):=
 optE (Zap N s_0) fun x1=>
 loopN (Zbs.p1 N x1) N ((ByteArray.mk #[]),0)
noncomputable def Zbs.p1.S (b_4:ByteArray) (i_2:Int) (x1:List Int) (st:LL):S:=mkS 21 [(2,sA 2),(3,sA 3),(4,.one (.l (L.str b_4))),(5,sI i_2)] [(2,.cells [L.arr .u8 32 (List.replicate 32 0)]),(3,.cells [L.arr .u8 32 x1])] st
theorem Zbs.p1_ok {b_4 i_2 x1 st r c1_ J1} (h:Zbs.p1 N x1 c1_ (b_4,i_2)=some r) (hE:En Tryz.f100 g0 w0 (Zbs.rs r) st R) (hc1 : ∀b_4 i_2,c1_ (b_4,i_2)=some r→At g0 w0 (Zbs.p1.S b_4 i_2 x1 st) J1):At g0 w0 (Zbs.p1.S b_4 i_2 x1 st) (XK Tryz.prog R (.c (csub Zbs.B [1,1,1,0,1,0,0]) :: .h J1 :: [.b 0,.c (csub Zbs.B [1,1,1,1])])):=by
 unfold Zbs.p1 at h
 refine iteB h (fun c7 h1=>?_) (fun c7 h2=>?_)
 ·obtain ⟨c8,c9,c10,h3⟩:=ck3 h1
  exact an fol [.r [],.c true,.r [],.r []] [2,3,4,5] [2,3] (aN c7 c8 (oD c7) z0 (eN (1)) c9 c10) (hc1 (b_4++(istr (List.map leafI [[L.int .u8 (List.getD x1 (Int.toNat i_2) 0)]]))) (w64 (i_2+1)) h3)
 ·obtain ⟨x5,c11,h4⟩:=Zad h2
  obtain rfl:=Zac h4
  exact af fol hE [.r [],.c false,.r [(1,q1 [.agg [L.arr .u8 32 x5]])]] [] 0 [] (aI c7 (Zap.snd c11))
theorem Zbs.snd {s_0:ByteArray} {r:(List Int)} (h:Zbs N s_0=some r):SndQ Tryz.prog 100 [.one (L.str s_0)] (Zbs.rs r):=fun st=>
 sO Zbs.B Tryz.func100 fun g0 w0 R hE=>by
  unfold Zbs at h
  obtain ⟨x1,c1,h5⟩:=Zad h
  exact aq fol [.r [],.r [(1,q1 [.agg [L.arr .u8 32 x1]])],.r [],.r []] [2,3,4,5] [2,3] (Zap.snd c1) (At.loop N (At.loopN (fun y:ByteArray×Int=>Zbs.p1.S y.1 y.2 x1 st) (fun c J hc y h=>Zbs.p1_ok (b_4:=y.1) (i_2:=y.2) h hE (fun b_4 i_2=>hc (b_4,i_2))) N ((ByteArray.mk #[]),0) h5))
noncomputable def Zdi.B:Code:=Tryz.f54.body.getD .skip
noncomputable def Zdi.rs (r:(List Int)):List CV:=[.agg [L.arr .u8 32 r]]
noncomputable def Zdi (N:Nat) (h_0:Zaa):Option (List Int):=
 optE (Zcn N h_0) fun x1=>
 if (!x1)=true then
  some (List.replicate 32 0)
 else
 optE (ZcQ N h_0) fun x2=>
 optE (Zbs N x2) fun x3=>
 some x3
theorem Zdi.snd {h_0:Zaa} {r:(List Int)} (h:Zdi N h_0=some r):SndQ Tryz.prog 54 [.agg h_0.ls] (Zdi.rs r):=fun st=>
 sO Zdi.B Tryz.func54 fun g0 w0 R hE=>by
  unfold Zdi at h
  obtain ⟨x1,c1,h1⟩:=Zad h
  let o1:List PS:=[.r [],.r [(1,q1 [oB x1])]]
  refine iteB h1 (fun c2 h2=>?_) (fun c2 h3=>?_)
  ·obtain rfl:=Zac h2
   exact af fol hE (o1 ++ [.c true,.r []]) [] 0 [] (aI (Zcn.snd c1) c2)
  ·obtain ⟨x2,c3,h4⟩:=Zad h3
   obtain ⟨x3,c4,h5⟩:=Zad h4
   obtain rfl:=Zac h5
   exact af fol hE (o1 ++ [.c false,.r [(1,q1 [.one (L.str x2)]),(2,q1 [.agg [L.arr .u8 32 x3]])]]) [] 0 [] (aK (Zcn.snd c1) c2 (ZcQ.snd c3) (Zbs.snd c4))
noncomputable def Zar.B:Code:=Tryz.f220.body.getD .skip
noncomputable def Zar.rs (r:(List Int)×Bool):List CV:=[.agg [L.arr .u64 4 r.1],oB r.2]
noncomputable def Zar.p2 (N:Nat) (c1_:(Int×Int×(List Int))→Option ((List Int)×Bool)) (by_1 over_2 c_1 i_2 w_12:Int) (n_0_0 d_11:List Int):Option ((List Int)×Bool):=
 chk (0≤i_2)<|
 chk (i_2<10)<|
 c1_ (w64 (Int.tdiv (w64 ((w64 (w_12*by_1))+c_1)) 4294967296),w64 (i_2+1),List.set d_11 (Int.toNat i_2) (Int.tmod (w64 ((w64 (w_12*by_1))+c_1)) 4294967296))
noncomputable def Zar.p4 (N:Nat) (q_17:List Int) (c4_:(Int×(List Int))→Option ((List Int)×Bool)):(Int×(List Int))→Option ((List Int)×Bool):=fun (i_18,out_19)=>
 if (decide (i_18<8))=true then
  chk (0≤(w64 (Int.tdiv i_18 2)))<|
  chk ((w64 (Int.tdiv i_18 2))<4)<|
  chk (0≤i_18)<|
  chk (i_18<10)<|
  chk (0≤(v64 (w64 (32*(Int.tmod i_18 2)))))<|
  c4_ (w64 (i_18+1),List.set out_19 (Int.toNat (w64 (Int.tdiv i_18 2))) (v64 ((List.getD out_19 (Int.toNat (w64 (Int.tdiv i_18 2))) 0)+(shlOf .u64 (v64 (List.getD q_17 (Int.toNat i_18) 0)) (v64 (w64 (32*(Int.tmod i_18 2))))))))
 else
 if ((List.getD q_17 8 0)==0)=true then
  some (out_19,(List.getD q_17 9 0)==0)
 else
 some (out_19,false)
noncomputable def Zar.p3 (N:Nat) (over_2:Int) (d_11:List Int) (c3_:(Int×Int×(List Int))→Option ((List Int)×Bool)):(Int×Int×(List Int))→Option ((List Int)×Bool):=fun (rest_13,i_14,q_17)=>
 if (decide (i_14≥0))=true then
  chk (0≤i_14)<|
  chk (i_14<10)<|
  chk (over_2≠0)<|
  c3_ (Int.tmod (w64 ((w64 (rest_13*4294967296))+(List.getD d_11 (Int.toNat i_14) 0))) over_2,w64 (i_14-1),List.set q_17 (Int.toNat i_14) (w64 (Int.tdiv (w64 ((w64 (rest_13*4294967296))+(List.getD d_11 (Int.toNat i_14) 0))) over_2)))
 else
 loopN (Zar.p4 N q_17) N (0,List.replicate 4 0)
noncomputable def Zar.p1 (N:Nat) (by_1 over_2:Int) (n_0_0:List Int) (c1_:(Int×Int×(List Int))→Option ((List Int)×Bool)):(Int×Int×(List Int))→Option ((List Int)×Bool):=fun (c_1,i_2,d_11)=>
 if (decide (i_2<10))=true then
  if (decide (i_2<8))=true then
   chk (0≤(w64 (Int.tdiv i_2 2)))<|
   chk ((w64 (Int.tdiv i_2 2))<4)<|
   chk (0≤(v64 (w64 (32*(Int.tmod i_2 2)))))<|
   Zar.p2 N c1_ by_1 over_2 c_1 i_2 (w64 (Int.tmod (shrOf .u64 (List.getD n_0_0 (Int.toNat (w64 (Int.tdiv i_2 2))) 0) (v64 (w64 (32*(Int.tmod i_2 2))))) 4294967296)) n_0_0 d_11
  else
  Zar.p2 N c1_ by_1 over_2 c_1 i_2 0 n_0_0 d_11
 else
 loopN (Zar.p3 N over_2 d_11) N (0,9,List.replicate 10 0)
noncomputable def Zar (N:Nat) (n_0_0:List Int) (by_1 over_2:Int):Option ((List Int)×Bool):=
 loopN (Zar.p1 N by_1 over_2 n_0_0) N (0,0,List.replicate 10 0)
noncomputable def Zar.p2.S (by_1 over_2 c_1 i_2 w_12:Int) (n_0_0 d_11:List Int) (st:LL):S:=mkS 96 [(1,sI by_1),(2,sI over_2),(3,sA 3),(6,sA 6),(8,sA 8),(9,sI c_1),(10,sI i_2),(11,sI w_12)] [(3,.cells [L.arr .u64 4 n_0_0]),(6,.cells [L.arr .u64 4 (List.replicate 4 0)]),(8,.cells [L.arr .i64 10 d_11])] st
noncomputable def Zar.p4.S (i_18:Int) (q_17 out_19:List Int) (st:LL):S:=mkS 96 [(6,sA 6),(14,sA 14),(17,sA 17),(18,sI i_18)] [(6,.cells [L.arr .u64 4 (List.replicate 4 0)]),(14,.cells [L.arr .i64 10 q_17]),(17,.cells [L.arr .u64 4 out_19])] st
noncomputable def Zar.p3.S (over_2 rest_13 i_14:Int) (d_11 q_17:List Int) (st:LL):S:=mkS 96 [(2,sI over_2),(6,sA 6),(8,sA 8),(13,sI rest_13),(14,sA 14),(15,sI i_14)] [(6,.cells [L.arr .u64 4 (List.replicate 4 0)]),(8,.cells [L.arr .i64 10 d_11]),(14,.cells [L.arr .i64 10 q_17])] st
noncomputable def Zar.p1.S (by_1 over_2 c_1 i_2:Int) (n_0_0 d_11:List Int) (st:LL):S:=mkS 96 [(1,sI by_1),(2,sI over_2),(3,sA 3),(6,sA 6),(8,sA 8),(9,sI c_1),(10,sI i_2)] [(3,.cells [L.arr .u64 4 n_0_0]),(6,.cells [L.arr .u64 4 (List.replicate 4 0)]),(8,.cells [L.arr .i64 10 d_11])] st
theorem Zar.p2_ok {by_1 over_2 c_1 i_2 w_12 n_0_0 d_11 st r c1_ J1} (h:Zar.p2 N c1_ by_1 over_2 c_1 i_2 w_12 n_0_0 d_11=some r) (hE:En Tryz.f220 g0 w0 (Zar.rs r) st R) (hc1 : ∀c_1 i_2 d_11,c1_ (c_1,i_2,d_11)=some r→At g0 w0 (Zar.p1.S by_1 over_2 c_1 i_2 n_0_0 d_11 st) J1):At g0 w0 (Zar.p2.S by_1 over_2 c_1 i_2 w_12 n_0_0 d_11 st) (XK Tryz.prog R [.c (csub Zar.B [1,1,1,0,1,0,0,1,0,0,1,1]),.b 1,.c (csub Zar.B [1,1,1,0,1,0,0,1,1]),.h J1,.b 0,.c (csub Zar.B [1,1,1,1])]):=by
 unfold Zar.p2 at h
 obtain ⟨c49,c50,h1⟩:=ck2 h
 exact an fol [.r [],.r [],.r [],.r []] [1,2,3,6,8,9,10] [3,6,8] (aK (neI 4294967296) c49 c50 (neI 4294967296)) (hc1 (w64 (Int.tdiv (w64 ((w64 (w_12*by_1))+c_1)) 4294967296)) (w64 (i_2+1)) (List.set d_11 (Int.toNat i_2) (Int.tmod (w64 ((w64 (w_12*by_1))+c_1)) 4294967296)) h1)
theorem Zar.p4_ok {i_18 q_17 out_19 st r c4_ J4} (h:Zar.p4 N q_17 c4_ (i_18,out_19)=some r) (hE:En Tryz.f220 g0 w0 (Zar.rs r) st R) (hc4 : ∀i_18 out_19,c4_ (i_18,out_19)=some r→At g0 w0 (Zar.p4.S i_18 q_17 out_19 st) J4):At g0 w0 (Zar.p4.S i_18 q_17 out_19 st) (XK Tryz.prog R (.c (csub Zar.B [1,1,1,1,1,1,1,1,0,1,0,0]) :: .h J4 :: [.b 4,.c (csub Zar.B [1,1,1,1,1,1,1,1,1])])):=by
 unfold Zar.p4 at h
 refine iteB h (fun c80 h2=>?_) (fun c80 h3=>?_)
 ·obtain ⟨c81,c82,c83,c84,c85,h4⟩:=ck5 h2
  exact and_ fol [.r [],.c true,.d {ds:=[],hv:=131072,Hs:=[131072]},.r []] [6,14,17,18] [6,14,17] (aO c80 (neI 2) (neI 2) c81 c82 c83 c84 (aK (neI 2) c85 c81 c82)) (hc4 (w64 (i_18+1)) (List.set out_19 (Int.toNat (w64 (Int.tdiv i_18 2))) (v64 ((List.getD out_19 (Int.toNat (w64 (Int.tdiv i_18 2))) 0)+(shlOf .u64 (v64 (List.getD q_17 (Int.toNat i_18) 0)) (v64 (w64 (32*(Int.tmod i_18 2)))))))) h4)
 ·refine iteB h3 (fun c86 h5=>?_) (fun c86 h6=>?_)
  ·obtain rfl:=Zac h5
   exact afd fol hE [.r [],.c false,.d {ds:=[],hv:=512,Hs:=[512]}] [] 0 [] (aI c80 (ix 8 10 (aI c86 (ix 9 10 (aI c86 (ix 9 10 (aM c86 c86 c86 c86 c86 c86)))))))
  ·obtain rfl:=Zac h6
   exact afd fol hE [.r [],.c false,.d {ds:=[(5,wF),(6,wF),(7,wF),(8,yF)],hv:=512,Hs:=[512]}] [] 0 [] (aI c80 (ix 8 10 (aO c86 c86 c86 c86 c86 c86 c86 c86)))
theorem Zar.p3_ok {over_2 rest_13 i_14 d_11 q_17 st r c3_ J3} (h:Zar.p3 N over_2 d_11 c3_ (rest_13,i_14,q_17)=some r) (hE:En Tryz.f220 g0 w0 (Zar.rs r) st R) (hc3 : ∀rest_13 i_14 q_17,c3_ (rest_13,i_14,q_17)=some r→At g0 w0 (Zar.p3.S over_2 rest_13 i_14 d_11 q_17 st) J3):At g0 w0 (Zar.p3.S over_2 rest_13 i_14 d_11 q_17 st) (XK Tryz.prog R (.c (csub Zar.B [1,1,1,1,1,1,0,1,0,0]) :: .h J3 :: [.b 2,.c (csub Zar.B [1,1,1,1,1,1,1])])):=by
 unfold Zar.p3 at h
 refine iteB h (fun c69 h7=>?_) (fun c69 h8=>?_)
 ·obtain ⟨c70,c71,c72,h9⟩:=ck3 h7
  exact an fol [.r [],.c true,.r [],.r [],.r [],.r []] [2,6,8,13,14,15] [6,8,14] (aN c69 c70 c71 c72 c70 c71 c72) (hc3 (Int.tmod (w64 ((w64 (rest_13*4294967296))+(List.getD d_11 (Int.toNat i_14) 0))) over_2) (w64 (i_14-1)) (List.set q_17 (Int.toNat i_14) (w64 (Int.tdiv (w64 ((w64 (rest_13*4294967296))+(List.getD d_11 (Int.toNat i_14) 0))) over_2))) h9)
 ·exact aq fol [.r [],.c false,.r [],.r []] [6,14,17,18] [6,14,17] c69 (At.loop N (At.loopN (fun y:Int×(List Int)=>Zar.p4.S y.1 q_17 y.2 st) (fun c J hc y h=>Zar.p4_ok (i_18:=y.1) (out_19:=y.2) h hE (fun i_18 out_19=>hc (i_18,out_19))) N (0,List.replicate 4 0) h8))
theorem Zar.p1_ok {by_1 over_2 c_1 i_2 n_0_0 d_11 st r c1_ J1} (h:Zar.p1 N by_1 over_2 n_0_0 c1_ (c_1,i_2,d_11)=some r) (hE:En Tryz.f220 g0 w0 (Zar.rs r) st R) (hc1 : ∀c_1 i_2 d_11,c1_ (c_1,i_2,d_11)=some r→At g0 w0 (Zar.p1.S by_1 over_2 c_1 i_2 n_0_0 d_11 st) J1):At g0 w0 (Zar.p1.S by_1 over_2 c_1 i_2 n_0_0 d_11 st) (XK Tryz.prog R (.c (csub Zar.B [1,1,1,0,1,0,0]) :: .h J1 :: [.b 0,.c (csub Zar.B [1,1,1,1])])):=by
 unfold Zar.p1 at h
 refine iteB h (fun c44 h10=>?_) (fun c44 h11=>?_)
 ·refine iteB h10 (fun c45 h12=>?_) (fun c45 h13=>?_)
  ·obtain ⟨c46,c47,c48,h14⟩:=ck3 h12
   exact aq fol [.r [],.c true,.r [],.r [],.c true,.r [],.s 6] [1,2,3,6,8,9,10,11] [3,6,8] (aO c44 c45 (neI 2) c46 c47 (neI 2) c48 (neI 4294967296)) (Zar.p2_ok h14 hE hc1)
  ·exact aq fol [.r [],.c true,.r [],.r [],.c false,.s 6] [1,2,3,6,8,9,10,11] [3,6,8] (aI c44 c45) (Zar.p2_ok h13 hE hc1)
 ·exact aq fol [.r [],.c false,.r [],.r [],.r []] [2,6,8,13,14,15] [6,8,14] c44 (At.loop N (At.loopN (fun y:Int×Int×(List Int)=>Zar.p3.S over_2 y.1 y.2.1 d_11 y.2.2 st) (fun c J hc y h=>Zar.p3_ok (rest_13:=y.1) (i_14:=y.2.1) (q_17:=y.2.2) h hE (fun rest_13 i_14 q_17=>hc (rest_13,i_14,q_17))) N (0,9,List.replicate 10 0) h11))
theorem Zar.snd {n_0_0:List Int} {by_1 over_2:Int} {r:(List Int)×Bool} (h:Zar N n_0_0 by_1 over_2=some r):SndQ Tryz.prog 220 [.agg [L.arr .u64 4 n_0_0],oI by_1,oI over_2] (Zar.rs r):=fun st=>
 sO Zar.B Tryz.func220 fun g0 w0 R hE=>by
  unfold Zar at h
  exact aq fol [.r [],.r [],.r [],.r []] [1,2,3,6,8,9,10] [3,6,8] trivial (At.loop N (At.loopN (fun y:Int×Int×(List Int)=>Zar.p1.S by_1 over_2 y.1 y.2.1 n_0_0 y.2.2 st) (fun c J hc y h=>Zar.p1_ok (c_1:=y.1) (i_2:=y.2.1) (d_11:=y.2.2) h hE (fun c_1 i_2 d_11=>hc (c_1,i_2,d_11))) N (0,0,List.replicate 10 0) h))
noncomputable def Zat.B:Code:=Tryz.f221.body.getD .skip
noncomputable def Zat.rs (r:Int):List CV:=[oI r]
noncomputable def Zat.p2 (N:Nat) (c1_:(Int×Int)→Option Int) (size_4 i_2:Int) (n_0_0:List Int):Option Int:=
 c1_ (size_4,w64 (i_2+1))
noncomputable def Zat.p4 (N:Nat) (size_8 word_9:Int):Option Int:=
 some (w64 ((w64 (size_8*16777216))+word_9))
noncomputable def Zat.p3 (N:Nat) (size_1 word_7:Int):Option Int:=
 if (decide (word_7≥8388608))=true then
  Zat.p4 N (w64 (size_1+1)) (w64 (Int.tdiv word_7 256))
 else
 Zat.p4 N size_1 word_7
noncomputable def Zat.p1 (N:Nat) (n_0_0:List Int) (c1_:(Int×Int)→Option Int):(Int×Int)→Option Int:=fun (size_1,i_2)=>
 if (decide (i_2<32))=true then
  optE (Zam N n_0_0 (w64 ((-8)*i_2))) fun x3=>
  if (decide ((Int.tmod (List.getD x3 0 0) 256)>0))=true then
   Zat.p2 N c1_ (w64 (i_2+1)) i_2 n_0_0
  else
  Zat.p2 N c1_ size_1 i_2 n_0_0
 else
 optE (Zam N n_0_0 (w64 (8*(w64 (3-size_1))))) fun x5=>
 if (decide (size_1>3))=true then
  optE (Zam N n_0_0 (w64 ((-8)*(w64 (size_1-3))))) fun x6=>
  Zat.p3 N size_1 (w64 (Int.tmod (List.getD x6 0 0) 16777216))
 else
 Zat.p3 N size_1 (w64 (Int.tmod (List.getD x5 0 0) 16777216))
noncomputable def Zat (N:Nat) (n_0_0:List Int):Option Int:=
 loopN (Zat.p1 N n_0_0) N (0,0)
noncomputable def Zat.p2.S (size_4 i_2:Int) (n_0_0:List Int) (st:LL):S:=mkS 49 [(1,sA 1),(3,sI size_4),(4,sI i_2)] [(1,.cells [L.arr .u64 4 n_0_0])] st
noncomputable def Zat.p4.S (size_8 word_9:Int) (st:LL):S:=mkS 49 [(3,sI size_8),(6,sI word_9)] [] st
noncomputable def Zat.p3.S (size_1 word_7:Int) (st:LL):S:=mkS 49 [(3,sI size_1),(6,sI word_7)] [] st
noncomputable def Zat.p1.S (size_1 i_2:Int) (n_0_0:List Int) (st:LL):S:=mkS 49 [(1,sA 1),(3,sI size_1),(4,sI i_2)] [(1,.cells [L.arr .u64 4 n_0_0])] st
theorem Zat.p2_ok {size_4 i_2 n_0_0 st r c1_ J1} (h:Zat.p2 N c1_ size_4 i_2 n_0_0=some r) (hE:En Tryz.f221 g0 w0 (Zat.rs r) st R) (hc1 : ∀size_1 i_2,c1_ (size_1,i_2)=some r→At g0 w0 (Zat.p1.S size_1 i_2 n_0_0 st) J1):At g0 w0 (Zat.p2.S size_4 i_2 n_0_0 st) (XK Tryz.prog R [.c (csub Zat.B [1,1,0,1,0,0,1,1]),.h J1,.b 0,.c (csub Zat.B [1,1,1])]):=by
 unfold Zat.p2 at h
 exact an fol [.r []] [1,3,4] [1] trivial (hc1 size_4 (w64 (i_2+1)) h)
theorem Zat.p4_ok {size_8 word_9 st r} (h:Zat.p4 N size_8 word_9=some r) (hE:En Tryz.f221 g0 w0 (Zat.rs r) st R):At g0 w0 (Zat.p4.S size_8 word_9 st) (XK Tryz.prog R [.c (csub Zat.B [1,1,1,1,1,1])]):=by
 unfold Zat.p4 at h
 obtain rfl:=Zac h
 exact af fol hE [.r []] [] 0 [] trivial
theorem Zat.p3_ok {size_1 word_7 st r} (h:Zat.p3 N size_1 word_7=some r) (hE:En Tryz.f221 g0 w0 (Zat.rs r) st R):At g0 w0 (Zat.p3.S size_1 word_7 st) (XK Tryz.prog R [.c (csub Zat.B [1,1,1,1,1])]):=by
 unfold Zat.p3 at h
 refine iteB h (fun c7 h1=>?_) (fun c7 h2=>?_)
 ·exact aq fol [.r [],.c true,.r [],.r [],.s 1] [3,6] [] (aI c7 (neI 256)) (Zat.p4_ok h1 hE)
 ·exact aq fol [.r [],.c false,.s 1] [3,6] [] c7 (Zat.p4_ok h2 hE)
theorem Zat.p1_ok {size_1 i_2 n_0_0 st r c1_ J1} (h:Zat.p1 N n_0_0 c1_ (size_1,i_2)=some r) (hE:En Tryz.f221 g0 w0 (Zat.rs r) st R) (hc1 : ∀size_1 i_2,c1_ (size_1,i_2)=some r→At g0 w0 (Zat.p1.S size_1 i_2 n_0_0 st) J1):At g0 w0 (Zat.p1.S size_1 i_2 n_0_0 st) (XK Tryz.prog R (.c (csub Zat.B [1,1,0,1,0,0]) :: .h J1 :: [.b 0,.c (csub Zat.B [1,1,1])])):=by
 unfold Zat.p1 at h
 refine iteB h (fun c1 h3=>?_) (fun c1 h4=>?_)
 ·obtain ⟨x3,c2,h5⟩:=Zad h3
  let o1:List PS:=[.r [],.c true,.r [(3,q1 [.agg [L.arr .u64 4 x3]])],.r []]
  have t1 {Q:Prop} (q:Q):=aJ c1 (Zam.snd c2) (ix 0 4 (aI (neI 256) q))
  refine iteB h5 (fun c3 h6=>?_) (fun c3 h7=>?_)
  ·exact aq fol (o1 ++ [.c true,.r [],.s 4]) [1,3,4] [1] (t1 c3) (Zat.p2_ok h6 hE hc1)
  ·exact aq fol (o1 ++ [.c false,.s 4]) [1,3,4] [1] (t1 c3) (Zat.p2_ok h7 hE hc1)
 ·obtain ⟨x5,c4,h8⟩:=Zad h4
  let o2:List PS:=[.r [],.c false,.r [(4,q1 [.agg [L.arr .u64 4 x5]])],.r []]
  have t2 {Q:Prop} (q:Q):=aJ c1 (Zam.snd c4) (ix 0 4 (aI (neI 16777216) q))
  refine iteB h8 (fun c5 h9=>?_) (fun c5 h10=>?_)
  ·obtain ⟨x6,c6,h11⟩:=Zad h9
   exact aq fol (o2 ++ [.c true,.r [(4,q1 [.agg [L.arr .u64 4 x6]])],.s 1]) [3,6] [] (t2 (aJ c5 (Zam.snd c6) (ix 0 4 (neI 16777216)))) (Zat.p3_ok h11 hE)
  ·exact aq fol (o2 ++ [.c false,.s 1]) [3,6] [] (t2 c5) (Zat.p3_ok h10 hE)
theorem Zat.snd {n_0_0:List Int} {r:Int} (h:Zat N n_0_0=some r):SndQ Tryz.prog 221 [.agg [L.arr .u64 4 n_0_0]] (Zat.rs r):=fun st=>
 sO Zat.B Tryz.func221 fun g0 w0 R hE=>by
  unfold Zat at h
  exact aq fol [.r [],.r [],.r []] [1,3,4] [1] trivial (At.loop N (At.loopN (fun y:Int×Int=>Zat.p1.S y.1 y.2 n_0_0 st) (fun c J hc y h=>Zat.p1_ok (size_1:=y.1) (i_2:=y.2) h hE (fun size_1 i_2=>hc (size_1,i_2))) N (0,0) h))
noncomputable def Zav.B:Code:=Tryz.f204.body.getD .skip
noncomputable def Zav.rs (r:Int):List CV:=[oI r]
noncomputable def Zav.p3 (N:Nat) (n_11:List Int):Option Int:=
 optE (Zat N n_11) fun x12=>
 some x12
noncomputable def Zav.p2 (N:Nat) (p_0:Zag) (took_5:Int) (x1:List Int):Option Int:=
 optE (Zar N x1 took_5 (w64 (p_0.Interval*p_0.Spacing))) fun (x6,x7)=>
 optE (Zca N p_0.Limit p_0.Limit) fun (x8,x9)=>
 if (!x7)=true then
  some p_0.Limit
 else
 optE (Zbf N x8 x6) fun x10=>
 if x10=true then
  some p_0.Limit
 else
 if (x6==(List.replicate 4 0))=true then
  Zav.p3 N [1,0,0,0]
 else
 Zav.p3 N x6
noncomputable def Zav.p1 (N:Nat) (p_0:Zag) (took_4:Int) (x1:List Int):Option Int:=
 if (decide (took_4>(w64 ((w64 (p_0.Interval*p_0.Spacing))*4))))=true then
  Zav.p2 N p_0 (w64 ((w64 (p_0.Interval*p_0.Spacing))*4)) x1
 else
 Zav.p2 N p_0 took_4 x1
noncomputable def Zav (N:Nat) (p_0:Zag) (bits_1 from_2 to_3:Int):Option Int:=
 optE (Zca N bits_1 p_0.Limit) fun (x1,x2)=>
 optE (ZcO N p_0) fun x3=>
 if (!x3)=true then
  some p_0.Limit
 else
 if (!x2)=true then
  some p_0.Limit
 else
 if (decide ((w64 (to_3-from_2))<(w64 (Int.tdiv (w64 (p_0.Interval*p_0.Spacing)) 4))))=true then
  Zav.p1 N p_0 (w64 (Int.tdiv (w64 (p_0.Interval*p_0.Spacing)) 4)) x1
 else
 Zav.p1 N p_0 (w64 (to_3-from_2)) x1
noncomputable def Zav.p3.S (n_11:List Int) (st:LL):S:=mkS 83 [(13,sA 13)] [(13,.cells [L.arr .u64 4 n_11])] st
noncomputable def Zav.p2.S (p_0:Zag) (took_5:Int) (x1:List Int) (st:LL):S:=mkS 83 [(4,sA 4),(9,sA 9),(11,sI (w64 (p_0.Interval*p_0.Spacing))),(12,sI took_5)] [(4,.cells p_0.ls),(9,.cells [L.arr .u64 4 x1])] st
noncomputable def Zav.p1.S (p_0:Zag) (took_4:Int) (x1:List Int) (st:LL):S:=mkS 83 [(4,sA 4),(9,sA 9),(11,sI (w64 (p_0.Interval*p_0.Spacing))),(12,sI took_4)] [(4,.cells p_0.ls),(9,.cells [L.arr .u64 4 x1])] st
theorem Zav.p3_ok {n_11 st r} (h:Zav.p3 N n_11=some r) (hE:En Tryz.f204 g0 w0 (Zav.rs r) st R):At g0 w0 (Zav.p3.S n_11 st) (XK Tryz.prog R [.c (csub Zav.B [1,1,1,1,1,1,1,1,1,1,1])]):=by
 unfold Zav.p3 at h
 obtain ⟨x12,c13,h1⟩:=Zad h
 obtain rfl:=Zac h1
 exact af fol hE [.r [(1,q1 [oI x12])]] [] 0 [] (Zat.snd c13)
theorem Zav.p2_ok {p_0 took_5 x1 st r} (h:Zav.p2 N p_0 took_5 x1=some r) (hE:En Tryz.f204 g0 w0 (Zav.rs r) st R):At g0 w0 (Zav.p2.S p_0 took_5 x1 st) (XK Tryz.prog R [.c (csub Zav.B [1,1,1,1,1,1,1])]):=by
 unfold Zav.p2 at h
 obtain ⟨⟨x6,x7⟩,c7,h2⟩:=Zad h
 obtain ⟨⟨x8,x9⟩,c8,h3⟩:=Zad h2
 let o1:List PS:=[.r [(3,q1 [.agg [L.arr .u64 4 x6],oB x7])],.r [(4,q1 [.agg [L.arr .u64 4 x8],oB x9])]]
 have t1 {Q:Prop} (q:Q):=aJ (Zar.snd c7) (Zca.snd c8) q
 refine iteB h3 (fun c9 h4=>?_) (fun c9 h5=>?_)
 ·obtain rfl:=Zac h4
  exact af fol hE (o1 ++ [.r [(3,wF),(4,wF),(5,wF)],.c true,.r []]) [] 0 [] (t1 (aL (not_false (Zbd c9)) (not_false (Zbd c9)) (not_false (Zbd c9)) (not_false (Zbd c9)) eT))
 ·obtain ⟨x10,c10,h6⟩:=Zad h5
  let o2:List PS:=o1 ++ [.r [(5,q1 [oB x10]),(6,yF)]]
  have t2 {Q:Prop} (q:Q):=t1 (aM (not_true (ZaZ c9)) (not_true (ZaZ c9)) (not_true (ZaZ c9)) (Zbf.snd c10) (not_true (ZaZ c9)) q)
  refine iteB h6 (fun c11 h7=>?_) (fun c11 h8=>?_)
  ·obtain rfl:=Zac h7
   exact af fol hE (o2 ++ [.c true,.r []]) [] 0 [] (t2 c11)
  ·refine iteB h8 (fun c12 h9=>?_) (fun c12 h10=>?_)
   ·exact aq fol (o2 ++ [.c false,.r [],.c true,.r [(0,{m:=3})],.s 1]) [13] [13] (t2 (aI c11 c12)) (Zav.p3_ok h9 hE)
   ·exact aq fol (o2 ++ [.c false,.r [],.c false,.s 1]) [13] [13] (t2 (aI c11 c12)) (Zav.p3_ok h10 hE)
theorem Zav.p1_ok {p_0 took_4 x1 st r} (h:Zav.p1 N p_0 took_4 x1=some r) (hE:En Tryz.f204 g0 w0 (Zav.rs r) st R):At g0 w0 (Zav.p1.S p_0 took_4 x1 st) (XK Tryz.prog R [.c (csub Zav.B [1,1,1,1,1,1])]):=by
 unfold Zav.p1 at h
 refine iteB h (fun c6 h11=>?_) (fun c6 h12=>?_)
 ·exact aq fol [.r [],.c true,.r [],.s 1] [4,9,11,12] [4,9] c6 (Zav.p2_ok h11 hE)
 ·exact aq fol [.r [],.c false,.s 1] [4,9,11,12] [4,9] c6 (Zav.p2_ok h12 hE)
theorem Zav.snd {p_0:Zag} {bits_1 from_2 to_3:Int} {r:Int} (h:Zav N p_0 bits_1 from_2 to_3=some r):SndQ Tryz.prog 204 [.agg p_0.ls,oI bits_1,oI from_2,oI to_3] (Zav.rs r):=fun st=>
 sO Zav.B Tryz.func204 fun g0 w0 R hE=>by
  unfold Zav at h
  obtain ⟨⟨x1,x2⟩,c1,h13⟩:=Zad h
  obtain ⟨x3,c2,h14⟩:=Zad h13
  let o3:List PS:=[.r [],.r [(3,q1 [.agg [L.arr .u64 4 x1],oB x2])]]
  have t3 {Q:Prop} (q:Q):=aJ (Zca.snd c1) (ZcO.snd c2) q
  refine iteB h14 (fun c3 h15=>?_) (fun c3 h16=>?_)
  ·obtain rfl:=Zac h15
   exact af fol hE (o3 ++ [.r [(1,q1 [oB x3]),(4,wF),(5,wF)],.c true,.r []]) [] 0 [] (t3 (aK (not_false (Zbd c3)) (not_false (Zbd c3)) (not_false (Zbd c3)) eT))
  ·let o4:List PS:=o3 ++ [.r [(1,q1 [oB x3]),(6,yF)]]
   have t4 {Q:Prop} (q:Q):=t3 (aK (not_true (ZaZ c3)) (not_true (ZaZ c3)) (not_true (ZaZ c3)) q)
   refine iteB h16 (fun c4 h17=>?_) (fun c4 h18=>?_)
   ·obtain rfl:=Zac h17
    exact af fol hE (o4 ++ [.c true,.r []]) [] 0 [] (t4 c4)
   ·refine iteB h18 (fun c5 h19=>?_) (fun c5 h20=>?_)
    ·exact aq fol (o4 ++ [.c false,.r [],.r [],.r [],.c true,.r [],.s 1]) [4,9,11,12] [4,9] (t4 (aK c4 (neI 4) c5 (neI 4))) (Zav.p1_ok h19 hE)
    ·exact aq fol (o4 ++ [.c false,.r [],.r [],.r [],.c false,.s 1]) [4,9,11,12] [4,9] (t4 (aJ c4 (neI 4) c5)) (Zav.p1_ok h20 hE)
noncomputable def ZbO.B:Code:=Tryz.f171.body.getD .skip
noncomputable def ZbO.rs (r:Int):List CV:=[oI r]
noncomputable def ZbO.p1 (N:Nat) (bits_2 time_3 hard_5 own_6:Int) (p_0:Zag):Option Int:=
 if (!p_0.Easy)=true then
  some bits_2
 else
 if (decide ((w64 (own_6-time_3))>(w64 (2*p_0.Spacing))))=true then
  some p_0.Limit
 else
 some hard_5
noncomputable def ZbO (N:Nat) (p_0:Zag) (height_1 bits_2 time_3 first_4 hard_5 own_6:Int):Option Int:=
 if (decide (height_1≤0))=true then
  some p_0.Limit
 else
 if (decide (p_0.Interval>0))=true then
  chk (p_0.Interval≠0)<|
  if ((Int.tmod height_1 p_0.Interval)==0)=true then
   optE (Zav N p_0 bits_2 first_4 time_3) fun x1=>
   some x1
  else
  ZbO.p1 N bits_2 time_3 hard_5 own_6 p_0
 else
 ZbO.p1 N bits_2 time_3 hard_5 own_6 p_0
noncomputable def ZbO.p1.S (bits_2 time_3 hard_5 own_6:Int) (p_0:Zag) (st:LL):S:=mkS 48 [(2,sI bits_2),(3,sI time_3),(5,sI hard_5),(6,sI own_6),(7,sA 7)] [(7,.cells p_0.ls)] st
theorem ZbO.p1_ok {bits_2 time_3 hard_5 own_6 p_0 st r} (h:ZbO.p1 N bits_2 time_3 hard_5 own_6 p_0=some r) (hE:En Tryz.f171 g0 w0 (ZbO.rs r) st R):At g0 w0 (ZbO.p1.S bits_2 time_3 hard_5 own_6 p_0 st) (XK Tryz.prog R [.c (csub ZbO.B [1,1,1])]):=by
 unfold ZbO.p1 at h
 refine iteB h (fun c6 h1=>?_) (fun c6 h2=>?_)
 ·obtain rfl:=Zac h1
  exact af fol hE [.r [],.c true,.r []] [] 0 [] c6
 ·refine iteB h2 (fun c7 h3=>?_) (fun c7 h4=>?_)
  ·obtain rfl:=Zac h3
   exact af fol hE [.r [],.c false,.r [],.c true,.r []] [] 0 [] (aI c6 c7)
  ·obtain rfl:=Zac h4
   exact af fol hE [.r [],.c false,.r [],.c false,.r []] [] 0 [] (aI c6 c7)
theorem ZbO.snd {p_0:Zag} {height_1 bits_2 time_3 first_4 hard_5 own_6:Int} {r:Int} (h:ZbO N p_0 height_1 bits_2 time_3 first_4 hard_5 own_6=some r):SndQ Tryz.prog 171 [.agg p_0.ls,oI height_1,oI bits_2,oI time_3,oI first_4,oI hard_5,oI own_6] (ZbO.rs r):=fun st=>
 sO ZbO.B Tryz.func171 fun g0 w0 R hE=>by
  unfold ZbO at h
  refine iteB h (fun c1 h5=>?_) (fun c1 h6=>?_)
  ·obtain rfl:=Zac h5
   exact af fol hE [.r [],.r [],.c true,.r []] [] 0 [] c1
  ·let o1:List PS:=[.r [],.r [],.c false]
   refine iteB h6 (fun c2 h7=>?_) (fun c2 h8=>?_)
   ·obtain ⟨c3,h9⟩:=ZaN h7
    refine iteB h9 (fun c4 h10=>?_) (fun c4 h11=>?_)
    ·obtain ⟨x1,c5,h12⟩:=Zad h10
     obtain rfl:=Zac h12
     exact af fol hE (o1 ++ [.r [],.c true,.r [(4,q1 [oI x1])]]) [] 0 [] (aO c1 c2 c2 c2 c2 c3 c2 (aJ c2 c4 (Zav.snd c5)))
    ·exact aq fol (o1 ++ [.r [],.c false,.s 1]) [2,3,5,6,7] [7] (aO c1 c2 c2 c2 c2 c3 c2 (aI c2 c4)) (ZbO.p1_ok h11 hE)
   ·exact aq fol (o1 ++ [.r [(4,wF),(5,wF),(6,wF),(7,wF),(8,wF),(9,yF)],.c false,.s 1]) [2,3,5,6,7] [7] (aO c1 c2 c2 c2 c2 c2 c2 eF) (ZbO.p1_ok h8 hE)
noncomputable def Zaz.B:Code:=Tryz.f111.body.getD .skip
noncomputable def Zaz.rs (r:Int):List CV:=[oI r]
noncomputable def Zaz.p4 (N:Nat) (c1_:(Int×Int×Int)→Option Int) (time_2:Int) (chain_1:LL) (first_7 hard_8 v4:Int) (p_0:Zag) (x1:Zaa):Option Int:=
 c1_ (first_7,hard_8,w64 (v4+1))
noncomputable def Zaz.p3 (N:Nat) (c1_:(Int×Int×Int)→Option Int) (time_2:Int) (chain_1:LL) (first_7 hard_3:Int) (begins_6:Bool) (v4:Int) (p_0:Zag) (x1 x5:Zaa):Option Int:=
 if (!p_0.Easy)=true then
  Zaz.p4 N c1_ time_2 chain_1 first_7 x5.Bits v4 p_0 x1
 else
 if (x5.Bits != p_0.Limit)=true then
  Zaz.p4 N c1_ time_2 chain_1 first_7 x5.Bits v4 p_0 x1
 else
 if begins_6=true then
  Zaz.p4 N c1_ time_2 chain_1 first_7 x5.Bits v4 p_0 x1
 else
 Zaz.p4 N c1_ time_2 chain_1 first_7 hard_3 v4 p_0 x1
noncomputable def Zaz.p2 (N:Nat) (c1_:(Int×Int×Int)→Option Int) (time_2:Int) (chain_1:LL) (first_2 hard_3:Int) (begins_6:Bool) (v4:Int) (p_0:Zag) (x1 x5:Zaa):Option Int:=
 if begins_6=true then
  Zaz.p3 N c1_ time_2 chain_1 x5.Time hard_3 begins_6 v4 p_0 x1 x5
 else
 Zaz.p3 N c1_ time_2 chain_1 first_2 hard_3 begins_6 v4 p_0 x1 x5
noncomputable def Zaz.p1 (N:Nat) (time_2:Int) (chain_1:LL) (p_0:Zag) (x1:Zaa) (c1_:(Int×Int×Int)→Option Int):(Int×Int×Int)→Option Int:=fun (first_2,hard_3,v4)=>
 if (decide (v4<(len chain_1)))=true then
  chk (0≤v4)<|
  getE (chain_1[Int.toNat v4]?) Zcs fun x5=>
  if (decide (p_0.Interval>0))=true then
   chk (p_0.Interval≠0)<|
   Zaz.p2 N c1_ time_2 chain_1 first_2 hard_3 ((Int.tmod v4 p_0.Interval)==0) v4 p_0 x1 x5
  else
  Zaz.p2 N c1_ time_2 chain_1 first_2 hard_3 false v4 p_0 x1 x5
 else
 optE (ZbO N p_0 (len chain_1) x1.Bits x1.Time first_2 hard_3 time_2) fun x9=>
 some x9
noncomputable def Zaz (N:Nat) (p_0:Zag) (chain_1:LL) (time_2:Int):Option Int:=
 if ((len chain_1)==0)=true then
  some p_0.Limit
 else
 chk (0≤(w64 ((len chain_1)-1)))<|
 chk ((w64 ((len chain_1)-1))<(len chain_1))<|
 getE (chain_1[Int.toNat (w64 ((len chain_1)-1))]?) Zcs fun x1=>
 loopN (Zaz.p1 N time_2 chain_1 p_0 x1) N (0,p_0.Limit,0)
noncomputable def Zaz.p4.S (time_2:Int) (chain_1:LL) (first_7 hard_8 v4:Int) (p_0:Zag) (x1:Zaa) (st:LL):S:=mkS 73 [(2,sI time_2),(3,sA 3),(7,sI (len chain_1)),(8,sA 8),(9,sI first_7),(10,sI hard_8),(27,sV 68 chain_1),(28,sI (len chain_1)),(29,sI v4)] [(3,.cells p_0.ls),(8,.cells x1.ls)] st
noncomputable def Zaz.p3.S (time_2:Int) (chain_1:LL) (first_7 hard_3:Int) (begins_6:Bool) (v4:Int) (p_0:Zag) (x1 x5:Zaa) (st:LL):S:=mkS 73 [(2,sI time_2),(3,sA 3),(7,sI (len chain_1)),(8,sA 8),(9,sI first_7),(10,sI hard_3),(12,sA 12),(13,.one (.l (L.bool begins_6))),(27,sV 68 chain_1),(28,sI (len chain_1)),(29,sI v4)] [(3,.cells p_0.ls),(8,.cells x1.ls),(12,.cells x5.ls)] st
noncomputable def Zaz.p2.S (time_2:Int) (chain_1:LL) (first_2 hard_3:Int) (begins_6:Bool) (v4:Int) (p_0:Zag) (x1 x5:Zaa) (st:LL):S:=mkS 73 [(2,sI time_2),(3,sA 3),(7,sI (len chain_1)),(8,sA 8),(9,sI first_2),(10,sI hard_3),(12,sA 12),(13,.one (.l (L.bool begins_6))),(27,sV 68 chain_1),(28,sI (len chain_1)),(29,sI v4)] [(3,.cells p_0.ls),(8,.cells x1.ls),(12,.cells x5.ls)] st
noncomputable def Zaz.p1.S (time_2:Int) (chain_1:LL) (first_2 hard_3 v4:Int) (p_0:Zag) (x1:Zaa) (st:LL):S:=mkS 73 [(2,sI time_2),(3,sA 3),(7,sI (len chain_1)),(8,sA 8),(9,sI first_2),(10,sI hard_3),(27,sV 68 chain_1),(28,sI (len chain_1)),(29,sI v4)] [(3,.cells p_0.ls),(8,.cells x1.ls)] st
theorem Zaz.p4_ok {time_2 chain_1 first_7 hard_8 v4 p_0 x1 st r c1_ J1} (h:Zaz.p4 N c1_ time_2 chain_1 first_7 hard_8 v4 p_0 x1=some r) (hE:En Tryz.f111 g0 w0 (Zaz.rs r) st R) (hc1 : ∀first_2 hard_3 v4,c1_ (first_2,hard_3,v4)=some r→At g0 w0 (Zaz.p1.S time_2 chain_1 first_2 hard_3 v4 p_0 x1 st) J1):At g0 w0 (Zaz.p4.S time_2 chain_1 first_7 hard_8 v4 p_0 x1 st) (XK Tryz.prog R [.c (csub Zaz.B [1,1,1,1,1,1,0,1,0,0,1,1,1]),.h J1,.b 0,.c (csub Zaz.B [1,1,1,1,1,1,1])]):=by
 unfold Zaz.p4 at h
 exact an fol [.r []] [2,3,7,8,9,10,27,28,29] [3,8] trivial (hc1 first_7 hard_8 (w64 (v4+1)) h)
theorem Zaz.p3_ok {time_2 chain_1 first_7 hard_3 begins_6 v4 p_0 x1 x5 st r c1_ J1} (h:Zaz.p3 N c1_ time_2 chain_1 first_7 hard_3 begins_6 v4 p_0 x1 x5=some r) (hE:En Tryz.f111 g0 w0 (Zaz.rs r) st R) (hc1 : ∀first_2 hard_3 v4,c1_ (first_2,hard_3,v4)=some r→At g0 w0 (Zaz.p1.S time_2 chain_1 first_2 hard_3 v4 p_0 x1 st) J1):At g0 w0 (Zaz.p3.S time_2 chain_1 first_7 hard_3 begins_6 v4 p_0 x1 x5 st) (XK Tryz.prog R [.c (csub Zaz.B [1,1,1,1,1,1,0,1,0,0,1,1,0,0,1,1,1]),.b 1,.c (csub Zaz.B [1,1,1,1,1,1,0,1,0,0,1,1,1]),.h J1,.b 0,.c (csub Zaz.B [1,1,1,1,1,1,1])]):=by
 unfold Zaz.p3 at h
 refine iteB h (fun c11 h1=>?_) (fun c11 h2=>?_)
 ·exact aq fol [.r [(4,wF),(5,wF),(6,wF),(7,wF),(8,wF),(11,wF)],.c true,.r [],.s 4] [2,3,7,8,9,10,27,28,29] [3,8] (aO (not_false (Zbd c11)) (not_false (Zbd c11)) (not_false (Zbd c11)) (not_false (Zbd c11)) (not_false (Zbd c11)) (not_false (Zbd c11)) eT (aI eT eT)) (Zaz.p4_ok h1 hE hc1)
 ·have t1 {Q:Prop} (q:Q):=aN (not_true (ZaZ c11)) (not_true (ZaZ c11)) (not_true (ZaZ c11)) (not_true (ZaZ c11)) (not_true (ZaZ c11)) (not_true (ZaZ c11)) q
  refine iteB h2 (fun c12 h3=>?_) (fun c12 h4=>?_)
  ·exact aq fol [.r [(9,yF),(11,wF)],.c true,.r [],.s 4] [2,3,7,8,9,10,27,28,29] [3,8] (t1 (aJ c12 c12 eT)) (Zaz.p4_ok h3 hE hc1)
  ·let o1:List PS:=[.r [(9,yF),(12,yF)]]
   refine iteB h4 (fun c13 h5=>?_) (fun c13 h6=>?_)
   ·exact aq fol (o1 ++ [.c true,.r [],.s 4]) [2,3,7,8,9,10,27,28,29] [3,8] (t1 (aJ c12 c12 c13)) (Zaz.p4_ok h5 hE hc1)
   ·exact aq fol (o1 ++ [.c false,.s 4]) [2,3,7,8,9,10,27,28,29] [3,8] (t1 (aJ c12 c12 c13)) (Zaz.p4_ok h6 hE hc1)
theorem Zaz.p2_ok {time_2 chain_1 first_2 hard_3 begins_6 v4 p_0 x1 x5 st r c1_ J1} (h:Zaz.p2 N c1_ time_2 chain_1 first_2 hard_3 begins_6 v4 p_0 x1 x5=some r) (hE:En Tryz.f111 g0 w0 (Zaz.rs r) st R) (hc1 : ∀first_2 hard_3 v4,c1_ (first_2,hard_3,v4)=some r→At g0 w0 (Zaz.p1.S time_2 chain_1 first_2 hard_3 v4 p_0 x1 st) J1):At g0 w0 (Zaz.p2.S time_2 chain_1 first_2 hard_3 begins_6 v4 p_0 x1 x5 st) (XK Tryz.prog R [.c (csub Zaz.B [1,1,1,1,1,1,0,1,0,0,1,1,0,0,1,1]),.b 1,.c (csub Zaz.B [1,1,1,1,1,1,0,1,0,0,1,1,1]),.h J1,.b 0,.c (csub Zaz.B [1,1,1,1,1,1,1])]):=by
 unfold Zaz.p2 at h
 refine iteB h (fun c10 h7=>?_) (fun c10 h8=>?_)
 ·exact aq fol [.r [],.c true,.r [],.s 6] [2,3,7,8,9,10,12,13,27,28,29] [3,8,12] c10 (Zaz.p3_ok h7 hE hc1)
 ·exact aq fol [.r [],.c false,.s 6] [2,3,7,8,9,10,12,13,27,28,29] [3,8,12] c10 (Zaz.p3_ok h8 hE hc1)
theorem Zaz.p1_ok {time_2 chain_1 first_2 hard_3 v4 p_0 x1 st r c1_ J1} (h:Zaz.p1 N time_2 chain_1 p_0 x1 c1_ (first_2,hard_3,v4)=some r) (hE:En Tryz.f111 g0 w0 (Zaz.rs r) st R) (hc1 : ∀first_2 hard_3 v4,c1_ (first_2,hard_3,v4)=some r→At g0 w0 (Zaz.p1.S time_2 chain_1 first_2 hard_3 v4 p_0 x1 st) J1):At g0 w0 (Zaz.p1.S time_2 chain_1 first_2 hard_3 v4 p_0 x1 st) (XK Tryz.prog R (.c (csub Zaz.B [1,1,1,1,1,1,0,1,0,0]) :: .h J1 :: [.b 0,.c (csub Zaz.B [1,1,1,1,1,1,1])])):=by
 unfold Zaz.p1 at h
 refine iteB h (fun c5 h9=>?_) (fun c5 h10=>?_)
 ·obtain ⟨c6,h11⟩:=ZaN h9
  obtain ⟨x5,c7,h12⟩:=Zco h11
  let o2:List PS:=[.r [],.c true,.r [(2,{oe:=x5.ls})]]
  refine iteB h12 (fun c8 h13=>?_) (fun c8 h14=>?_)
  ·obtain ⟨c9,h15⟩:=ZaN h13
   exact aq fol (o2 ++ [.r [],.s 6]) [2,3,7,8,9,10,12,13,27,28,29] [3,8,12] (aO c5 c6 (oD c5) c7 c8 c8 c8 (aK c8 c9 c8 c8)) (Zaz.p2_ok h15 hE hc1)
  ·exact aq fol (o2 ++ [.r [(4,wF),(5,wF),(6,wF),(7,wF),(8,wF),(9,yF)],.s 6]) [2,3,7,8,9,10,12,13,27,28,29] [3,8,12] (aO c5 c6 (oD c5) c7 c8 c8 c8 (aJ c8 c8 c8)) (Zaz.p2_ok h14 hE hc1)
 ·obtain ⟨x9,c14,h16⟩:=Zad h10
  obtain rfl:=Zac h16
  exact af fol hE [.r [],.c false,.r [(9,q1 [oI x9])]] [] 0 [] (aI c5 (ZbO.snd c14))
theorem Zaz.snd {p_0:Zag} {chain_1:LL} {time_2:Int} {r:Int} (h:Zaz N p_0 chain_1 time_2=some r):SndQ Tryz.prog 111 [.agg p_0.ls,.one (L.sl 68 chain_1),oI time_2] (Zaz.rs r):=fun st=>
 sO Zaz.B Tryz.func111 fun g0 w0 R hE=>by
  unfold Zaz at h
  refine iteB h (fun c1 h17=>?_) (fun c1 h18=>?_)
  ·obtain rfl:=Zac h17
   exact af fol hE [.r [],.r [],.r [],.c true,.r []] [] 0 [] c1
  ·obtain ⟨c2,c3,h19⟩:=ck2 h18
   obtain ⟨x1,c4,h20⟩:=Zco h19
   exact aq fol [.r [],.r [],.r [],.c false,.r [(4,{oe:=x1.ls})],.r [],.r [],.r []] [2,3,7,8,9,10,27,28,29] [3,8] (aK c1 c2 c3 c4) (At.loop N (At.loopN (fun y:Int×Int×Int=>Zaz.p1.S time_2 chain_1 y.1 y.2.1 y.2.2 p_0 x1 st) (fun c J hc y h=>Zaz.p1_ok (first_2:=y.1) (hard_3:=y.2.1) (v4:=y.2.2) h hE (fun first_2 hard_3 v4=>hc (first_2,hard_3,v4))) N (0,p_0.Limit,0) h20))
noncomputable def Zbr.B:Code:=Tryz.f173.body.getD .skip
noncomputable def Zbr.rs (r:(List Int)):List CV:=[.agg [L.arr .u64 4 r]]
noncomputable def Zbr.p1 (N:Nat) (h_0_0:List Int) (c1_:(Int×(List Int))→Option (List Int)):(Int×(List Int))→Option (List Int):=fun (i_1,out_3)=>
 if (decide (i_1≥0))=true then
  optE (Zam N out_3 8) fun x4=>
  chk (0≤i_1)<|
  chk (i_1<32)<|
  c1_ (w64 (i_1-1),List.set x4 0 (v64 ((List.getD x4 0 0)+(v64 (List.getD h_0_0 (Int.toNat i_1) 0)))))
 else
 some out_3
noncomputable def Zbr (N:Nat) (h_0_0:List Int):Option (List Int):=
 loopN (Zbr.p1 N h_0_0) N (31,List.replicate 4 0)
noncomputable def Zbr.p1.S (i_1:Int) (h_0_0 out_3:List Int) (st:LL):S:=mkS 21 [(1,sA 1),(2,sA 2),(3,sA 3),(4,sI i_1)] [(1,.cells [L.arr .u8 32 h_0_0]),(2,.cells [L.arr .u64 4 (List.replicate 4 0)]),(3,.cells [L.arr .u64 4 out_3])] st
theorem Zbr.p1_ok {i_1 h_0_0 out_3 st r c1_ J1} (h:Zbr.p1 N h_0_0 c1_ (i_1,out_3)=some r) (hE:En Tryz.f173 g0 w0 (Zbr.rs r) st R) (hc1 : ∀i_1 out_3,c1_ (i_1,out_3)=some r→At g0 w0 (Zbr.p1.S i_1 h_0_0 out_3 st) J1):At g0 w0 (Zbr.p1.S i_1 h_0_0 out_3 st) (XK Tryz.prog R (.c (csub Zbr.B [1,1,0,1,0,0]) :: .h J1 :: [.b 0,.c (csub Zbr.B [1,1,1])])):=by
 unfold Zbr.p1 at h
 refine iteB h (fun c5 h1=>?_) (fun c5 h2=>?_)
 ·obtain ⟨x4,c6,h3⟩:=Zad h1
  obtain ⟨c7,c8,h4⟩:=ck2 h3
  exact and_ fol [.r [],.c true,.r [(1,q1 [.agg [L.arr .u64 4 x4]])],.d {ds:=[],hv:=256,Hs:=[256]},.r []] [1,2,3,4] [1,2,3] (aJ c5 (Zam.snd c6) (ix 0 4 (aK c7 c8 (leI 0 0) (ltI 0 4)))) (hc1 (w64 (i_1-1)) (List.set x4 0 (v64 ((List.getD x4 0 0)+(v64 (List.getD h_0_0 (Int.toNat i_1) 0))))) h4)
 ·obtain rfl:=Zac h2
  exact af fol hE [.r [],.c false,.r []] [] 0 [] c5
theorem Zbr.snd {h_0_0:List Int} {r:(List Int)} (h:Zbr N h_0_0=some r):SndQ Tryz.prog 173 [.agg [L.arr .u8 32 h_0_0]] (Zbr.rs r):=fun st=>
 sO Zbr.B Tryz.func173 fun g0 w0 R hE=>by
  unfold Zbr at h
  exact aq fol [.r [],.r [],.r []] [1,2,3,4] [1,2,3] trivial (At.loop N (At.loopN (fun y:Int×(List Int)=>Zbr.p1.S y.1 h_0_0 y.2 st) (fun c J hc y h=>Zbr.p1_ok (i_1:=y.1) (out_3:=y.2) h hE (fun i_1 out_3=>hc (i_1,out_3))) N (31,List.replicate 4 0) h))
noncomputable def ZcV.B:Code:=Tryz.f112.body.getD .skip
noncomputable def ZcV.rs (r:Bool):List CV:=[oB r]
noncomputable def ZcV (N:Nat) (p_0:Zag) (h_1:Zaa):Option Bool:=
 optE (Zca N h_1.Bits p_0.Limit) fun (x1,x2)=>
 if x2=true then
  optE (Zdi N h_1) fun x3=>
  optE (Zbr N x3) fun x4=>
  optE (Zbf N x1 x4) fun x5=>
  some (!x5)
 else
 some false
theorem ZcV.snd {p_0:Zag} {h_1:Zaa} {r:Bool} (h:ZcV N p_0 h_1=some r):SndQ Tryz.prog 112 [.agg p_0.ls,.agg h_1.ls] (ZcV.rs r):=fun st=>
 sO ZcV.B Tryz.func112 fun g0 w0 R hE=>by
  unfold ZcV at h
  obtain ⟨⟨x1,x2⟩,c1,h1⟩:=Zad h
  let o1:List PS:=[.r [],.r [(4,q1 [.agg [L.arr .u64 4 x1],oB x2])]]
  refine iteB h1 (fun c2 h2=>?_) (fun c2 h3=>?_)
  ·obtain ⟨x3,c3,h4⟩:=Zad h2
   obtain ⟨x4,c4,h5⟩:=Zad h4
   obtain ⟨x5,c5,h6⟩:=Zad h5
   obtain rfl:=Zac h6
   exact afd fol hE (o1 ++ [.d {ds:=[(4,q1 [.agg [L.arr .u8 32 x3]]),(5,q1 [.agg [L.arr .u64 4 x4]]),(6,q1 [oB x5])],hv:=0,Hs:=[]}]) [] 0 [] (aO (Zca.snd c1) c2 c2 c2 (Zdi.snd c3) c2 (Zbr.snd c4) (aK c2 (Zbf.snd c5) c2 c2))
  ·obtain rfl:=Zac h3
   exact afd fol hE (o1 ++ [.d {ds:=[(2,wF),(3,wF),(4,wF),(5,wF),(6,wF),(7,wF),(8,yF)],hv:=0,Hs:=[]}]) [] 0 [] (aO (Zca.snd c1) c2 c2 c2 c2 c2 c2 c2)
noncomputable def ZbP.B:Code:=Tryz.f113.body.getD .skip
noncomputable def ZbP.rs (r:LL):List CV:=[.row true 1 r]
noncomputable def ZbP.p1 (N:Nat) (row_0:LL) (c1_:(LL×Int)→Option LL):(LL×Int)→Option LL:=fun (out_3,i_1)=>
 if (decide (i_1≥0))=true then
  if (decide ((len out_3)<11))=true then
   chk (0≤i_1)<|
   chk (i_1<(len row_0))<|
   getE (row_0[Int.toNat i_1]?) Zej fun x4=>
   chk (List.length (out_3 ++ [[L.int .i64 x4]])*8≤140737488355328)<|
   c1_ (out_3 ++ [[L.int .i64 x4]],w64 (i_1-1))
  else
  some out_3
 else
 some out_3
noncomputable def ZbP (N:Nat) (row_0:LL):Option LL:=
 loopN (ZbP.p1 N row_0) N ([],w64 ((len row_0)-1))
noncomputable def ZbP.p1.S (row_0 out_3:LL) (i_1:Int) (st:LL):S:=mkS 25 [(0,sV 1 row_0),(3,.one (.h (.row 3 0) 1 0 (List.length out_3))),(4,sI i_1)] [(3,.row 0 true 1 out_3)] st
theorem ZbP.p1_ok {row_0 out_3 i_1 st r c1_ J1} (h:ZbP.p1 N row_0 c1_ (out_3,i_1)=some r) (hE:En Tryz.f113 g0 w0 (ZbP.rs r) st R) (hc1 : ∀out_3 i_1,c1_ (out_3,i_1)=some r→At g0 w0 (ZbP.p1.S row_0 out_3 i_1 st) J1):At g0 w0 (ZbP.p1.S row_0 out_3 i_1 st) (XK Tryz.prog R (.c (csub ZbP.B [1,1,0,1,0,0]) :: .h J1 :: [.b 0,.c (csub ZbP.B [1,1,1])])):=by
 unfold ZbP.p1 at h
 refine iteB h (fun c6 h1=>?_) (fun c6 h2=>?_)
 ·refine iteB h1 (fun c7 h3=>?_) (fun c7 h4=>?_)
  ·obtain ⟨c8,c9,h5⟩:=ck2 h3
   obtain ⟨x4,c10,h6⟩:=Zdh h5
   obtain ⟨c11,h7⟩:=ZaN h6
   exact an fol [.r [],.c true,.r [(4,{oe:=[L.int .i64 x4]})],.r []] [0,3,4] [3] (aO c6 c6 c6 c6 c7 c8 c9 (aM c10 z0 (eN (List.length out_3)) z0 (eN (1)) c11)) (hc1 (out_3 ++ [[L.int .i64 x4]]) (w64 (i_1-1)) h7)
  ·obtain rfl:=Zac h4
   exact af fol hE [.r [],.c false,.r []] [] 0 [0] (aN c6 c6 c6 c6 c7 z0 (eN (List.length out_3)))
 ·obtain rfl:=Zac h2
  exact af fol hE [.r [(3,wF),(4,wF),(5,wF),(6,yF)],.c false,.r []] [] 0 [0] (aN c6 c6 c6 c6 eF z0 (eN (List.length out_3)))
theorem ZbP.snd {row_0:LL} {r:LL} (h:ZbP N row_0=some r):SndQ Tryz.prog 113 [.one (L.sl 1 row_0)] (ZbP.rs r):=fun st=>
 sO ZbP.B Tryz.func113 fun g0 w0 R hE=>by
  unfold ZbP at h
  exact aq fol [.r [(0,{m:=2})],.r [(0,{m:=1})],.r []] [0,3,4] [3] trivial (At.loop N (At.loopN (fun y:LL×Int=>ZbP.p1.S row_0 y.1 y.2 st) (fun c J hc y h=>ZbP.p1_ok (out_3:=y.1) (i_1:=y.2) h hE (fun out_3 i_1=>hc (out_3,i_1))) N ([],w64 ((len row_0)-1)) h))
noncomputable def Zaq.B:Code:=Tryz.f61.body.getD .skip
noncomputable def Zaq.rs (r:Int):List CV:=[oI r]
noncomputable def Zaq.p6 (N:Nat) (chain_1:LL) (p_0:Zag) (h_2:Zaa) (c6_:Int→Option Int):Int→Option Int:=fun v21=>
 if (decide (v21<(len p_0.Checks)))=true then
  chk (0≤v21)<|
  getE (p_0.Checks[Int.toNat v21]?) Zdp fun x22=>
  if (x22.Height==(len chain_1))=true then
   optE (Zdi N h_2) fun x23=>
   if (!(x22.Id==x23))=true then
    some 8
   else
   c6_ (w64 (v21+1))
  else
  c6_ (w64 (v21+1))
 else
 some 0
noncomputable def Zaq.p5 (N:Nat) (chain_1:LL) (p_0:Zag) (h_2:Zaa) (c5_:Int→Option Int):Int→Option Int:=fun v19=>
 if (decide (v19<(len p_0.Gates)))=true then
  chk (0≤v19)<|
  getE (p_0.Gates[Int.toNat v19]?) ZdA fun x20=>
  if (decide (x20.Height≤(len chain_1)))=true then
   if (decide (h_2.Version<x20.Version))=true then
    some 7
   else
   c5_ (w64 (v19+1))
  else
  c5_ (w64 (v19+1))
 else
 loopN (Zaq.p6 N chain_1 p_0 h_2) N 0
noncomputable def Zaq.p4 (N:Nat) (chain_1:LL) (p_0:Zag) (h_2:Zaa):Option Int:=
 loopN (Zaq.p5 N chain_1 p_0 h_2) N 0
noncomputable def Zaq.p3 (N:Nat) (now_3:Int) (chain_1:LL) (p_0:Zag) (h_2:Zaa):Option Int:=
 if (decide (p_0.Future<0))=true then
  some 6
 else
 if (decide (h_2.Time>now_3))=true then
  if (decide ((w64 (h_2.Time-now_3))>p_0.Future))=true then
   some 6
  else
  Zaq.p4 N chain_1 p_0 h_2
 else
 Zaq.p4 N chain_1 p_0 h_2
noncomputable def Zaq.p2 (N:Nat) (now_3:Int) (chain_1:LL) (p_0:Zag) (h_2:Zaa) (c2_:(LL×Int)→Option Int):(LL×Int)→Option Int:=fun (times_15,v6)=>
 if (decide (v6<(len chain_1)))=true then
  chk (0≤v6)<|
  getE (chain_1[Int.toNat v6]?) Zcs fun x16=>
  chk (List.length (times_15 ++ [[L.int .i64 x16.Time]])*8≤140737488355328)<|
  c2_ (times_15 ++ [[L.int .i64 x16.Time]],w64 (v6+1))
 else
 if (decide ((len chain_1)>0))=true then
  optE (ZbP N times_15) fun x17=>
  chk (plainRow x17=true)<|
  optE (ZaB N x17) fun x18=>
  if (decide (h_2.Time≤x18))=true then
   some 5
  else
  Zaq.p3 N now_3 chain_1 p_0 h_2
 else
 Zaq.p3 N now_3 chain_1 p_0 h_2
noncomputable def Zaq.p1 (N:Nat) (chain_1:LL) (now_3:Int) (p_0:Zag) (h_2:Zaa):Option Int:=
 optE (Zaz N p_0 chain_1 h_2.Time) fun x4=>
 if (h_2.Bits != x4)=true then
  some 3
 else
 optE (ZcV N p_0 h_2) fun x5=>
 if (!x5)=true then
  some 4
 else
 loopN (Zaq.p2 N now_3 chain_1 p_0 h_2) N ([],0)
noncomputable def Zaq (N:Nat) (p_0:Zag) (chain_1:LL) (h_2:Zaa) (now_3:Int):Option Int:=
 optE (Zcn N h_2) fun x1=>
 if (!x1)=true then
  some 1
 else
 if (decide ((len chain_1)>0))=true then
  chk (0≤(w64 ((len chain_1)-1)))<|
  chk ((w64 ((len chain_1)-1))<(len chain_1))<|
  getE (chain_1[Int.toNat (w64 ((len chain_1)-1))]?) Zcs fun x2=>
  optE (Zdi N x2) fun x3=>
  if (!(h_2.Prev==x3))=true then
   some 2
  else
  Zaq.p1 N chain_1 now_3 p_0 h_2
 else
 Zaq.p1 N chain_1 now_3 p_0 h_2
noncomputable def Zaq.p6.S (chain_1:LL) (p_0:Zag) (v21:Int) (h_2:Zaa) (st:LL):S:=mkS 125 [(6,sA 6),(9,sI (len chain_1)),(107,sV 33 p_0.Checks),(108,sI (len p_0.Checks)),(109,sI v21)] [(6,.cells h_2.ls)] st
noncomputable def Zaq.p5.S (chain_1:LL) (p_0:Zag) (v19:Int) (h_2:Zaa) (st:LL):S:=mkS 125 [(4,sA 4),(6,sA 6),(9,sI (len chain_1)),(88,sV 2 p_0.Gates),(89,sI (len p_0.Gates)),(90,sI v19)] [(4,.cells p_0.ls),(6,.cells h_2.ls)] st
noncomputable def Zaq.p4.S (chain_1:LL) (p_0:Zag) (h_2:Zaa) (st:LL):S:=mkS 125 [(4,sA 4),(6,sA 6),(9,sI (len chain_1))] [(4,.cells p_0.ls),(6,.cells h_2.ls)] st
noncomputable def Zaq.p3.S (now_3:Int) (chain_1:LL) (p_0:Zag) (h_2:Zaa) (st:LL):S:=mkS 125 [(3,sI now_3),(4,sA 4),(6,sA 6),(9,sI (len chain_1))] [(4,.cells p_0.ls),(6,.cells h_2.ls)] st
noncomputable def Zaq.p2.S (now_3:Int) (chain_1 times_15:LL) (v6:Int) (p_0:Zag) (h_2:Zaa) (st:LL):S:=mkS 125 [(3,sI now_3),(4,sA 4),(6,sA 6),(9,sI (len chain_1)),(10,.one (.h (.row 10 0) 1 0 (List.length times_15))),(47,sV 68 chain_1),(48,sI (len chain_1)),(49,sI v6)] [(4,.cells p_0.ls),(6,.cells h_2.ls),(10,.row 0 true 1 times_15)] st
noncomputable def Zaq.p1.S (chain_1:LL) (now_3:Int) (p_0:Zag) (h_2:Zaa) (st:LL):S:=mkS 125 [(1,sV 68 chain_1),(3,sI now_3),(4,sA 4),(6,sA 6),(9,sI (len chain_1))] [(4,.cells p_0.ls),(6,.cells h_2.ls)] st
theorem Zaq.p6_ok {chain_1 p_0 v21 h_2 st r c6_ J6} (h:Zaq.p6 N chain_1 p_0 h_2 c6_ v21=some r) (hE:En Tryz.f61 g0 w0 (Zaq.rs r) st R) (hc6 : ∀v21,c6_ v21=some r→At g0 w0 (Zaq.p6.S chain_1 p_0 v21 h_2 st) J6):At g0 w0 (Zaq.p6.S chain_1 p_0 v21 h_2 st) (XK Tryz.prog R (.c (csub Zaq.B [1,1,1,1,1,1,1,1,1,1,1,0,1,0,0]) :: .h J6 :: [.b 4,.c (csub Zaq.B [1,1,1,1,1,1,1,1,1,1,1,1])])):=by
 unfold Zaq.p6 at h
 refine iteB h (fun c53 h1=>?_) (fun c53 h2=>?_)
 ·obtain ⟨c54,h3⟩:=ZaN h1
  obtain ⟨x22,c55,h4⟩:=Zdx h3
  let o1:List PS:=[.r [],.c true,.r [(1,{oe:=x22.ls})]]
  have t1 {Q:Prop} (q:Q):=aL c53 c54 (oD c53) c55 q
  refine iteB h4 (fun c56 h5=>?_) (fun c56 h6=>?_)
  ·obtain ⟨x23,c57,h7⟩:=Zad h5
   let o2:List PS:=o1 ++ [.d {ds:=[(8,q1 [.agg [L.arr .u8 32 x23]])],hv:=0,Hs:=[]}]
   have t2 {Q:Prop} (q:Q):=t1 (aO c56 c56 c56 c56 (Zdi.snd c57) c56 c56 q)
   refine iteB h7 (fun c58 h8=>?_) (fun c58 h9=>?_)
   ·obtain rfl:=Zac h8
    exact afd fol hE (o2 ++ [.c true,.r []]) [] 0 [] (t2 c58)
   ·exact and_ fol (o2 ++ [.c false,.r []]) [6,9,107,108,109] [6] (t2 c58) (hc6 (w64 (v21+1)) h9)
  ·exact and_ fol (o1 ++ [.d {ds:=[(5,wF),(6,wF),(7,wF),(8,wF),(9,wF),(10,yF)],hv:=0,Hs:=[]},.c false,.r []]) [6,9,107,108,109] [6] (t1 (aN c56 c56 c56 c56 c56 c56 eF)) (hc6 (w64 (v21+1)) h6)
 ·obtain rfl:=Zac h2
  exact af fol hE [.r [],.c false,.r []] [] 0 [] c53
theorem Zaq.p5_ok {chain_1 p_0 v19 h_2 st r c5_ J5} (h:Zaq.p5 N chain_1 p_0 h_2 c5_ v19=some r) (hE:En Tryz.f61 g0 w0 (Zaq.rs r) st R) (hc5 : ∀v19,c5_ v19=some r→At g0 w0 (Zaq.p5.S chain_1 p_0 v19 h_2 st) J5):At g0 w0 (Zaq.p5.S chain_1 p_0 v19 h_2 st) (XK Tryz.prog R (.c (csub Zaq.B [1,1,1,1,1,1,1,1,1,1,0,1,0,0]) :: .h J5 :: [.b 2,.c (csub Zaq.B [1,1,1,1,1,1,1,1,1,1,1])])):=by
 unfold Zaq.p5 at h
 refine iteB h (fun c48 h10=>?_) (fun c48 h11=>?_)
 ·obtain ⟨c49,h12⟩:=ZaN h10
  obtain ⟨x20,c50,h13⟩:=ZdF h12
  let o3:List PS:=[.r [],.c true,.r [(1,{oe:=x20.ls})]]
  have t3 {Q:Prop} (q:Q):=aL c48 c49 (oD c48) c50 q
  refine iteB h13 (fun c51 h14=>?_) (fun c51 h15=>?_)
  ·refine iteB h14 (fun c52 h16=>?_) (fun c52 h17=>?_)
   ·obtain rfl:=Zac h16
    exact af fol hE (o3 ++ [.r [],.c true,.r []]) [] 0 [] (t3 (aN c51 c51 c51 c51 c51 c51 c52))
   ·exact an fol (o3 ++ [.r [],.c false,.r []]) [4,6,9,88,89,90] [4,6] (t3 (aN c51 c51 c51 c51 c51 c51 c52)) (hc5 (w64 (v19+1)) h17)
  ·exact an fol (o3 ++ [.r [(5,wF),(6,wF),(7,wF),(8,wF),(9,wF),(10,yF)],.c false,.r []]) [4,6,9,88,89,90] [4,6] (t3 (aN c51 c51 c51 c51 c51 c51 eF)) (hc5 (w64 (v19+1)) h15)
 ·exact aq fol [.r [],.c false,.r []] [6,9,107,108,109] [6] c48 (At.loop N (At.loopN (fun y:Int=>Zaq.p6.S chain_1 p_0 y h_2 st) (fun c J hc y h=>Zaq.p6_ok h hE (fun v21=>hc v21)) N 0 h11))
theorem Zaq.p4_ok {chain_1 p_0 h_2 st r} (h:Zaq.p4 N chain_1 p_0 h_2=some r) (hE:En Tryz.f61 g0 w0 (Zaq.rs r) st R):At g0 w0 (Zaq.p4.S chain_1 p_0 h_2 st) (XK Tryz.prog R [.c (csub Zaq.B [1,1,1,1,1,1,1,1,1,1])]):=by
 unfold Zaq.p4 at h
 exact aq fol [.r []] [4,6,9,88,89,90] [4,6] trivial (At.loop N (At.loopN (fun y:Int=>Zaq.p5.S chain_1 p_0 y h_2 st) (fun c J hc y h=>Zaq.p5_ok h hE (fun v19=>hc v19)) N 0 h))
theorem Zaq.p3_ok {now_3 chain_1 p_0 h_2 st r} (h:Zaq.p3 N now_3 chain_1 p_0 h_2=some r) (hE:En Tryz.f61 g0 w0 (Zaq.rs r) st R):At g0 w0 (Zaq.p3.S now_3 chain_1 p_0 h_2 st) (XK Tryz.prog R [.c (csub Zaq.B [1,1,1,1,1,1,1,1,1])]):=by
 unfold Zaq.p3 at h
 refine iteB h (fun c45 h18=>?_) (fun c45 h19=>?_)
 ·obtain rfl:=Zac h18
  exact af fol hE [.r [(4,wF),(5,wF),(6,wF),(7,wF),(8,wF),(16,wF)],.c true,.r []] [] 0 [] (aO c45 c45 c45 c45 c45 c45 c45 eT)
 ·have t4 {Q:Prop} (q:Q):=aM c45 c45 c45 c45 c45 q
  refine iteB h19 (fun c46 h20=>?_) (fun c46 h21=>?_)
  ·have t5 {Q:Prop} (q:Q):=t4 (aO c46 c46 c46 c46 c46 c46 c46 (aK c45 c46 c45 q))
   refine iteB h20 (fun c47 h22=>?_) (fun c47 h23=>?_)
   ·obtain rfl:=Zac h22
    exact af fol hE [.r [(17,yF)],.c true,.r []] [] 0 [] (t5 c47)
   ·exact aq fol [.r [(17,yF)],.c false,.s 1] [4,6,9] [4,6] (t5 c47) (Zaq.p4_ok h23 hE)
  ·exact aq fol [.r [(9,wF),(10,wF),(11,wF),(12,wF),(13,wF),(14,wF),(15,wF),(16,yF),(17,yF)],.c false,.s 1] [4,6,9] [4,6] (t4 (aO c46 c46 c46 c46 c46 c46 c46 (aK c45 c46 c45 eF))) (Zaq.p4_ok h21 hE)
theorem Zaq.p2_ok {now_3 chain_1 times_15 v6 p_0 h_2 st r c2_ J2} (h:Zaq.p2 N now_3 chain_1 p_0 h_2 c2_ (times_15,v6)=some r) (hE:En Tryz.f61 g0 w0 (Zaq.rs r) st R) (hc2 : ∀times_15 v6,c2_ (times_15,v6)=some r→At g0 w0 (Zaq.p2.S now_3 chain_1 times_15 v6 p_0 h_2 st) J2):At g0 w0 (Zaq.p2.S now_3 chain_1 times_15 v6 p_0 h_2 st) (XK Tryz.prog R (.c (csub Zaq.B [1,1,1,1,1,1,1,0,1,0,0]) :: .h J2 :: [.b 0,.c (csub Zaq.B [1,1,1,1,1,1,1,1])])):=by
 unfold Zaq.p2 at h
 refine iteB h (fun c36 h24=>?_) (fun c36 h25=>?_)
 ·obtain ⟨c37,h26⟩:=ZaN h24
  obtain ⟨x16,c38,h27⟩:=Zco h26
  obtain ⟨c39,h28⟩:=ZaN h27
  exact an fol [.r [],.c true,.r [(1,{oe:=x16.ls})],.r [],.r []] [3,4,6,9,10,47,48,49] [4,6,10] (aO c36 c37 (oD c36) c38 z0 (eN (List.length times_15)) z0 (aI (eN (1)) c39)) (hc2 (times_15 ++ [[L.int .i64 x16.Time]]) (w64 (v6+1)) h28)
 ·refine iteB h25 (fun c40 h29=>?_) (fun c40 h30=>?_)
  ·obtain ⟨x17,c41,h31⟩:=Zad h29
   obtain ⟨c42,h32⟩:=ZaN h31
   obtain ⟨x18,c43,h33⟩:=Zad h32
   let o4:List PS:=[.r [],.c false,.d {ds:=[(6,{rs:=[.row true 1 x17],ns:=[65],m:=2}),(7,{rs:=[oI x18],m:=2})],hv:=64,Hs:=[64]}]
   have t6 {Q:Prop} (q:Q):=aO c36 c40 c40 c40 c40 c40 c40 (aO z0 (eN (List.length times_15)) c42 (ZbP.snd c41) c40 z0 (eN (List.length x17)) (aK (ZaB.snd c43) c40 c40 q))
   refine iteB h33 (fun c44 h34=>?_) (fun c44 h35=>?_)
   ·obtain rfl:=Zac h34
    exact afd fol hE (o4 ++ [.c true,.r []]) [] 0 [] (t6 c44)
   ·exact aqd fol (o4 ++ [.c false,.s 1]) [3,4,6,9] [4,6] (t6 c44) (Zaq.p3_ok h35 hE)
  ·exact aqd fol [.r [],.c false,.d {ds:=[(3,wF),(4,wF),(5,wF),(6,wF),(7,wF),(8,wF),(9,yF)],hv:=0,Hs:=[]},.c false,.s 1] [3,4,6,9] [4,6] (aO c36 c40 c40 c40 c40 c40 c40 (aI c40 eF)) (Zaq.p3_ok h30 hE)
theorem Zaq.p1_ok {chain_1 now_3 p_0 h_2 st r} (h:Zaq.p1 N chain_1 now_3 p_0 h_2=some r) (hE:En Tryz.f61 g0 w0 (Zaq.rs r) st R):At g0 w0 (Zaq.p1.S chain_1 now_3 p_0 h_2 st) (XK Tryz.prog R [.c (csub Zaq.B [1,1,1,1])]):=by
 unfold Zaq.p1 at h
 obtain ⟨x4,c9,h36⟩:=Zad h
 let o5:List PS:=[.d {ds:=[(6,q1 [oI x4])],hv:=0,Hs:=[]}]
 have t7 {Q:Prop} (q:Q):=aI (Zaz.snd c9) q
 refine iteB h36 (fun c10 h37=>?_) (fun c10 h38=>?_)
 ·obtain rfl:=Zac h37
  exact afd fol hE (o5 ++ [.c true,.r []]) [] 0 [] (t7 c10)
 ·obtain ⟨x5,c11,h39⟩:=Zad h38
  let o6:List PS:=o5 ++ [.c false,.r [(2,q1 [oB x5])]]
  refine iteB h39 (fun c12 h40=>?_) (fun c12 h41=>?_)
  ·obtain rfl:=Zac h40
   exact afd fol hE (o6 ++ [.c true,.r []]) [] 0 [] (t7 (aJ c10 (ZcV.snd c11) c12))
  ·exact aqd fol (o6 ++ [.c false,.r [(0,{m:=1})],.r []]) [3,4,6,9,10,47,48,49] [4,6,10] (t7 (aJ c10 (ZcV.snd c11) c12)) (At.loop N (At.loopN (fun y:LL×Int=>Zaq.p2.S now_3 chain_1 y.1 y.2 p_0 h_2 st) (fun c J hc y h=>Zaq.p2_ok (times_15:=y.1) (v6:=y.2) h hE (fun times_15 v6=>hc (times_15,v6))) N ([],0) h41))
theorem Zaq.snd {p_0:Zag} {chain_1:LL} {h_2:Zaa} {now_3:Int} {r:Int} (h:Zaq N p_0 chain_1 h_2 now_3=some r):SndQ Tryz.prog 61 [.agg p_0.ls,.one (L.sl 68 chain_1),.agg h_2.ls,oI now_3] (Zaq.rs r):=fun st=>
 sO Zaq.B Tryz.func61 fun g0 w0 R hE=>by
  unfold Zaq at h
  obtain ⟨x1,c1,h42⟩:=Zad h
  let o7:List PS:=[.r [],.r [],.r [(1,q1 [oB x1])]]
  have t8 {Q:Prop} (q:Q):=aI (Zcn.snd c1) q
  refine iteB h42 (fun c2 h43=>?_) (fun c2 h44=>?_)
  ·obtain rfl:=Zac h43
   exact af fol hE (o7 ++ [.c true,.r []]) [] 0 [] (t8 c2)
  ·refine iteB h44 (fun c3 h45=>?_) (fun c3 h46=>?_)
   ·obtain ⟨c4,c5,h47⟩:=ck2 h45
    obtain ⟨x2,c6,h48⟩:=Zco h47
    obtain ⟨x3,c7,h49⟩:=Zad h48
    let o8:List PS:=o7 ++ [.c false,.d {ds:=[(9,{oe:=x2.ls}),(10,q1 [.agg [L.arr .u8 32 x3]])],hv:=0,Hs:=[]}]
    have t9 {Q:Prop} (q:Q):=t8 (aO c2 c3 c3 c3 c3 c3 c3 (aO c4 c5 c3 c6 c3 (Zdi.snd c7) c3 (aI c3 q)))
    refine iteB h49 (fun c8 h50=>?_) (fun c8 h51=>?_)
    ·obtain rfl:=Zac h50
     exact afd fol hE (o8 ++ [.c true,.r []]) [] 0 [] (t9 c8)
    ·exact aqd fol (o8 ++ [.c false,.s 1]) [1,3,4,6,9] [4,6] (t9 c8) (Zaq.p1_ok h51 hE)
   ·exact aqd fol (o7 ++ [.c false,.d {ds:=[(3,wF),(4,wF),(5,wF),(6,wF),(7,wF),(8,wF),(9,wF),(10,wF),(11,wF),(12,yF)],hv:=0,Hs:=[]},.c false,.s 1]) [1,3,4,6,9] [4,6] (t8 (aO c2 c3 c3 c3 c3 c3 c3 (aL c3 c3 c3 c3 eF))) (Zaq.p1_ok h46 hE)
noncomputable def Zaj.B:Code:=Tryz.f9.body.getD .skip
noncomputable def Zaj.rs (r:Bool×LL):List CV:=[oB r.1]
noncomputable def Zaj.p3 (N:Nat) (c1_:(LL×Int×LL)→Option (Bool×LL)) (x4:Option Nat) (i7:Nat) (script_1:LL) (v9:Int) (x64:LL) (c_0:ZaL) (st66:LL) (c3_:(LL×Int)→Option (Bool×LL)):(LL×Int)→Option (Bool×LL):=fun (chain_70,v67)=>
 if (decide (v67<(len x64)))=true then
  chk (0≤v67)<|
  getE (x64[0+(Int.toNat v67)]?) Zcs fun x71=>
  optE (Zaq N c_0.P chain_70 x71 1099511627776) fun x72=>
  if (x72 != 0)=true then
   some (false,st66)
  else
  chk (List.length ([]++chain_70)*96≤140737488355328)<|
  chk (List.length (([]++chain_70) ++ [x71.ls])*96≤140737488355328)<|
  c3_ (([]++chain_70) ++ [x71.ls],w64 (v67+1))
 else
 c1_ (chain_70,w64 (v9+1),st66)
noncomputable def Zaj.p2 (N:Nat) (c1_:(LL×Int×LL)→Option (Bool×LL)) (x4:Option Nat) (i7:Nat) (chain_61 x64 script_1:LL) (v9:Int) (c_0:ZaL) (st66:LL):Option (Bool×LL):=
 loopN (Zaj.p3 N c1_ x4 i7 script_1 v9 x64 c_0 st66) N (chain_61,0)
noncomputable def Zaj.p1 (N:Nat) (x4:Option Nat) (i7:Nat) (script_1:LL) (c_0:ZaL) (c1_:(LL×Int×LL)→Option (Bool×LL)):(LL×Int×LL)→Option (Bool×LL):=fun (chain_61,v9,st62)=>
 if (decide (v9<(len script_1)))=true then
  chk (0≤v9)<|
  getE (script_1[Int.toNat v9]?) Zcx fun x63=>
  optE (ZaJ N x4 x63.Now x63.More x63.List_ st62) fun (x64,x65,st66)=>
  if (x65 != 0)=true then
   if (decide ((len x64)>0))=true then
    some (false,st66)
   else
   Zaj.p2 N c1_ x4 i7 chain_61 x64 script_1 v9 c_0 st66
  else
  Zaj.p2 N c1_ x4 i7 chain_61 x64 script_1 v9 c_0 st66
 else
 getE (st62[i7]?) ZcB fun x73=>
 if (decide ((len chain_61)>(len x73.Base)))=true then
  optE x4 fun i74=>
  getE (st62[i74]?) Zby fun x75 x76 x77 x78 x79 x80 x81 x82 x83 x84 x85 x86 x87 x88 x89 x90 x91 x92 x93 x94 x95 x96 x97 x98 x99 x100 x101 x102 x103 x104 x105 x106 x107 x108 x109 x110=>
  optE x106 fun i111=>
  getE (st62[i111]?) Zbm fun x112=>
  optE (ZbJ N (Zbg.mk (Zag.mk x75 x76 x77 x78 x79 x80 x81 x82 x83 (Zaa.mk x84 x85 x86 x87 x88 x89)) (Zba.mk (Zax.mk (Zbb.mk x90 x91 x92 x93 x94) x95 x96) x97) (Zba.mk (Zax.mk (Zbb.mk x98 x99 x100 x101 x102) x103 x104) x105) x112 x107 x108 x109 x110)) fun x113=>
  some (x113 != 1,st62)
 else
 some (true,st62)
noncomputable def Zaj (N:Nat) (c_0:ZaL) (script_1 st:LL):Option (Bool×LL):=
 optE (ZcJ N st) fun (x1,st2)=>
 if (!x1)=true then
  some (false,st2)
 else
 optE (ZaS N c_0 script_1) fun x3=>
 if x3=true then
  some (true,st2)
 else
 optE (Zbo N c_0 st2) fun (x4,x5,st6)=>
 if (Option.isNone x4)=true then
  some (true,st6)
 else
 optE x5 fun i7=>
 getE (st6[i7]?) ZcB fun x8=>
 loopN (Zaj.p1 N x4 i7 script_1 c_0) N (x8.Base,0,st6)
noncomputable def Zaj.p3.S (x4:Option Nat) (i7:Nat) (chain_70 script_1:LL) (v9:Int) (x64:LL) (v67:Int) (c_0:ZaL) (st66:LL):S:=mkS 85 [(2,sA 2),(5,sP x4),(6,sP (some i7)),(7,sV 68 chain_70),(30,sV 3 script_1),(31,sI (len script_1)),(32,sI v9),(54,.one (.h (.row 44 0) 68 0 (List.length x64))),(55,sI (len x64)),(56,sI v67)] [(2,.cells c_0.ls),(44,.row 0 true 68 x64)] st66
noncomputable def Zaj.p2.S (x4:Option Nat) (i7:Nat) (chain_61 x64 script_1:LL) (v9:Int) (c_0:ZaL) (st66:LL):S:=mkS 85 [(2,sA 2),(5,sP x4),(6,sP (some i7)),(7,sV 68 chain_61),(10,.one (.h (.row 44 0) 68 0 (List.length x64))),(30,sV 3 script_1),(31,sI (len script_1)),(32,sI v9)] [(2,.cells c_0.ls),(44,.row 0 true 68 x64)] st66
noncomputable def Zaj.p1.S (x4:Option Nat) (i7:Nat) (chain_61 script_1:LL) (v9:Int) (c_0:ZaL) (st62:LL):S:=mkS 85 [(2,sA 2),(5,sP x4),(6,sP (some i7)),(7,sV 68 chain_61),(30,sV 3 script_1),(31,sI (len script_1)),(32,sI v9)] [(2,.cells c_0.ls)] st62
theorem Zaj.p3_ok {x4 i7 chain_70 script_1 v9 x64 v67 c_0 st66 r c1_ c3_ J1 J3} (h:Zaj.p3 N c1_ x4 i7 script_1 v9 x64 c_0 st66 c3_ (chain_70,v67)=some r) (hE:En Tryz.f9 g0 w0 (Zaj.rs r) r.2 R) (hc1 : ∀chain_61 v9 st62,c1_ (chain_61,v9,st62)=some r→At g0 w0 (Zaj.p1.S x4 i7 chain_61 script_1 v9 c_0 st62) J1) (hc3 : ∀chain_70 v67,c3_ (chain_70,v67)=some r→At g0 w0 (Zaj.p3.S x4 i7 chain_70 script_1 v9 x64 v67 c_0 st66) J3):At g0 w0 (Zaj.p3.S x4 i7 chain_70 script_1 v9 x64 v67 c_0 st66) (XK Tryz.prog R (.c (csub Zaj.B [1,1,1,1,1,1,0,1,0,0,1,1,0,0,1,1,1,1,0,0]) :: .h J3 :: [.b 2,.b 1,.c (csub Zaj.B [1,1,1,1,1,1,0,1,0,0,1,1,1]),.h J1,.b 0,.c (csub Zaj.B [1,1,1,1,1,1,1])])):=by
 unfold Zaj.p3 at h
 refine iteB h (fun c49 h1=>?_) (fun c49 h2=>?_)
 ·obtain ⟨c50,h3⟩:=ZaN h1
  obtain ⟨x71,c51,h4⟩:=Zco h3
  obtain ⟨x72,c52,h5⟩:=Zad h4
  let o1:List PS:=[.r [],.c true,.r [(1,{oe:=x71.ls})],.r [(4,q1 [oI x72])]]
  have t1 {Q:Prop} (q:Q):=aM c49 c50 (oD c49) c51 (Zaq.snd c52) q
  refine iteB h5 (fun c53 h6=>?_) (fun c53 h7=>?_)
  ·obtain rfl:=Zac h6
   exact af fol hE (o1 ++ [.c true,.r []]) [] 0 [] (t1 c53)
  ·obtain ⟨c54,c55,h8⟩:=ck2 h7
   exact and_ fol (o1 ++ [.c false,.d {ds:=[(6,{fz:=[66],vz:=[71]})],hv:=117,Hs:=[1,5,16,17,21,53,117]},.r []]) [2,5,6,7,30,31,32,54,55,56] [2,44] (t1 (aO c53 z0 (eN (0)) c54 z0 (eN (0)) c54 (aN z0 (eN (List.length ([]++chain_70))) z0 (eN (1)) c55 z0 (eN (List.length (([]++chain_70) ++ [x71.ls])))))) (hc3 (([]++chain_70) ++ [x71.ls]) (w64 (v67+1)) h8)
 ·exact an fol [.r [],.c false,.r []] [2,5,6,7,30,31,32] [2] c49 (hc1 chain_70 (w64 (v9+1)) st66 h2)
theorem Zaj.p2_ok {x4 i7 chain_61 x64 script_1 v9 c_0 st66 r c1_ J1} (h:Zaj.p2 N c1_ x4 i7 chain_61 x64 script_1 v9 c_0 st66=some r) (hE:En Tryz.f9 g0 w0 (Zaj.rs r) r.2 R) (hc1 : ∀chain_61 v9 st62,c1_ (chain_61,v9,st62)=some r→At g0 w0 (Zaj.p1.S x4 i7 chain_61 script_1 v9 c_0 st62) J1):At g0 w0 (Zaj.p2.S x4 i7 chain_61 x64 script_1 v9 c_0 st66) (XK Tryz.prog R [.c (csub Zaj.B [1,1,1,1,1,1,0,1,0,0,1,1,0,0,1,1,1]),.b 1,.c (csub Zaj.B [1,1,1,1,1,1,0,1,0,0,1,1,1]),.h J1,.b 0,.c (csub Zaj.B [1,1,1,1,1,1,1])]):=by
 unfold Zaj.p2 at h
 exact aq fol [.r []] [2,5,6,7,30,31,32,54,55,56] [2,44] trivial (At.loop N (At.loopN (fun y:LL×Int=>Zaj.p3.S x4 i7 y.1 script_1 v9 x64 y.2 c_0 st66) (fun c J hc y h=>Zaj.p3_ok (chain_70:=y.1) (v67:=y.2) h hE hc1 (fun chain_70 v67=>hc (chain_70,v67))) N (chain_61,0) h))
theorem Zaj.p1_ok {x4 i7 chain_61 script_1 v9 c_0 st62 r c1_ J1} (h:Zaj.p1 N x4 i7 script_1 c_0 c1_ (chain_61,v9,st62)=some r) (hE:En Tryz.f9 g0 w0 (Zaj.rs r) r.2 R) (hc1 : ∀chain_61 v9 st62,c1_ (chain_61,v9,st62)=some r→At g0 w0 (Zaj.p1.S x4 i7 chain_61 script_1 v9 c_0 st62) J1):At g0 w0 (Zaj.p1.S x4 i7 chain_61 script_1 v9 c_0 st62) (XK Tryz.prog R (.c (csub Zaj.B [1,1,1,1,1,1,0,1,0,0]) :: .h J1 :: [.b 0,.c (csub Zaj.B [1,1,1,1,1,1,1])])):=by
 unfold Zaj.p1 at h
 refine iteB h (fun c36 h9=>?_) (fun c36 h10=>?_)
 ·obtain ⟨c37,h11⟩:=ZaN h9
  obtain ⟨x63,c38,h12⟩:=Zdz h11
  obtain ⟨⟨x64,x65,st66⟩,c39,h13⟩:=Zad h12
  let o2:List PS:=[.r [],.c true,.r [(1,{oe:=x63.ls})],.r [(7,{rs:=[.row true 68 x64,oI x65],st:=st66,ns:=[44]})]]
  have t2 {Q:Prop} (q:Q):=aM c36 c37 (oD c36) c38 (ZaJ.snd c39) q
  refine iteB h13 (fun c40 h14=>?_) (fun c40 h15=>?_)
  ·refine iteB h14 (fun c41 h16=>?_) (fun c41 h17=>?_)
   ·obtain rfl:=Zac h16
    exact af fol hE (o2 ++ [.r [],.c true,.r []]) [] 0 [] (t2 (aL c40 c40 c40 c40 c41))
   ·exact aq fol (o2 ++ [.r [],.c false,.s 6]) [2,5,6,7,10,30,31,32] [2,44] (t2 (aL c40 c40 c40 c40 c41)) (Zaj.p2_ok h17 hE hc1)
  ·exact aq fol (o2 ++ [.r [(3,wF),(4,wF),(5,wF),(6,yF)],.c false,.s 6]) [2,5,6,7,10,30,31,32] [2,44] (t2 (aL c40 c40 c40 c40 eF)) (Zaj.p2_ok h15 hE hc1)
 ·obtain ⟨x73,c56,h18⟩:=ZdD h10
  let o3:List PS:=[.r [],.c false,.r [(5,{oc:=x73.lo})]]
  refine iteB h18 (fun c57 h19=>?_) (fun c57 h20=>?_)
  ·obtain ⟨i74,rfl,h21⟩:=Zad h19
   obtain ⟨x75,x76,x77,x78,x79,x80,x81,x82,x83,x84,x85,x86,x87,x88,x89,x90,x91,x92,x93,x94,x95,x96,x97,x98,x99,x100,x101,x102,x103,x104,x105,x106,x107,x108,x109,x110,c59,h22⟩:=Zbv h21
   obtain ⟨i111,rfl,h23⟩:=Zad h22
   obtain ⟨x112,c61,h24⟩:=ZbC h23
   obtain ⟨x113,c62,h25⟩:=Zad h24
   obtain rfl:=Zac h25
   exact af fol hE (o3 ++ [.c true,.r [(1,{rs:=[oI x113],m:=10,cv:=[.one (L.bx 172 (Zbg.ls (Zbg.mk (Zag.mk x75 x76 x77 x78 x79 x80 x81 x82 x83 (Zaa.mk x84 x85 x86 x87 x88 x89)) (Zba.mk (Zax.mk (Zbb.mk x90 x91 x92 x93 x94) x95 x96) x97) (Zba.mk (Zax.mk (Zbb.mk x98 x99 x100 x101 x102) x103 x104) x105) x112 x107 x108 x109 x110)))]})]]) [] 0 [] (aL c36 c56 c57 (bO 172 c59 ((bP (bP (bP (bP (bP (bS (bS (bP (bP (bP (bP (bP (bP (bP (bP (bP (bP (bP (bP (bP (bP (bS (bP (bP (bP (bP (bP (bP (bP (bS (bP (bC 6 c61 (Zay.bv x112) (bP (bP (bP (bW bN)))))))))))))))))))))))))))))))))))):BVs st62 [L.int .i64 x75,L.int .i64 x76,L.int .i64 x77,L.int .i64 x78,L.bool x79,L.sl 2 x80,L.sl 33 x81,L.arr .u64 4 x82,L.arr .u64 4 x83,L.int .i64 x84,L.arr .u8 32 x85,L.arr .u8 32 x86,L.int .i64 x87,L.int .i64 x88,L.int .i64 x89,L.int .i64 x90,L.int .i64 x91,L.int .i64 x92,L.int .i64 x93,L.int .i64 x94,L.arr .u8 32 x95,L.sl 1 x96,L.arr .u64 4 x97,L.int .i64 x98,L.int .i64 x99,L.int .i64 x100,L.int .i64 x101,L.int .i64 x102,L.arr .u8 32 x103,L.sl 1 x104,L.arr .u64 4 x105,L.ptr (some i111),L.int .i64 x107,L.int .i64 x108,L.int .i64 x109,L.own true 68 x110] (Zbg.ls (Zbg.mk (Zag.mk x75 x76 x77 x78 x79 x80 x81 x82 x83 (Zaa.mk x84 x85 x86 x87 x88 x89)) (Zba.mk (Zax.mk (Zbb.mk x90 x91 x92 x93 x94) x95 x96) x97) (Zba.mk (Zax.mk (Zbb.mk x98 x99 x100 x101 x102) x103 x104) x105) x112 x107 x108 x109 x110)))) (ZbJ.snd c62))
  ·obtain rfl:=Zac h20
   exact af fol hE (o3 ++ [.c false,.r []]) [] 0 [] (aJ c36 c56 c57)
theorem Zaj.snd {c_0:ZaL} {script_1:LL} {st:LL} {r:Bool×LL} (h:Zaj N c_0 script_1 st=some r):Snd Tryz.prog 9 [.agg c_0.ls,.one (L.sl 3 script_1)] st (Zaj.rs r) r.2:=
 sO Zaj.B Tryz.func9 fun g0 w0 R hE=>by
  unfold Zaj at h
  obtain ⟨⟨x1,st2⟩,c1,h26⟩:=Zad h
  let o4:List PS:=[.r [],.r [(0,{rs:=[oB x1],st:=st2})]]
  have t3 {Q:Prop} (q:Q):=aI (ZcJ.snd c1) q
  refine iteB h26 (fun c2 h27=>?_) (fun c2 h28=>?_)
  ·obtain rfl:=Zac h27
   exact af fol hE (o4 ++ [.c true,.r []]) [] 0 [] (t3 c2)
  ·obtain ⟨x3,c3,h29⟩:=Zad h28
   let o5:List PS:=o4 ++ [.c false,.r [(2,q1 [oB x3])]]
   have t4 {Q:Prop} (q:Q):=t3 (aJ c2 (ZaS.snd c3) q)
   refine iteB h29 (fun c4 h30=>?_) (fun c4 h31=>?_)
   ·obtain rfl:=Zac h30
    exact af fol hE (o5 ++ [.c true,.r []]) [] 0 [] (t4 c4)
   ·obtain ⟨⟨x4,x5,st6⟩,c5,h32⟩:=Zad h31
    refine iteB h32 (fun c6 h33=>?_) (fun c6 h34=>?_)
    ·obtain rfl:=Zac h33
     exact af fol hE (o5 ++ [.c false,.r [(1,{rs:=[.one (L.ptr x4),.one (L.ptr x5)],st:=st6})],.r [],.c true,.r []]) [] 0 [] (t4 (aJ c4 (Zbo.snd c5) c6))
    ·obtain ⟨i7,rfl,h35⟩:=Zad h34
     obtain ⟨x8,c8,h36⟩:=ZdD h35
     exact aq fol (o5 ++ [.c false,.r [(1,{rs:=[.one (L.ptr x4),.one (L.ptr (some i7))],st:=st6})],.r [],.c false,.r [(3,{oc:=x8.lo})],.r []]) [2,5,6,7,30,31,32] [2] (t4 (aK c4 (Zbo.snd c5) c6 c8)) (At.loop N (At.loopN (fun y:LL×Int×LL=>Zaj.p1.S x4 i7 y.1 script_1 y.2.1 c_0 y.2.2) (fun c J hc y h=>Zaj.p1_ok (chain_61:=y.1) (v9:=y.2.1) (st62:=y.2.2) h hE (fun chain_61 v9 st62=>hc (chain_61,v9,st62))) N (x8.Base,0,st6) h36))
end Go.Dn.F
