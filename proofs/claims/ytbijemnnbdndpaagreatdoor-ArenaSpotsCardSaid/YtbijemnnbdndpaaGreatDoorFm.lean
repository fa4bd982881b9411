import Derived.Test.YtbijemnnbdndpaaGreatDoorFa
import Derived.Test.YtbijemnnbdndpaaGreatDoorFaP
set_option linter.all false
open Go.Dn.L renaming int→zI,arr→zH
open List renaming replicate→zB,length→zK
noncomputable section
set_option maxRecDepth 100000
namespace Go.Dn.F
open Go.Proofs
variable {N:Nat} {g0:G} {w0:World} {R:Exit→Act→World→Prop}
structure ZaF where
  rules:Zae
  list:LL
  spots:LL
  places:LM
  room:Int
def ZaF.lo (x:ZaF):List L:=[zI .i64 x.rules.Limit,zI .i64 x.rules.Interval,zI .i64 x.rules.Spacing,zI .i64 x.rules.Future,L.bool x.rules.Easy,L.sl 2 x.rules.Gates,L.sl 33 x.rules.Checks,zH .u64 4 x.rules.MinWork,zH .u64 4 x.rules.Margin,zI .i64 x.rules.Genesis.Version,zH .u8 32 x.rules.Genesis.Prev,zH .u8 32 x.rules.Genesis.Root,zI .i64 x.rules.Genesis.Time,zI .i64 x.rules.Genesis.Bits,zI .i64 x.rules.Genesis.Nonce,L.own true 106 x.list,L.own true 38 x.spots,L.mp x.places,zI .i64 x.room]
def Zcb {α:Type} (l:List L) (k:ZaF→Option α):Option α:=match l with
  | [zI .i64 x0,zI .i64 x1,zI .i64 x2,zI .i64 x3,L.bool x4,L.sl 2 x5,L.sl 33 x6,zH .u64 4 x7,zH .u64 4 x8,zI .i64 x9,zH .u8 32 x10,zH .u8 32 x11,zI .i64 x12,zI .i64 x13,zI .i64 x14,L.own true 106 x15,L.own true 38 x16,L.mp x17,zI .i64 x18]=>k ⟨⟨x0,x1,x2,x3,x4,x5,x6,x7,x8,⟨x9,x10,x11,x12,x13,x14⟩⟩,x15,x16,x17,x18⟩
  | _=>none
theorem ZbM {α:Type} {o:Option (List L)} {k:ZaF→Option α} {r:α} (h:Zds o Zcb k=some r) : ∃x:ZaF,o=some x.lo∧k x=some r:=by
  obtain ⟨l,e,k1⟩:=Zaf h;subst e;unfold Zcb at k1;split at k1
  · exact ⟨_,rfl,k1⟩
  · cases k1
@[simp] theorem Zcd {α:Type} (x:ZaF) (k:ZaF→Option α):Zcb x.lo k=k x:=rfl
def Zcp.B:Code:=Tryz.f34.body.getD .skip
def Zcp.rs (r:Bool×LL):List CV:=[oB r.1]
def Zcp (N:Nat) (a_0:Option Nat) (at_1:Int) (st:LL):Option (Bool×LL):=
 if (!(Option.isNone a_0))=true then
  if (decide (at_1≥0))=true then
   Zbt a_0 fun i1=>
   Zds (st[i1]?) Zcb fun x2=>
   some (decide (at_1<(len x2.list)),st)
  else
  some (false,st)
 else
 some (false,st)
theorem Zcp.snd {a_0:Option Nat} {at_1:Int} {st:LL} {r:Bool×LL} (h:Zcp N a_0 at_1 st=some r):Snd Tryz.prog 34 [.one (L.ptr a_0),oI at_1] st (Zcp.rs r) r.2:=
 sO Zcp.B Tryz.func34 fun g0 w0 R hE=>by
  unfold Zcp at h
  refine ZaY h (fun c1 h1=>?_) (fun c1 h2=>?_)
  ·refine ZaY h1 (fun c2 h3=>?_) (fun c2 h4=>?_)
   ·obtain ⟨i1,rfl,h5⟩:=Zaf h3
    obtain ⟨x2,c4,h6⟩:=ZbM h5
    obtain rfl:=Zac h6
    exact af fol hE [.r [],.r [(11,{oc:=x2.lo})]] [] 0 [] (aO eT eT eT c2 c2 c2 c2 (aL c2 c4 c2 c2 c2))
   ·obtain rfl:=Zac h4
    exact af fol hE [.r [],.r [(7,wF),(8,wF),(9,wF),(10,wF),(11,wF),(12,wF),(13,wF),(14,yF)]] [] 0 [] (aO c1 c1 c1 c2 c2 c2 c2 (aK c2 c2 c2 c2))
  ·obtain rfl:=Zac h2
   exact af fol hE [.r [],.r [(3,wF),(4,wF),(5,yF),(7,wF),(8,wF),(9,wF),(10,wF),(11,wF),(12,wF),(13,wF),(14,yF)]] [] 0 [] (aO c1 c1 c1 eF eF eF eF (aK eF eF eF eF))
def Zbo.B:Code:=Tryz.f14.body.getD .skip
def Zbo.rs (r:Zaz×Bool×LL):List CV:=[.agg r.1.ls,oB r.2.1]
def Zbo (N:Nat) (a_0:Option Nat) (at_1:Int) (st:LL):Option (Zaz×Bool×LL):=
 Zbt (Zcp N a_0 at_1 st) fun (x1,st2)=>
 if (!x1)=true then
  some (Zaz.mk (ZcN.mk 0 0 0 0 0) (zB 32 0) [],false,st2)
 else
 Zbt a_0 fun i3=>
 Zds (st2[i3]?) Zcb fun x4=>
 chk (0≤at_1)<|
 chk (at_1<(len x4.spots))<|
 Zds (x4.spots[0+(Int.toNat at_1)]?) ZeB fun x5=>
 chk (zK ([]++x5.Times)*8≤140737488355328)<|
 some ({x5 with Times:=[]++x5.Times},true,st2)
theorem Zbo.snd {a_0:Option Nat} {at_1:Int} {st:LL} {r:Zaz×Bool×LL} (h:Zbo N a_0 at_1 st=some r):Snd Tryz.prog 14 [.one (L.ptr a_0),oI at_1] st (Zbo.rs r) r.2.2:=
 sO Zbo.B Tryz.func14 fun g0 w0 R hE=>by
  unfold Zbo at h
  obtain ⟨⟨x1,st2⟩,c1,h1⟩:=Zaf h
  let o1:List PS:=[.r [],.r [(2,{rs:=[oB x1],st:=st2})]]
  refine ZaY h1 (fun c2 h2=>?_) (fun c2 h3=>?_)
  ·obtain rfl:=Zac h2
   exact af fol hE (o1 ++ [.c true,.r []]) [] 0 [] (aI (Zcp.snd c1) c2)
  ·obtain ⟨i3,rfl,h4⟩:=Zaf h3
   obtain ⟨x4,c4,h5⟩:=ZbM h4
   obtain ⟨c5,c6,h6⟩:=ck2 h5
   obtain ⟨x5,c7,h7⟩:=ZeM h6
   obtain ⟨c8,h8⟩:=ZaP h7
   obtain rfl:=Zac h8
   exact af fol hE (o1 ++ [.c false,.r [(3,{oc:=x4.lo}),(6,{oc:=x4.lo,oe:=x5.ls})],.r [(4,{fz:=[21]})],.r []]) [] 0 [] (aO (Zcp.snd c1) c2 c4 c5 c6 c7 c4 (aJ c8 z0 (eN (zK ([]++x5.Times)))))
def Zbw.B:Code:=Tryz.f15.body.getD .skip
def Zbw.rs (r:Zae×LL):List CV:=[.agg r.1.ls]
def Zbw (N:Nat) (a_0:Option Nat) (st:LL):Option (Zae×LL):=
 if (Option.isNone a_0)=true then
  some (Zae.mk 0 0 0 0 false [] [] (zB 4 0) (zB 4 0) (Zaj.mk 0 (zB 32 0) (zB 32 0) 0 0 0),st)
 else
 Zbt a_0 fun i1=>
 Zds (st[i1]?) Zcb fun x2=>
 chk (zK ([]++x2.rules.Gates)*16≤140737488355328)<|
 chk (zK ([]++x2.rules.Checks)*40≤140737488355328)<|
 some ({x2.rules with Gates:=[]++x2.rules.Gates,Checks:=[]++x2.rules.Checks},st)
theorem Zbw.snd {a_0:Option Nat} {st:LL} {r:Zae×LL} (h:Zbw N a_0 st=some r):Snd Tryz.prog 15 [.one (L.ptr a_0)] st (Zbw.rs r) r.2:=
 sO Zbw.B Tryz.func15 fun g0 w0 R hE=>by
  unfold Zbw at h
  refine ZaY h (fun c1 h1=>?_) (fun c1 h2=>?_)
  ·obtain rfl:=Zac h1
   exact af fol hE [.r [],.r [],.c true,.r []] [] 0 [] c1
  ·obtain ⟨i1,rfl,h3⟩:=Zaf h2
   obtain ⟨x2,c3,h4⟩:=ZbM h3
   obtain ⟨c4,c5,h5⟩:=ck2 h4
   obtain rfl:=Zac h5
   exact afd fol hE [.r [],.r [],.c false,.r [(3,{oc:=x2.lo})],.d {ds:=[(7,{fz:=[13]}),(9,{fz:=[16]})],hv:=676,Hs:=[4,36,164,676]},.r []] [] 0 [] (aO c1 c3 c4 c5 z0 (eN (zK ([]++x2.rules.Gates))) z0 (eN (zK ([]++x2.rules.Checks))))
end Go.Dn.F
end
