import Derived.Test.YthiibbfaabjpgaaGreatDoorFm
import Derived.Test.YthiibbfaabjpgaaGreatDoorKc
set_option linter.all false
open Array renaming getD_eq_getD_getElem?->xW,getElem?_setIfInBounds_ne->xZ
open Go.Dn.L renaming ptr->zN,int->zK,bool->wD
open Go.Proofs.Tryz renaming prog->zC
open Int renaming toNat->zD
open List renaming length->zG,append_nil->wU,getElem?_eq_none->zM,getElem?_append_left->zS
open Nat renaming lt_or_ge->zX,le_refl->zH
open Option.some renaming inj->xB
set_option maxRecDepth 100000
namespace Go.Dn.F
open Go.Proofs
noncomputable def mkUp.B:Code:=Tryz.f100.body.getD .skip
noncomputable def mkVal.B:Code:=Tryz.f67.body.getD .skip
noncomputable def mkIt.B:Code:=Tryz.f129.body.getD .skip
def rfA:Code->Code
 | .rangeFunc _ _ a _=>a
 | _=>.skip
def rfB:Code->Code
 | .rangeFunc _ _ _ b=>b
 | _=>.skip
def rgO:Code->Array Oper
 | .region _ o _=>o
 | _=>#[]
noncomputable def mkVal.A:Code:=rfA (ZbK mkVal.B [1,1,0,1,0])
noncomputable def mkVal.D:Code:=rfB (ZbK mkVal.B [1,1,0,1,0])
def mkUp.snd (m:Option Nat) (at_:Int) (st:LL):Snd zC 100 [.one (zN m),.one (zK .i64 at_)] st [.one (.fn 129 0 [zN (some (zG (st ++ [[zN m]]))),zN (some (zG st))])] ((st ++ [[zN m]]) ++ [[zK .i64 at_]]):=
 sO mkUp.B Tryz.func100 fun g0 w0 R hE=>by
  exact af hE [.r [(0,{m:=1}),(1,{m:=1}),(2,{m:=14})],.r []] [] 0 [] trivial
noncomputable def Zbw.p1 (N:Nat) (i:Nat) (st:LL) (c:Int->Option Bool):Int->Option Bool:=fun k=>
 if (k != (-1))=true then
  ZcO (st[i]?) Zdu fun x1 x2=>
  chk (0<=k)<|chk (k<len x2)<|
  ZcO (x2[0+zD k]?) Zfv fun x3=>
  if (x3.verdict != 1)=true then some false else
  Zbb x1 fun j=>ZcO (st[j]?) ZbO fun x4 x5=>Zbb x4 fun a=>ZcO (st[a]?) Zbt fun x6=>
  Zbb (ZbU N (Zat.mk x6 x5) k) fun (x7,_)=>c x7.Ahead
 else some true
noncomputable def Zbw (N:Nat) (m_0:Option Nat) (at_1:Int) (st:LL):Option (Bool×LL):=
 Zbb (Zdd N m_0 at_1 st) fun (x1,st2)=>
 if (!x1)=true then some (false,st2)
 else
 Zbb (ZcT N m_0 at_1 st2) fun (x3,st4)=>
 if x3=true then some (false,st4)
 else
 Zbb m_0 fun i=>Zbb (loopN (Zbw.p1 N i st4) N at_1) fun r=>some (r,st4)
def Zvp (o:Option (S×List Prop)) (s':S) (A:Prop):Prop:=
 match o with
 | some (s,ps)=>s=s'/\(A->Zce ps)
 | none=>False
def goodR {o:Option (S×List Prop)} {s':S} {A:Prop} (h:(s'=s'/\(A->A))=Zvp o s' A) (a:A) : ∃ps,o=some (s',ps)/\Zce ps:=by
 have h1:Zvp o s' A:=h ▸ ⟨rfl,id⟩
 unfold Zvp at h1
 split at h1
 ·rename_i s ps
  obtain ⟨rfl,h3⟩:=h1
  exact ⟨ps,rfl,h3 a⟩
 ·exact h1.elim
def Zul {ro:Option Nat} {n:Nat} {ops:Array Oper} {id:Nat} {Q:Exit->Act->World->Prop} {g:G} {s s':S} {w:World} {a:Act} (ds:List (Nat×D)) {A:Prop} (pa:A) (hd:ops.toList.all Zms=true)
  (h:(s'=s'/\(A->A))=Zvp (ZgX (Zel zC).calm (ops.toList.map (·.dst)) ops.toList 0 s ds) s' A) (hs:Sat g s w a.tmps)
  (hQ : ∀g' w' a',Mod g g' w w'->Sat g' s' w' a'.tmps->a'.defers=a.defers->(∀m,(∃c,s'.si[m]? = some (some (.cells c)))->(∃c,s.si[m]? = some (some (.cells c)))/\g'.sb m=g.sb m)->Q .normal a' w') :
  (Code.region id ops false).wpIn (fe ro) n zC Q a w:=by
 obtain ⟨ps,h1,h2⟩:=goodR h pa
 refine wpIn_region_list ?_
 have:=ZhN (ro:=ro) (n:=n) (Q:=Q) (l2:=[]) (ZfL _) hd h1 h2 hs fun g' w' a' k1 k2 k3 k4=>wpListIn_nil (hQ g' w' a' k1 k2 k3 k4)
 rwa [wU] at this
abbrev mkVal.S (sl:List (Nat×TV)) (i:Nat) (v:Bool) (st:LL):S:=mkS 28 ((2,.one (.adr (.site 2) 0))::(4,.one (.adr (.site 4) 0))::sl) [(2,.cells [zN (some i)]),(4,.cells [wD v])] st
structure mkVal.T (t:Array Value) (b1 b2:Nat):Prop where
 len:t.size=28
 t2:t.getD 2 undef = .pointer (some ⟨b1,0,none⟩)
 t4:t.getD 4 undef = .pointer (some ⟨b2,0,none⟩)
def mkVal.T.set {t:Array Value} {b1 b2:Nat} (h:mkVal.T t b1 b2) (v:Value):mkVal.T (t.setIfInBounds 18 v) b1 b2/\(t.setIfInBounds 18 v).getD 18 undef=v:=by
 have h2:=h.t2
 have h4:=h.t4
 have hl:=h.len
 simp only [xW] at *
 refine ⟨⟨by simpa using hl,?_,?_⟩,?_⟩
 ·rw [xW,xZ aF];exact h2
 ·rw [xW,xZ aF];exact h4
 ·rw [Array.getElem?_setIfInBounds_self,aD aF];rfl
section
variable {g g0:G} {W w0:World} {B b1 b2 l D i:Nat} {v:Bool} {lp:Loop} {st:LL}
def mkVal.frame (I:RI g W B b1 b2 l D i v lp) (hm:ZdK g (.ofSt st) W) {t:Array Value} (T:mkVal.T t b1 b2):Sat (g.fr2 2 b1 4 b2) (mkVal.S [] i v st) W t:=by
 have hM:=I.frame (s:=mkVal.S [] i v st) hm (n1:=2) (n2:=4) (by decide) rfl (fun n ent h=>by
  match n,h with
  | 2,h=>left;exact ⟨rfl,by injection h with h;injection h with h;exact h.symm⟩
  | 4,h=>right;exact ⟨rfl,by injection h with h;injection h with h;exact h.symm⟩
  | 0,h=>cases h
  | 1,h=>cases h
  | 3,h=>cases h
  | n+5,h=>
   exfalso
   rcases zX n 23 with h1 | h1
   ·have:n=0\/n=1\/n=2\/n=3\/n=4\/n=5\/n=6\/n=7\/n=8\/n=9\/n=10\/n=11\/n=12\/n=13\/n=14\/n=15\/n=16\/n=17\/n=18\/n=19\/n=20\/n=21\/n=22:=by omega
    rcases this with rfl | rfl | rfl | rfl | rfl | rfl | rfl | rfl | rfl | rfl | rfl | rfl | rfl | rfl | rfl | rfl | rfl | rfl | rfl | rfl | rfl | rfl | rfl<;>cases h
   ·have hl:(mkVal.S [] i v st).si.length=28:=rfl
    rw [zM aF] at h;cases h)
 refine ⟨T.len,rfl,fun n tv h=>?_,hM⟩
 match n,h with
 | 2,h=>
  injection h with h;subst h
  rw [T.t2]
  exact ⟨rfl,⟨_,rfl⟩,trivial,fun _=>rfl⟩
 | 4,h=>
  injection h with h;subst h
  rw [T.t4]
  exact ⟨rfl,⟨_,rfl⟩,trivial,fun _=>rfl⟩
 | 0,h=>injection h with h;subst h;trivial
 | 1,h=>injection h with h;subst h;trivial
 | 3,h=>injection h with h;subst h;trivial
 | n+5,h=>
  have:tv = .u:=by
   rcases zX n 23 with h1 | h1
   ·have:n=0\/n=1\/n=2\/n=3\/n=4\/n=5\/n=6\/n=7\/n=8\/n=9\/n=10\/n=11\/n=12\/n=13\/n=14\/n=15\/n=16\/n=17\/n=18\/n=19\/n=20\/n=21\/n=22:=by omega
    rcases this with rfl | rfl | rfl | rfl | rfl | rfl | rfl | rfl | rfl | rfl | rfl | rfl | rfl | rfl | rfl | rfl | rfl | rfl | rfl | rfl | rfl | rfl | rfl<;>(injection h with h;exact h.symm)
   ·have hl:(mkVal.S [] i v st).sl.length=28:=rfl
    rw [zM aF] at h;cases h
  subst this;trivial
end
end Go.Dn.F
namespace Go.Dn.F
open Go.Proofs
section
variable {g g0:G} {s:Dn.S} {W w0:World}
def Sat.slot1 {t:Array Value} (hs:Sat g s W t) {n:Nat} {tv:TV} (h:ZdM g s W (t.getD n undef) tv):Sat g { s with sl:=s.sl.set n tv} W t:=by
 refine ⟨by simpa using hs.len,by simpa using hs.lensi,fun m tv' hm'=>?_,hs.mem.cast rfl rfl⟩
 by_cases e:n=m
 ·subst e
  have hlt:n<s.sl.length:=by
   rcases zX n s.sl.length with h' | h'
   ·exact h'
   ·rw [zM (aR h')] at hm';cases hm'
  simp only [List.getElem?_set_self hlt,Option.some.injEq] at hm'
  subst hm'
  exact h.cast rfl rfl
 ·simp only [List.getElem?_set_ne e] at hm'
  exact (hs.slot m tv' hm').cast rfl rfl
def mkVal.T.of {t:Array Value} {sl:List (Nat×TV)} {i:Nat} {v:Bool} {st:LL} (hs:Sat g (mkVal.S sl i v st) W t) (hl:(mkVal.S sl i v st).sl.length=28) (h2:(mkVal.S sl i v st).sl[2]? = some (.one (.adr (.site 2) 0))) (h4:(mkVal.S sl i v st).sl[4]? = some (.one (.adr (.site 4) 0))) {b1 b2:Nat} (e1:g.sb 2=b1) (e2:g.sb 4=b2):mkVal.T t b1 b2:=by
 refine ⟨hs.len.trans hl,?_,?_⟩
 ·have:=(hs.slot 2 _ h2).2.2.2 ⟨_,rfl⟩
  rw [this];show Value.pointer (some (ad (g.sb 2) 0))=_;rw [e1]
 ·have:=(hs.slot 4 _ h4).2.2.2 ⟨_,rfl⟩
  rw [this];show Value.pointer (some (ad (g.sb 4) 0))=_;rw [e2]
end
def mkVal.eA:mkVal.A = .region 4 (rgO mkVal.A) false:=by kernel_rfl
noncomputable def mkVal.D5:Code:=ZbK mkVal.D [0,0]
noncomputable def mkVal.D6:Code:=ZbK mkVal.D [0,1,0,0]
def mkVal.eD:mkVal.D = .block 1 (.seq (.region 5 (rgO mkVal.D5) false) (.cond (.tmp 27) (.seq (.region 6 (rgO mkVal.D6) false) .ret) .skip)):=by kernel_rfl
abbrev mkVal.S5 (k:Int) (i:Nat) (v:Bool) (st:LL):Dn.S:=mkVal.S [(5,.one (.l (zK .i64 k))),(18,.one (.l (zK .i64 k)))] i v st
abbrev mkVal.S6 (k:Int) (i:Nat) (x2:LL) (y:Int) (v:Bool) (st:LL):Dn.S:=mkVal.S [(5,.one (.l (zK .i64 k))),(18,.one (.l (zK .i64 k))),(19,.one (.l (zN (some i)))),(20,.one (.l (zN (some i)))),(21,.one (.adr (.obj i) 1)),(22,.one (.h (.mem (.obj i) 1 0) 3 0 (zG x2))),(23,.one (.l (zK .i64 k))),
 (24,.one (.eadr (.mem (.obj i) 1 0) 3 (0+(zD k)) 0)),(25,.one (.eadr (.mem (.obj i) 1 0) 3 (0+(zD k)) 0)),(26,.one (.l (zK .i64 y))),(27,.one (.l (wD (y != 1))))] i v st
section
variable {g g0:G} {W w0:World} {b1 b2 l D i n:Nat} {lp:Loop} {st:LL}
def mkVal.round (I:RI g W w0.heap.size b1 b2 l D i false lp) (M:Mod g0 g w0 W) (hm:ZdK g (.ofSt st) W) {t:Array Value} (T:mkVal.T t b1 b2) (hrd:lp.state = .ready) {k:Int} {x1:Option Nat} {x2:LL} {x3:ZcB}
  (c1:st[i]? = some [zN x1,L.own true 3 x2]) (c2:0<=k) (c3:k<len x2) (c4:x2[0+zD k]? = some x3.ls) (f:FuncId) :
  RoundIn (fe none) n zC l f (t.setIfInBounds 18 (.int .i64 k)) mkVal.A mkVal.D W fun e W'=>∃g',e = .returned (.bool (!(x3.verdict != 1)))/\Mod g0 g' w0 W'/\ZcK g g' W W'/\ZdK g' (.ofSt st) W' /\
   RI g' W' w0.heap.size b1 b2 l D i false { lp with state:=if (x3.verdict != 1)=true then .done else .ready,pending:=if (x3.verdict != 1)=true then some .ret else none}:=by
 have hl:w0.heap.size<=l:=(I.u l aG).2.2.2.1
 have fr : ∀(g:G),ZcK g (g.fr2 2 b1 4 b2) W W:=fun g=>⟨fun _ _=>rfl,zH _,fun _=>zH _,fun _ _ _=>rfl,fun _ _=>rfl⟩
 have un : ∀(g:G) (w:World),ZcK g (g.un2 b1 b2) w w:=fun g w=>⟨fun _ _=>rfl,zH _,fun _=>zH _,fun _ _ _=>rfl,fun _ _=>rfl⟩
 have hB1:w0.heap.size<=b1:=(I.u b1 aG).2.2.2.1
 have hB2:w0.heap.size<=b2:=(I.u b2 aG).2.2.2.1
 have ofr : ∀(g:G) b,b<w0.heap.size->(g.fr2 2 b1 4 b2).ow b=g.ow b:=fun g b hb=>by
  show (if b=b1 then _ else if b=b2 then _ else g.ow b)=_
  rw [aE aF,aE aF]
 have oun : ∀(g:G) b,b<w0.heap.size->(g.un2 b1 b2).ow b=g.ow b:=fun g b hb=>by
  show (if b=b1\/b=b2 then _ else g.ow b)=_
  rw [aE aF]
 have oput : ∀(w:World) (o:Obj) b,b<w0.heap.size->(w.putObj l o).heap[b]? = w.heap[b]? := fun w o b hb=>World.putObj_heap_other aF
 obtain ⟨T',e18⟩:=T.set (.int .i64 k)
 refine roundIn_of_wpIn (F:=fe none) trivial ?_
 show mkVal.A.wpIn (fe (some l)) n zC _ _ W
 rw [mkVal.eA]
 have s0:Sat (g.fr2 2 b1 4 b2) (mkVal.S [(18,.one (.l (zK .i64 k)))] i false st) W (t.setIfInBounds 18 (.int .i64 k)):=
  Sat.slot1 (n:=18) (mkVal.frame I hm T') (by rw [e18];exact ⟨rfl,.int _ _ _⟩)
 refine Zul (s:=mkVal.S [(18,.one (.l (zK .i64 k)))] i false st) (s':=mkVal.S5 k i false st) [] trivial aQ aQ s0 fun gA WA aA MA sA dA cA=>?_
 have k1:gA.sb 2=b1:=(cA 2 ⟨_,rfl⟩).2
 have k2:gA.sb 4=b2:=(cA 4 ⟨_,rfl⟩).2
 obtain ⟨I1,m1⟩:=I.back (n1:=2) (n2:=4) (by decide) MA sA.mem k1 k2 rfl rfl
 have T1:=mkVal.T.of sA rfl rfl rfl k1 k2
 have e5:aA.tmps.getD 5 undef = .int .i64 k:=by
  have:=(sA.slot 5 _ rfl).2
  generalize aA.tmps.getD 5 undef=q at this
  cases this;rfl
 have e18':aA.tmps.getD 18 undef = .int .i64 k:=by
  have:=(sA.slot 18 _ rfl).2
  generalize aA.tmps.getD 18 undef=q at this
  cases this;rfl
 have M1:Mod g0 (gA.un2 b1 b2) w0 WA:=M.fr MA ⟨rfl,rfl,rfl⟩ (ofr g) ⟨rfl,rfl,rfl⟩ (oun gA)
 have K1:ZcK g (gA.un2 b1 b2) W WA:=(fr g).trans (MA.keep.trans (un gA WA))
 obtain ⟨I2,U2⟩:=I1.put { lp with state:=.busy}
 have m2:=ZdK.un m1 U2
 have M2:=M1.un U2 m1.z (oput _ _)
 have K2:=K1.trans (U2.keeps m1.z)
 generalize gA.un2 b1 b2=gi at I1 m1 M1 K1 I2 U2 m2 M2 K2
 refine ⟨_,run_beginRound I1.hl hrd,?_⟩
 generalize WA.putObj l (.loop { lp with state:=.busy})=W2 at I2 U2 m2 M2 K2
 have s1:Sat (gi.fr2 2 b1 4 b2) (mkVal.S5 k i false st) W2 aA.tmps:=
  Sat.slot1 (n:=18) (s:=mkVal.S [(5,.one (.l (zK .i64 k)))] i false st) (Sat.slot1 (n:=5) (mkVal.frame I2 m2 T1) (by rw [e5];exact ⟨rfl,.int _ _ _⟩)) (by rw [e18'];exact ⟨rfl,.int _ _ _⟩)
 have fin : ∀(bad:Bool) (g5:G) (W5:World) (s5:Dn.S),bad=(x3.verdict != 1)->Mod (gi.fr2 2 b1 4 b2) g5 W2 W5->ZdK g5 s5 W5->g5.sb 2=b1->g5.sb 4=b2->s5.si[2]? = some (some (.cells [zN (some i)]))->s5.si[4]? = some (some (.cells [wD false]))->s5.st=st ->
   ∃v w',(Instr.endRound l (if bad=true then some Code.ret else none)).run zC W5 = .ok v w'/\∃g',(Ending.returned v = .returned (.bool (!(x3.verdict != 1))))/\Mod g0 g' w0 w'/\ZcK g g' W w'/\ZdK g' (.ofSt st) w' /\
    RI g' w' w0.heap.size b1 b2 l D i false { lp with state:=if (x3.verdict != 1)=true then .done else .ready,pending:=if (x3.verdict != 1)=true then some .ret else none}:=by
  intro bad g5 W5 s5 hb M5 m5 q1 q2 q3 q4 q5
  obtain ⟨I5,n5⟩:=I2.back (n1:=2) (n2:=4) (by decide) M5 m5 q1 q2 q3 q4
  rw [q5] at n5
  have N5:Mod g0 (g5.un2 b1 b2) w0 W5:=M2.fr M5 ⟨rfl,rfl,rfl⟩ (ofr gi) ⟨rfl,rfl,rfl⟩ (oun g5)
  have K5:ZcK g (g5.un2 b1 b2) W W5:=K2.trans (ZcK.trans (g':=gi.fr2 2 b1 4 b2) (w':=W2) ⟨fun _ _=>rfl,zH _,fun _=>zH _,fun _ _ _=>rfl,fun _ _=>rfl⟩ (M5.keep.trans (un g5 W5)))
  obtain ⟨I6,U6⟩:=I5.put { lp with state:=if (x3.verdict != 1)=true then .done else .ready,pending:=if (x3.verdict != 1)=true then some .ret else none}
  have er:=run_endRound (P:=zC) (if bad=true then some Code.ret else none) I5.hl
  refine ⟨_,_,er,g5.un2 b1 b2,?_,?_⟩
  ·rw [hb];cases x3.verdict != 1<;>rfl
  ·have e:({ ({ lp with state:=.busy}:Loop) with state:=if (if bad=true then some Code.ret else none).isNone then LoopState.ready else .done,pending:=if bad=true then some Code.ret else none}:Loop) = { lp with state:=if (x3.verdict != 1)=true then .done else .ready,pending:=if (x3.verdict != 1)=true then some .ret else none}:=by
    rw [hb];cases x3.verdict != 1<;>rfl
   rw [e]
   exact ⟨N5.un U6 n5.z (oput _ _),K5.trans (U6.keeps n5.z),n5.un U6,I6⟩
 show mkVal.D.wpIn (fe (some l)) n zC _ aA W2
 rw [mkVal.eD]
 refine wpIn_block (wpIn_seq ?_)
 refine Zul (s:=mkVal.S5 k i false st) (s':=mkVal.S6 k i x2 x3.verdict false st) [(3,{oc:=[zN x1,L.own true 3 x2]}),(7,{oc:=[zN x1,L.own true 3 x2],oe:=x3.ls})] (aL c1 c2 c3 c4 c1) aQ aQ s1 fun gB WB aB MB sB dB cB=>?_
 have j1:gB.sb 2=b1:=(cB 2 ⟨_,rfl⟩).2
 have j2:gB.sb 4=b2:=(cB 4 ⟨_,rfl⟩).2
 have e27:aB.eval (.tmp 27) = .bool (x3.verdict != 1):=by
  have:=(sB.slot 27 _ rfl).2
  show aB.tmps.getD 27 undef=_
  generalize aB.tmps.getD 27 undef=q at this
  cases this;rfl
 show (Code.cond _ _ _).wpIn (fe (some l)) n zC _ aB WB
 refine wpIn_cond e27 ?_
 cases hb:(x3.verdict != 1) with
 | true=>
  rw [aD rfl]
  refine wpIn_seq ?_
  refine Zul (s:=mkVal.S6 k i x2 x3.verdict false st) (s':=mkVal.S6 k i x2 x3.verdict false st) [] trivial aQ aQ sB fun gC WC aC MC sC dC cC=>?_
  show Code.ret.wpIn (fe (some l)) n zC _ aC WC
  refine wpIn_ret ?_
  have:=fin true gC WC _ hb.symm (MB.trans MC) sC.mem ((cC 2 ⟨_,rfl⟩).2.trans j1) ((cC 4 ⟨_,rfl⟩).2.trans j2) rfl rfl rfl
  rw [hb] at this
  exact this
 | false=>
  rw [aE (by decide)]
  refine wpIn_skip ?_
  have:=fin false gB WB _ hb.symm MB sB.mem j1 j2 rfl rfl rfl
  rw [hb] at this
  exact this
end
end Go.Dn.F
namespace Go.Dn.F
open Go.Proofs
noncomputable def mkIt.C0:Code:=ZbK mkIt.B [0,0,0,0]
noncomputable def mkIt.Y:Code:=ZbK mkIt.B [0,0,1]
noncomputable def mkIt.L5:List Oper:=(rgO mkIt.C0).toList.take 5
noncomputable def mkIt.L6:List Oper:=(rgO mkIt.C0).toList.drop 6
noncomputable def mkIt.o5:Oper:=(rgO mkIt.C0).toList.getD 5 default
noncomputable def mkIt.X:Code:=.seq (.seq (.region 0 (rgO mkIt.C0) false) (.cond (.tmp 12) .skip (.exit 0))) mkIt.Y
def mkIt.eB:mkIt.B = .block 0 (.loop mkIt.X):=by kernel_rfl
def mkIt.eC:(rgO mkIt.C0).toList=mkIt.L5++mkIt.o5::mkIt.L6:=by kernel_rfl
def mkIt.o5_op:mkIt.o5.op = .call {callee:=.value (.tmp 9),args:=#[.tmp 10],argTypes:=#[3]}:=by kernel_rfl
def mkIt.o5_dst:mkIt.o5.dst=some 11:=by kernel_rfl
abbrev mkIt.st (stV:LL) (i:Nat) (k:Int):LL:=(stV ++ [[zN (some i)]]) ++ [[zK .i64 k]]
abbrev mkIt.S (sl:List (Nat×TV)) (l ia im:Nat) (st:LL):Dn.S:=mkS 24 ((0,.one (.l (L.yl l)))::(1,.one (.l (zN (some ia))))::(2,.one (.l (zN (some im))))::sl) [] st
abbrev mkIt.S5 (k:Int) (l ia im:Nat) (st:LL):Dn.S:=mkIt.S [(6,.one (.l (zK .i64 k))),(7,.one (.l (wD (k != -1)))),(8,.one (.l (wD (k != -1)))),(9,.one (.l (L.yl l))),(10,.one (.l (zK .i64 k)))] l ia im st
abbrev mkIt.S6 (k:Int) (b:Bool) (l ia im:Nat) (st:LL):Dn.S:=mkIt.S [(6,.one (.l (zK .i64 k))),(7,.one (.l (wD (k != -1)))),(8,.one (.l (wD (k != -1)))),(9,.one (.l (L.yl l))),(10,.one (.l (zK .i64 k))),(11,.one (.l (wD b)))] l ia im st
abbrev mkIt.S7 (k:Int) (b:Bool) (l ia im:Nat) (st:LL):Dn.S:=mkIt.S [(6,.one (.l (zK .i64 k))),(7,.one (.l (wD (k != -1)))),(8,.one (.l (wD (k != -1)))),(9,.one (.l (L.yl l))),(10,.one (.l (zK .i64 k))),(11,.one (.l (wD b))),(12,.one (.l (wD b)))] l ia im st
abbrev mkIt.Sz (k:Int) (l ia im:Nat) (st:LL):Dn.S:=mkS 24 [(0,.one (.l (L.yl l))),(1,.one (.l (zN (some ia)))),(2,.one (.l (zN (some im)))),(6,.one (.l (zK .i64 k))),(7,.one (.l (wD (k != -1)))),(8,.one (.l (wD (k != -1)))),(9,.tup []),(10,.tup []),(11,.tup []),(12,.one (.l (wD false)))] [] st
def ZtM:TV->Bool
 | .u=>true
 | .one (.l _)=>true
 | _=>false
section
variable {g g' g0:G} {s s':Dn.S} {W W' w0:World} {t:Array Value}
def ZdK.bare (hm:ZdK g (.ofSt s.st) W) (hsi : ∀(n:Nat) (ent:Ent),s.si[n]? ≠ some (some ent)):ZdK g s W:=
 ⟨hm.stl,hm.obj,hm.objB,fun n ent h=>absurd h (hsi n ent),hm.own,hm.z,hm.gl⟩
def ZdK.ofBare (hm:ZdK g s W):ZdK g (.ofSt s.st) W:=
 ⟨hm.stl,hm.obj,hm.objB,fun n ent h=>by simp [S.ofSt] at h,hm.own,hm.z,hm.gl⟩
def Sat.round (hs:Sat g s W t) (K:ZcK g g' W W') (hp:s.sl.all ZtM=true) (hm:ZdK g' s' W') (e:s'.sl=s.sl) (ei:s'.si.length=s.si.length):Sat g' s' W' t:=by
 refine ⟨by rw [e];exact hs.len,by rw [e,ei];exact hs.lensi,fun n tv h=>?_,hm⟩
 rw [e] at h
 have h1:=hs.slot n tv h
 have h2:ZtM tv=true:=List.all_eq_true.1 hp tv (List.mem_of_getElem? h)
 match tv,h2,h1 with
 | .u,_,_=>trivial
 | .one (.l x),_,h1=>exact ⟨h1.1,LR.keep K h1.2⟩
def mkIt.si0 {sl:List (Nat×TV)} {l ia im:Nat} {st:LL} : ∀(n:Nat) (ent:Ent),(mkIt.S sl l ia im st).si[n]? ≠ some (some ent):=by
 intro n ent h
 have:(mkIt.S sl l ia im st).si=List.replicate 24 none:=rfl
 rw [this] at h
 rcases zX n 24 with h1 | h1
 ·rw [List.getElem?_replicate,aD h1] at h;cases h
 ·rw [zM (aR h1)] at h;cases h
end
structure mkIt.Post (g0 gK:G) (w0 wK:World) (B b1 b2 l D i:Nat) (stV:LL) (lp:Loop) (r:Bool) (W:World):Prop where
 ex : ∃g k,Mod g0 g w0 W/\ZcK gK g wK W/\ZdK g (.ofSt (mkIt.st stV i k)) W/\RI g W B b1 b2 l D i false { lp with state:=if r then .ready else .done,pending:=if r then none else some .ret}
section
variable {g g0 gK:G} {w0 W wK:World} {b1 b2 l D i:Nat} {lp:Loop} {stV:LL} {N:Nat}
def mkIt.getV {j:Nat} {x:List L} (h:stV[j]? = some x) {k:Int}:(mkIt.st stV i k)[j]? = some x:=by
 have hj:j<stV.length:=by
  rcases zX j stV.length with h' | h'
  ·exact h'
  ·rw [zM h'] at h;cases h
 rw [zS aH,zS hj];exact h
def mkIt.getA {k:Int}:(mkIt.st stV i k)[stV.length+1]? = some [zK .i64 k]:=by simp
def mkIt.getM {k:Int}:(mkIt.st stV i k)[stV.length]? = some [zN (some i)]:=by simp
def mkIt.setA {k k':Int}:(mkIt.st stV i k).set (stV.length+1) [zK .i64 k']=mkIt.st stV i k':=by simp [List.set_append]
def mkIt.loop {R:Exit->Act->World->Prop} {f:FuncId} (hf:lp.fn=f) (hT:mkVal.T lp.tmps b1 b2) (hP:lp.params = #[18]) (hA:lp.assign=mkVal.A) (hD:lp.body=mkVal.D) (hr:lp.state = .ready) (hp:lp.pending=none)
  {r:Bool} (hR : ∀a W',mkIt.Post g0 gK w0 wK w0.heap.size b1 b2 l D i stV lp r W'->a.defers = []->R .normal a W') :
  ∀(n:Nat) (k:Int) (g:G) (W:World) (a:Act),Dn.loopN (Zbw.p1 N i stV) n k=some r->RI g W w0.heap.size b1 b2 l D i false lp->Mod g0 g w0 W->ZcK gK g wK W ->
   Sat g (mkIt.S [] l (stV.length+1) stV.length (mkIt.st stV i k)) W a.tmps->a.defers = []->Code.rounds zC mkIt.X (exK zC R [.b 0]) n a W
 | 0,k,g,W,a,h,_,_,_,_,_=>by cases h
 | n+1,k,g,W,a,h,I,M,Kk,hs,hd=>by
  refine Zmg ?_
  have h:Zbw.p1 N i stV (Dn.loopN (Zbw.p1 N i stV) n) k=some r:=h
  unfold Zbw.p1 at h
  have lpe : ∀{s:LoopState} {q:Option Code},s=lp.state->q=lp.pending->({ lp with state:=s,pending:=q}:Loop)=lp:=by rintro s q rfl rfl;rfl
  show exK zC R (.c (.seq (.seq (.region 0 (rgO mkIt.C0) false) (.cond (.tmp 12) .skip (.exit 0))) mkIt.Y)::_) .normal a W
  refine ZoP (ZoP ?_)
  by_cases hk:(k != -1)=true
  ·rw [aD hk] at h
   obtain ⟨x1,x2,c1,h⟩:=Zdx h
   obtain ⟨c2,c3,h⟩:=ck2 h
   obtain ⟨x3,c4,h⟩:=Zgo h
   refine (wpIn_wide (n:=0)).1 (wpIn_region_list ?_)
   rw [mkIt.eC]
   obtain ⟨ps,q1,q2⟩:=goodR (o:=ZgX (Zel zC).calm ((rgO mkIt.C0).toList.map (·.dst)) mkIt.L5 0 (mkIt.S [] l (stV.length+1) stV.length (mkIt.st stV i k)) [(0,{oc:=[zK .i64 k]}),(4,{oc:=[zK .i64 k]})]) (s':=mkIt.S5 k l (stV.length+1) stV.length (mkIt.st stV i k)) aQ (aK (mkIt.getA (i:=i) (stV:=stV) (k:=k)) hk hk (mkIt.getA (i:=i) (stV:=stV) (k:=k)))
   refine ZhN (ro:=none) (n:=0) (ZfL _) aQ q1 q2 hs fun g5 W5 a5 M5 s5 d5 _=>?_
   have I5:=I.mod M5
   have N5:=M.trans M5
   have hg:grd ((rgO mkIt.C0).toList.map (·.dst)) (mkIt.S5 k l (stV.length+1) stV.length (mkIt.st stV i k)) mkIt.o5 true=some (true,[(k != -1)=true]):=by kernel_rfl
   have e9:a5.eval (.tmp 9) = .func (.yield l) #[] #[]:=by
    have:=(s5.slot 9 _ rfl).2
    show a5.tmps.getD 9 undef=_
    generalize a5.tmps.getD 9 undef=q at this
    cases this;rfl
   have e10:a5.eval (.tmp 10) = .int .i64 k:=by
    have:=(s5.slot 10 _ rfl).2
    show a5.tmps.getD 10 undef=_
    generalize a5.tmps.getD 10 undef=q at this
    cases this;rfl
   unfold wpListIn
   rw [aD (Zhr s5 hg hk)]
   refine ⟨fun _ _=>trivial,?_⟩
   have hrun:(mkIt.o5.semAt (fe none).round a5.eval).run zC W5 = .ok (.round l lp.fn (lp.tmps.setIfInBounds 18 (.int .i64 k)) lp.assign lp.body) W5:=by
    rw [Oper.semAt_plain _ _ _ (fun c e=>by rw [mkIt.o5_op] at e;cases e)]
    have hy:=run_yield (P:=zC) (args:=#[.int .i64 k]) I5.hl (by rw [hP];rfl)
    rw [hP] at hy
    revert e9 e10
    generalize a5.eval=ρ
    intro e9 e10
    simpa [execOp,mkIt.o5_op,resolve,invoke,e9,e10,go_sem] using hy
   rw [hrun,Oper.uponIn_round,hA,hD]
   refine ⟨(fun e=>by cases e),?_⟩
   have hr1:=mkVal.round (n:=0-1) I5 N5 (ZdK.ofBare s5.mem) hT hr (mkIt.getV (i:=i) (k:=k) c1) c2 c3 c4 lp.fn
   refine hr1.mono ?_
   rintro e W6 ⟨g6,rfl,M6,K6,m6,I6⟩
   show wpListIn (fe none) 0 zC (rgO mkIt.C0) _ mkIt.L6 (a5.put mkIt.o5.dst (.bool (!(x3.verdict != 1)))) W6
   rw [mkIt.o5_dst]
   have s6:Sat g6 (mkIt.S6 k (!(x3.verdict != 1)) l (stV.length+1) stV.length (mkIt.st stV i k)) W6 (a5.put (some 11) (.bool (!(x3.verdict != 1)))).tmps:=
    Sat.next (X:=fun _=>False) (s':=mkIt.S6 k (!(x3.verdict != 1)) l (stV.length+1) stV.length (mkIt.st stV i k)) (tv:=.one (.l (wD (!(x3.verdict != 1))))) (s:=mkIt.S5 k l (stV.length+1) stV.length (mkIt.st stV i k)) (dst:=some 11) (Sat.round s5 K6 aQ (ZdK.bare m6 mkIt.si0) rfl rfl) (.refl rfl rfl) (fun _ h=>h.elim) (ZdK.bare m6 mkIt.si0) rfl aQ (fun _=>⟨rfl,.bool _ _⟩)
   obtain ⟨ps2,q3,q4⟩:=goodR (o:=ZgX (Zel zC).calm ((rgO mkIt.C0).toList.map (·.dst)) mkIt.L6 6 (mkIt.S6 k (!(x3.verdict != 1)) l (stV.length+1) stV.length (mkIt.st stV i k)) []) (s':=mkIt.S7 k (!(x3.verdict != 1)) l (stV.length+1) stV.length (mkIt.st stV i k)) aQ hk
   have:=ZhN (ro:=none) (n:=0) (ops:=rgO mkIt.C0) (l2:=[]) (Q:=exK zC R (.c (.cond (.tmp 12) .skip (.exit 0)) :: .c mkIt.Y :: .h (Code.rounds zC mkIt.X (exK zC R [.b 0]) n) :: [.b 0])) (ZfL _) aQ q3 q4 s6 fun g7 W7 a7 M7 s7 d7 _=>?_
   ·rw [wU] at this;exact this
   have e12:a7.eval (.tmp 12) = .bool (!(x3.verdict != 1)):=by
    have:=(s7.slot 12 _ rfl).2
    show a7.tmps.getD 12 undef=_
    generalize a7.tmps.getD 12 undef=q at this
    cases this;rfl
   have hd7:a7.defers = []:=d7.trans (d5.trans hd)
   refine wpListIn_nil ?_
   show exK zC R (.c (.cond (.tmp 12) .skip (.exit 0))::_) .normal a7 W7
   refine wp_cond e12 ?_
   by_cases hv:(x3.verdict != 1)=true
   ·rw [aD hv] at h
    obtain rfl:false=r:=xB h
    rw [hv,aE (by decide)]
    refine wp_exit ?_
    show R .normal a7 W7
    refine hR a7 W7 ⟨⟨g7,k,M6.trans M7,(Kk.trans (M5.keep.trans K6)).trans M7.keep,ZdK.ofBare s7.mem,?_⟩⟩ hd7
    rw [hv] at I6
    exact I6.mod M7
   ·have hv':(x3.verdict != 1)=false:=by simpa using hv
    rw [aE hv] at h
    rw [hv',aD (by rfl)]
    refine wp_skip ?_
    rw [hv'] at I6
    have I6:RI g6 W6 w0.heap.size b1 b2 l D i false lp:=by
     have e:({ lp with state:=if (false=true) then .done else .ready,pending:=if (false=true) then some .ret else none}:Loop)=lp:=lpe hr.symm hp.symm
     rw [e] at I6;exact I6
    obtain ⟨j,rfl,h⟩:=Zab h
    obtain ⟨x4,x5,c5,h⟩:=Zbs h
    obtain ⟨a_,rfl,h⟩:=Zab h
    obtain ⟨x6,c6,h⟩:=Zbi h
    obtain ⟨⟨x7,x8⟩,c7,h⟩:=Zab h
    show exK zC R (.c mkIt.Y :: .h (Code.rounds zC mkIt.X (exK zC R [.b 0]) n) :: [.b 0]) .normal a7 W7
    have key:At g7 W7 (mkIt.S [] l (stV.length+1) stV.length (mkIt.st stV i x7.Ahead)) (Code.rounds zC mkIt.X (exK zC R [.b 0]) n):=fun g8 W8 a8 M8 s8 d8=>
     mkIt.loop hf hT hP hA hD hr hp hR n x7.Ahead g8 W8 a8 h ((I6.mod M7).mod M8) ((M6.trans M7).trans M8) (((Kk.trans (M5.keep.trans K6)).trans M7.keep).trans M8.keep) s8 d8
    rw [<-mkIt.setA (k:=k)] at key
    have:=Zlu (g0:=g7) (w0:=W7) (s:=mkIt.S7 k true l (stV.length+1) stV.length (mkIt.st stV i k)) (R:=R) (ks:=.c mkIt.Y :: .h (Code.rounds zC mkIt.X (exK zC R [.b 0]) n) :: [.b 0])
     fol [.d {ds:=[(0,{oc:=[zN (some i)]}),(3,{oc:=[zN (some j),L.own true 3 x2]}),(4,{oc:=[zK .i64 k]}),(5,{rs:=[.agg x7.ls,.one (wD x8)],m:=10,cv:=[.one (L.bx 2 (Zat.ls (Zat.mk x6 x5)))]})],hv:=1568,Hs:=[32,512,544,1568]},.r [(2,{oc:=[zK .i64 k]})]] [0,1,2] []
     (aO (mkIt.getM (i:=i) (stV:=stV) (k:=k)) (mkIt.getM (i:=i) (stV:=stV) (k:=k)) (mkIt.getV (i:=i) (k:=k) c1) (mkIt.getV (i:=i) (k:=k) c1) (mkIt.getA (i:=i) (stV:=stV) (k:=k)) (mkIt.getA (i:=i) (stV:=stV) (k:=k))
      (bO 2 (mkIt.getV (i:=i) (k:=k) c5) ((bC 87 (mkIt.getV (i:=i) (k:=k) c6) (ZaG.bv x6) (bW bN)):BVs (mkIt.st stV i k) [zN (some a_),L.own true 1 x5] (Zat.ls (Zat.mk x6 x5)))) (aK (ZbU.s c7) (bO 2 (mkIt.getV (i:=i) (k:=k) c5) ((bC 87 (mkIt.getV (i:=i) (k:=k) c6) (ZaG.bv x6) (bW bN)):BVs (mkIt.st stV i k) [zN (some a_),L.own true 1 x5] (Zat.ls (Zat.mk x6 x5)))) (ZbU.s c7) (mkIt.getA (i:=i) (stV:=stV) (k:=k)))) key
    rw [hv'] at s7
    exact this g7 W7 a7 (.refl _ _) s7 hd7
  ·rw [aE hk] at h
   have hk':(k != -1)=false:=by simpa using hk
   obtain rfl:true=r:=xB h
   refine (wpIn_wide (n:=0)).1 ?_
   refine Zul (ro:=none) (s:=mkIt.S [] l (stV.length+1) stV.length (mkIt.st stV i k)) (s':=mkIt.Sz k l (stV.length+1) stV.length (mkIt.st stV i k)) [(0,{oc:=[zK .i64 k]}),(3,{want:=false}),(4,{want:=false}),(5,{want:=false}),(6,{yes:=false})] (aL (mkIt.getA (i:=i) (stV:=stV) (k:=k)) hk' hk' hk' hk') aQ aQ hs fun g' W' a' M' s' d' c'=>?_
   have e12:a'.eval (.tmp 12) = .bool false:=by
    have:=(s'.slot 12 _ rfl).2
    show a'.tmps.getD 12 undef=_
    generalize a'.tmps.getD 12 undef=q at this
    cases this;rfl
   show exK zC R (.c (.cond (.tmp 12) .skip (.exit 0))::_) .normal a' W'
   refine wp_cond e12 ?_
   rw [aE (by decide)]
   refine wp_exit ?_
   show R .normal a' W'
   refine hR a' W' ⟨⟨g',k,M.trans M',Kk.trans M'.keep,ZdK.ofBare s'.mem,?_⟩⟩ (d'.trans hd)
   rw [aD rfl,aD rfl,lpe hr.symm hp.symm]
   exact I.mod M'
end
end Go.Dn.F
namespace Go.Dn.F
open Go.Proofs
section
variable {P:Program} {g g' g0:G} {s s':Dn.S} {w w' w0 W:World}
def ZmG (W:World) (o:Obj) {b:Nat} (hb:b<W.heap.size):(W.alloc o).heap[b]? = W.heap[b]? := by
 show (W.heap.push o)[b]? = _
 rw [Array.getElem?_push_lt hb,Array.getElem?_eq_getElem hb]
def ZdB.at {o:Oper} {a:Act} {v:Value} {X:List Nat} (hok:ZdB P o X s s') (hs:Sat g s w a.tmps) (hrun:(execOp a.eval o).run P w = .ok (.value v) w') : ∃g',Mod g g' w w'/\Sat g' s' w' (a.put o.dst v).tmps:=by
 have:=hok g w a hs (fun a' w'=>∃g',Mod g g' w w'/\Sat g' s' w' a'.tmps) (fun _ _ _=>False) (fun g' w' v h1 _ h2=>⟨g',h1,h2⟩)
 unfold Oper.wp at this
 rw [hrun] at this
 exact this
def RI.lay {B b1 b2 i n1 n2:Nat} {v:Bool} {gf:G} (hm:ZdK gf s W) (hn:b1≠b2) (k1:gf.sb n1=b1) (k2:gf.sb n2=b2) (hB1:B<=b1) (hB2:B<=b2)
  (e1:s.si[n1]? = some (some (.cells [.ptr (some i)]))) (e2:s.si[n2]? = some (some (.cells [.bool v]))) (lp:Loop) :
  RI (gf.un2 b1 b2) ((W.alloc (.deferred (some []))).alloc (.loop lp)) B b1 b2 (W.heap.size+1) W.heap.size i v lp/\ZdK (gf.un2 b1 b2) (.ofSt s.st) W/\Zsu (gf.un2 b1 b2) W ((W.alloc (.deferred (some []))).alloc (.loop lp)):=by
 have K:ZcK gf (gf.un2 b1 b2) W W:=⟨fun _ _=>rfl,zH _,fun _=>zH _,fun _ _ _=>rfl,fun _ _=>rfl⟩
 obtain ⟨o1,z1,a1,E1,p1,c1⟩:=hm.site n1 _ e1
 obtain ⟨o2,z2,a2,E2,p2,c2⟩:=hm.site n2 _ e2
 rw [k1] at o1 z1 p1
 rw [k2] at o2 z2 p2
 have l1:=hm.own b1 _ o1
 have l2:=hm.own b2 _ o2
 have hsz:((W.alloc (.deferred (some []))).alloc (.loop lp)).heap.size=W.heap.size+2:=by simp
 have old : ∀b,b<W.heap.size->((W.alloc (.deferred (some []))).alloc (.loop lp)).heap[b]? = W.heap[b]? := fun b hb=>
  (ZmG _ _ aH).trans (ZmG _ _ hb)
 have how : ∀b t,gf.ow b=some t->(∀n,t ≠ .site n)->(gf.un2 b1 b2).ow b=gf.ow b:=by
  intro b t h ht
  show (if b=b1\/b=b2 then _ else gf.ow b)=_
  rw [aE]
  rintro (rfl | rfl)
  ·rw [o1] at h;cases h;exact ht _ rfl
  ·rw [o2] at h;cases h;exact ht _ rfl
 have obne : ∀b n,gf.ow b=some (.site n)->∀j,j<gf.nob->gf.ob j≠b:=by
  rintro b n h j hj rfl
  rcases hm.objB j hj with h1 | h1<;>rw [h] at h1<;>cases h1
 have oblt : ∀j,j<gf.nob->gf.ob j<W.heap.size:=fun j hj=>by rcases hm.objB j hj with h1 | h1<;>exact hm.own _ _ h1
 have new : ∀b,W.heap.size<=b->(gf.un2 b1 b2).ow b=none:=fun b hb=>by
  show (if b=b1\/b=b2 then _ else gf.ow b)=_
  rw [aE aF]
  cases h:gf.ow b with
  | none=>rfl
  | some t=>have:=hm.own b t h;omega
 have hi:i<gf.nob:=by
  obtain ⟨xs,rfl⟩ : ∃xs:List Value,a1=xs.toArray:=⟨a1.toList,rfl⟩
  cases c1 with
  | one _ v _ _ _ hv _ hr=>cases hv;assumption
 refine ⟨⟨fun b hb=>?_,⟨hn,aF,aF,aF,aF,aF⟩,hi,?_,?_,?_,?_⟩,⟨hm.stl,fun j c h hne=>?_,fun j hj=>?_,fun n ent h=>by simp [S.ofSt] at h,fun b t h=>?_,hm.z,hm.gl.keep K⟩,⟨aF,fun b hb=>.inl (old b hb),rfl,rfl,rfl⟩⟩
 ·rcases hb with rfl | rfl | rfl | rfl
  ·exact ⟨.inr (by show (if b=b\/b=b2 then _ else _)=_;rw [aD (.inl rfl)]),z1,aF,hB1,obne _ _ o1⟩
  ·exact ⟨.inr (by show (if b=b1\/b=b then _ else _)=_;rw [aD (.inr rfl)]),z2,aF,hB2,obne _ _ o2⟩
  ·exact ⟨.inl (new _ aF),hm.z _ aF,aF,aF,fun j hj=>by have:=oblt j hj;show gf.ob j≠_;omega⟩
  ·exact ⟨.inl (new _ aF),hm.z _ aF,aF,aF,fun j hj=>by have:=oblt j hj;show gf.ob j≠_;omega⟩
 ·obtain ⟨xs,rfl⟩ : ∃xs:List Value,a1=xs.toArray:=⟨a1.toList,rfl⟩
  cases c1 with
  | one _ v _ _ _ hv _ hr=>cases hr;cases hv;exact ⟨E1,(old _ l1).trans p1⟩
 ·obtain ⟨xs,rfl⟩ : ∃xs:List Value,a2=xs.toArray:=⟨a2.toList,rfl⟩
  cases c2 with
  | one _ v _ _ _ hv _ hr=>cases hr;cases hv;exact ⟨E2,(old _ l2).trans p2⟩
 ·have:=World.alloc_heap_new (W.alloc (.deferred (some []))) (.loop lp);rwa [World.size_alloc] at this
 ·exact (ZmG _ _ aG).trans (World.alloc_heap_new W _)
 ·have h1:=hm.obj j c h hne
  exact h1.keep K ⟨rfl,how _ _ h1.1 aG,rfl⟩ (fun b' o hb=>⟨rfl,how _ _ hb aG,rfl⟩)
 ·show (gf.un2 b1 b2).ow (gf.ob j)=_\/(gf.un2 b1 b2).ow (gf.ob j)=_
  rcases hm.objB j hj with h1 | h1
  ·left;rw [how _ _ h1 aG];exact h1
  ·right;rw [how _ _ h1 aG];exact h1
 ·have h':(if b=b1\/b=b2 then some Ow.foreign else gf.ow b)=some t:=h
  by_cases e:b=b1\/b=b2
  ·rcases e with rfl | rfl;exact l1;exact l2
  ·rw [aE e] at h';exact hm.own b t h'
end
end Go.Dn.F
namespace Go.Dn.F
open Go.Proofs
section
variable {g g0 gK:G} {w0 W wK:World} {b1 b2 l D i:Nat} {lp:Loop} {stV:LL} {N:Nat}
def mkIt.res:Tryz.f129.results = #[]:=by kernel_rfl
def mkIt.ent:ZqA zC 129:=⟨_,Tryz.func129,by kernel_rfl,by kernel_rfl⟩
def mkIt.calls {vs:List Value} {k:Int} {r:Bool} (hf:lp.params = #[18]) (hT:mkVal.T lp.tmps b1 b2) (hA:lp.assign=mkVal.A) (hD:lp.body=mkVal.D) (hr:lp.state = .ready) (hp:lp.pending=none)
  (h:Dn.loopN (Zbw.p1 N i stV) N k=some r) (I:RI g W w0.heap.size b1 b2 l D i false lp) (M:Mod g0 g w0 W) (Kk:ZcK gK g wK W) (hm:ZdK g (.ofSt (mkIt.st stV i k)) W)
  (hv:Zgg g W 0 vs [.one (L.yl l),.one (zN (some (stV.length+1))),.one (zN (some stV.length))]) :
  Calls zC 129 vs.toArray W fun e W'=>(∃v,e = .returned v)/\mkIt.Post g0 gK w0 wK w0.heap.size b1 b2 l D i stV lp r W':=by
 refine calls_of_wp (c:=mkIt.B) Tryz.func129 aQ ?_
 have hE:Mod g (g.enter vs) W W:=⟨⟨fun _ _=>rfl,zH _,fun _=>zH _,fun _ _ _=>rfl,fun _ _=>rfl⟩,rfl,rfl,rfl,zH _,fun b _=>.inl ⟨rfl,rfl,rfl⟩,fun b _ h1 h2=>⟨h1,h2⟩,fun i h1 h2=>absurd h2 (by show ¬ i<g.nob;omega)⟩
 have s1:=ZmK (n:=24) hv hm (by show 3<=24;decide)
 rw [mkIt.eB]
 refine Zql (R:=bodyPost zC Tryz.f129 _) (ks:=[]) ?_
 refine Zsi N ?_
 refine mkIt.loop (g0:=g0) (w0:=w0) (gK:=gK) (wK:=wK) rfl hT hf hA hD hr hp ?_ N k (g.enter vs) W _ h (I.mod hE) (M.trans hE) (Kk.trans hE.keep) s1 rfl
 intro a W' hP hd
 refine ⟨hd,.tuple #[],?_,⟨_,rfl⟩,hP⟩
 simp [results,mkIt.res]
end
noncomputable def mkVal.R0:Code:=ZbK mkVal.B [0]
noncomputable def mkVal.R1:Code:=ZbK mkVal.B [1,0,0]
noncomputable def mkVal.R2:Code:=ZbK mkVal.B [1,0,1,0,0]
noncomputable def mkVal.R3:Code:=ZbK mkVal.B [1,1,0,0]
noncomputable def mkVal.R7:Code:=ZbK mkVal.B [1,1,1,0]
def mkVal.eB:mkVal.B = .seq (.region 0 (rgO mkVal.R0) false) (.seq (.seq (.region 1 (rgO mkVal.R1) false) (.cond (.tmp 14) (.seq (.region 2 (rgO mkVal.R2) false) .ret) .skip))
  (.seq (.seq (.region 3 (rgO mkVal.R3) false) (.block 0 (.rangeFunc (.tmp 17) #[18] mkVal.A mkVal.D))) (.seq (.region 7 (rgO mkVal.R7) false) .ret))):=by kernel_rfl
noncomputable def mkVal.o0:Oper:=(rgO mkVal.R0).toList.getD 0 default
noncomputable def mkVal.o1:Oper:=(rgO mkVal.R0).toList.getD 1 default
def mkVal.eR0:(rgO mkVal.R0).toList = [mkVal.o0,mkVal.o1]:=by kernel_rfl
def mkVal.o0_op:mkVal.o0.op = .box 75 (.tmp 0):=by kernel_rfl
def mkVal.o1_op:mkVal.o1.op = .alloc 4:=by kernel_rfl
def mkVal.o0_dst:mkVal.o0.dst=some 2:=by kernel_rfl
def mkVal.o1_dst:mkVal.o1.dst=some 4:=by kernel_rfl
def mkVal.o0_g:mkVal.o0.guard=none:=by kernel_rfl
def mkVal.o1_g:mkVal.o1.guard=none:=by kernel_rfl
section
variable {g g0 gK:G} {w0 W wK:World} {b1 b2 l D i:Nat} {lp:Loop} {st' st4 ex:LL} {v:Bool} {t:Array Value} {sK:Dn.S}
def mkVal.leave (I:RI g W w0.heap.size b1 b2 l D i v lp) (m:ZdK g (.ofSt st') W) (T:mkVal.T t b1 b2) (M:Mod g0 g w0 W) (h1:ZdK gK sK wK) (hst:sK.st=st4) (K:ZcK gK g wK W) (h0:g0.nob<=gK.nob) (est:st'=st4++ex) :
  LeavesInM (fe none) 0 zC Tryz.f67 t (fun e w'=>∃g' us,e = .returned (ZqC us)/\Mod g0 g' w0 w'/\ZdK g' (.ofSt st4) w'/\Zgg g' w' 0 us [.one (wD v)]) [{ target:=.collected D,args:=#[]}] .returning W:=by
 refine ⟨by simp,.inl ⟨D,_,rfl,run_takeDeferred I.hD,?_⟩⟩
 have U:=I.shut (.deferred none)
 obtain ⟨d1,d2,d3,d4,d5⟩:=I.u D aG
 obtain ⟨_,_,n3,_,n5,_⟩:=I.ne
 have Uf:Zsu (g.fr2 2 b1 4 b2) W (W.putObj D (.deferred none)):=by
  refine ⟨U.size,fun b hb=>?_,rfl,rfl,rfl⟩
  by_cases e:b=D
  ·subst e
   refine .inr ⟨?_,d2,d5⟩
   show (if b=b1 then _ else if b=b2 then _ else g.ow b)=none\/(if b=b1 then _ else if b=b2 then _ else g.ow b)=_
   rw [aE (Ne.symm n3),aE (Ne.symm n5)];exact d1
  ·exact .inl (World.putObj_heap_other e)
 have s5:=(mkVal.frame I m T).un Uf
 obtain ⟨us,e1,e2⟩:=Zmj (fn:=Tryz.f67) (oc:=[]) (md:=0) (own:=[]) (cs:=[.one (wD v)]) (m:=none) (ps:=[]) (a:={ tmps:=t,defers:=[]}) s5 aQ trivial
 obtain ⟨x,rest,rfl,⟨hx1,hx2⟩,hr⟩:=e2
 have hr:rest = []:=hr
 subst hr
 cases hx2
 refine ⟨_,e1,g.cut gK.nob,[.bool v],rfl,(M.un U m.z fun b hb=>World.putObj_heap_other aF).cut h0 K.nob,?_,_,[],rfl,⟨rfl,.bool _ _⟩,rfl⟩
 subst est
 exact ZdK.cut h1 hst (m.un U) (K.trans (U.keeps m.z))
end
end Go.Dn.F
namespace Go.Dn.F
open Go.Proofs
def Zqc {ro:Option Nat} {n:Nat} {ops:Array Oper} {id:Nat} {Q:Exit->Act->World->Prop} {g:G} {s s':S} {w:World} {a:Act} (ds:List (Nat×D)) (live sites:List Nat) {A:Prop} (pa:A) (hd:ops.toList.all Zms=true)
  (h:(s'=s'/\(A->A))=Zvp ((ZgX (Zel zC).calm (ops.toList.map (·.dst)) ops.toList 0 s ds).map fun r=>(r.1.norm live sites,r.2)) s' A) (hs:Sat g s w a.tmps)
  (hQ : ∀g' w' a',Mod g g' w w'->Sat g' s' w' a'.tmps->a'.defers=a.defers->(∀m,(∃c,s'.si[m]? = some (some (.cells c)))->(∃c,s.si[m]? = some (some (.cells c)))/\g'.sb m=g.sb m)->Q .normal a' w') :
  (Code.region id ops false).wpIn (fe ro) n zC Q a w:=by
 obtain ⟨ps,h1,h2⟩:=goodR h pa
 obtain ⟨⟨s1,ps1⟩,h3,h4⟩:=Option.map_eq_some_iff.1 h1
 simp only [Prod.mk.injEq] at h4
 obtain ⟨rfl,rfl⟩:=h4
 refine wpIn_region_list ?_
 have:=ZhN (ro:=ro) (n:=n) (Q:=Q) (l2:=[]) (ZfL _) hd h3 h2 hs fun g' w' a' k1 k2 k3 k4=>wpListIn_nil (hQ g' w' a' k1 (k2.norm live sites) k3 fun m hm=>k4 m (by obtain ⟨c,hc⟩:=hm;exact ⟨c,ZnM hc⟩))
 rwa [wU] at this
noncomputable def Zbw.rs (r:Bool×LL):List CV:=[.one (wD r.1)]
abbrev mkVal.S1 (m_0:Option Nat) (at_1:Int) (st:LL):Dn.S:=mkS 28 [(0,.one (.l (zN m_0))),(1,.one (.l (zK .i64 at_1))),(2,.one (.adr (.site 2) 0))] [(2,.cells [zN m_0])] st
abbrev mkVal.S2 (m_0:Option Nat) (at_1:Int) (st:LL):Dn.S:=mkS 28 [(0,.one (.l (zN m_0))),(1,.one (.l (zK .i64 at_1))),(2,.one (.adr (.site 2) 0)),(4,.one (.adr (.site 4) 0))] [(2,.cells [zN m_0]),(4,.cells [wD false])] st
abbrev mkVal.S3 (m_0:Option Nat) (at_1:Int) (b:Bool) (st:LL):Dn.S:=mkS 28 [(1,.one (.l (zK .i64 at_1))),(2,.one (.adr (.site 2) 0)),(4,.one (.adr (.site 4) 0)),(14,.one (.l (wD b)))] [(2,.cells [zN m_0]),(4,.cells [wD false])] st
abbrev mkVal.S4 (i:Nat) (at_1:Int) (st:LL):Dn.S:=mkS 28 [(2,.one (.adr (.site 2) 0)),(4,.one (.adr (.site 4) 0)),(17,.one (.l (.fn 129 0 [zN (some (zG (st ++ [[zN (some i)]]))),zN (some (zG st))])))] [(2,.cells [zN (some i)]),(4,.cells [wD false])] ((st ++ [[zN (some i)]]) ++ [[zK .i64 at_1]])
section
variable {g g0:G} {w w0:World} {s:Dn.S} {a:Act} {v:Bool} {st':LL}
def mkVal.ret (t:Sat g s w a.tmps) (hr:Zix zC s [] 0 [] 0 Tryz.f67.results.toList=some ([.one (wD v)],none,[])) (hst:s.st=st') (M:Mod g0 g w0 w) (hd:a.defers = []) :
  LeavesInM (fe none) 0 zC Tryz.f67 a.tmps (fun e w'=>∃g' us,e = .returned (ZqC us)/\Mod g0 g' w0 w'/\ZdK g' (.ofSt st') w'/\Zgg g' w' 0 us [.one (wD v)]) a.defers .returning w:=by
 rw [hd]
 subst hst
 obtain ⟨us,e1,e2⟩:=Zmj t hr trivial
 exact ⟨_,e1,g.ret none,us,rfl,M.trans (Zom none),ZrK t.mem none,e2⟩
end
def Zbw.s {N:Nat} {m_0:Option Nat} {at_1:Int} {st:LL} {r:Bool×LL} (h:Zbw N m_0 at_1 st=some r):Snd zC 67 [.one (zN m_0),.one (zK .i64 at_1)] st (Zbw.rs r) r.2:=by
 unfold Zbw at h
 obtain ⟨⟨x1,st2⟩,c1,h⟩:=Zab h
 refine ⟨⟨_,Tryz.func67,by kernel_rfl,by kernel_rfl⟩,fun g w vs hv hm=>?_⟩
 refine (callsIn_wide (n:=0)).1 (callsIn_of_wp_marks (c:=mkVal.B) Tryz.func67 aQ trivial ?_)
 have s0:=ZmK (n:=28) hv hm (by show 2<=28;decide)
 have hE:Mod g (g.enter vs) w w:=⟨⟨fun _ _=>rfl,zH _,fun _=>zH _,fun _ _ _=>rfl,fun _ _=>rfl⟩,rfl,rfl,rfl,zH _,fun b _=>.inl ⟨rfl,rfl,rfl⟩,fun b _ h1 h2=>⟨h1,h2⟩,fun i h1 h2=>absurd h2 (by show ¬ i<g.nob;omega)⟩
 generalize ha:({ tmps:=vs.toArray++Array.replicate (Tryz.f67.ntmps-vs.toArray.size) undef,defers:=[]}:Act)=a
 have s0:Sat (g.enter vs) (S.enter 28 [.one (zN m_0),.one (zK .i64 at_1)] st) w a.tmps:=by rw [<-ha];exact s0
 have hd:a.defers = []:=by rw [<-ha]
 clear ha
 show mkVal.B.wpIn (fe none) 0 zC _ a w
 rw [mkVal.eB]
 refine wpIn_seq (wpIn_region_list ?_)
 rw [mkVal.eR0]
 generalize hQ:Exit.then _ _=Q
 obtain ⟨x,hx⟩ : ∃x,(execOp a.eval mkVal.o0).run zC w = .ok (.value (.pointer (some ⟨w.heap.size,0,none⟩))) (w.alloc x):=by
  simp [execOp,mkVal.o0_op,go_sem]<;>exact ⟨_,rfl⟩
 have q0:Zel zC (S.enter 28 [.one (zN m_0),.one (zK .i64 at_1)] st) mkVal.o0 {}=some ([2],mkVal.S1 m_0 at_1 st,[]):=by kernel_rfl
 obtain ⟨g1,M1,t1⟩:=ZdB.at ((ZfL zC _ _ _ _ _ _ q0 trivial).1) s0 hx
 unfold wpListIn
 rw [aD (by simp [Region.wanted,mkVal.o0_g])]
 refine op_fe aQ ?_
 unfold Oper.wp
 rw [hx]
 show wpListIn (fe none) 0 zC _ _ [mkVal.o1] (a.put mkVal.o0.dst (.pointer (some ⟨w.heap.size,0,none⟩))) (w.alloc x)
 have hsz:(w.alloc x).heap.size=w.heap.size+1:=by simp
 generalize e1:a.put mkVal.o0.dst (.pointer (some ⟨w.heap.size,0,none⟩))=a1 at t1 |-
 have y1:a1.tmps.getD 2 undef = .pointer (some ⟨w.heap.size,0,none⟩):=by
  rw [<-e1,mkVal.o0_dst]
  have hl:a.tmps.size=28:=s0.len
  simp [Act.put,hl]
 have hd1:a1.defers = []:=by rw [<-e1,mkVal.o0_dst];exact hd
 clear e1
 generalize w.alloc x=w1 at *
 obtain ⟨x',hx'⟩ : ∃x',(execOp a1.eval mkVal.o1).run zC w1 = .ok (.value (.pointer (some ⟨w1.heap.size,0,none⟩))) (w1.alloc x'):=by
  simp [execOp,mkVal.o1_op,go_sem]<;>exact ⟨_,rfl⟩
 have q1:Zel zC (mkVal.S1 m_0 at_1 st) mkVal.o1 {}=some ([4],mkVal.S2 m_0 at_1 st,[]):=by kernel_rfl
 obtain ⟨g2,M2,t2⟩:=ZdB.at ((ZfL zC _ _ _ _ _ _ q1 trivial).1) t1 hx'
 unfold wpListIn
 rw [aD (by simp [Region.wanted,mkVal.o1_g])]
 refine op_fe aQ ?_
 unfold Oper.wp
 rw [hx']
 show Q .normal (a1.put mkVal.o1.dst (.pointer (some ⟨w1.heap.size,0,none⟩))) (w1.alloc x')
 generalize e2:a1.put mkVal.o1.dst (.pointer (some ⟨w1.heap.size,0,none⟩))=a2 at t2 |-
 have hl1:a1.tmps.size=28:=t1.len
 have y2:a2.tmps.getD 2 undef = .pointer (some ⟨w.heap.size,0,none⟩):=by
  rw [<-e2,mkVal.o1_dst,<-y1]
  simp only [Act.put,xW]
  rw [xZ (by decide)]
 have y4:a2.tmps.getD 4 undef = .pointer (some ⟨w1.heap.size,0,none⟩):=by
  rw [<-e2,mkVal.o1_dst]
  simp [Act.put,hl1]
 have hd2:a2.defers = []:=by rw [<-e2,mkVal.o1_dst];exact hd1
 clear e2
 have k2:g2.sb 2=w.heap.size:=by
  have:=(t2.slot 2 _ rfl).2.2.2 ⟨_,rfl⟩
  rw [y2] at this
  have this:Value.pointer (some ⟨w.heap.size,0,none⟩)=Value.pointer (some ⟨g2.sb 2,0,none⟩):=this
  injection this with this;injection this with this;injection this with this;exact this.symm
 have k4:g2.sb 4=w.heap.size+1:=by
  have:=(t2.slot 4 _ rfl).2.2.2 ⟨_,rfl⟩
  rw [y4,hsz] at this
  have this:Value.pointer (some ⟨w.heap.size+1,0,none⟩)=Value.pointer (some ⟨g2.sb 4,0,none⟩):=this
  injection this with this;injection this with this;injection this with this;exact this.symm
 have M:Mod g g2 w (w1.alloc x'):=hE.trans (M1.trans M2)
 generalize w1.alloc x'=w2 at *
 rw [<-hQ]
 clear hQ
 show (Code.seq (.seq (.region 1 (rgO mkVal.R1) false) (.cond (.tmp 14) (.seq (.region 2 (rgO mkVal.R2) false) .ret) .skip)) _).wpIn (fe none) 0 zC _ a2 w2
 refine wpIn_seq (wpIn_seq ?_)
 have ev14 : ∀{g:G} {w:World} {a:Act} {b:Bool} {st:LL},Sat g (mkVal.S3 m_0 at_1 b st) w a.tmps->a.eval (.tmp 14) = .bool b:=fun {g w a b st} t=>by
  have:=(t.slot 14 _ rfl).2
  show a.tmps.getD 14 undef=_
  generalize a.tmps.getD 14 undef=q at this
  cases this;rfl
 dsimp only at h
 by_cases hb:(!x1)=true
 ·rw [aD hb] at h
  obtain rfl:(false,st2)=r:=xB h
  refine Zqc (s':=mkVal.S3 m_0 at_1 true st2) [(2,{rs:=[.one (wD x1)],st:=st2}),(5,{want:=false}),(6,{want:=false}),(7,{want:=false})] [1,2,4,14] [2,4] (aL (Zdd.s c1) hb hb hb hb) aQ aQ t2 fun g3 w3 a3 M3 t3 d3 c3=>?_
  show (Code.cond _ _ _).wpIn (fe none) 0 zC _ a3 w3
  refine wpIn_cond (ev14 t3) ?_
  rw [aD rfl]
  refine wpIn_seq ?_
  refine Zqc (s':=mkVal.S3 m_0 at_1 true st2) [] [1,2,4,14] [2,4] trivial aQ aQ t3 fun g4 w4 a4 M4 t4 d4 c4=>?_
  show Code.ret.wpIn (fe none) 0 zC _ a4 w4
  exact wpIn_ret (mkVal.ret t4 aQ rfl (M.trans (M3.trans M4)) (d4.trans (d3.trans hd2)))
 ·rw [aE hb] at h
  have hb':(!x1)=false:=by simpa using hb
  obtain ⟨⟨x3,st4⟩,c2,h⟩:=Zab h
  refine Zqc (s':=mkVal.S3 m_0 at_1 x3 st4) [(2,{rs:=[.one (wD x1)],st:=st2}),(7,{rs:=[.one (wD x3)],st:=st4}),(8,{yes:=false})] [1,2,4,14] [2,4] (aM (Zdd.s c1) hb' hb' hb' (ZcT.s c2) hb') aQ aQ t2 fun g3 w3 a3 M3 t3 d3 c3=>?_
  show (Code.cond _ _ _).wpIn (fe none) 0 zC _ a3 w3
  refine wpIn_cond (ev14 t3) ?_
  have h:(if x3=true then some (false,st4) else Zbb m_0 fun i=>Zbb (loopN (Zbw.p1 N i st4) N at_1) fun r=>some (r,st4))=some r:=h
  by_cases hx3:x3=true
  ·subst hx3
   rw [aD rfl] at h
   obtain rfl:(false,st4)=r:=xB h
   rw [aD rfl]
   refine wpIn_seq ?_
   refine Zqc (s':=mkVal.S3 m_0 at_1 true st4) [] [1,2,4,14] [2,4] trivial aQ aQ t3 fun g4 w4 a4 M4 t4 d4 c4=>?_
   show Code.ret.wpIn (fe none) 0 zC _ a4 w4
   exact wpIn_ret (mkVal.ret t4 aQ rfl (M.trans (M3.trans M4)) (d4.trans (d3.trans hd2)))
  ·rw [aE hx3] at h
   have hx3:x3=false:=by simpa using hx3
   subst hx3
   obtain ⟨i,rfl,h⟩:=Zab h
   obtain ⟨b,c4,h⟩:=Zab h
   obtain rfl:(b,st4)=r:=xB h
   rw [aE (by decide)]
   refine wpIn_skip ?_
   show (Code.seq (.seq (.region 3 (rgO mkVal.R3) false) (.block 0 (.rangeFunc (.tmp 17) #[18] mkVal.A mkVal.D))) (.seq (.region 7 (rgO mkVal.R7) false) .ret)).wpIn (fe none) 0 zC _ a3 w3
   refine wpIn_seq (wpIn_seq ?_)
   refine Zqc (s':=mkVal.S4 i at_1 st4) [(2,{rs:=[.one (.fn 129 0 [zN (some (zG (st4 ++ [[zN (some i)]]))),zN (some (zG st4))])],st:=(st4 ++ [[zN (some i)]]) ++ [[zK .i64 at_1]]})] [2,4,17] [2,4] (mkUp.snd (some i) at_1 st4) aQ aQ t3 fun g4 w4 a4 M4 t4 d4 c4'=>?_
   have e2:g4.sb 2=w.heap.size:=((c4' 2 ⟨_,rfl⟩).2.trans (c3 2 ⟨_,rfl⟩).2).trans k2
   have e4:g4.sb 4=w.heap.size+1:=((c4' 4 ⟨_,rfl⟩).2.trans (c3 4 ⟨_,rfl⟩).2).trans k4
   have hd4:a4.defers = []:=d4.trans (d3.trans hd2)
   have M4':Mod g g4 w w4:=M.trans (M3.trans M4)
   show (Code.block 0 _).wpIn (fe none) 0 zC _ a4 w4
   have T:=mkVal.T.of (sl:=[(17,.one (.l (.fn 129 0 [zN (some (zG (st4 ++ [[zN (some i)]]))),zN (some (zG st4))])))]) (i:=i) (v:=false) (st:=mkIt.st st4 i at_1) t4 rfl rfl rfl e2 e4
   obtain ⟨pa,pm,e17,hva,hvm⟩ : ∃pa pm,a4.eval (.tmp 17) = .func (.func 129) #[] #[pa,pm]/\CVR g4 w4 1 pa (.one (zN (some (zG st4+1))))/\CVR g4 w4 2 pm (.one (zN (some (zG st4)))):=by
    have h1:=(t4.slot 17 _ rfl).2
    show ∃pa pm,a4.tmps.getD 17 undef=_/\_
    generalize a4.tmps.getD 17 undef=q at h1
    cases h1 with
    | fn _ _ _ vs cs hc=>
     cases hc with
     | one _ v1 _ _ _ q1 q2 q3=>
      cases q3 with
      | one _ v2 _ _ _ q4 q5 q6=>
       cases q6
       exact ⟨v1,v2,rfl,⟨q2,by simpa using q1⟩,⟨q5,q4⟩⟩
   refine wpIn_block (wpIn_rangeFunc fun fn _=>?_)
   have ne:w.heap.size≠w.heap.size+1:=aF
   obtain ⟨I,m,Un⟩:=RI.lay (B:=w.heap.size) (n1:=2) (n2:=4) (i:=i) (v:=false) t4.mem ne e2 e4 (zH _) (Nat.le_succ _) rfl rfl { state:=.ready,pending:=none,fn:=fn,tmps:=a4.tmps,params:=#[18],assign:=mkVal.A,body:=mkVal.D,defers:=w4.heap.size}
   have hrl:=run_enterLoop_outer (P:=zC) (w:=w4) fn a4.tmps #[18] mkVal.A mkVal.D
   have oun : ∀(g:G) b,b<w.heap.size->(g.un2 w.heap.size (w.heap.size+1)).ow b=g.ow b:=fun g b hb=>by
    show (if b=w.heap.size\/b=w.heap.size+1 then _ else g.ow b)=_
    rw [aE aF]
   have ofr : ∀(g:G) b,b<w.heap.size->(g.fr2 2 w.heap.size 4 (w.heap.size+1)).ow b=g.ow b:=fun g b hb=>by
    show (if b=w.heap.size then _ else if b=w.heap.size+1 then _ else g.ow b)=_
    rw [aE aF,aE aF]
   have un : ∀(g:G) (W:World),ZcK g (g.un2 w.heap.size (w.heap.size+1)) W W:=fun g W=>⟨fun _ _=>rfl,zH _,fun _=>zH _,fun _ _ _=>rfl,fun _ _=>rfl⟩
   have fr : ∀(g:G) (W:World),ZcK g (g.fr2 2 w.heap.size 4 (w.heap.size+1)) W W:=fun g W=>⟨fun _ _=>rfl,zH _,fun _=>zH _,fun _ _ _=>rfl,fun _ _=>rfl⟩
   have Mu:Mod g (g4.un2 w.heap.size (w.heap.size+1)) w w4:=(Mod.refl g w).fr (gf:=g) M4' ⟨rfl,rfl,rfl⟩ (fun _ _=>rfl) ⟨rfl,rfl,rfl⟩ (oun g4)
   have Mv:=Mu.un Un m.z fun b hb=>by
    rcases Un.at_ b (Nat.lt_of_lt_of_le hb M4'.size) with h1 | ⟨_,_,_⟩
    ·exact h1
    ·exact (ZmG _ _ (by simp;have:=M4'.size;omega)).trans (ZmG _ _ (Nat.lt_of_lt_of_le hb M4'.size))
   have Kv:ZcK g3 (g4.un2 w.heap.size (w.heap.size+1)) w3 _:=(M4.keep.trans (un g4 w4)).trans (Un.keeps m.z)
   have Kw:ZcK g4 (g4.un2 w.heap.size (w.heap.size+1)) w4 _:=(un g4 w4).trans (Un.keeps m.z)
   have mv:=m.un Un
   generalize hW:((w4.alloc (.deferred (some []))).alloc (.loop { state:=.ready,pending:=none,fn:=fn,tmps:=a4.tmps,params:=#[18],assign:=mkVal.A,body:=mkVal.D,defers:=w4.heap.size}))=W at *
   have hcall:=mkIt.calls (g0:=g) (w0:=w) (gK:=g3) (wK:=w3) (vs:=[.func (.yield (w4.heap.size+1)) #[] #[],pa,pm]) rfl T rfl rfl rfl rfl c4 I Mv Kv mv
    ⟨_,_,rfl,⟨rfl,.yl _ _⟩,_,_,rfl,⟨hva.1,LR.keep Kw hva.2⟩,_,_,rfl,⟨hvm.1,LR.keep Kw hvm.2⟩,rfl⟩
   refine ⟨w4.heap.size+1,_,W,{ target:=.fn (.func 129) #[pa,pm],args:=#[.func (.yield (w4.heap.size+1)) #[] #[]]},W,129,#[.func (.yield (w4.heap.size+1)) #[] #[],pa,pm],W,hrl,?_,fun _ _=>trivial,?_,(fun e=>by cases e),?_⟩
   ·have ec : ∀v,a4.eval (.const v)=v:=fun _=>rfl
    revert e17 ec
    generalize a4.eval=ρ
    intro e17 ec
    simp [resolve,e17,ec,go_sem]
   ·have:=Zgl mkIt.ent #[.func (.yield (w4.heap.size+1)) #[] #[],pa,pm] W
    simpa [invoke] using this
   ·refine (callsIn_wide (n:=0-1)).2 (hcall.mono ?_)
    rintro e W5 ⟨⟨v,rfl⟩,⟨g5,k5,M5,K5,m5,I5⟩⟩
    have er:=run_endLoop (P:=zC) I5.hl (by cases b<;>simp)
    obtain ⟨I6,U6⟩:=I5.put { state:=.exhausted,pending:=if b=true then none else some .ret,fn:=fn,tmps:=a4.tmps,params:=#[18],assign:=mkVal.A,body:=mkVal.D,defers:=w4.heap.size}
    have hB:w.heap.size<=w4.heap.size+1:=by have:=M4'.size;omega
    have M6:=M5.un U6 m5.z fun b hb=>World.putObj_heap_other aF
    have K6:=K5.trans (U6.keeps m5.z)
    have m6:=m5.un U6
    have hnob:g.nob<=g3.nob:=(M.trans M3).keep.nob
    cases b with
    | false=>
     refine ⟨some .ret,_,er,?_⟩
     show Code.ret.wpIn (fe none) 0 zC _ _ _
     refine wpIn_ret ?_
     show LeavesInM (fe none) 0 zC _ a4.tmps _ ([{ target:=.collected w4.heap.size,args:=#[]}]++a4.defers) .returning _
     rw [hd4]
     exact mkVal.leave (ex:=[[zN (some i)]] ++ [[zK .i64 k5]]) I6 m6 T M6 t3.mem rfl K6 hnob aG
    | true=>
     refine ⟨none,_,er,?_⟩
     show (Code.seq (.region 7 (rgO mkVal.R7) false) .ret).wpIn (fe none) 0 zC _ _ _
     refine wpIn_seq ?_
     refine Zul (s:=mkVal.S [] i false (mkIt.st st4 i k5)) (s':=mkVal.S [] i true (mkIt.st st4 i k5)) [] trivial aQ aQ (mkVal.frame I6 m6 T) fun g7 w7 a7 M7 s7 d7 c7=>?_
     have f2:g7.sb 2=w.heap.size:=(c7 2 ⟨_,rfl⟩).2
     have f4:g7.sb 4=w.heap.size+1:=(c7 4 ⟨_,rfl⟩).2
     obtain ⟨I7,m7⟩:=I6.back (n1:=2) (n2:=4) (by decide) M7 s7.mem f2 f4 rfl rfl
     have T7:=mkVal.T.of s7 rfl rfl rfl f2 f4
     show Code.ret.wpIn (fe none) 0 zC _ a7 w7
     refine wpIn_ret ?_
     show LeavesInM (fe none) 0 zC _ a7.tmps _ a7.defers .returning _
     rw [d7]
     show LeavesInM (fe none) 0 zC _ a7.tmps _ ([{ target:=.collected w4.heap.size,args:=#[]}]++a4.defers) .returning _
     rw [hd4]
     exact mkVal.leave (ex:=[[zN (some i)]] ++ [[zK .i64 k5]]) I7 m7 T7 (M6.fr M7 ⟨rfl,rfl,rfl⟩ (ofr g5) ⟨rfl,rfl,rfl⟩ (oun g7)) t3.mem rfl (K6.trans ((fr g5 _).trans (M7.keep.trans (un g7 w7)))) hnob (by show (st4 ++ [[zN (some i)]]) ++ [[zK .i64 k5]]=_;simp)
end Go.Dn.F
