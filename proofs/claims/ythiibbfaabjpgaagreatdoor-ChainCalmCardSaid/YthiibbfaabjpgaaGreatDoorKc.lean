import Derived.Test.YthiibbfaabjpgaaGreatDoorKb
import Derived.Sort.Row
import Derived.Sort.Grow
import Derived.Laws.MakeOwn
import Derived.RangeFuncLeaves
import Derived.RangeFuncRecord
import Derived.OwnWalkIn
import Derived.KernelRfl
import Derived.Laws.Externs
import Derived.Lib.SliceRun
set_option linter.all false
open Array renaming getElem?_append_left->vS,getElem?_modify->tG
open Bool renaming and_eq_true->zV
open Go.Dn.L renaming int->zK
open Int renaming eq_ofNat_of_zero_le->tU
open List renaming replicate->zB,map_cons->xF,length_replicate->uA,getElem?_replicate->wA,getElem?_eq_none->zM,getElem?_map->yR,getElem?_take->yT,take_of_length_le->zW,all_cons->yQ,getElem?_cons_zero->yJ,getElem?_set_ne->zO,getElem?_set_self->zP,all_eq_true->xM,mem_cons->xL,mem_cons_of_mem->yN,append_assoc->yH,getElem?_append_left->zS,getElem?_append_right->yA,length_singleton->yX,eq_nil_of_length_eq_zero->sZ
open Nat renaming mul_one->uQ,le_refl->zH,mul_le_mul_right->wX,lt_or_ge->zX,zero_le->xD,zero_add->yE,add_zero->vC,le_trans->xQ,lt_of_lt_of_le->yK
open Option renaming map_eq_some_iff->zI,bind_eq_some_iff->yD,isSome_iff_exists->rY,map_some->yS,map_none->vI
open Option.some renaming injEq->zA
open Prod.mk renaming injEq->zE
namespace Go.Dn
variable [Globs]
def vT (s:S) (oc:List L) (md:Nat):T->Option (T×List Prop)
 | .h src sz lo len=>match Ziw s oc src with
  | some (false,sz',xs,ps)=>if sz=sz' then some (.l (.sl sz (win md xs lo len).1),(win md xs lo len).2++ps) else none
  | _=>none
 | t=>some (t,[])
section
variable {P:Program} {g g':G} {s:S} {w w':World}
end
def ZtW (P:Program) (s:S) (o:Oper):Option TV:=
 match o.op with
 | .assign x=>if Zrk x then match P.underlying o.type with
  | some (.slice e)=>(P.info? e).map fun i=>.one (.l (.own true i.size []))
  | _=>none
  else none
 | _=>none
def ZdB.nil2 {P:Program} {s:S} {o:Oper} {tv:TV} (h:ZtW P s o=some tv):ZdB P o [] s (s.put o.dst tv):=by
 refine .value fun g w a hs=>?_;unfold ZtW at h;split at h<;>try (cases h;done)
 rename_i x ho;split at h<;>try (cases h;done)
 rename_i hnil;split at h<;>try (cases h;done)
 obtain ⟨i,h1,rfl⟩:=zI.1 h;have hv:a.eval x = .slice none 0 0:=by
  unfold Zrk at hnil;split at hnil
  ·rfl
  cases hnil
 exact ⟨.slice none 0 0,by simp [execOp,ho,hv],rfl,.ownnil _ _ _⟩
def Zqj (s:S) (k:IntKind):List Int->List (Nat×Operand)->Option (List Int)
 | xs,[]=>some xs
 | xs,(i,x)::r=>match (ev s x).bind Zow with
  | some (.int k' v)=>if k'=k/\i<xs.length then Zqj s k (xs.set i v) r else none
  | _=>none
def buildA (P:Program) (s:S) (o:Oper):Option TV:=
 match o.op with
 | .build t ⟨parts⟩=>match P.underlying t,P.info? t with
  | some (.array n e),some it=>match P.info? e,it.zero with
   | some ie,some z=>match zTs [.arr (match P.underlying e with | some (.int k)=>k | _=>.i64) n (zB n 0)] z.cells.toList with
    | some [.l (.arr k m xs)]=>if ie.size=1 then (Zqj s k xs parts).map fun ys=>.agg [.l (.arr k m ys)] else none
    | _=>none
   | _,_=>none
  | _,_=>none
 | _=>none
section
variable {P:Program} {g g':G} {s:S} {w w':World}
def Zqi {k:IntKind} : ∀{parts:List (Nat×Operand)} {xs ys:List Int},Zqj s k xs parts=some ys->ys.length=xs.length
 | [],xs,ys,h=>by simp only [Zqj,zA] at h;subst h;rfl
 | (i,x)::r,xs,ys,h=>by
  simp only [Zqj] at h;split at h<;>try (cases h;done)
  split at h<;>try (cases h;done)
  simpa using Zqi h
def ZmI {a:Act} (hs:Sat g s w a.tmps) {k:IntKind} : ∀{parts:List (Nat×Operand)} {xs ys:List Int} {cells:Array Value},Zqj s k xs parts=some ys->cells.toList=xs.map (Value.int k) ->
  ∃c',Instr.fill (fun i=>some (i*1,1)) cells (parts.map fun p=>(p.1,a.eval p.2))=some c'/\c'.toList=ys.map (Value.int k)
 | [],xs,ys,cells,h,hc=>by simp only [Zqj,zA] at h;subst h;exact ⟨cells,rfl,hc⟩
 | (i,x)::r,xs,ys,cells,h,hc=>by
  simp only [Zqj] at h;split at h<;>try (cases h;done)
  rename_i k' v hx;split at h<;>try (cases h;done)
  rename_i hh;obtain ⟨rfl,hi⟩:=hh;obtain ⟨tv,h1,h2⟩:=yD.1 hx;have hv:=ZbN hs h1;rw [ZhT h2] at hv;have hv:=hv.2.int_eq;have hsz:cells.size=xs.length:=by have:=congrArg List.length hc;simpa using this
  have hnew:(cells.setIfInBounds i (.int k' v)).toList=(xs.set i v).map (Value.int k'):=by
   rw [Array.toList_setIfInBounds,hc,List.map_set]
  obtain ⟨c',h3,h4⟩:=ZmI hs h hnew;refine ⟨c',?_,h4⟩;simp only [xF];unfold Instr.fill;simp only [hv,Value.cells,uQ];rw [aE aH];simpa using h3
def ZdB.buildA {o:Oper} {tv:TV} (h:Dn.buildA P s o=some tv):ZdB P o [] s (s.put o.dst tv):=by
 refine .value fun g w a hs=>?_;unfold Dn.buildA at h;split at h<;>try (cases h;done)
 rename_i t parts ho;split at h<;>try (cases h;done)
 rename_i n e it hu hit;split at h<;>try (cases h;done)
 rename_i ie z hie hz;split at h<;>try (cases h;done)
 rename_i k m xs hts;split at h<;>try (cases h;done)
 rename_i h1;obtain ⟨ys,h2,rfl⟩:=zI.1 h;have hzt:=Zpi (g:=g) (s:=s) (w:=w) hts;rw [TsR] at hzt;obtain ⟨hl,rest,hz2,hrest⟩:=hzt;rw [TsR] at hrest;subst hrest;rw [List.append_nil] at hz2;obtain ⟨c',h3,h4⟩:=ZmI hs h2 hz2;have hly:ys.length=m:=by rw [Zqi h2];exact hl
 refine ⟨.agg c',?_,⟨c',rfl,?_⟩⟩
 ·have hb:P.built t ((⟨parts⟩:Array (Nat×Operand)).map fun (i,x)=>(i,a.eval x)).toList=some c':=by
   have e2:((⟨parts⟩:Array (Nat×Operand)).map fun (i,x)=>(i,a.eval x)).toList=parts.map fun p=>(p.1,a.eval p.2):=by simp
   rw [e2];unfold Program.built;simp only [hit,hu,hz,hie,h1];exact h3
  simp only [execOp,ho,Sem.run_bind,run_build w t _ c' hb,Result.andThen_ok,Sem.run_pure]
 rw [TsR];exact ⟨hly,[],by simpa using h4,by rw [TsR]⟩
def ivs (l:List (IntKind×Int)):List Value:=l.map fun p=>.int p.1 p.2
def ExtI (P:Program) (f:FuncId) (as rs:List (IntKind×Int)):Prop:=∀w,(callFunc f (ivs as).toArray).run P w = .ok (.value (ZqC (ivs rs))) w
def ZmC (s:S):List Operand->Option (List (IntKind×Int))
 | []=>some []
 | x::xs=>match (ev s x).bind Zow,ZmC s xs with
  | some (.int k n),some r=>some ((k,n)::r)
  | _,_=>none
def cvInts:List CV->Option (List (IntKind×Int))
 | []=>some []
 | .one (.int k n)::cs=>(cvInts cs).map ((k,n) :: ·)
 | _=>none
def extOp (s:S) (o:Oper) (P:Program) (d:D):Option (TV×List Prop):=
 match o.op with
 | .call { callee:=.value (.func f),args:=⟨xs⟩,.. }=>match ZmC s xs,cvInts d.rs with
  | some as,some rs=>some (ZgR (rs.map fun p=>.one (.l (.int p.1 p.2))),[ExtI P f as rs])
  | _,_=>none
 | _=>none
def Zkk {a:Act} (hs:Sat g s w a.tmps) : ∀{xs:List Operand} {as:List (IntKind×Int)},ZmC s xs=some as->xs.map a.eval=ivs as
 | [],as,h=>by simp only [ZmC,zA] at h;subst h;rfl
 | x::xs,as,h=>by
  simp only [ZmC] at h;split at h<;>simp only [zA,reduceCtorEq] at h;rename_i k n r h1 h2;subst h;obtain ⟨tv,h3,h4⟩:=yD.1 h1;have hv:=ZbN hs h3;rw [ZhT h4] at hv;simp only [xF,ivs,hv.2.int_eq];rw [Zkk hs h2];rfl
def ZdB.ext {o:Oper} {d:D} {tv:TV} {ps:List Prop} (h:extOp s o P d=some (tv,ps)) (hp:Zce ps):ZdB P o [] s (s.put o.dst tv):=by
 refine .value fun g w a hs=>?_;unfold extOp at h;split at h<;>try (cases h;done)
 rename_i f xs _ ho;split at h<;>simp only [zA,zE,reduceCtorEq] at h;rename_i as rs has hrs;obtain ⟨rfl,rfl⟩:=h;simp only [Zce] at hp;refine ⟨ZqC (ivs rs),?_,?_⟩
 ·have:=hp w;rw [<-Zkk hs has] at this;simp [execOp,ho,resolve,Deferred.ofValue,Act.eval,invoke,this]
 refine ZjZ ?_;clear hp hrs ho
 induction rs with
 | nil=>rw [List.map_nil,ZfK];rfl
 | cons r rs ih=>exact ⟨_,_,rfl,⟨rfl,.int _ _ _⟩,ih⟩
end
end Go.Dn
namespace Go.Dn
variable [Globs]
def Zff (w:World) (b:Nat):Nat:=match w.heap[b]? with
 | some (.cells a _ _)=>a.size
 | some (.map _ _)=>1
 | _=>0
def G.lift (g:G) (w:World):G:={ g with Z:=fun b=>if (g.ow b).isSome then max (g.Z b) (Zff w b) else g.Z b}
def toCVB (s:S) (oc:List L) (md:Nat):TV->Option (CV×List Prop)
 | .one (.h src sz lo len)=>match Ziw s oc src with
  | some (_,sz',xs,ps)=>if sz=sz' then some (.one (.sl sz (win md xs lo len).1),(win md xs lo len).2++ps) else none
  | none=>none
 | .one (.asl r off n lo len)=>match ZgQ s oc r with
  | some (c,ps)=>match ZgL c off with
   | some (.arr k m xs)=>if m=n then (if lo=0/\len=n then some (.one (.sl 1 (xs.map fun x=>[.int k x])),ps) else some (.one (.sl 1 (((xs.drop lo).take len).map fun x=>[.int k x])),ps)) else none
   | _=>none
  | none=>none
 | tv=>toCV s oc md tv
def Zpo (s:S) (oc:List L) (md:Nat):List Operand->Option (List CV×List Prop)
 | []=>some ([],[])
 | x::xs=>match ev s x with
  | some tv=>match toCVB s oc md tv,Zpo s oc md xs with
   | some (c,ps),some (cs,qs)=>some (c::cs,ps++qs)
   | _,_=>none
  | none=>none
def Zsg:CV->Bool
 | .one x=>x.plain
 | .agg ls=>ls.all L.plain
 | .row _ _ _=>true
def Zes (xs:List (List L)):Bool:=xs.all fun x=>x.all L.plain
def ZsB:List CV->List Prop
 | []=>[]
 | .row _ _ xs::cs=>(Zes xs=true)::ZsB cs
 | _::cs=>ZsB cs
def callB (P:Program) (s:S) (o:Oper) (d:D):Option (List Nat×S×List Prop):=
 match o.op with
 | .call { callee:=.value (.func f),args:=⟨xs⟩,.. }=>match Zpo s d.oc d.wm xs,ZhG (d.ns.headD 0) 0 d.rs with
  | some (cs,ps),some (tvs,r)=>
   if (Ziu (d.ns.headD 0) r).all (fun n=>!TV.mens n s.sl)&&d.rs.all Zsg then
    some (Ziu (d.ns.headD 0) r,(s.setEnt? (d.ns.headD 0) r).put o.dst (ZgR tvs),ps++ZsB d.rs ++ [ZdW P f cs d.rs])
   else none
  | _,_=>none
 | _=>none
section
variable {P:Program} {g g':G} {s:S} {w w':World}
def ZeF (g:G) (w:World):ZcK g (g.lift w) w w:=
 ⟨fun _ _=>rfl,zH _,fun b=>(by show g.Z b<=if _ then _ else _;split;exact Nat.le_max_left _ _;exact zH _),fun _ _ _=>rfl,fun _ _=>rfl⟩
def ZpX (hm:ZdK g s w):ZdK ((g.lift w).out true) (.ofSt (s.seen true)) w:=by
 have h0:ZdK (g.lift w) (.ofSt (s.seen true)) w:=by
  refine ⟨by simp only [S.ofSt,S.seen,if_true,uA];exact hm.stl,fun i c h hne=>?_,hm.objB,fun n ent h=>by simp [S.ofSt] at h,hm.own,fun b hb=>?_,hm.gl.keep (ZeF g w)⟩
  ·simp only [S.ofSt,S.seen,if_true,wA] at h;split at h<;>simp at h;exact absurd h.symm (fun e=>hne (e ▸ rfl))
  show (if _ then _ else _)=_;rw [aE]
  ·exact hm.z b hb
  intro h;obtain ⟨t,ht⟩:=rY.1 h;have:=hm.own b t ht;omega
 have:=Zou h0 true;simpa [S.seen,S.ofSt] using this
def ZgO.slB {t:Ow} {hv v:Value} {e:Bool} {sz lo len:Nat} {xs:List (List L)} (h:ZgO g w t hv e sz xs) (hw:Win sz lo len hv v) (hl:lo+len<=xs.length) :
  LR (g.lift w) w none v (.sl sz ((xs.drop lo).take len)):=by
 rcases h with ⟨rfl,rfl⟩ | ⟨b,o,rfl,rfl⟩ | ⟨b,off,cap,a,E,rfl,h2,h3,h4,h5,h6,h7⟩
 ·rcases hw with ⟨_,rfl,rfl,rfl⟩ | ⟨b,o,n,c,o',h,_⟩
  ·exact .slnil _ _
  cases h
 ·rcases hw with ⟨h,_⟩ | ⟨b,o,n,c,o',h,h1,rfl,_⟩
  ·cases h
  simp only [Value.slice.injEq,zA,Addr.mk.injEq] at h;obtain ⟨_,rfl,rfl⟩:=h;have:len=0:=by simp at hl;omega
  subst this;simp only [List.drop_nil,List.take_nil,Nat.zero_sub];exact .slz _ _ _
 rcases hw with ⟨h,_⟩ | ⟨b',o,n,c,o',h,h1,rfl,k1,k2⟩
 ·cases h
 simp only [Value.slice.injEq,zA,Addr.mk.injEq] at h;obtain ⟨⟨rfl,rfl,-⟩,rfl,rfl⟩:=h;have hlen:((xs.drop lo).take len).length=len:=by simp;omega
 by_cases hc:lo<cap
 ·have:=k1 hc;subst this;refine .sl _ b _ len (cap-lo) sz _ hlen aF ?_ ((ER.keep' (ZeF g w) (h7.dropN lo aF) fun _ _ _=>rfl).takeN len);show _<=if _ then _ else _
  rw [aD (by rw [h3];rfl)];have hbs:Zff w b=a.size:=by simp [Zff,h4]
  rw [hbs];have:lo*sz+len*sz<=cap*sz:=by rw [<-Nat.add_mul];exact wX _ aF
  omega
 have:len=0:=aF
 subst this;rw [(aF:cap-lo=0),List.take_zero];exact .slz _ _ _
def ZlW (hm:ZdK g s w) {oc:List L} {md:Nat} {tv:TV} {c:CV} {ps:List Prop} {v:Value} {i:Nat} (h:toCVB s oc md tv=some (c,ps)) (hp:Zce ps) (hv:ZdM g s w v tv):CVR ((g.lift w).out true) w i v c:=by
 have K1:ZcK g ((g.lift w).out true) w w:=(ZeF g w).trans (ZfG _ true w);unfold toCVB at h;split at h
 ·rename_i src sz lo len;split at h<;>try (cases h;done)
  rename_i e sz' xs ps' hr;split at h<;>simp only [zA,zE,reduceCtorEq] at h;rename_i hz;subst hz;obtain ⟨rfl,rfl⟩:=h;rw [Zce.append] at hp;obtain ⟨hv0,t0,k1,k2,_⟩:=Zfs hm hr hp.2;obtain ⟨w1,w2,_⟩:=ZhJ hp.1;refine ⟨hv.1,?_⟩;rw [w1];exact LR.keep (ZfG _ true w) (k2.slB (hv.2.2.2 _ k1) w2)
 ·rename_i r off n lo len;split at h<;>try (cases h;done)
  rename_i c0 ps' hc;split at h<;>try (cases h;done)
  rename_i k m xs hseg;split at h<;>try (cases h;done)
  rename_i hmn;subst hmn;have main:Zce ps'->LR ((g.lift w).out true) w none v (.sl 1 (((xs.drop lo).take len).map fun x=>[.int k x])):=by
   intro hp';obtain ⟨hin,hok,t,hblk⟩:=Zeg hm hc hp';obtain ⟨q1,o',rfl,q4⟩:=hv.2.2.2 hok;obtain ⟨h2,h3,a,E,h4,h5⟩:=hblk;obtain ⟨k1,k2⟩:=h5.atArr hseg;refine LR.keep (ZfG _ true w) ?_;have hlen:(((xs.drop lo).take len).map fun x=>[zK k x]).length=len:=by simp;omega
   by_cases hlt:lo<m
   ·have:=q4 hlt;subst this;have hsz:off+m<=a.size:=by
     have h6:=k2 (m-1) aF;have h7:off+(m-1)<a.toList.length:=by
      rcases zX (off+(m-1)) a.toList.length with h' | h'
      ·exact h'
      rw [zM h'] at h6;cases h6
     simp at h7;omega
    refine .sl _ _ _ len (m-lo) 1 _ hlen aF ?_ (Zlc k _ fun j v hj=>?_)
    ·show _<=if _ then _ else _
     rw [aD (by rw [h2];rfl)];have hbs:Zff w (g.rb r)=a.size:=by simp [Zff,h4]
     rw [hbs];omega
    simp only [yR,yT,List.getElem?_drop] at hj;split at hj<;>simp at hj;rename_i hjl;obtain ⟨y,hy,rfl⟩:=hj;have h6:=k2 (lo+j) aF;have h8:xs.getD (lo+j) 0=y:=by simp [List.getD,hy]
    rw [h8] at h6;simp only [World.cell?,h4];rw [(aF:off+lo+j=off+(lo+j))];simpa using h6
   have hl0:len=0:=aF
   subst hl0;rw [List.take_zero,List.map_nil,(aF:m-lo=0)];exact .slz _ _ _
  split at h<;>simp only [zA,zE] at h<;>obtain ⟨rfl,rfl⟩:=h
  ·rename_i hh;obtain ⟨rfl,rfl⟩:=hh;have:=main hp;refine ⟨hv.1,?_⟩;obtain ⟨_,_,t,hblk⟩:=Zeg hm hc hp;obtain ⟨h2,h3,a,E,h4,h5⟩:=hblk;have hxl:=(h5.atArr hseg).1;rwa [List.drop_zero,zW aF] at this
  exact ⟨hv.1,main hp⟩
 have h1:=ZkD hm (pu:=true) (i:=i) h hp hv;have K0:ZcK (g.out true) ((g.lift w).out true) w w:=⟨fun _ _=>rfl,zH _,(ZeF g w).Z,fun _ _ _=>rfl,fun _ _=>rfl⟩
 exact CVR.in K0 (ZkE h) h1
def Zli {oc:List L} {md:Nat} {a:Act} (hs:Sat g s w a.tmps) : ∀{xs:List Operand} {cs:List CV} {ps:List Prop} {i:Nat},Zpo s oc md xs=some (cs,ps)->Zce ps->Zgg ((g.lift w).out true) w i (xs.map a.eval) cs
 | [],cs,ps,i,h,hp=>by simp only [Zpo,zA,zE] at h;obtain ⟨rfl,rfl⟩:=h;rfl
 | x::xs,cs,ps,i,h,hp=>by
  simp only [Zpo] at h;split at h<;>try cases h
  rename_i tv hx;split at h<;>simp only [zA,zE,reduceCtorEq] at h;rename_i c ps1 cs1 qs1 h1 h2;obtain ⟨rfl,rfl⟩:=h;rw [Zce.append] at hp;exact ⟨_,_,rfl,ZlW hs.mem h1 hp.1 (ZbN hs hx),Zli hs h2 hp.2⟩
def LR.plain {p:Option (Nat×Nat)} {v:Value} {x:L} (hob:g'.ob=g.ob) (hnob:g'.nob=g.nob) (hx:x.plain=true) (h:LR g w p v x):LR g' w' p v x:=by
 cases h<;>first | (simp [L.plain] at hx;done) | skip
 ·exact .int _ _ _
 ·exact .bool _ _
 ·exact .str _ _
 ·exact .nilp _
 rename_i i hi;rw [<-hob];exact .ref _ i (by rw [hnob];exact hi)
def CR.plain (hob:g'.ob=g.ob) (hnob:g'.nob=g.nob) : ∀{p:Option (Nat×Nat)} {vs:List Value} {ls:List L},CR g w p vs ls->ls.all L.plain=true->CR g' w' p vs ls
 | _,_,_,.nil _,_=>.nil _
 | _,_,_,.one _ v vs l ls hv h1 hr,hp=>by
  simp only [yQ,zV] at hp;exact .one _ v vs l ls (LR.plain hob hnob hp.1 hv) h1 (CR.plain hob hnob hr hp.2)
 | _,_,_,.arr _ k n xs vs ls hn hr,hp=>by
  simp only [yQ,zV] at hp;exact .arr _ k n xs vs ls hn (CR.plain hob hnob hr hp.2)
 | _,_,_,.brr _ n xs vs ls hn hr,hp=>by
  simp only [yQ,zV] at hp;exact .brr _ n xs vs ls hn (CR.plain hob hnob hr hp.2)
def ER.plain (hob:g'.ob=g.ob) (hnob:g'.nob=g.nob) : ∀{xs:List (List L)} {b off sz:Nat},ER g w b off sz xs->Zes xs=true->ER g' w b off sz xs
 | _,_,_,_,.nil _ _ _,_=>.nil _ _ _
 | _,_,_,_,.cons b off sz vs x xs hn hc hx hr,hp=>by
  simp only [Zes,yQ,zV] at hp;exact .cons _ _ _ vs x xs hn hc (CR.plain hob hnob hx hp.1) (ER.plain hob hnob hr hp.2)
def G.backB (g:G) (w:World) (g':G) (p n:Nat) (hv:Value):G:=
 { g' with ow:=fun b=>if b<w.heap.size then g.ow b else Zgt p n (g'.ow b),Z:=fun b=>if b<w.heap.size then g.Z b else g'.Z b,sb:=g.sb,hd:=ZgJ g.hd n hv}
def ZqY (g:G) (b:Nat):(g.out true).ow b=none\/(g.out true).ow b=some .foreign:=by
 cases h:g.ow b with
 | none=>exact .inl (Zjn.2 h)
 | some t=>
  right;cases t<;>simp [G.out,h];rename_i b' o;cases h2:g.ow b' with
  | none=>rfl
  | some t2=>cases t2<;>rfl
def ZhY (hM:Mod ((g.lift w).out true) g' w w') {p n:Nat} {hv:Value} {b:Nat} (hb:b<w.heap.size):Zhw g (g.backB w g' p n hv) w w' b:=by
 have h1:Zhw ((g.lift w).out true) g' w w' b:=by
  rcases hM.same b hb with h1 | h1
  ·exact h1
  rcases ZqY (g.lift w) b with h2 | h2
  ·exact absurd h2 h1.1
  exact absurd h2 h1.2
 refine ⟨h1.1,?_,?_⟩
 ·show (if b<w.heap.size then g.ow b else _)=_;rw [aD hb]
 show (if b<w.heap.size then g.Z b else _)=_;rw [aD hb]
def ZmT (hm:ZdK g s w) (hM:Mod ((g.lift w).out true) g' w w') {p n:Nat} {hv:Value}:ZcK g (g.backB w g' p n hv) w w':=by
 refine ⟨hM.keep.ob,hM.keep.nob,fun b=>?_,fun b o ho=>?_,fun b ho=>?_⟩
 rotate_left 2
 ·have hb:b<w.heap.size:=by
   rcases zX b w.heap.size with h | h
   ·exact h
   rw [hm.z b h] at ho;omega
  simp only [ZiB];rw [(ZhY (p:=p) (n:=n) (hv:=hv) hM hb).1]
 ·show g.Z b<=if b<w.heap.size then g.Z b else g'.Z b
  split
  ·exact zH _
  rw [hm.z b aF];exact xD _
 have hb:b<w.heap.size:=by
  rcases zX b w.heap.size with h | h
  ·exact h
  rw [hm.z b h] at ho;omega
 exact Zdr (ZhY (p:=p) (n:=n) (hv:=hv) hM hb).1
def Zvg (hm:ZdK g s w) (hM:Mod ((g.lift w).out true) g' w w') {p n:Nat} {hv:Value}:Mod g (g.backB w g' p n hv) w w':=by
 refine ⟨ZmT hm hM,hM.os,hM.tape,hM.output,hM.size,fun b hb=>.inl (ZhY hM hb),fun b hb h1 h2=>?_,hM.newob⟩;have e:(g.backB w g' p n hv).ow b=g.ow b:=(ZhY hM hb).2.1;rw [e] at h1 h2;exact ⟨h1,h2⟩
def Zqu {s s':S} {a:Act} {dst:Option Nat} {n:Nat} {rs:List CV} {tvs:List TV} {r:Option (Nat×Ent)} {us:List Value}
  (hs:Sat g s w a.tmps) (hrs:ZhG n 0 rs=some (tvs,r)) (hX:(Ziu n r).all (fun n=>!TV.mens n s.sl)=true) (hfl:rs.all Zsg=true) (hpl : ∀e sz xs,CV.row e sz xs∈rs->Zes xs=true)
  (hM:Mod ((g.lift w).out true) g' w w') (hm':ZdK g' (.ofSt (s.seen true)) w') (hus:Zgg g' w' 0 us rs)
  (esl:s'.sl=(s.put dst (ZgR tvs)).sl) (esi:s'.si=(s.setEnt? n r).si) (est:s'.st=s.st) (eep:s'.ep=s.ep) :
  ∃g'',Mod g g'' w w'/\ZbA (· ∈ Ziu n r) s s' g g'' w w'/\Sat g'' s' w' (a.put dst (ZqC us)).tmps:=by
 obtain ⟨hr1,hr2⟩:=Zkf hrs;have hm:=hs.mem;obtain ⟨p,hv,hrow,hnone⟩ : ∃p hv,(∀(j:Nat) (e:Bool) (sz:Nat) (xs:List (List L)),rs[j]? = some (CV.row e sz xs)->us[j]? = some hv/\p=j)/\(r=none->hv=g.hd n):=by
  cases hr:r with
  | none=>exact ⟨0,g.hd n,fun j e sz xs h=>(by have:=hr1 j e sz xs h;rw [hr] at this;cases this),fun _=>rfl⟩
  | some q=>
   obtain ⟨j,e,sz,xs,rfl,h2⟩:=hr2 q hr;obtain ⟨v,h3,h4⟩:=hus.get h2;refine ⟨j,v,fun j' e' sz' xs' h=>?_,fun h=>by cases h⟩;have:=hr1 j' e' sz' xs' h;rw [hr] at this;simp only [yE,zA,zE] at this;obtain ⟨rfl,_⟩:=this;exact ⟨h3,rfl⟩
 have K:=ZmT (p:=p) (n:=n) (hv:=hv) hm hM;have sm : ∀{b:Nat} {t:Ow},g.ow b=some t->Zhw g (g.backB w g' p n hv) w w' b:=fun {b t} h=>ZhY hM (hm.own b t h);have hnob:g'.nob=g.nob:=by
  have h1:=hm'.stl;simp only [S.ofSt,S.seen,if_true,uA] at h1;exact h1.symm.trans hm.stl
 have newrow : ∀{v:Value} {e:Bool} {sz:Nat} {xs:List (List L)},Zes xs=true->ZgO g' w' (.rowS p) v e sz xs->ZgO (g.backB w g' p n hv) w' (.rowS n) v e sz xs:=by
  rintro v e sz xs hplain (h1 | h1 | ⟨b1,o1,cap,aa,E,rfl,k2,k3,k4,k5,k6,k7⟩)
  ·exact .inl h1
  ·exact .inr (.inl h1)
  have hb : ¬ b1<w.heap.size:=by
   intro hb;rcases hM.same b1 hb with h2 | h2
   ·rcases ZqY (g.lift w) b1 with h3 | h3<;>(rw [h2.2.1,h3] at k3;cases k3)
   rcases ZqY (g.lift w) b1 with h3 | h3
   ·exact absurd h3 h2.1
   exact absurd h3 h2.2
  refine .inr (.inr ⟨b1,o1,cap,aa,E,rfl,k2,?_,k4,k5,?_,ER.plain (g:=g') (g':=g.backB w g' p n hv) rfl rfl k7 hplain⟩)
  ·show (if b1<w.heap.size then g.ow b1 else Zgt p n (g'.ow b1))=_;rw [aE hb,k3];simp [Zgt]
  show (if b1<w.heap.size then g.Z b1 else g'.Z b1)=_;rw [aE hb];exact k6
 have hslots : ∀{rs:List CV} {i:Nat} {us:List Value} {tvs:List TV} {r:Option (Nat×Ent)},ZhG n i rs=some (tvs,r)->rs.all Zsg=true ->
   Zgg g' w' i us rs->(∀(j:Nat) (e:Bool) (sz:Nat) (xs:List (List L)),rs[j]? = some (CV.row e sz xs)->us[j]? = some hv)->ZfK (g.backB w g' p n hv) s' w' us tvs:=by
  intro rs
  induction rs with
  | nil=>
   intro i us tvs r h _ hu _;simp only [ZhG,zA,zE] at h;obtain ⟨rfl,rfl⟩:=h;exact hu
  | cons c cs ih=>
   intro i us tvs r h hfl hu hr;simp only [yQ,zV] at hfl;obtain ⟨v,rest,rfl,hc,hu⟩:=hu;simp only [ZhG] at h;split at h<;>try cases h
   rename_i tvs1 r1 h1;have ih:=ih h1 hfl.2 hu fun j e sz xs hj=>by simpa using hr (j+1) e sz xs (aR hj)
   split at h
   ·simp only [zA,zE] at h;obtain ⟨rfl,rfl⟩:=h;exact ⟨v,rest,rfl,⟨hc.1,LR.plain (g:=g') rfl rfl hfl.1 hc.2⟩,ih⟩
   ·simp only [zA,zE] at h;obtain ⟨rfl,rfl⟩:=h;obtain ⟨vs,rfl,h3⟩:=hc;exact ⟨_,rest,rfl,⟨vs,rfl,CR.toTs (CR.plain (g:=g') (g':=g.backB w g' p n hv) (w':=w') rfl rfl h3 hfl.1)⟩,ih⟩
   rename_i e sz xs;split at h<;>simp only [zA,zE,reduceCtorEq] at h;obtain ⟨rfl,rfl⟩:=h;have hveq:=hr 0 e sz xs rfl;simp only [yJ,zA] at hveq;subst hveq;refine ⟨v,rest,rfl,?_,ih⟩;simp only [CVR] at hc;rcases hc with ⟨rfl,rfl⟩ | ⟨b1,o1,rfl,rfl⟩ | ⟨b1,o1,cap,aa,E,rfl,k2,k3,k4,k5,k6,k7⟩
   ·refine ⟨rfl,⟨_,_,rfl,.inl rfl⟩,fun _ _ _ _ _=>xD _,?_⟩;rintro hv' ⟨_,rfl⟩;left;exact ⟨Zbq _ _ _,rfl,rfl,rfl⟩
   ·refine ⟨rfl,⟨_,_,rfl,.inl rfl⟩,fun _ _ _ _ _=>xD _,?_⟩;rintro hv' ⟨_,rfl⟩;right;exact ⟨b1,o1,0,0,o1,Zbq _ _ _,⟨by simp,zH _⟩,by simp,fun h=>aF,fun _=>rfl⟩
   refine ⟨rfl,⟨_,_,rfl,.inr rfl⟩,fun _ _ _ _ _=>xD _,?_⟩;rintro hv' ⟨_,rfl⟩;right;exact ⟨b1,o1,xs.length,cap,o1,Zbq _ _ _,⟨aF,k2⟩,by simp,fun _=>by simp,fun _=>rfl⟩
 have hXn : ∀m,m∉Ziu n r->s'.si[m]? = s.si[m]? /\ (g.backB w g' p n hv).hd m=g.hd m:=by
  intro m hm;rw [esi];cases hr:r with
  | none=>
   refine ⟨rfl,?_⟩;by_cases e:m=n
   ·subst e;exact (Zbq _ _ _).trans (hnone hr)
   exact ZcZ _ _ e
  | some q=>
   rw [hr] at hm;have e:m≠n:=fun e=>hm (by simp [Ziu,e]);exact ⟨zO (fun e'=>e e'.symm),ZcZ _ _ e⟩
 have oldE : ∀m ent,s.si[m]? = some (some ent)->(g.backB w g' p n hv).hd m=g.hd m->Zgf (g.backB w g' p n hv) w' m ent:=by
  intro m ent h hhd;have h1:=hm.site m ent h;cases ent with
  | cells c=>exact Znq.keep K h1 (sm h1.1) (fun b' o hb=>sm hb)
  | row ver e sz xs=>
   simp only [Zgf] at h1 |-;rw [hhd];exact h1.keep K (fun b hb=>sm hb)
  | mp es=>
   simp only [Zgf] at h1 |-;rw [hhd];exact h1.keep K (fun b hb=>sm hb)
 have hmS:ZdK (g.backB w g' p n hv) s' w':=by
  refine ⟨by rw [est];exact hm.stl.trans hnob.symm,fun i c h hne=>?_,fun i hi=>?_,fun m ent h=>?_,fun b t h=>?_,fun b hb=>?_,hm.gl.keep K⟩
  ·rw [est] at h;have h1:=hm.obj i c h hne;have hi:i<g.nob:=by
    rw [<-hm.stl];rcases zX i s.st.length with h' | h'
    ·exact h'
    rw [zM h'] at h;cases h
   show Znq (g.backB w g' p n hv) w' (g'.ob i) (.obj i) c;rw [show g'.ob i=g.ob i from hM.keep.ob i hi];exact h1.keep K (sm h1.1) (fun b' o hb=>sm hb)
  ·have hi':i<g.nob:=by rw [<-hnob];exact hi
   show (g.backB w g' p n hv).ow (g'.ob i)=_\/(g.backB w g' p n hv).ow (g'.ob i)=_;rw [show g'.ob i=g.ob i from hM.keep.ob i hi'];rcases hm.objB i hi' with h1 | h1
   ·exact .inl ((sm h1).2.1.trans h1)
   exact .inr ((sm h1).2.1.trans h1)
  ·by_cases hmX:m∈Ziu n r
   ·obtain ⟨q,hq⟩ : ∃q,r=some q:=by
     cases hr:r with
     | none=>rw [hr] at hmX;simp [Ziu] at hmX
     | some q=>exact ⟨q,rfl⟩
    rw [hq] at hmX;simp [Ziu] at hmX;subst hmX;rw [esi,hq] at h;simp only [S.setEnt?,S.setEnt] at h;have hd:m<s.si.length:=by
     rcases zX m s.si.length with h' | h'
     ·exact h'
     rw [zM (aR h')] at h;cases h
    rw [zP hd] at h;simp only [zA] at h;obtain ⟨j,e,sz,xs,rfl,h2⟩:=hr2 q hq;simp only at h;subst h;obtain ⟨h3,rfl⟩:=hrow j e sz xs h2;obtain ⟨v,h4,h5⟩:=hus.get h2;rw [h3] at h4;cases h4;simp only [Zgf];rw [show (g.backB w g' p m hv).hd m=hv from Zbq _ _ _];simp only [CVR,yE] at h5;exact newrow (hpl e sz xs (List.mem_of_getElem? h2)) h5
   obtain ⟨h1,h2⟩:=hXn m hmX;rw [h1] at h;exact oldE m ent h h2
  ·by_cases hb:b<w.heap.size
   ·have:=hM.size;omega
   have e:(g.backB w g' p n hv).ow b=Zgt p n (g'.ow b):=by
    show (if _ then _ else _)=_;rw [aE hb]
   rw [e] at h;cases hb:g'.ow b with
   | none=>rw [hb] at h;cases h
   | some t'=>exact hm'.own b t' hb
  show (if b<w.heap.size then _ else _)=_;have:=hM.size;rw [aE aF];exact hm'.z b hb
 have k:ZbA (· ∈ Ziu n r) s s' g (g.backB w g' p n hv) w w':=by
  refine ⟨K,fun m hm' h=>?_,fun m ver hm' h=>?_,fun m hm' h=>?_,fun h rt hg hi hok _ _ off hv' hc=>?_,by rw [eep];exact zH _⟩
  ·obtain ⟨c,h⟩:=h;rw [(hXn m hm').1] at h;exact ⟨⟨c,h⟩,rfl⟩
  ·obtain ⟨e,sz,xs,h⟩:=h;rw [(hXn m hm').1] at h;exact .inl ⟨⟨e,sz,xs,h⟩,(hXn m hm').2⟩
  ·obtain ⟨es,h⟩:=h;rw [(hXn m hm').1] at h;exact ⟨⟨es,h⟩,(hXn m hm').2⟩
  left;have hsm:Zhw g (g.backB w g' p n hv) w w' (g.rb rt):=by
   cases rt with
   | site m=>
    obtain ⟨c,hok⟩:=hok;exact sm (hm.site m _ hok).1
   | obj i=>
    rcases hm.objB i hi with h | h<;>exact sm h
   | glob j=>exact absurd rfl (hg j)
  rwa [Zdr hsm.1] at hc
 have hfin:=hs.next k (fun m hm=>by
  have:=xM.1 hX m hm;simpa using this) hmS (by rw [esi];cases r<;>simp [S.setEnt?,S.setEnt]) (dst:=dst) (tv:=ZgR tvs) (v:=ZqC us) esl (fun _=>ZjZ (hslots hrs hfl hus fun j e sz xs h=>(hrow j e sz xs h).1))
 exact ⟨_,Zvg hm hM,k,hfin⟩
def ZiI : ∀{rs:List CV},Zce (ZsB rs)->∀e sz xs,CV.row e sz xs∈rs->Zes xs=true
 | [],_,_,_,_,h=>by cases h
 | c::cs,hp,e,sz,xs,h=>by
  cases c with
  | one x=>
   rcases xL.1 h with h | h
   ·cases h
   exact ZiI (rs:=cs) hp e sz xs h
  | agg x=>
   rcases xL.1 h with h | h
   ·cases h
   exact ZiI (rs:=cs) hp e sz xs h
  | row e' sz' xs'=>
   simp only [ZsB] at hp;rw [Zce.cons] at hp;rcases xL.1 h with h | h
   ·cases h;exact hp.1
   exact ZiI hp.2 e sz xs h
def ZdB.callB {s s':S} {o:Oper} {d:D} {X:List Nat} {ps:List Prop} (h:Dn.callB P s o d=some (X,s',ps)) (hp:Zce ps):ZdB P o X s s'/\(∃tv,s'.sl=(s.put o.dst tv).sl)/\X.all (fun n=>!TV.mens n s.sl)=true:=by
 unfold Dn.callB at h;split at h<;>try (cases h;done)
 rename_i f xs _ ho;split at h<;>try (cases h;done)
 rename_i cs ps1 tvs r hcs hrs;split at h<;>simp only [zA,zE,reduceCtorEq] at h;rename_i hX;simp only [zV] at hX;obtain ⟨hX,hfl⟩:=hX;obtain ⟨rfl,rfl,rfl⟩:=h;rw [Zce.append,Zce.append] at hp;obtain ⟨⟨hp1,hp2⟩,hp3⟩:=hp;simp only [Zce] at hp3;refine ⟨?_,⟨ZgR tvs,by cases o.dst<;>cases r<;>rfl⟩,hX⟩;intro g w a hs K Q hK;obtain ⟨hent,hp4⟩:=hp3 (s.seen true);unfold Oper.wp;have hrun:(execOp a.eval o).run P w = .ok (.enter f (xs.map a.eval).toArray) w:=by
  have:=Zgl hent (xs.map a.eval).toArray w;simp [execOp,ho,resolve,Deferred.ofValue,Act.eval,invoke,this]
 rw [hrun];show Calls P f _ w _;refine (hp4 ((g.lift w).out true) w _ (Zli hs hcs hp1) (ZpX hs.mem)).mono ?_;rintro e w' ⟨g',us,rfl,hM,hm',hus⟩;obtain ⟨g'',k1,k2,k3⟩:=Zqu hs hrs hX hfl (ZiI hp2) hM hm' hus (dst:=o.dst) (s':=(s.setEnt? (d.ns.headD 0) r).put o.dst (ZgR tvs)) (by cases o.dst<;>cases r<;>rfl) (by cases o.dst<;>rfl) (by cases o.dst<;>cases r<;>rfl) (by cases o.dst<;>cases r<;>rfl);exact hK _ _ _ k1 k2 k3
end
end Go.Dn
namespace Go.Dn
variable [Globs]
def stepY (P:Program):Zjg:=fun s o d=>
 match o.op with
 | .assign _=>if d.m=2 then (ZtW P s o).map fun r=>([],s.put o.dst r,[]) else Ztq P s o d
 | .build _ _=>if d.m=3 then (buildA P s o).map fun r=>([],s.put o.dst r,[]) else Ztq P s o d
 | .call { callee:=.value (.func _),.. }=>if d.m=2 then callB P s o d else if d.m=4 then (extOp s o P d).map fun r=>([],s.put o.dst r.1,r.2) else Ztq P s o d
 | _=>Ztq P s o d
def stepY_ok (P:Program):Zgs P (stepY P):=by
 intro s o d X s' ps h hp;have F:=stepF_ok P s o d X s' ps;have put : ∀{α:Type} {x:Option α} {f:α->TV} {g:α->List Prop},(∀r,x=some r->Zce (g r)->ZdB P o [] s (s.put o.dst (f r)))->x.map (fun r=>(([]:List Nat),s.put o.dst (f r),g r))=some (X,s',ps) ->
   ZdB P o X s s'/\(∃tv,s'.sl=(s.put o.dst tv).sl)/\X.all (fun n=>!TV.mens n s.sl)=true:=by
  intro α x f g hok hx;obtain ⟨r,h1,h2⟩:=zI.1 hx;simp only [zE] at h2;obtain ⟨rfl,rfl,rfl⟩:=h2;exact ⟨hok r h1 hp,⟨_,rfl⟩,rfl⟩
 unfold stepY at h;split at h
 ·split at h
  ·exact put (f:=id) (g:=fun _=>[]) (fun r hr _=>.nil2 hr) h
  exact F h hp
 ·split at h
  ·exact put (f:=id) (g:=fun _=>[]) (fun r hr _=>.buildA hr) h
  exact F h hp
 ·split at h
  ·exact ZdB.callB h hp
  split at h
  ·exact put (f:=Prod.fst) (g:=Prod.snd) (fun r hr hq=>.ext hr hq) h
  exact F h hp
 exact F h hp
def Zoa (P:Program):Zjg:=stepY P
def stepX_ok (P:Program):Zgs P (Zoa P):=stepY_ok P
def ZuP (s:S):List Operand->Option (List L)
 | []=>some []
 | x::xs=>match ev s x,ZuP s xs with
  | some (.one (.l y)),some ls=>if y.single then some (y::ls) else none
  | some (.one (.adr (.obj i) 0)),some ls=>some (.ptr (some i)::ls)
  | _,_=>none
def ZtZ (s:S) (o:Oper):Option TV:=
 match o.op with
 | .makeFunc (.func f) ⟨bs⟩ ⟨caps⟩=>(ZuP s (bs++caps)).map fun ls=>.one (.l (.fn f bs.length ls))
 | _=>none
section
variable {P:Program} {g g':G} {s:S} {w w':World}
def ZjJ {a:Act} (hs:Sat g s w a.tmps) : ∀{xs:List Operand} {ls:List L},ZuP s xs=some ls->CR g w none (xs.map a.eval) ls
 | [],ls,h=>by simp only [ZuP,zA] at h;subst h;exact .nil _
 | x::xs,ls,h=>by
  simp only [ZuP] at h;split at h<;>try (cases h;done)
  ·rename_i y ls' hx hxs;split at h<;>simp only [zA,reduceCtorEq] at h;subst h;have hv:=ZbN hs hx;exact .one _ _ _ _ _ hv.2 hv.1 (ZjJ hs hxs)
  rename_i i ls' hx hxs;simp only [zA] at h;subst h;have hv:=ZbN hs hx;obtain ⟨h1,_,h2,h3⟩:=hv;have:=h3 trivial;rw [xF,this];exact .one _ _ _ _ _ (.ref _ _ h2) rfl (ZjJ hs hxs)
def ZdB.mkFn {o:Oper} {tv:TV} (h:ZtZ s o=some tv):ZdB P o [] s (s.put o.dst tv):=by
 refine .value fun g w a hs=>?_;unfold ZtZ at h;split at h<;>try (cases h;done)
 rename_i f bs caps ho;obtain ⟨ls,h1,rfl⟩:=zI.1 h;have hc:=LR.fn (none:Option (Nat×Nat)) f bs.length _ _ (ZjJ hs h1);have hl:bs.length=(bs.map a.eval).length:=by simp
 rw [List.map_append,hl,List.take_left,List.drop_left] at hc;refine ⟨.func (.func f) (bs.map a.eval).toArray (caps.map a.eval).toArray,?_,rfl,by rw [hl];exact hc⟩;simp [execOp,ho,Instr.makeFunc]
def ZoW (s:S):Operand->Option (FuncId×List CV×List CV)
 | .func f=>some (f,[],[])
 | x=>match ev s x with
  | some (.one (.l (.fn f n cs)))=>if cs.all L.single then some (f,(cs.take n).map .one,(cs.drop n).map .one) else none
  | _=>none
def Zgg.append {i:Nat} : ∀{cs ks:List CV} {j:Nat} {us vs:List Value},Zgg g w j us cs->Zgg g w (j+cs.length) vs ks->Zgg g w j (us++vs) (cs++ks)
 | [],ks,j,us,vs,h,h'=>by rw [Zgg] at h;subst h;simpa using h'
 | c::cs,ks,j,us,vs,h,h'=>by
  obtain ⟨v,r,rfl,h1,h2⟩:=h;exact ⟨v,r++vs,rfl,h1,Zgg.append (i:=i) h2 (by rw [show j+1+cs.length=j+(c::cs).length by simp;omega];exact h')⟩
def Zgg.ones : ∀{ls:List L} {vs:List Value} {j:Nat},CR g w none vs ls->ls.all L.single=true->Zgg g w j vs (ls.map .one)
 | [],vs,j,h,_=>by cases h;rfl
 | l::ls,vs,j,h,hs=>by
  simp only [yQ,zV] at hs;cases h with
  | one _ v vs _ _ hv h1 hr=>exact ⟨v,vs,rfl,⟨h1,hv⟩,Zgg.ones (by simpa [bump] using hr) hs.2⟩
  | arr=>simp [L.single] at hs
  | brr=>simp [L.single] at hs
def CR.split : ∀{n:Nat} {vs:List Value} {ls:List L},CR g w none vs ls->ls.all L.single=true->CR g w none (vs.take n) (ls.take n)/\CR g w none (vs.drop n) (ls.drop n)
 | 0,vs,ls,h,_=>by simpa using ⟨CR.nil none,h⟩
 | n+1,vs,[],h,_=>by cases h;simpa using CR.nil none
 | n+1,vs,l::ls,h,hs=>by
  simp only [yQ,zV] at hs;cases h with
  | one _ v vs _ _ hv h1 hr=>
   obtain ⟨k1,k2⟩:=CR.split (n:=n) (by simpa [bump] using hr) hs.2;exact ⟨.one _ _ _ _ _ hv h1 k1,k2⟩
  | arr=>simp [L.single] at hs
  | brr=>simp [L.single] at hs
def Zku {a:Act} (hs:Sat g s w a.tmps) {x:Operand} {f:FuncId} {bs ks:List CV} (h:ZoW s x=some (f,bs,ks)) :
  ∃bu us:List Value,(∀args,Deferred.ofValue (a.eval x) args=pure { target:=.fn (.func f) us.toArray,args:=bu.toArray++args})/\∀g',ZcK g g' w w->∀j,Zgg g' w j bu bs/\Zgg g' w j us ks:=by
 unfold ZoW at h;split at h
 ·simp only [zA,zE] at h;obtain ⟨rfl,rfl,rfl⟩:=h;exact ⟨[],[],fun args=>by simp [Act.eval,Deferred.ofValue],fun _ _ _=>⟨rfl,rfl⟩⟩
 split at h<;>try (cases h;done)
 rename_i f' n cs hx;split at h<;>simp only [zA,zE,reduceCtorEq] at h;rename_i hsg;obtain ⟨rfl,rfl,rfl⟩:=h;have hv:=(ZbN hs hx).2;simp only [TR] at hv;generalize a.eval x=v at hv;cases hv with
 | fn _ _ _ vs _ hc=>
  have ha:(cs.take n).all L.single=true/\(cs.drop n).all L.single=true:=by
   rw [<-List.take_append_drop n cs,List.all_append,zV] at hsg;exact hsg
  exact ⟨vs.take n,vs.drop n,fun args=>by simp [Deferred.ofValue],fun g' K j=>⟨Zgg.ones (CR.keep K (CR.split hc hsg).1) ha.1,Zgg.ones (CR.keep K (CR.split hc hsg).2) ha.2⟩⟩
def callC (P:Program) (s:S) (o:Oper) (d:D):Option (List Nat×S×List Prop):=
 match o.op with
 | .call { callee:=.value x,args:=⟨xs⟩,.. }=>match ZoW s x,Zne s d.oc d.wm xs,ZhG (d.ns.headD 0) 0 d.rs with
  | some (f,bs,ks),some (cs,ps),some (tvs,r)=>
   if (Ziu (d.ns.headD 0) r).all (fun n=>!TV.mens n s.sl) then
    some (Ziu (d.ns.headD 0) r,{ (s.setEnt? (d.ns.headD 0) r).put o.dst (ZgR tvs) with st:=d.st,ep:=s.ep+1},ps ++ [Snd P f (bs++(cs++ks)) s.st d.rs d.st])
   else none
  | _,_,_=>none
 | _=>none
def ZdB.callC {s s':S} {o:Oper} {d:D} {X:List Nat} {ps:List Prop} (h:Dn.callC P s o d=some (X,s',ps)) (hp:Zce ps):ZdB P o X s s'/\(∃tv,s'.sl=(s.put o.dst tv).sl)/\X.all (fun n=>!TV.mens n s.sl)=true:=by
 unfold Dn.callC at h;split at h<;>try (cases h;done)
 rename_i x xs _ ho;split at h<;>try (cases h;done)
 rename_i f bs ks cs ps1 tvs r hcal hcs hrs;split at h<;>simp only [zA,zE,reduceCtorEq] at h;rename_i hX;obtain ⟨rfl,rfl,rfl⟩:=h;rw [Zce.append] at hp;obtain ⟨hp1,hp2⟩:=hp;simp only [Zce] at hp2;refine ⟨?_,⟨ZgR tvs,by cases o.dst<;>cases r<;>rfl⟩,hX⟩;obtain ⟨hent,hp3⟩:=hp2;intro g w a hs K Q hK;obtain ⟨bu,us0,hdef,hcap⟩:=Zku hs hcal;unfold Oper.wp;have hrun:(execOp a.eval o).run P w = .ok (.enter f (bu++(xs.map a.eval++us0)).toArray) w:=by
  have:=Zgl hent (bu++(xs.map a.eval++us0)).toArray w;simp [execOp,ho,resolve,hdef,invoke,this]
 rw [hrun];show Calls P f _ w _;have hargs:Zgg (g.out false) w 0 (bu++(xs.map a.eval++us0)) (bs++(cs++ks)):=Zgg.append (i:=0) (hcap _ (ZfG g false w) 0).1 (Zgg.append (i:=0) (Zic hs hcs hp1) (hcap _ (ZfG g false w) _).2);refine (hp3 (g.out false) w _ hargs (Zou hs.mem false)).mono ?_;rintro e w' ⟨g',us,rfl,hM,hm',hus⟩;obtain ⟨g'',k1,k2,k3⟩:=Zso (pu:=false) (st':=d.st) (s':={ (s.setEnt? (d.ns.headD 0) r).put o.dst (ZgR tvs) with st:=d.st,ep:=s.ep+1}) hs hrs hX hM hm' hus (fun h=>by cases h) (dst:=o.dst)
  (by cases o.dst<;>cases r<;>rfl) (by cases o.dst<;>rfl) rfl rfl
 exact hK _ _ _ k1 k2 k3
def G.outM (g:G) (n i:Nat):G:=
 { g with ow:=fun b=>match g.ow b with
  | some (.rowS m)=>if m=n then some (.rowS i) else some .foreign
  | some (.rowM b' o)=>match g.ow b' with
   | some (.obj _)=>some (.rowM b' o)
   | _=>some .foreign
  | some (.obj i)=>some (.obj i)
  | some _=>some .foreign
  | none=>none}
def G.backM (g:G) (n i:Nat) (g':G) (p d:Nat) (hv:Value):G:=
 { g' with ow:=fun b=>if (g.outM n i).ow b=some .foreign then g.ow b else Zgt p d (g'.ow b),sb:=g.sb,hd:=ZgJ g.hd d hv}
def ZhS {n i:Nat} {b:Nat}:(g.outM n i).ow b=none↔g.ow b=none:=by
 cases h:g.ow b with
 | none=>simp [G.outM,h]
 | some t=>
  cases t<;>simp [G.outM,h]
  ·rename_i b' o;cases h2:g.ow b' with
   | none=>simp
   | some t2=>cases t2<;>simp
  split<;>simp
def ZiO {n i:Nat} {b:Nat} (h:g.ow b=some .foreign):(g.outM n i).ow b=some .foreign:=by simp [G.outM,h]
def ZkN (g:G) (n i:Nat) (w:World):ZcK g (g.outM n i) w w:=⟨fun _ _=>rfl,zH _,fun _=>zH _,fun _ _ _=>rfl,fun _ _=>rfl⟩
def ZtQ (hm:ZdK g s w) (n i:Nat):ZdK (g.outM n i) (.ofSt s.st) w:=by
 refine ⟨hm.stl,fun j c h hne=>?_,fun j hj=>?_,fun m ent h=>by simp [S.ofSt] at h,fun b t h=>?_,hm.z,hm.gl.keep (ZkN g n i w)⟩
 ·obtain ⟨h2,h3,aa,E,h4,h5⟩:=hm.obj j c h hne;refine ⟨by show (g.outM n i).ow (g.ob j)=_;simp [G.outM,h2],h3,aa,E,h4,h5.keepO (ZkN g n i w) fun b' o hb=>⟨rfl,?_,rfl⟩⟩;have h2':g.ow (g.ob j)=some (.obj j):=h2;show (g.outM n i).ow b'=g.ow b';simp [G.outM,hb,h2']
 ·show (g.outM n i).ow (g.ob j)=_\/(g.outM n i).ow (g.ob j)=_;rcases hm.objB j hj with h | h
  ·left;simp [G.outM,h]
  exact .inr (ZiO h)
 cases hb:g.ow b with
 | none=>rw [ZhS.2 hb] at h;cases h
 | some t'=>exact hm.own b t' hb
section
variable {n i:Nat}
def Zgd (hm:ZdK g s w) (hM:Mod (g.outM n i) g' w w') {p d:Nat} {hv:Value} {b:Nat} (h:(g.outM n i).ow b=some .foreign):Zhw g (g.backM n i g' p d hv) w w' b:=by
 have hb:b<w.heap.size:=by
  cases hb:g.ow b with
  | none=>rw [ZhS.2 hb] at h;cases h
  | some t=>exact hm.own b t hb
 have h1:Zhw (g.outM n i) g' w w' b:=by
  rcases hM.same b hb with h1 | h1
  ·exact h1
  exact absurd h h1.2
 refine ⟨h1.1,?_,h1.2.2⟩;show (if (g.outM n i).ow b=some .foreign then g.ow b else _)=_;rw [aD h]
def Zpa (hm:ZdK g s w) (hM:Mod (g.outM n i) g' w w') {p d:Nat} {hv:Value} {b:Nat} {t:Ow} (h:g'.ow b=some t) (ht:t ≠ .foreign):(g.backM n i g' p d hv).ow b=Zgt p d (some t):=by
 show (if (g.outM n i).ow b=some .foreign then g.ow b else _)=_;rw [aE,h];intro h1;have hb:b<w.heap.size:=by
  cases hb:g.ow b with
  | none=>rw [ZhS.2 hb] at h1;cases h1
  | some t=>exact hm.own b t hb
 rcases hM.same b hb with h2 | h2
 ·rw [h2.2.1,h1] at h;cases h;exact ht rfl
 exact h2.2 h1
def ZmS (hM:Mod (g.outM n i) g' w w') {p d:Nat} {hv:Value}:ZcK g (g.backM n i g' p d hv) w w':=⟨hM.keep.ob,hM.keep.nob,hM.keep.Z,hM.keep.cell,hM.keep.mp⟩
def outM_own {b:Nat} (h1:(g.outM n i).ow b≠none) (h2:(g.outM n i).ow b≠some .foreign):g.ow b≠none/\g.ow b≠some .foreign:=
 ⟨fun e=>h1 (ZhS.2 e),fun e=>h2 (ZiO e)⟩
def Zvf (hm:ZdK g s w) (hM:Mod (g.outM n i) g' w w') {p d:Nat} {hv:Value}:Mod g (g.backM n i g' p d hv) w w':=by
 refine ⟨ZmS hM,hM.os,hM.tape,hM.output,hM.size,fun b hb=>?_,fun b hb h1 h2=>?_,hM.newob⟩
 ·by_cases h:g.ow b=none\/g.ow b=some .foreign
  ·left;rcases h with h | h
   ·have h0:=(ZhS (n:=n) (i:=i)).2 h;rcases hM.same b hb with h1 | h1
    ·refine ⟨h1.1,?_,h1.2.2⟩;show (if (g.outM n i).ow b=some .foreign then g.ow b else _)=_;rw [aE (by rw [h0];simp),h1.2.1,h0,h];rfl
    exact absurd h0 h1.1
   exact Zgd hm hM (ZiO h)
  exact .inr ⟨fun e=>h (.inl e),fun e=>h (.inr e)⟩
 by_cases h:(g.outM n i).ow b=some .foreign
 ·have:(g.backM n i g' p d hv).ow b=g.ow b:=(Zgd hm hM h).2.1;rw [this] at h1 h2;exact ⟨h1,h2⟩
 have e:(g.backM n i g' p d hv).ow b=Zgt p d (g'.ow b):=by
  show (if (g.outM n i).ow b=some .foreign then g.ow b else _)=_;rw [aE h]
 rw [e] at h1 h2;have h3:g'.ow b≠none:=fun e=>h1 (by rw [e];rfl);have h4:g'.ow b≠some .foreign:=fun e=>h2 (by rw [e];rfl);obtain ⟨h5,h6⟩:=hM.own b hb h3 h4;exact outM_own h5 h6
def ZuQ {s s':S} {d:Nat} {rs:List CV} {tvs:List TV} {r:Option (Nat×Ent)} {st':List (List L)} {us:List Value} {X:List Nat}
  (hs:ZdK g s w) (hrs:ZhG d 0 rs=some (tvs,r)) (hM:Mod (g.outM n i) g' w w') (hm':ZdK g' (.ofSt st') w') (hus:Zgg g' w' 0 us rs)
  (hsl:s'.si.length=s.si.length)
  (esi : ∀m,(m≠n->m∉Ziu d r->s'.si[m]? = s.si[m]?)/\(m=n->m∉Ziu d r->∀ent,s'.si[m]? ≠ some (some ent))/\(∀q,r=some q->m=d->∀ent,s'.si[m]? = some (some ent)->ent=q.2))
  (est:s'.st=st') (eep:s'.ep=s.ep+1) (hX : ∀m,m∈Ziu d r->m∈X) :
  ∃g'',Mod g g'' w w'/\ZbA (· ∈ X) s s' g g'' w w'/\ZdK g'' s' w'/\ZfK g'' s' w' us tvs:=by
 obtain ⟨hr1,hr2⟩:=Zkf hrs;obtain ⟨p,hv,hrow,hnone⟩ : ∃p hv,(∀(j:Nat) (e:Bool) (sz:Nat) (xs:List (List L)),rs[j]? = some (CV.row e sz xs)->us[j]? = some hv/\p=j)/\(r=none->hv=g.hd d):=by
  cases hr:r with
  | none=>exact ⟨0,g.hd d,fun j e sz xs h=>(by have:=hr1 j e sz xs h;rw [hr] at this;cases this),fun _=>rfl⟩
  | some q=>
   obtain ⟨j,e,sz,xs,rfl,h2⟩:=hr2 q hr;obtain ⟨v,h3,h4⟩:=hus.get h2;refine ⟨j,v,fun j' e' sz' xs' h=>?_,fun h=>by cases h⟩;have:=hr1 j' e' sz' xs' h;rw [hr] at this;simp only [yE,zA,zE] at this;obtain ⟨rfl,_⟩:=this;exact ⟨h3,rfl⟩
 have K:=ZmS (p:=p) (d:=d) (hv:=hv) hM;have K':ZcK g' (g.backM n i g' p d hv) w' w':=⟨fun _ _=>rfl,zH _,fun _=>zH _,fun _ _ _=>rfl,fun _ _=>rfl⟩
 have hXn : ∀m,m∉Ziu d r->(g.backM n i g' p d hv).hd m=g.hd m:=by
  intro m hm;cases hr:r with
  | none=>
   by_cases e:m=d
   ·subst e;exact (Zbq _ _ _).trans (hnone hr)
   exact ZcZ _ _ e
  | some q=>
   rw [hr] at hm;exact ZcZ _ _ (fun e=>hm (by simp [Ziu,e]))
 have oldE : ∀m ent,m≠n->s.si[m]? = some (some ent)->(g.backM n i g' p d hv).hd m=g.hd m->Zgf (g.backM n i g' p d hv) w' m ent:=by
  intro m ent hne h hhd;have h1:=hs.site m ent h;cases ent with
  | cells c=>
   simp only [Zgf] at h1 |-;have hl:(g.outM n i).ow (g.sb m)=some .foreign:=by simp [G.outM,h1.1]
   refine h1.keep K (Zgd hs hM hl) (fun b' o hb=>Zgd hs hM ?_);have:=h1.1;simp [G.outM,hb,this]
  | row ver e sz xs=>
   simp only [Zgf] at h1 |-;rw [hhd];exact h1.keep K (fun b hb=>Zgd hs hM (by simp [G.outM,hb,hne]))
  | mp es=>
   simp only [Zgf] at h1 |-;rw [hhd];exact h1.keep K (fun b hb=>Zgd hs hM (by simp [G.outM,hb,hne]))
 have newE : ∀q,r=some q->Zgf (g.backM n i g' p d hv) w' d q.2:=by
  intro q hr;obtain ⟨j,e,sz,xs,rfl,h2⟩:=hr2 q hr;obtain ⟨h3,rfl⟩:=hrow j e sz xs h2;obtain ⟨v,h4,h5⟩:=hus.get h2;rw [h3] at h4;cases h4;simp only [Zgf];rw [show (g.backM n i g' p d hv).hd d=hv from Zbq _ _ _];simp only [CVR,yE] at h5;rcases h5 with h5 | h5 | ⟨b1,o1,cap,aa,E,rfl,k2,k3,k4,k5,k6,k7⟩
  ·exact .inl h5
  ·exact .inr (.inl h5)
  refine .inr (.inr ⟨b1,o1,cap,aa,E,rfl,k2,?_,k4,k5,k6,k7.keep' K' fun _ _ _=>rfl⟩);rw [Zpa hs hM k3 aG];simp [Zgt]
 have ent : ∀m ent,s'.si[m]? = some (some ent)->Zgf (g.backM n i g' p d hv) w' m ent:=by
  intro m ent h;obtain ⟨e1,e2,e3⟩:=esi m;by_cases hmX:m∈Ziu d r
  ·obtain ⟨q,hq⟩ : ∃q,r=some q:=by
    cases hr:r with
    | none=>rw [hr] at hmX;simp [Ziu] at hmX
    | some q=>exact ⟨q,rfl⟩
   have hmd:m=d:=by rw [hq] at hmX;simpa [Ziu] using hmX
   subst hmd;rw [e3 q hq rfl ent h];exact newE q hq
  by_cases hmn:m=n
  ·exact absurd h (e2 hmn hmX ent)
  rw [e1 hmn hmX] at h;exact oldE m ent hmn h (hXn m hmX)
 have hm:ZdK (g.backM n i g' p d hv) s' w':=by
  refine ⟨by rw [est];exact hm'.stl,fun j c h hne=>?_,fun j hj=>?_,ent,fun b t h=>?_,hm'.z,hs.gl.keep K⟩
  ·rw [est] at h;obtain ⟨h2,h3,aa,E,h4,h5⟩:=hm'.obj j c h hne;refine ⟨(Zpa hs hM h2 aG).trans rfl,h3,aa,E,h4,h5.keepO K' fun b' o hb=>⟨rfl,?_,rfl⟩⟩;rw [Zpa hs hM hb aG,hb];rfl
  ·have h1:=hm'.objB j hj;show (g.backM n i g' p d hv).ow (g'.ob j)=_\/(g.backM n i g' p d hv).ow (g'.ob j)=_;by_cases hl:(g.outM n i).ow (g'.ob j)=some .foreign
   ·rw [(Zgd hs hM hl).2.1];by_cases hj':j<g.nob
    ·rw [show g'.ob j=g.ob j from hM.keep.ob j hj'];exact hs.objB j hj'
    have hb:g'.ob j<w.heap.size:=by
     cases hb:g.ow (g'.ob j) with
     | none=>rw [ZhS.2 hb] at hl;cases hl
     | some t=>exact hs.own _ t hb
    rcases h1 with h1 | h1
    ·have h4:=hM.own _ hb (by rw [h1];simp) (by rw [h1];simp);exact absurd hl h4.2
    rcases hM.same _ hb with h2 | h2
    ·have:=hM.newob j (Nat.le_of_not_lt hj') hj;omega
    exact absurd hl h2.2
   have e:(g.backM n i g' p d hv).ow (g'.ob j)=Zgt p d (g'.ow (g'.ob j)):=by
    show (if (g.outM n i).ow (g'.ob j)=some .foreign then g.ow _ else _)=_;rw [aE hl]
   rw [e];rcases h1 with h1 | h1<;>(rw [h1];simp [Zgt])
  by_cases hl:(g.outM n i).ow b=some .foreign
  ·have:g.ow b=some t:=by
    have e:(g.backM n i g' p d hv).ow b=g.ow b:=(Zgd hs hM hl).2.1;rw [e] at h;exact h
   have:=hs.own b t this;have:=hM.size;omega
  have e:(g.backM n i g' p d hv).ow b=Zgt p d (g'.ow b):=by
   show (if (g.outM n i).ow b=some .foreign then g.ow b else _)=_;rw [aE hl]
  rw [e] at h;cases hb:g'.ow b with
  | none=>rw [hb] at h;cases h
  | some t'=>exact hm'.own b t' hb
 have k:ZbA (· ∈ X) s s' g (g.backM n i g' p d hv) w w':=by
  have old : ∀m ent,m∉X->s'.si[m]? = some (some ent)->s.si[m]? = some (some ent)/\(g.backM n i g' p d hv).hd m=g.hd m:=by
   intro m ent hmX h;have hmX':m∉Ziu d r:=fun h=>hmX (hX m h);obtain ⟨e1,e2,e3⟩:=esi m;by_cases hmn:m=n
   ·exact absurd h (e2 hmn hmX' ent)
   exact ⟨by rw [<-e1 hmn hmX'];exact h,hXn m hmX'⟩
  refine ⟨K,fun m hm' h=>?_,fun m ver hm' h=>?_,fun m hm' h=>?_,fun h rt hg hi hok _ _ off hv' hc=>?_,by rw [eep];omega⟩
  ·obtain ⟨c,h⟩:=h;exact ⟨⟨c,(old m _ hm' h).1⟩,rfl⟩
  ·obtain ⟨e,sz,xs,h⟩:=h;exact .inl ⟨⟨e,sz,xs,(old m _ hm' h).1⟩,(old m _ hm' h).2⟩
  ·obtain ⟨es,h⟩:=h;exact ⟨⟨es,(old m _ hm' h).1⟩,(old m _ hm' h).2⟩
  omega
 refine ⟨_,Zvf hs hM,k,hm,?_⟩;clear hm k ent newE oldE hm' K esi hsl hr1 hr2 hnone hXn;have gen : ∀{rs:List CV} {j:Nat} {us:List Value} {tvs:List TV} {r:Option (Nat×Ent)},ZhG d j rs=some (tvs,r) ->
   Zgg g' w' j us rs->(∀(j:Nat) (e:Bool) (sz:Nat) (xs:List (List L)),rs[j]? = some (CV.row e sz xs)->us[j]? = some hv)->ZfK (g.backM n i g' p d hv) s' w' us tvs:=by
  intro rs
  induction rs with
  | nil=>
   intro j us tvs r h hu _;simp only [ZhG,zA,zE] at h;obtain ⟨rfl,rfl⟩:=h;exact hu
  | cons c cs ih=>
   intro j us tvs r h hu hr;obtain ⟨v,rest,rfl,hc,hu⟩:=hu;simp only [ZhG] at h;split at h<;>try cases h
   rename_i tvs1 r1 h1;have ih:=ih h1 hu fun j e sz xs hj=>by simpa using hr (j+1) e sz xs (aR hj)
   split at h
   ·simp only [zA,zE] at h;obtain ⟨rfl,rfl⟩:=h;exact ⟨v,rest,rfl,⟨hc.1,LR.keep K' hc.2⟩,ih⟩
   ·simp only [zA,zE] at h;obtain ⟨rfl,rfl⟩:=h;obtain ⟨vs,rfl,h3⟩:=hc;exact ⟨_,rest,rfl,⟨vs,rfl,CR.toTs (CR.keep K' h3)⟩,ih⟩
   rename_i e sz xs;split at h<;>simp only [zA,zE,reduceCtorEq] at h;obtain ⟨rfl,rfl⟩:=h;have hveq:=hr 0 e sz xs rfl;simp only [yJ,zA] at hveq;subst hveq;refine ⟨v,rest,rfl,?_,ih⟩;simp only [CVR] at hc;rcases hc with ⟨rfl,rfl⟩ | ⟨b1,o1,rfl,rfl⟩ | ⟨b1,o1,cap,aa,E,rfl,k2,k3,k4,k5,k6,k7⟩
   ·refine ⟨rfl,⟨_,_,rfl,.inl rfl⟩,fun _ _ _ _ _=>xD _,?_⟩;rintro hv' ⟨_,rfl⟩;left;exact ⟨Zbq _ _ _,rfl,rfl,rfl⟩
   ·refine ⟨rfl,⟨_,_,rfl,.inl rfl⟩,fun _ _ _ _ _=>xD _,?_⟩;rintro hv' ⟨_,rfl⟩;right;exact ⟨b1,o1,0,0,o1,Zbq _ _ _,⟨by simp,zH _⟩,by simp,fun h=>aF,fun _=>rfl⟩
   refine ⟨rfl,⟨_,_,rfl,.inr rfl⟩,fun _ _ _ _ _=>xD _,?_⟩;rintro hv' ⟨_,rfl⟩;right;exact ⟨b1,o1,xs.length,cap,o1,Zbq _ _ _,⟨aF,k2⟩,by simp,fun _=>by simp,fun _=>rfl⟩
 exact gen hrs hus fun j e sz xs h=>(hrow j e sz xs h).1
end
end
end Go.Dn
namespace Go.Dn
variable [Globs]
section
variable {P:Program} {g g':G} {s:S} {w w':World}
def Zip {d:D} {dd sz:Nat} {x:Operand} {s1:S} {n ver':Nat} {e:Bool} {xs:List (List L)} {X:List Nat} {ps:List Prop} (hb:appBase' s d dd sz x=some (s1,n,ver',e,xs,X,ps)) (hp1:Zce ps)
  {a:Act} (hs:Sat g s w a.tmps) : ∃g1,Mod g g1 w w/\ZdK g1 s1 w/\ZbA (· ∈ X) s s1 g g1 w w/\ZgO g1 w (.rowS n) (a.eval x) e sz xs/\(n∈X\/∃ver e1 sz xs1,s1.si[n]? = some (some (.row ver e1 sz xs1))/\ver<ver')/\s1.sl=s.sl/\s1.si.length=s.si.length:=by
 unfold appBase' at hb;split at hb
 ·rename_i hnil;split at hb<;>simp only [zA,zE,reduceCtorEq] at hb;obtain ⟨rfl,rfl,rfl,rfl,rfl,rfl,rfl⟩:=hb;have hv:a.eval x = .slice none 0 0:=by
   unfold Zrk at hnil;split at hnil
   ·rfl
   cases hnil
  exact ⟨g,.refl g w,hs.mem,.refl rfl rfl,.inl ⟨hv,rfl⟩,.inl aG,rfl,rfl⟩
 obtain ⟨bx,hx1,hx2⟩:=yD.1 hb;have hbx:=ZbN hs hx1;unfold ZmV at hx2;split at hx2
 ·rename_i n' ver sz' lo len;split at hx2<;>try (cases hx2;done)
  rename_i e0 sz0 xs0 qs0 hre;split at hx2<;>simp only [zA,zE,reduceCtorEq] at hx2;rename_i hh;obtain ⟨rfl,rfl,he⟩:=hh;obtain ⟨rfl,rfl,rfl,rfl,rfl,rfl,rfl⟩:=hx2;rw [Zce.append] at hp1;obtain ⟨hv0,t0,q1,q2,q3⟩:=Zfs hs.mem hre hp1.2;obtain ⟨rfl,rfl⟩:=q3 _ _ rfl;obtain ⟨w1,w2,w3⟩:=ZhJ hp1.1;have hr:=q2.win (hbx.2.2.2 _ q1) w2 (he.imp id w3);rw [w1];refine ⟨g,.refl g w,hs.mem,.refl rfl rfl,hr,.inr ?_,rfl,rfl⟩;simp only [Ziw] at hre;split at hre<;>try (cases hre;done)
  rename_i h1;split at hre<;>try (cases hre;done)
  rename_i hv1;exact ⟨_,_,_,_,h1,aF⟩
 ·rename_i r off ep sz' lo len;split at hx2<;>try (cases hx2;done)
  rename_i hh0;obtain ⟨rfl,hmen,hrd⟩:=hh0;split at hx2<;>try (cases hx2;done)
  rename_i c qs0 hc;split at hx2<;>try (cases hx2;done)
  rename_i e0 sz0 xs0 c' hgo;split at hx2<;>simp only [zA,zE,reduceCtorEq] at hx2;rename_i hh;obtain ⟨rfl,rfl,he⟩:=hh;obtain ⟨rfl,rfl,rfl,rfl,rfl,rfl,rfl⟩:=hx2;rw [Zce.append] at hp1;obtain ⟨w1,w2,w3⟩:=ZhJ hp1.1;obtain ⟨v,q1,q2,q3,q4,q5⟩:=Zpp hs.mem hc hp1.2 hgo hrd;have hr:=q5.win (hbx.2.2.2 _ q1) w2 (he.imp id w3);rw [w1];refine ⟨_,q2,q3,q4,hr,.inl aG,(ZdO _ _ _).1,?_⟩;simp only [S.setEnt,List.length_set];exact (ZdO _ _ _).2
 ·split at hx2<;>simp only [zA,zE,reduceCtorEq] at hx2;obtain ⟨rfl,rfl,rfl,rfl,rfl,rfl,rfl⟩:=hx2;refine ⟨g,.refl g w,hs.mem,.refl rfl rfl,?_,.inl aG,rfl,rfl⟩;have hl:=hbx.2;simp only [TR] at hl;generalize a.eval x=v at hl;cases hl with
  | ownnil=>exact .inl ⟨rfl,rfl⟩
  | ownz _ _ _ b o=>exact .inr (.inl ⟨b,o,rfl,rfl⟩)
 cases hx2
def ZmU {d:D} {dd sz:Nat} {x:Operand} {s1:S} {n ver':Nat} {e:Bool} {xs:List (List L)} {X:List Nat} {ps:List Prop} (hb:appBase' s d dd sz x=some (s1,n,ver',e,xs,X,ps)) :
  s1.sl=s.sl/\X.all (fun n=>!TV.mens n s.sl)=true:=by
 unfold appBase' at hb;split at hb
 ·split at hb<;>simp only [zA,zE,reduceCtorEq] at hb;rename_i hm;obtain ⟨rfl,_,_,_,_,rfl,_⟩:=hb;exact ⟨rfl,by simpa using hm⟩
 obtain ⟨tv,h1,h2⟩:=yD.1 hb;unfold ZmV at h2;split at h2
 ·split at h2<;>try (cases h2;done)
  split at h2<;>simp only [zA,zE,reduceCtorEq] at h2;obtain ⟨rfl,_,_,_,_,rfl,_⟩:=h2;exact ⟨rfl,rfl⟩
 ·split at h2<;>try (cases h2;done)
  rename_i hh;split at h2<;>try (cases h2;done)
  split at h2<;>try (cases h2;done)
  split at h2<;>simp only [zA,zE,reduceCtorEq] at h2;obtain ⟨rfl,_,_,_,_,rfl,_⟩:=h2;exact ⟨(ZdO _ _ _).1,by simp [hh.2.1]⟩
 ·split at h2<;>simp only [zA,zE,reduceCtorEq] at h2;rename_i hh;obtain ⟨rfl,_,_,_,_,rfl,_⟩:=h2;exact ⟨rfl,by simp [hh.2]⟩
 cases h2
def callM (P:Program) (s:S) (o:Oper) (d:D):Option (List Nat×S×List Prop):=
 match o.dst,o.op with
 | some dd,.call { callee:=.value y,args:=⟨x::xs⟩,.. }=>match ZoW s y,appBase' s d dd d.vm x,Zne s d.oc d.wm xs,ZhG dd 0 d.rs with
  | some (f,[],ks),some (s1,n,_,e,zs,X,ps),some (cs,qs),some (tvs,r)=>
   if TV.mens dd s.sl=false/\dd<s.si.length then
    some (dd::X,{ ({ s1 with si:=s1.si.set n none}.setEnt? dd r).put (some dd) (ZgR tvs) with st:=d.st,ep:=s1.ep+1},ps++qs ++ [Snd P f (.row e d.vm zs::(cs++ks)) s1.st d.rs d.st])
   else none
  | _,_,_,_=>none
 | _,_=>none
def ZdB.callM {s s':S} {o:Oper} {d:D} {X:List Nat} {ps:List Prop} (h:Dn.callM P s o d=some (X,s',ps)) (hp:Zce ps):ZdB P o X s s'/\(∃tv,s'.sl=(s.put o.dst tv).sl)/\X.all (fun n=>!TV.mens n s.sl)=true:=by
 unfold Dn.callM at h;split at h<;>try (cases h;done)
 rename_i dd y x xs _ hd ho;split at h<;>try (cases h;done)
 rename_i f ks s1 n ver' e zs X0 ps1 cs qs1 tvs r hcal hbase hcs hrs;split at h<;>simp only [zA,zE,reduceCtorEq] at h;rename_i hmen;obtain ⟨hmen,hdlt⟩:=hmen;obtain ⟨rfl,rfl,rfl⟩:=h;rw [Zce.append,Zce.append] at hp;obtain ⟨⟨hp1,hp2⟩,hp3⟩:=hp;simp only [Zce] at hp3;obtain ⟨hsl1,hX0⟩:=ZmU hbase;have hXall:(dd::X0).all (fun n=>!TV.mens n s.sl)=true:=by simp only [yQ,hX0,Bool.and_true];simpa using hmen
 have hsle:(({ ({ s1 with si:=s1.si.set n none}.setEnt? dd r).put (some dd) (ZgR tvs) with st:=d.st,ep:=s1.ep+1}:S)).sl=(s.put o.dst (ZgR tvs)).sl:=by
  rw [hd];cases r<;>simp [S.put,S.setEnt?,S.setEnt,hsl1]
 refine ⟨?_,⟨ZgR tvs,hsle⟩,hXall⟩;obtain ⟨hent,hp4⟩:=hp3;intro g w a hs K Q hK;obtain ⟨bu,us0,hdef,hcap'⟩:=Zku hs hcal;obtain rfl:bu = []:=(hcap' _ (.refl g w) 0).1;have hcap:=fun g' K j=>(hcap' g' K j).2;obtain ⟨g1,hM1,hm1,k1,hrow,hn,_,hsil⟩:=Zip hbase hp1 hs;unfold Oper.wp;have hrun:(execOp a.eval o).run P w = .ok (.enter f (a.eval x::(xs.map a.eval++us0)).toArray) w:=by
  have:=Zgl hent (a.eval x::(xs.map a.eval++us0)).toArray w;simp [execOp,ho,resolve,hdef,invoke,this]
 rw [hrun];show Calls P f _ w _;have hKo:ZcK (g.out false) (g1.outM n 0) w w:=⟨hM1.keep.ob,hM1.keep.nob,hM1.keep.Z,fun _ _ _=>rfl,fun _ _=>rfl⟩
 have hrest0 : ∀{us:List Value} {cs:List CV} {i j:Nat},(∀c∈cs,∀e sz xs,c≠CV.row e sz xs)->Zgg (g.out false) w i us cs->Zgg (g1.outM n 0) w j us cs:=by
  intro us cs
  induction cs generalizing us with
  | nil=>intro i j _ h;exact h
  | cons c cs ih=>
   intro i j hno h;obtain ⟨v,r,rfl,h1,h2⟩:=h;refine ⟨v,r,rfl,?_,ih (fun c hc=>hno c (yN _ hc)) h2⟩;have hc:=hno c (List.mem_cons_self ..);have h3:=CVR.in hKo hc h1;cases c with
   | one x=>exact h3
   | agg ls=>exact h3
   | row e sz xs=>exact absurd rfl (hc _ _ _)
 have hnor : ∀c∈cs,∀e sz xs,c≠CV.row e sz xs:=by
  have gen : ∀{xs:List Operand} {cs:List CV} {qs:List Prop},Zne s d.oc d.wm xs=some (cs,qs)->∀c∈cs,∀e sz xs,c≠CV.row e sz xs:=by
   intro xs
   induction xs with
   | nil=>intro cs qs h c hc;simp only [Zne,zA,zE] at h;obtain ⟨rfl,_⟩:=h;cases hc
   | cons x xs ih=>
    intro cs qs h c hc;simp only [Zne] at h;split at h<;>try cases h
    split at h<;>simp only [zA,zE,reduceCtorEq] at h;rename_i h1 h2;obtain ⟨rfl,_⟩:=h;rcases xL.1 hc with rfl | hc
    ·exact ZkE h1
    exact ih h2 c hc
  exact gen hcs
 have hargs:Zgg (g1.outM n 0) w 0 (a.eval x::(xs.map a.eval++us0)) (.row e d.vm zs::(cs++ks)):=by
  refine ⟨_,_,rfl,?_,Zgg.append (i:=0) (hrest0 hnor (Zic (i:=1) hs hcs hp2)) ?_⟩
  ·simp only [CVR];rcases hrow with h | h | ⟨b,off,cap,aa,E,h1,h2,h3,h4,h5,h6,h7⟩
   ·exact .inl h
   ·exact .inr (.inl h)
   refine .inr (.inr ⟨b,off,cap,aa,E,h1,h2,?_,h4,h5,h6,h7.keep' (ZkN g1 n 0 w) fun _ _ _=>rfl⟩);simp [G.outM,h3]
  exact hcap (g1.outM n 0) ⟨hM1.keep.ob,hM1.keep.nob,hM1.keep.Z,fun _ _ _=>rfl,fun _ _=>rfl⟩ _
 refine (hp4 (g1.outM n 0) w _ hargs (ZtQ hm1 n 0)).mono ?_;rintro e' w' ⟨g',us,rfl,hM,hm',hus⟩;have hsi : ∀m,m∉Ziu dd r->(({ s1 with si:=s1.si.set n none}:S).setEnt? dd r).si[m]? = (s1.si.set n none)[m]? := by
  intro m hm;cases r with
  | none=>rfl
  | some q=>exact zO (fun e=>hm (by simp [Ziu,<-e]))
 have esi : ∀m,(m≠n->m∉Ziu dd r->(({ s1 with si:=s1.si.set n none}:S).setEnt? dd r).si[m]? = s1.si[m]?)/\(m=n->m∉Ziu dd r->∀ent,(({ s1 with si:=s1.si.set n none}:S).setEnt? dd r).si[m]? ≠ some (some ent)) /\
   (∀q,r=some q->m=dd->∀ent,(({ s1 with si:=s1.si.set n none}:S).setEnt? dd r).si[m]? = some (some ent)->ent=q.2):=by
  intro m;refine ⟨fun h1 h2=>?_,fun h1 h2 ent h3=>?_,fun q hq h1 ent h=>?_⟩
  ·rw [hsi m h2];exact zO (fun e=>h1 e.symm)
  ·rw [hsi m h2] at h3;subst h1;by_cases hlt:m<s1.si.length
   ·rw [zP hlt] at h3;cases h3
   rw [zM aH] at h3;cases h3
  subst h1 hq;have h3:((s1.si.set n none).set m (some q.2))[m]? = some (some ent):=by cases q;exact h
  by_cases hlt:m<s1.si.length
  ·rw [zP (aR hlt)] at h3;cases h3;rfl
  rw [zM aH] at h3;cases h3
 obtain ⟨g'',j1,j2,j3,j4⟩:=ZuQ (d:=dd) (X:=dd::X0) (s':={ ({ s1 with si:=s1.si.set n none}.setEnt? dd r).put (some dd) (ZgR tvs) with st:=d.st,ep:=s1.ep+1}) hm1 hrs hM hm' hus
  (by cases r<;>simp [S.put,S.setEnt?,S.setEnt]) esi rfl rfl (fun m hm=>by
   cases r with
   | none=>simp [Ziu] at hm
   | some q=>simp [Ziu] at hm;simp [hm])
 have kk:=(show ZbA (· ∈ dd::X0) s s1 g g1 w w from ⟨k1.keep,fun m hm=>k1.cells m (fun h=>hm (yN _ h)),fun m v hm=>k1.row m v (fun h=>hm (yN _ h)),fun m hm=>k1.mp m (fun h=>hm (yN _ h)),
  fun h r hg hi hok hok' hX=>k1.mem h r hg hi hok hok' (fun m e h=>hX m e (yN _ h)),k1.ep⟩).trans j2
 refine hK g'' w' (ZqC us) (hM1.trans j1) kk (hs.next kk (fun m hm=>by have:=xM.1 hXall m hm;simpa using this) j3 ?_ (dst:=o.dst) (tv:=ZgR tvs) hsle (fun _=>ZjZ j4));cases r<;>simp [S.put,S.setEnt?,S.setEnt,hsil]
end
end Go.Dn
namespace Go.Dn
variable [Globs]
def isI (xs:List (List L)):Bool:=xs.all fun x=>match x with
 | [.int .i64 _]=>true
 | _=>false
def Zec (l:List Int):List (List L):=l.map fun n=>[.int .i64 n]
def ZlY (xs:List (List L)):List (List L):=Zec ((xs.map Zge).mergeSort fun x y=>decide (x<=y))
def SortC (P:Program) (f:FuncId):Prop:=
 ZqA P f/\(∀p cap w,Calls P f #[.slice p 0 cap] w fun e w'=>e = .returned (.tuple #[])/\w'=w) /\
 ∀(blk off cap:Nat) (zs:List Int) (w:World),Go.Sort.Holds (Value.int .i64) w blk off zs.toArray->blk<w.heap.size->zs.length<4611686018427387904 ->
  Calls P f #[.slice (some ⟨blk,off,none⟩) zs.length cap] w fun e w'=>e = .returned (.tuple #[])/\∃n os,w'=Go.Sort.grow (Go.Sort.putRow (Value.int .i64) (Go.Sort.ahead w n) blk off (zs.mergeSort fun x y=>decide (x<=y)).toArray) os
def Ztt (P:Program) (s:S) (o:Oper):Option (S×List Prop):=
 match o.op with
 | .call { callee:=.value (.func f),args:=⟨[x]⟩,.. }=>match ev s x with
  | some (.one (.h (.row n ver) 1 lo len))=>match s.si[n]? with
   | some (some (.row ver' true 1 xs))=>if ver=ver' then
     some ({ s with si:=s.si.set n (some (.row ver true 1 (ZlY xs)))}.put o.dst (.tup []),[lo=0,len=xs.length,isI xs=true,xs.length<4611686018427387904,SortC P f]) else none
   | _=>none
  | _=>none
 | _=>none
section
variable {P:Program} {g g':G} {s:S} {w w':World}
def Zjq : ∀{xs:List (List L)},isI xs=true->xs=Zec (xs.map Zge)
 | [],_=>rfl
 | x::xs,h=>by
  simp only [isI,yQ,zV] at h;have h1:=Zjq (xs:=xs) h.2;have h2:=h.1;split at h2<;>simp at h2;rename_i n;simp only [Zec,xF,Zge] at h1 |-;rw [<-h1]
def ER.cellsI : ∀{l:List Int} {b o:Nat},ER g w b o 1 (Zec l)->∀j v,(l.map (Value.int .i64))[j]? = some v->w.cell? (ad b (o+j))=some v
 | [],b,o,h,j,v,hj=>by simp at hj
 | y::ys,b,o,h,j,v,hj=>by
  simp only [Zec,xF] at h;cases h with
  | cons _ _ _ vs _ _ hn hc hx hr=>
   cases j with
   | zero=>
    simp only [xF,yJ,zA] at hj;cases hx with
    | one _ u us _ _ hv h1 hr'=>
     cases hr';have:=hv.int_eq;subst this;subst hj;exact hc 0 _ rfl
   | succ j=>
    simp only [xF,List.getElem?_cons_succ] at hj;have:=ER.cellsI (l:=ys) hr j v hj;rwa [(aF:o+(j+1)=o+1+j)]
def ZqM {blk off n:Nat} {d:Array Int} {os:Array Obj} {cur:Array Value} {E:TypeId} (h:w.heap[blk]? = some (.cells cur E (0,0))) :
  (Go.Sort.grow (Go.Sort.putRow (Value.int .i64) (Go.Sort.ahead w n) blk off d) os).heap[blk]? = some (.cells (Go.Sort.putCells (Value.int .i64) off d cur) E (0,0)) /\
  (∀b,b<w.heap.size->b≠blk->(Go.Sort.grow (Go.Sort.putRow (Value.int .i64) (Go.Sort.ahead w n) blk off d) os).heap[b]? = w.heap[b]?) /\
  w.heap.size<=(Go.Sort.grow (Go.Sort.putRow (Value.int .i64) (Go.Sort.ahead w n) blk off d) os).heap.size:=by
 have hlt:blk<w.heap.size:=by
  rcases zX blk w.heap.size with h' | h'
  ·exact h'
  rw [Array.getElem?_eq_none h'] at h;cases h
 have hs:(Go.Sort.putRow (Value.int .i64) (Go.Sort.ahead w n) blk off d).heap.size=w.heap.size:=by simp [Go.Sort.putRow,Go.Sort.mapBlock,Go.Sort.ahead]
 refine ⟨?_,fun b hb hne=>?_,?_⟩
 ·simp only [Go.Sort.grow];rw [vS (by rw [hs];exact hlt)];simp only [Go.Sort.putRow,Go.Sort.mapBlock,Go.Sort.ahead,tG,if_true,h,yS,Go.Sort.onCells]
 ·simp only [Go.Sort.grow];rw [vS (by rw [hs];exact hb)];simp only [Go.Sort.putRow,Go.Sort.mapBlock,Go.Sort.ahead,tG];rw [aE (fun e=>hne e.symm)]
 simp only [Go.Sort.grow,Array.size_append,hs];omega
def ZdB.sort {o:Oper} {s':S} {ps:List Prop} (h:Ztt P s o=some (s',ps)) (hp:Zce ps):ZdB P o [] s s'/\∃tv,s'.sl=(s.put o.dst tv).sl:=by
 unfold Ztt at h;split at h<;>try (cases h;done)
 rename_i f x _ ho;split at h<;>try (cases h;done)
 rename_i n ver lo len hx;split at h<;>try (cases h;done)
 rename_i ver' xs hsi;split at h<;>simp only [zA,zE,reduceCtorEq] at h;rename_i hver;subst hver;obtain ⟨rfl,rfl⟩:=h;simp only [Zce] at hp;obtain ⟨rfl,rfl,hI,hlen,hC⟩:=hp;refine ⟨fun g w a hs K Q hK=>?_,⟨.tup [],by cases o.dst<;>rfl⟩⟩;obtain ⟨hent,hC0,hC1⟩:=hC;have hxs:=Zjq hI;obtain ⟨zs,hzs⟩ : ∃zs,zs=xs.map Zge:=⟨_,rfl⟩
 rw [<-hzs] at hxs;have hzl:zs.length=xs.length:=by rw [hzs];simp
 have hrow:=hs.mem.site n _ hsi;simp only [Zgf] at hrow;have hnlt:n<s.si.length:=by
  rcases zX n s.si.length with h' | h'
  ·exact h'
  rw [zM h'] at hsi;cases hsi
 have hxv:=ZbN hs hx;have hwin:=hxv.2.2.2 (g.hd n) ⟨⟨_,_,_,hsi⟩,rfl⟩;have hrun:(execOp a.eval o).run P w = .ok (.enter f #[a.eval x]) w:=by
  have:=Zgl hent #[a.eval x] w;have hfun:a.eval (.func f) = .func (.func f) #[] #[]:=rfl;simp [execOp,ho,resolve,Deferred.ofValue,hfun,invoke,this]
 unfold Oper.wp;rw [hrun];show Calls P f _ w _;have fin : ∀w',w.heap.size<=w'.heap.size->(w'.os=w.os/\w'.tape=w.tape/\w'.output=w.output)->(∀b,b<w.heap.size->g.ow b≠some (.rowS n)->w'.heap[b]? = w.heap[b]?) ->
   (∀b o',o'<g.Z b->w'.cell? (ad b o')=w.cell? (ad b o'))->(∀b,0<g.Z b->ZiB w' b=ZiB w b)->ZgO g w' (.rowS n) (g.hd n) true 1 (ZlY xs)->K (a.put o.dst (.tuple #[])) w':=by
  intro w' h1 h2 h3 h4 h4' h5;have Kp:ZcK g g w w':=⟨fun _ _=>rfl,zH _,fun _=>zH _,h4,h4'⟩
  obtain ⟨j1,j2,j3⟩:=Zid (g':=g) (s':={ s with si:=s.si.set n (some (.row ver true 1 (ZlY xs)))}.put o.dst (.tup [])) hs.mem (X:=[]) (n:=n) (ver':=ver) (.inr ⟨_,_,_,_,hsi,.inr ⟨rfl,rfl⟩⟩) ⟨rfl,rfl,rfl⟩ (fun _ _=>rfl) Kp h2 h1
   (fun b hb hne=>⟨h3 b hb hne,rfl,rfl⟩) (fun b t hb=>by have:=hs.mem.own b t hb;omega) (fun b hb=>hs.mem.z b aF) h5 (by cases o.dst<;>rfl) (by cases o.dst<;>rfl) (by cases o.dst<;>rfl)
  refine hK g w' (.tuple #[]) j1 j3 (hs.next j3 (fun _ h=>by cases h) j2 (by cases o.dst<;>simp [S.put]) (dst:=o.dst) (tv:=.tup []) (by cases o.dst<;>rfl) (fun _=>?_));exact ⟨#[],rfl,by rw [ZfK]⟩
 rcases hrow with ⟨h0,h1⟩ | ⟨b,o1,h0,h1⟩ | ⟨b,off,cap,cur,E,h0,h2,h3,h4,h5,h6,h7⟩
 ·have hv:a.eval x = .slice none 0 0:=by
   rcases hwin with ⟨_,_,_,h⟩ | ⟨b,o,n',c,o',h,_⟩
   ·exact h
   rw [h0] at h;cases h
  rw [hv];refine (hC0 none 0 w).mono ?_;rintro e w' ⟨rfl,rfl⟩;exact fin w' (zH _) ⟨rfl,rfl,rfl⟩ (fun _ _ _=>rfl) (fun _ _ _=>rfl) (fun _ _=>rfl) (.inl ⟨h0,by rw [h1];simp [ZlY,Zec]⟩)
 ·have hv : ∃p c,a.eval x = .slice p 0 c:=by
   rcases hwin with ⟨h,_⟩ | ⟨b',o,n',c,o',h,h',hv,_⟩
   ·rw [h0] at h;cases h
   rw [h0] at h;cases h;have:xs.length=0:=by rw [h1];rfl
   rw [this] at hv;exact ⟨_,_,hv⟩
  obtain ⟨p,c,hv⟩:=hv;rw [hv];refine (hC0 p c w).mono ?_;rintro e w' ⟨rfl,rfl⟩;exact fin w' (zH _) ⟨rfl,rfl,rfl⟩ (fun _ _ _=>rfl) (fun _ _ _=>rfl) (fun _ _=>rfl) (.inr (.inl ⟨b,o1,h0,by rw [h1];simp [ZlY,Zec]⟩))
 rw [aD rfl] at h6;have hv:a.eval x = .slice (some ⟨b,off,none⟩) zs.length cap:=by
  rcases hwin with ⟨h,_⟩ | ⟨b',o,n',c,o',h,h',hv,k1,k2⟩
  ·rw [h0] at h;cases h
  rw [h0] at h;simp only [Value.slice.injEq,zA,Addr.mk.injEq] at h;obtain ⟨⟨rfl,rfl,-⟩,rfl,rfl⟩:=h;have:=k2 rfl;subst this;rw [hv,hzl,Nat.sub_zero]
 have hb:b<w.heap.size:=hs.mem.own b _ h3;have hcells:=ER.cellsI (l:=zs) (by rw [<-hxs];exact h7);have hfit:off+zs.length<=cur.size:=by rw [hzl];omega
 have hH:Go.Sort.Holds (Value.int .i64) w b off zs.toArray:=by
  intro j hj;have hj':j<zs.length:=by simpa using hj
  refine ⟨?_,by simp [World.frozen?,h4]⟩;have:=hcells j (.int .i64 zs[j]) (by simp [hj']);rw [show (zs.toArray)[j]! = zs[j] by simp [hj']];exact this
 rw [hv];refine (hC1 b off cap zs w hH hb (by rw [hzl];exact hlen)).mono ?_;rintro e w' ⟨rfl,nn,os,rfl⟩;obtain ⟨q1,q2,q3⟩:=ZqM (n:=nn) (off:=off) (d:=(zs.mergeSort fun x y=>decide (x<=y)).toArray) (os:=os) h4;have hcellb : ∀p,(Go.Sort.grow (Go.Sort.putRow (Value.int .i64) (Go.Sort.ahead w nn) b off (zs.mergeSort fun x y=>decide (x<=y)).toArray) os).cell? (ad b p)=(Go.Sort.putCells (Value.int .i64) off (zs.mergeSort fun x y=>decide (x<=y)).toArray cur)[p]? := fun p=>by simp [World.cell?,q1]
 refine fin _ q3 ⟨rfl,rfl,rfl⟩ (fun b' hb' hne=>q2 b' hb' (fun e=>hne (by rw [e];exact h3))) (fun b' o' ho'=>?_) (fun b' hb'=>?_) (.inr (.inr ⟨b,off,cap,_,E,?_,?_,h3,q1,?_,by rw [aD rfl];exact h6,?_⟩))
 ·by_cases e:b'=b
  ·subst e;omega
  have hb':b'<w.heap.size:=by
   rcases zX b' w.heap.size with h' | h'
   ·exact h'
   have:=hs.mem.z b' h';omega
  exact Zdr (q2 b' hb' e)
 ·by_cases e:b'=b
  ·rw [e,ZgA h4,ZgA q1]
  have hb'':b'<w.heap.size:=by
   rcases zX b' w.heap.size with h' | h'
   ·exact h'
   have:=hs.mem.z b' h';omega
  exact ZeE (q2 b' hb'' e)
 ·rw [h0];simp [ZlY,Zec]
 ·simpa [ZlY,Zec] using h2
 ·simpa [Go.Sort.putCells] using h5
 unfold ZlY;rw [<-hzs];refine Zlc .i64 _ fun j v hj=>?_;rw [hcellb];simp only [yR] at hj;obtain ⟨y,hy,rfl⟩:=zI.1 hj;have hjl:j<(zs.mergeSort fun x y=>decide (x<=y)).length:=by
  rcases zX j (zs.mergeSort fun x y=>decide (x<=y)).length with h' | h'
  ·exact h'
  rw [zM h'] at hy;cases hy
 have hjl':j<zs.length:=by simpa using hjl
 have hcur:off+j<cur.size:=aF
 simp only [Go.Sort.putCells,Array.getElem?_mapIdx,Array.getElem?_eq_getElem hcur,yS];rw [aD ⟨aF,by simpa using hjl'⟩]
 congr 2
 rw [(aF:off+j-off=j)];simp [hy]
end
def clrOp (P:Program) (s:S) (o:Oper):Option (S×List Prop):=
 match o.op with
 | .call { callee:=.builtin .clear,args:=⟨[x]⟩,argTypes:=⟨[t]⟩}=>match ev s x,P.underlying t with
  | some (.one (.h (.row n ver) 1 lo len)),some (.slice e)=>match s.si[n]?,P.info? e with
   | some (some (.row ver' true 1 xs)),some ie=>match ie.zero with
    | some (.int k z)=>if ver=ver' then
     some ({ s with si:=s.si.set n (some (.row ver true 1 (xs.take lo++zB len [zK k z])))}.put o.dst (.tup []),[lo+len=xs.length]) else none
    | _=>none
   | _,_=>none
  | _,_=>none
 | _=>none
section
variable {P:Program} {g g':G} {s:S} {w w':World}
def ZdB.clr {o:Oper} {s':S} {ps:List Prop} (h:clrOp P s o=some (s',ps)) (hp:Zce ps):ZdB P o [] s s'/\∃tv,s'.sl=(s.put o.dst tv).sl:=by
 unfold clrOp at h;split at h<;>try (cases h;done)
 rename_i x t ho;split at h<;>try (cases h;done)
 rename_i n ver lo len e hx hu;split at h<;>try (cases h;done)
 rename_i ver' xs ie hsi hie;split at h<;>try (cases h;done)
 rename_i k z hz;split at h<;>simp only [zA,zE,reduceCtorEq] at h;rename_i hver;subst hver;obtain ⟨rfl,rfl⟩:=h;simp only [Zce] at hp;refine ⟨fun g w a hs K Q hK=>?_,⟨.tup [],by cases o.dst<;>rfl⟩⟩;have hrow:=hs.mem.site n _ hsi;simp only [Zgf] at hrow;have hxv:=ZbN hs hx;have hwin:=hxv.2.2.2 (g.hd n) ⟨⟨_,_,_,hsi⟩,rfl⟩;have fin : ∀w',w.heap.size<=w'.heap.size->(w'.os=w.os/\w'.tape=w.tape/\w'.output=w.output)->(∀b,b<w.heap.size->g.ow b≠some (.rowS n)->w'.heap[b]? = w.heap[b]?) ->
   (∀b o',o'<g.Z b->w'.cell? (ad b o')=w.cell? (ad b o'))->(∀b,0<g.Z b->ZiB w' b=ZiB w b)->ZgO g w' (.rowS n) (g.hd n) true 1 (xs.take lo++zB len [zK k z])->(execOp a.eval o).run P w = .ok (.value (.tuple #[])) w'->o.wp P a w K Q:=by
  intro w' h1 h2 h3 h4 h4' h5 hrun;have Kp:ZcK g g w w':=⟨fun _ _=>rfl,zH _,fun _=>zH _,h4,h4'⟩
  obtain ⟨j1,j2,j3⟩:=Zid (g':=g) (s':={ s with si:=s.si.set n (some (.row ver true 1 (xs.take lo++zB len [zK k z])))}.put o.dst (.tup [])) hs.mem (X:=[]) (n:=n) (ver':=ver) (.inr ⟨_,_,_,_,hsi,.inr ⟨rfl,rfl⟩⟩) ⟨rfl,rfl,rfl⟩ (fun _ _=>rfl) Kp h2 h1
   (fun b hb hne=>⟨h3 b hb hne,rfl,rfl⟩) (fun b t hb=>by have:=hs.mem.own b t hb;omega) (fun b hb=>hs.mem.z b aF) h5 (by cases o.dst<;>rfl) (by cases o.dst<;>rfl) (by cases o.dst<;>rfl)
  unfold Oper.wp;rw [hrun];refine hK g w' (.tuple #[]) j1 j3 (hs.next j3 (fun _ h=>by cases h) j2 (by cases o.dst<;>simp [S.put]) (dst:=o.dst) (tv:=.tup []) (by cases o.dst<;>rfl) (fun _=>?_));exact ⟨#[],rfl,by rw [ZfK]⟩
 have hexec : ∀v r,a.eval x=v->(Builtin.clear_ #[t] o.type #[v]).run P w=r->(execOp a.eval o).run P w=r.andThen fun v w'=>.ok (.value v) w':=by
  intro v r h1 h2;subst h1 h2;simp [execOp,ho,resolve,invoke,builtin]
 have nothing:len=0->∀p c,a.eval x = .slice p 0 c->ZgO g w (.rowS n) (g.hd n) true 1 (xs.take lo++zB len [zK k z])->o.wp P a w K Q:=by
  intro hl p c hv hr;refine fin w (zH _) ⟨rfl,rfl,rfl⟩ (fun _ _ _=>rfl) (fun _ _ _=>rfl) (fun _ _=>rfl) hr ?_;have:(Builtin.clear_ #[t] o.type #[Value.slice p 0 c]).run P w = .ok (.tuple #[]) w:=by
   cases p<;>simp [Builtin.clear_,underlying,hu]
  rw [hexec _ _ hv this];rfl
 have keep0:len=0->xs.take lo++zB len [zK k z]=xs:=by
  intro hl;subst hl;simp only [List.replicate_zero,List.append_nil];exact zW aF
 by_cases hl0:len=0
 ·have hv : ∃p c,a.eval x = .slice p 0 c:=by
   rcases hwin with ⟨_,_,_,h⟩ | ⟨b,o,n',c,o',h,h',hv,_⟩
   ·exact ⟨_,_,h⟩
   rw [hl0] at hv;exact ⟨_,_,hv⟩
  obtain ⟨p,c,hv⟩:=hv;exact nothing hl0 p c hv (by rw [keep0 hl0];exact hrow)
 rcases hrow with ⟨h0,h1⟩ | ⟨b,o1,h0,h1⟩ | ⟨b,off,cap,cur,E,h0,h2,h3,h4,h5,h6,h7⟩
 ·rw [h1] at hp;simp at hp;omega
 ·rw [h1] at hp;simp at hp;omega
 rw [aD rfl] at h6;rcases hwin with ⟨h,_⟩ | ⟨b',o',n',c,oo,h,h',hv,k1,k2⟩
 ·rw [h0] at h;cases h
 rw [h0] at h;simp only [Value.slice.injEq,zA,Addr.mk.injEq] at h;obtain ⟨⟨rfl,rfl,-⟩,rfl,rfl⟩:=h;have hoo:=k1 aF;subst hoo;have hcs:((Builtin.zeroCells (Value.int k z).cells len).toList)=zB len (Value.int k z):=by
  apply List.ext_getElem?;intro i;simp only [Builtin.zeroCells,Value.cells,Array.toList_map,yR,Array.toList_range];by_cases hi:i<len
  ·simp [hi,wA,Nat.mod_one]
  simp [hi,wA]
 have hrun:=run_storeCells_at P b (off+lo*1) E (zB len (Value.int k z)) 0 cur w h4 aH (fun u hu=>by rw [List.eq_of_mem_replicate hu];rfl);simp only [vC,uQ,uA] at hrun;obtain ⟨cs,hcse⟩ : ∃cs,cs=(cur.toList.take (off+lo)++zB len (Value.int k z)++cur.toList.drop (off+lo+len)):=⟨_,rfl⟩
 rw [<-hcse] at hrun;have hnew:(w.setRow b cs.toArray).heap[b]? = some (.cells cs.toArray E (0,0)):=setRow_heap w _ cur _ E _ h4;have hi':=Zme hs.mem (cs:=cs.toArray) h4 h3 h6;have hcsl:cs.length=cur.size:=by subst hcse;simp;omega
 refine fin (w.setRow b cs.toArray) (Nat.le_of_eq hi'.size.symm) hi'.ho (fun b' _ hne=>(hi'.same b' hne).1) hi'.K.cell hi'.K.mp ?_ ?_
 ·refine .inr (.inr ⟨b,off,cap,cs.toArray,E,?_,?_,h3,hnew,by simp;omega,by rw [aD rfl];exact h6,?_⟩)
  ·rw [h0];simp;omega
  ·simp;omega
  have hcell : ∀p,(w.setRow b cs.toArray).cell? (ad b p)=cs[p]? := fun p=>by simp [World.cell?,hnew]
  refine ER.append ?_ ?_
  ·
   have front : ∀{ys:List (List L)} {o2:Nat},ER g w b o2 1 ys->o2+ys.length<=off+lo->ER g (w.setRow b cs.toArray) b o2 1 ys:=by
    intro ys o2 hy hle;refine hy.keep' hi'.K fun p hp1 hp2=>?_;have hcold:w.cell? (ad b p)=cur.toList[p]? := by simp [World.cell?,h4]
    rw [hcell,hcold];subst hcse;rw [yH,zS aH,yT,aD aF]
   exact front (h7.takeN lo) aH
  ·
   have zeros : ∀(m o2:Nat),off+lo<=o2->o2+m<=off+lo+len->ER g (w.setRow b cs.toArray) b o2 1 (zB m [zK k z]):=by
    intro m
    induction m with
    | zero=>intro o2 _ _;exact .nil _ _ _
    | succ m ih=>
     intro o2 h1 h2;rw [List.replicate_succ];refine .cons _ _ _ [.int k z] _ _ rfl (fun j v hj=>?_) (.one _ _ _ _ _ (.int _ _ _) rfl (.nil _)) (ih (o2+1) aF aF);cases j with
     | zero=>
      simp only [yJ,zA] at hj;subst hj;rw [hcell];subst hcse;have e1:(cur.toList.take (off+lo)).length=off+lo:=by simp;omega
      rw [yH,yA aF,zS aH,e1,wA,aD aF]
     | succ j=>simp at hj
   have hl:(xs.take lo).length=lo:=by simp;omega
   rw [hl];exact zeros len (off+lo*1) aF aF
 have hne:len≠0:=hl0;have:(Builtin.clear_ #[t] o.type #[Value.slice (some ⟨b,off+lo,none⟩) len (cap-lo)]).run P w = .ok (.tuple #[]) (w.setRow b cs.toArray):=by
  simp only [Builtin.clear_];simp [underlying,hu,zeroValue,typeInfo,hie,hz,hcs,hrun]
 rw [uQ] at hv;rw [hexec _ _ hv this];rfl
end
end Go.Dn
namespace Go.Dn
variable [Globs]
def Zma (s:S) (oc:List L) (md:Nat) (r:Root) (off:Nat) (tv:TV):Option (S×List Prop):=
 match tv with
 | .one (.h (.mem r' off' ep) sz lo len)=>if off'=off/\ep=s.ep then
   match ZgQ s oc r with
   | some (c,ps)=>match ZgL c off with
    | some (.own e sz' xs)=>if sz'=sz/\(e=true\/md<=1) then match ZfU c off 1 [.own e sz (win md xs lo len).1] with
      | some c'=>some ((s.setRoot r c').bump true,(r'=r)::(ps++(win md xs lo len).2))
      | none=>none
     else none
    | _=>none
   | none=>none
  else none
 | _=>none
def Ztw (P:Program) (s:S) (d:D) (o:Oper):Option (S×List Prop):=
 match o.dst,o.op with
 | none,.store t x y=>match ev s x,ev s y,P.info? t with
  | some (.one (.adr r off)),some tv,some i=>if i.size=1 then Zma s d.oc d.wm r off tv else none
  | some (.one (.l (.ptr (some j)))),some tv,some i=>if i.size=1 then Zma s d.oc d.wm (.obj j) 0 tv else none
  | _,_,_=>none
 | _,_=>none
section
variable {P:Program} {g g':G} {s:S} {w w':World}
def Zlj (hm:ZdK g s w) {t:TypeId} {i:TypeInfo} (hi:P.info? t=some i) (h1c:i.size=1) {oc:List L} {md:Nat} {r:Root} {off:Nat} {tv:TV} {s':S} {ps:List Prop} {v:Value}
  (h:Zma s oc md r off tv=some (s',ps)) (hp:Zce ps) (hv:ZdM g s w v tv) :
  ∃w' g',(storeVar t (ad (g.rb r) off) v).run P w = .ok () w'/\Mod g g' w w'/\ZdK g' s' w'/\ZbA (· ∈ []) s s' g g' w w':=by
 unfold Zma at h;split at h<;>try (cases h;done)
 rename_i r' off' ep sz lo len;split at h<;>try (cases h;done)
 rename_i hh;obtain ⟨rfl,rfl⟩:=hh;split at h<;>try (cases h;done)
 rename_i c ps' hc;split at h<;>try (cases h;done)
 rename_i e sz' xs hseg;split at h<;>try (cases h;done)
 rename_i hh;obtain ⟨rfl,he⟩:=hh;split at h<;>simp only [zA,zE,reduceCtorEq] at h;rename_i c' hrep;obtain ⟨rfl,rfl⟩:=h;rw [Zce.cons,Zce.append] at hp;obtain ⟨rfl,hp1,hp2⟩:=hp;obtain ⟨hri,hrok,hng,hblk⟩:=ZfD hm hc hp1;obtain ⟨cur,E,hb,hcr⟩:=hblk.heap;obtain ⟨u,hu1,hu2,hu3⟩:=hcr.at1 hseg rfl;simp only [bump,yE] at hu3;have hcell:w.cell? (ad (g.rb r') off')=some u:=by simp [World.cell?,hb];simpa using hu1
 have hrow:=Zlw.1 hu3;have hwin:=hv.2.2.2 u ⟨rfl,hrok,hcell⟩;obtain ⟨w1,w2,w3⟩:=ZhJ hp2;have hnew:=hrow.win hwin w2 (he.imp id w3);rw [<-w1] at hnew;have hone:v.oneCell'=true:=hv.1;have hcells:v.cells.toList = [v]:=Zke hone;have hlt:off'<cur.size:=by
  rcases zX off' cur.toList.length with h' | h'
  ·simpa using h'
  rw [zM h'] at hu1;cases hu1
 have hrun:=run_storeCells_at P (g.rb r') off' E [v] 0 cur w hb (by simp only [yX];omega) (aR hone);simp only [vC] at hrun;have hst:((s.setRoot r' c').drop []).bump true=(s.setRoot r' c').bump true:=rfl;obtain ⟨cs,hcs⟩ : ∃cs,cs=(cur.toList.take off' ++ [v]++cur.toList.drop (off' + [v].length)).toArray:=⟨_,rfl⟩
 have hcs':cs.toList=cur.toList.take off' ++ [v]++cur.toList.drop (off' + [v].length):=by rw [hcs]
 rw [<-hcs] at hrun;have key:=Zmh hm (c':=c') (cs:=cs) (off:=off') (m:=[]) (bp:=true) hc hp1 hb (fun q hq=>by cases hq) (fun h=>by cases h) (by
  intro K hmv hrw;have hl:LR (g.retag (g.rb r') off' []) (w.setRow (g.rb r') cs) (some (g.rb r',off')) v (.own e sz' (win md xs lo len).1):=
   LR.keepO K (fun b' h'=>hrw b' off' h') (Zlw.2 hnew)
  have:=(hcr.keepO K hrw).repl hrep (us:=[v]) (by simpa [Dn.bump] using CR.one _ v [] _ [] hl hone (.nil _)) rfl;rw [hcs'];exact this.2)
 rw [hst] at key;refine ⟨_,_,?_,key⟩;unfold storeVar;rw [Sem.run_bind,Zeb hi];have hne : ¬ (v.cells.size≠i.size):=by
  have:=congrArg List.length hcells;simp only [Array.length_toList,yX] at this;omega
 simp only [Result.andThen_ok,Sem.run_ite,aE hne,hcells];exact hrun
def ZdB.self {s s':S} {o:Oper} {d:D} {ps:List Prop} (h:Ztw P s d o=some (s',ps)) (hp:Zce ps):ZdB P o [] s s'/\∃tv,s'.sl=(s.put o.dst tv).sl:=by
 unfold Ztw at h;have hsl : ∀{r:Root} {off:Nat} {tv:TV},Zma s d.oc d.wm r off tv=some (s',ps)->s'.sl=s.sl/\s'.si.length=s.si.length:=by
  intro r off tv h;unfold Zma at h;split at h<;>try (cases h;done)
  split at h<;>try (cases h;done)
  split at h<;>try (cases h;done)
  split at h<;>try (cases h;done)
  split at h<;>try (cases h;done)
  split at h<;>simp only [zA,zE,reduceCtorEq] at h;obtain ⟨rfl,_⟩:=h;exact ZdO _ _ _
 split at h<;>try (cases h;done)
 rename_i t x y hd ho;split at h<;>try (cases h;done)
 ·rename_i r off tv i hx hy hi;split at h<;>try (cases h;done)
  rename_i h1c;obtain ⟨e1,e2⟩:=hsl h;refine ⟨fun g w a hs K Q hK=>?_,⟨.u,by rw [hd];exact e1⟩⟩;obtain ⟨w',g',k1,k2,k3,k4⟩:=Zlj hs.mem hi h1c h hp (ZbN hs hy);have hrok:Zfq s r:=by
   unfold Zma at h;split at h<;>try (cases h;done)
   split at h<;>try (cases h;done)
   rename_i hh;obtain ⟨rfl,rfl⟩:=hh;split at h<;>try (cases h;done)
   rename_i c ps' hc;split at h<;>try (cases h;done)
   split at h<;>try (cases h;done)
   split at h<;>simp only [zA,zE,reduceCtorEq] at h;obtain ⟨_,rfl⟩:=h;rw [Zce.cons,Zce.append] at hp;exact (Zeg hs.mem hc hp.2.1).2.1
  have hx2:=(ZbN hs hx).2.2.2 hrok;unfold Oper.wp;have hexec:(execOp a.eval o).run P w = .ok .skip w':=by simp [execOp,ho,hx2,Instr.storeAt,Instr.sureAddr,k1]
  rw [hexec];exact hK g' w' undef k2 k4 (hs.next k4 (fun _ h=>by cases h) k3 e2 (dst:=o.dst) (tv:=.u) (by rw [hd];exact e1) (by rw [hd];simp))
 rename_i j tv i hx hy hi;split at h<;>try (cases h;done)
 rename_i h1c;obtain ⟨e1,e2⟩:=hsl h;refine ⟨fun g w a hs K Q hK=>?_,⟨.u,by rw [hd];exact e1⟩⟩;obtain ⟨w',g',k1,k2,k3,k4⟩:=Zlj hs.mem hi h1c h hp (ZbN hs hy);have hx2:a.eval x = .pointer (some (ad (g.ob j) 0)):=by
  have:=(ZbN hs hx).2;simp only [TR] at this;generalize a.eval x=v at this;cases this;rfl
 unfold Oper.wp;have hexec:(execOp a.eval o).run P w = .ok .skip w':=by
  have k1':(storeVar t (ad (g.ob j) 0) (a.eval y)).run P w = .ok () w':=k1;simp [execOp,ho,hx2,Instr.storeAt,Instr.sureAddr,k1']
 rw [hexec];exact hK g' w' undef k2 k4 (hs.next k4 (fun _ h=>by cases h) k3 e2 (dst:=o.dst) (tv:=.u) (by rw [hd];exact e1) (by rw [hd];simp))
end
end Go.Dn
namespace Go.Dn
variable [Globs]
def fbOp (s:S) (o:Oper):Option TV:=
 match o.op with
 | .box _ x=>match (ev s x).bind tvL with
  | some ls=>some (.one (.l (.bx (sizes ls) ls)))
  | none=>none
 | _=>none
def ldbOp (P:Program) (s:S) (o:Oper):Option TV:=
 match o.op with
 | .load t x=>match ev s x,Zfa P t,P.info? t with
  | some (.one (.l (.bx _ ls))),some ag,some i=>Zki ag i.size ls 0 ZiU
  | _,_,_=>none
 | _=>none
section
variable {P:Program} {g g':G} {s:S} {w w':World}
def ZdB.fb {o:Oper} {tv:TV} (h:fbOp s o=some tv):ZdB P o [] s (s.put o.dst tv):=by
 unfold fbOp at h;split at h<;>try (cases h;done)
 rename_i t x ho;split at h<;>simp only [zA,reduceCtorEq] at h;rename_i ls hls;subst h;obtain ⟨tv,h1,h2⟩:=yD.1 hls;intro g w a hs K Q hK;have hc:=Zpm (p:=none) h2 (ZbN hs h1);have hm:=hs.mem;have hn:(a.eval x).cells.toList.length=sizes ls:=hc.size;unfold Oper.wp;have hexec:(execOp a.eval o).run P w = .ok (.value (.pointer (some ⟨w.heap.size,0,none⟩))) (w.alloc (.cells (a.eval x).cells t)):=by simp [execOp,ho,Instr.box,Go.newVar,Go.newRow]
 rw [hexec];obtain ⟨g',hg'⟩ : ∃g':G,g' = { g with ow:=ZgJ g.ow w.heap.size (some .foreign),Z:=ZgJ g.Z w.heap.size (sizes ls)}:=⟨_,rfl⟩
 have eow : ∀b,b<w.heap.size->g'.ow b=g.ow b:=fun b hb=>by rw [hg'];exact ZcZ _ _ aF
 have eZ : ∀b,b<w.heap.size->g'.Z b=g.Z b:=fun b hb=>by rw [hg'];exact ZcZ _ _ aF
 have eow0:g'.ow w.heap.size=some .foreign:=by rw [hg'];exact Zbq _ _ _
 have eZ0:g'.Z w.heap.size=sizes ls:=by rw [hg'];exact Zbq _ _ _
 have eob:g'.ob=g.ob/\g'.nob=g.nob/\g'.sb=g.sb/\g'.hd=g.hd:=by rw [hg'];exact ⟨rfl,rfl,rfl,rfl⟩
 have hsz:(w.alloc (.cells (a.eval x).cells t)).heap.size=w.heap.size+1:=Array.size_push _;have sm : ∀b,b<w.heap.size->Zhw g g' w (w.alloc (.cells (a.eval x).cells t)) b:=fun b hb=>⟨Zev w _ hb,eow b hb,eZ b hb⟩
 have Kp:ZcK g g' w (w.alloc (.cells (a.eval x).cells t)):=by
  refine ⟨fun i _=>by rw [eob.1],by rw [eob.2.1];exact zH _,fun b=>?_,fun b o' ho'=>?_,fun b ho'=>?_⟩
  rotate_left 2
  ·have hb:b<w.heap.size:=by
    rcases zX b w.heap.size with h' | h'
    ·exact h'
    rw [hm.z b h'] at ho';omega
   exact ZeE (Zev w _ hb)
  ·by_cases hb:b<w.heap.size
   ·rw [eZ b hb];exact zH _
   rw [hm.z b aF];exact xD _
  have hb:b<w.heap.size:=by
   rcases zX b w.heap.size with h' | h'
   ·exact h'
   rw [hm.z b h'] at ho';omega
  exact Zdr (Zev w _ hb)
 have so : ∀{b:Nat} {t':Ow},g.ow b=some t'->Zhw g g' w (w.alloc (.cells (a.eval x).cells t)) b:=fun h=>sm _ (hm.own _ _ h);have hM:Mod g g' w (w.alloc (.cells (a.eval x).cells t)):=by
  refine ⟨Kp,rfl,rfl,rfl,aF,fun b hb=>.inl (sm b hb),fun b hb h1 h2=>?_,fun i h1 h2=>by rw [eob.2.1] at h2;omega⟩;rw [eow b hb] at h1 h2;exact ⟨h1,h2⟩
 have hS:ZdK g' (s.put o.dst (.one (.l (.bx (sizes ls) ls)))) (w.alloc (.cells (a.eval x).cells t)):=by
  have e1:(s.put o.dst (.one (.l (.bx (sizes ls) ls)))).si=s.si/\(s.put o.dst (.one (.l (.bx (sizes ls) ls)))).st=s.st:=by cases o.dst<;>exact ⟨rfl,rfl⟩
  refine ⟨by rw [e1.2,eob.2.1];exact hm.stl,fun i c h hne=>?_,fun i hi=>?_,fun m ent h=>?_,fun b t' h=>?_,fun b hb=>?_,hm.gl.keep Kp⟩
  ·rw [e1.2] at h;rw [eob.1];have h3:=hm.obj i c h hne;exact h3.keep Kp (so h3.1) (fun b' o' hb=>so hb)
  ·rw [eob.1];rw [eob.2.1] at hi;rcases hm.objB i hi with h | h
   ·exact .inl ((so h).2.1.trans h)
   exact .inr ((so h).2.1.trans h)
  ·rw [e1.1] at h;have h3:=hm.site m ent h;cases ent with
   | cells c=>simp only [Zgf] at h3 |-;rw [eob.2.2.1];exact h3.keep Kp (so h3.1) (fun b' o' hb=>so hb)
   | row ver e sz xs=>simp only [Zgf] at h3 |-;rw [eob.2.2.2];exact h3.keep Kp (fun b hb=>so hb)
   | mp es=>simp only [Zgf] at h3 |-;rw [eob.2.2.2];exact h3.keep Kp (fun b hb=>so hb)
  ·by_cases hb:b<w.heap.size
   ·omega
   rcases zX w.heap.size b with hb' | hb'
   ·rw [hg'] at h;have:(ZgJ g.ow w.heap.size (some Ow.foreign)) b=some t':=h;rw [ZcZ _ _ aF] at this;have:=hm.own _ _ this;omega
   omega
  rw [hsz] at hb;rw [hg'];show ZgJ g.Z w.heap.size (sizes ls) b=0;rw [ZcZ _ _ aF];exact hm.z b aF
 have hk:ZbA (· ∈ []) s (s.put o.dst (.one (.l (.bx (sizes ls) ls)))) g g' w (w.alloc (.cells (a.eval x).cells t)):=by
  have e1:(s.put o.dst (.one (.l (.bx (sizes ls) ls)))).si=s.si/\(s.put o.dst (.one (.l (.bx (sizes ls) ls)))).ep=s.ep:=by cases o.dst<;>exact ⟨rfl,rfl⟩
  refine ⟨Kp,fun m _ h=>?_,fun m ver _ h=>?_,fun m _ h=>?_,fun _ r hg hi hok _ _ off hv h=>?_,by rw [e1.2];exact zH _⟩
  ·rw [e1.1] at h;exact ⟨h,by rw [eob.2.2.1]⟩
  ·rw [e1.1] at h;exact .inl ⟨h,by rw [eob.2.2.2]⟩
  ·rw [e1.1] at h;exact ⟨h,by rw [eob.2.2.2]⟩
  left;have hb:Zhw g g' w (w.alloc (.cells (a.eval x).cells t)) (g.rb r):=by
   cases r with
   | site m=>obtain ⟨c,hok⟩:=hok;exact so (hm.site m _ hok).1
   | obj i=>rcases hm.objB i hi with h | h<;>exact so h
   | glob k=>exact absurd rfl (hg k)
  rwa [Zdr hb.1] at h
 refine hK g' _ _ hM hk (hs.next hk (fun _ h=>by cases h) hS (by cases o.dst<;>rfl) (dst:=o.dst) (tv:=.one (.l (.bx (sizes ls) ls))) rfl (fun _=>⟨rfl,?_⟩));refine .bx _ _ w.heap.size 0 ls (a.eval x).cells.toList hn (by rw [eZ0];omega) (fun j v hj=>?_) (CR.keep Kp hc);simp only [World.cell?,heap_alloc_new,yE];simpa using hj
def ZdB.ldb {o:Oper} {tv:TV} (h:ldbOp P s o=some tv):ZdB P o [] s (s.put o.dst tv):=by
 refine .value fun g w a hs=>?_;unfold ldbOp at h;split at h<;>try (cases h;done)
 rename_i t x ho;split at h<;>try (cases h;done)
 rename_i n ls ag i hx hag hi;have hv:=(ZbN hs hx).2;simp only [TR] at hv;have key : ∃u,(Instr.loadAt t (a.eval x)).run P w = .ok u w/\ZdM g s w u tv:=by
  generalize a.eval x=v at hv;cases hv with
  | bx _ _ b o' _ vs hn hZ hc hx'=>
   obtain ⟨u,h1,h2⟩:=ZgM (s:=s) hag hi h hx' (b:=b) (o:=o') hc (fun x tv v hx hl hone _=>Zhc hx hl hone) (fun x tv hx=>ZgI hx);refine ⟨u,?_,h2⟩;rw [vC] at h1;simp [Instr.loadAt,Instr.sureAddr,h1]
 obtain ⟨u,h1,h2⟩:=key;exact ⟨u,by simp [execOp,ho,h1],h2⟩
end
end Go.Dn
namespace Go.Dn
variable [Globs]
def sl3Op (P:Program) (s:S) (o:Oper) (d:D):Option (TV×List Prop):=
 match o.op with
 | .slice t x (some lx) (some hx) (some mx)=>match P.underlying t with
  | some (.slice e)=>match P.info? e,ev s x with
   | some _,some (.one (.h src sz lo len))=>match bnd s 0 (some lx),bnd s 0 (some hx),bnd s 0 (some mx),ZjM s d.oc src with
    | some (l,ps),some (h,qs),some (m,rs),some (_,_,us)=>some (.u,ps++qs++rs++us ++ [l<=h,h<=m,m<=len])
    | _,_,_,_=>none
   | _,_=>none
  | _=>none
 | _=>none
def slxOp (P:Program) (s:S) (o:Oper):Option (TV×List Prop):=
 match o.op with
 | .slice t x low (some hx) none=>match P.underlying t with
  | some (.slice e)=>match P.info? e,ev s x with
   | some i,some (.one (.h (.row n ver) sz lo len))=>match bnd s 0 low,bnd s 0 (some hx),s.si[n]? with
    | some (l,ps),some (h,qs),some (some (.row ver' _ _ xs))=>if i.size=sz/\ver=ver' then some (.one (.h (.row n ver) sz (lo+l) (h-l)),ps++qs ++ [l<=h,lo+h<=xs.length]) else none
    | _,_,_=>none
   | _,_=>none
  | _=>none
 | _=>none
def apiOp (P:Program) (s:S) (o:Oper):Option (S×List Prop):=
 match o.dst,o.op with
 | some dd,.call { callee:=.builtin .append,args:=⟨[x,y]⟩,argTypes:=⟨[t,tx]⟩}=>
  match P.underlying t,P.underlying tx,ev s x,ev s y with
  | some (.slice E0),some (.slice _),some (.one (.h (.row n ver) 1 lo len)),some (.one (.h (.row n2 ver2) 1 lo2 len2))=>
   match P.info? E0,s.si[n]? with
   | some i,some (some (.row ver' true 1 xs))=>
    if n=n2/\ver=ver2/\ver=ver'/\i.size=1 then
     some ({ s with si:=s.si.set n (some (.row ver true 1 (xs.take len++(xs.drop lo2).take len2++xs.drop (len+len2))))}.put (some dd) (.one (.h (.row n ver) 1 0 (len+len2))),
      [lo=0,len+len2<=xs.length,lo2+len2<=xs.length])
    else none
   | _,_=>none
  | _,_,_,_=>none
 | _,_=>none
section
variable {P:Program} {g g':G} {s:S} {w w':World}
def ZdB.sl3 {o:Oper} {d:D} {tv:TV} {ps:List Prop} (h:sl3Op P s o d=some (tv,ps)) (hp:Zce ps):ZdB P o [] s (s.put o.dst tv):=by
 refine .value fun g w a hs=>?_;unfold sl3Op at h;split at h<;>try (cases h;done)
 rename_i t x lx hx mx ho;split at h<;>try (cases h;done)
 rename_i e hu;split at h<;>try (cases h;done)
 rename_i i src sz lo len hi hxe;split at h<;>simp only [zA,zE,reduceCtorEq] at h;rename_i l ps1 hh qs1 m rs1 _ _ us1 hl hhi hm hrc;obtain ⟨rfl,rfl⟩:=h;rw [Zce.append,Zce.append,Zce.append,Zce.append] at hp;obtain ⟨⟨⟨⟨hp1,hp2⟩,hp3⟩,hp4⟩,hp5⟩:=hp;simp only [Zce] at hp5;obtain ⟨h1,h2,h3⟩:=hp5;obtain ⟨hone,_,hin,hwin⟩:=ZbN hs hxe;obtain ⟨hv,_,_,hH,_⟩:=ZkJ hs.mem hrc hp4;have key : ∀(q:Option Addr) (cap:Nat),a.eval x = .slice q len cap->len<=cap->∃u:Value,(execOp a.eval o).run P w = .ok (.value u) w:=by
  intro q cap hv hc;rcases Zio hs hl hp1 with ⟨h,_⟩ | ⟨y1,k1,m1,e0,e1,e2,e3⟩
  ·cases h
  rcases Zio hs hhi hp2 with ⟨h,_⟩ | ⟨y2,k2,m2,f0,f1,f2,f3⟩
  ·cases h
  rcases Zio hs hm hp3 with ⟨h,_⟩ | ⟨y3,k3,m3,g0,g1,g2,g3⟩
  ·cases h
  cases e0;cases f0;cases g0;refine ⟨.slice (if m=l then q else q.map (·.add (l*i.size))) (hh-l) (m-l),?_⟩;have hb:(Instr.sliceBounds true len cap (some (a.eval lx)) (some (a.eval hx)) (some (a.eval mx))).run P w = .ok (l,hh,m) w:=by
   unfold Instr.sliceBounds;simp only [e1,f1,g1,Sem.run_bind,Sem.run_pure,Result.andThen_ok];rw [run_sliceBound w k3 m3 _ _ g2 aF];simp only [Result.andThen_ok];rw [run_sliceBound w k2 m2 _ _ f2 aF];simp only [Result.andThen_ok];rw [run_sliceBound w k1 m1 _ _ e2 aF];subst e3 f3 g3;rfl
  simp only [execOp,ho,yS,Sem.run_bind,Sem.run_pure];have hsl:(Instr.sliceAt t (a.eval x) (some (a.eval lx)) (some (a.eval hx)) (some (a.eval mx))).run P w = .ok (.slice (if m=l then q else q.map (·.add (l*i.size))) (hh-l) (m-l)) w:=by
   rw [hv];unfold Instr.sliceAt;rw [Sem.run_bind,run_underlying hu];simp only [Result.andThen_ok];unfold Instr.slice;rw [Sem.run_bind,run_underlying hu];simp only [Result.andThen_ok,Sem.run_bind,hb,Zeb hi,Sem.run_pure]
  rw [hsl];rfl
 rcases hwin hv hH with ⟨rfl,rfl,rfl,hv'⟩ | ⟨b,o0,n,c,o',rfl,⟨k1,k2⟩,hv',k3,k4⟩
 ·obtain ⟨u,hu⟩:=key none 0 hv' (zH _);exact ⟨u,hu,trivial⟩
 obtain ⟨u,hu⟩:=key (some (ad b o')) (c-lo) hv' aF;exact ⟨u,hu,trivial⟩
def Zny {a:Act} (hs:Sat g s w a.tmps) {t e:TypeId} {i:TypeInfo} (hu:P.underlying t=some (.slice e)) (hi:P.info? e=some i) {q:Option Addr} {len cap l h:Nat} {low:Option Operand} {hx:Operand} {ps qs:List Prop}
  (hl:bnd s 0 low=some (l,ps)) (hh:bnd s 0 (some hx)=some (h,qs)) (hp:Zce ps) (hq:Zce qs) (h1:l<=h) (h2:h<=cap) :
  (Instr.sliceAt t (.slice q len cap) (low.map a.eval) (some (a.eval hx)) none).run P w = .ok (.slice (if cap=l then q else q.map (·.add (l*i.size))) (h-l) (cap-l)) w:=by
 have hb:(Instr.sliceBounds true len cap (low.map a.eval) (some (a.eval hx)) none).run P w = .ok (l,h,cap) w:=by
  unfold Instr.sliceBounds;rcases Zio hs hh hq with ⟨h,_⟩ | ⟨y',k',m',e0,e1',e2',rfl⟩
  ·cases h
  cases e0;rcases Zio hs hl hp with ⟨rfl,rfl⟩ | ⟨y,k,m,rfl,e1,e2,rfl⟩
  ·simp only [yS,vI,e1',Sem.run_bind,Sem.run_pure,Result.andThen_ok];rw [run_sliceBound w k' m' cap _ e2' aF];rfl
  simp only [yS,vI,e1,e1',Sem.run_bind,Sem.run_pure,Result.andThen_ok];rw [run_sliceBound w k' m' cap _ e2' aF];simp only [Result.andThen_ok];rw [run_sliceBound w k m _ _ e2 aF];rfl
 unfold Instr.sliceAt;rw [Sem.run_bind,run_underlying hu];simp only [Result.andThen_ok];unfold Instr.slice;rw [Sem.run_bind,run_underlying hu];simp only [Result.andThen_ok,Sem.run_bind,hb,Zeb hi,Sem.run_pure]
def ZgO.hdlen {t:Ow} {b o n c:Nat} {e:Bool} {sz:Nat} {xs:List (List L)} (h:ZgO g w t (.slice (some (ad b o)) n c) e sz xs):xs.length=n:=by
 rcases h with ⟨h,_⟩ | ⟨_,_,h,rfl⟩ | ⟨_,_,_,_,_,h,_⟩
 ·cases h
 ·simp only [Value.slice.injEq] at h;simp [h.2.1]
 simp only [Value.slice.injEq] at h;exact h.2.1.symm
def ZdB.slx {o:Oper} {tv:TV} {ps:List Prop} (h:slxOp P s o=some (tv,ps)) (hp:Zce ps):ZdB P o [] s (s.put o.dst tv):=by
 refine .value fun g w a hs=>?_;unfold slxOp at h;split at h<;>try (cases h;done)
 rename_i t x low hx ho;split at h<;>try (cases h;done)
 rename_i e hu;split at h<;>try (cases h;done)
 rename_i i n ver sz lo len hi hxe;split at h<;>try (cases h;done)
 rename_i l ps1 hh qs1 ver' e' sz' xs hl hhi hsi;split at h<;>simp only [zA,zE,reduceCtorEq] at h;rename_i hsz;obtain ⟨hsz,hver⟩:=hsz;subst hsz;subst hver;obtain ⟨rfl,rfl⟩:=h;rw [Zce.append,Zce.append] at hp;obtain ⟨⟨hp1,hp2⟩,hp3⟩:=hp;simp only [Zce] at hp3;obtain ⟨h1,h2⟩:=hp3;have hrow:=hs.mem.site n _ hsi;simp only [Zgf] at hrow;obtain ⟨hone,_,hin,hwin⟩:=ZbN hs hxe;have hH:Hd g s w (.row n ver) (g.hd n):=⟨⟨_,_,_,hsi⟩,rfl⟩
 have ex : ∀{u:Value},(Instr.sliceAt t (a.eval x) (low.map a.eval) (some (a.eval hx)) none).run P w = .ok u w->(execOp a.eval o).run P w = .ok (.value u) w:=by
  intro u h;simp only [execOp,ho,vI,yS,Sem.run_bind,h,Result.andThen_ok,Sem.run_pure]
 rcases hwin _ hH with ⟨hv0,rfl,rfl,hv'⟩ | ⟨b,o0,m,c,o',hv0,⟨k1,k2⟩,hv',k3,k4⟩
 ·have hx0:xs = []:=by
   rcases hrow with ⟨_,h⟩ | ⟨_,_,h,_⟩ | ⟨_,_,_,_,_,h,_⟩
   ·exact h
   ·rw [hv0] at h;cases h
   rw [hv0] at h;cases h
  subst hx0;have e1:hh=0:=by simpa using h2
  have e2:l=0:=aF
  subst e1;subst e2;have hrun:=Zny (P:=P) (w:=w) hs hu hi (q:=none) (len:=0) (cap:=0) hl hhi hp1 hp2 h1 (zH _);rw [<-hv'] at hrun;refine ⟨_,ex hrun,rfl,⟨_,_,rfl,.inl rfl⟩,hin,fun hv2 hH2=>?_⟩;rw [Hd.inj hH2 hH];left;exact ⟨hv0,rfl,rfl,rfl⟩
 have hxl:xs.length=m:=by rw [hv0] at hrow;exact hrow.hdlen
 have hrun:=Zny (P:=P) (w:=w) hs hu hi (q:=some (ad b o')) (len:=len) (cap:=c-lo) hl hhi hp1 hp2 h1 aF;rw [<-hv'] at hrun;refine ⟨_,ex hrun,rfl,⟨_,_,rfl,.inr (by split<;>rfl)⟩,hin,fun hv2 hH2=>?_⟩;rw [Hd.inj hH2 hH];right;have eadd:(some (ad b o')).map (·.add (l*i.size))=some (ad b (o'+l*i.size)):=by
  simp only [yS,zA];unfold Addr.add;split<;>simp_all
 by_cases hc:c-lo=l
 ·rw [aD hc];exact ⟨b,o0,m,c,o',hv0,⟨aF,k2⟩,by rw [Nat.sub_sub],fun h=>aF,fun h=>k4 aF⟩
 rw [aE hc,eadd];refine ⟨b,o0,m,c,o'+l*i.size,hv0,⟨aF,k2⟩,by rw [Nat.sub_sub],fun h=>?_,fun h=>?_⟩
 ·rw [k3 aF,Nat.add_mul];omega
 have e1:lo=0:=aF
 have e2:l=0:=aF
 rw [e2];simp [k4 e1]
def ZdB.api {o:Oper} {s':S} {ps:List Prop} (h:apiOp P s o=some (s',ps)) (hp:Zce ps):ZdB P o [] s s'/\∃tv,s'.sl=(s.put o.dst tv).sl:=by
 unfold apiOp at h;split at h<;>try (cases h;done)
 rename_i dd x y t tx hdd ho;split at h<;>try (cases h;done)
 rename_i E0 E1 n ver lo len n2 ver2 lo2 len2 hu hu2 hx hy;split at h<;>try (cases h;done)
 rename_i i ver' xs hi hsi;split at h<;>simp only [zA,zE,reduceCtorEq] at h;rename_i hc;obtain ⟨hn2,hv2,hver,hsz⟩:=hc;subst hn2;subst hv2;subst hver;obtain ⟨rfl,rfl⟩:=h;simp only [Zce] at hp;obtain ⟨rfl,hlen,hlen2⟩:=hp;refine ⟨fun g w a hs K Q hK=>?_,⟨.one (.h (.row n ver) 1 0 (len+len2)),by rw [hdd];rfl⟩⟩;have hrow:=hs.mem.site n _ hsi;simp only [Zgf] at hrow;have hH:Hd g s w (.row n ver) (g.hd n):=⟨⟨_,_,_,hsi⟩,rfl⟩
 have hxv:=ZbN hs hx;have hyv:=ZbN hs hy;have hwin:=hxv.2.2.2 (g.hd n) hH;have hwin2:=hyv.2.2.2 (g.hd n) hH;have hexec : ∀r,(Builtin.append_ #[t,tx] o.type #[a.eval x,a.eval y]).run P w=r->(execOp a.eval o).run P w=r.andThen fun v w'=>.ok (.value v) w':=by
  intro r h2;subst h2;simp [execOp,ho,resolve,invoke,builtin]
 have fin : ∀w' v,w.heap.size<=w'.heap.size->(w'.os=w.os/\w'.tape=w.tape/\w'.output=w.output)->(∀b,b<w.heap.size->g.ow b≠some (.rowS n)->w'.heap[b]? = w.heap[b]?) ->
   (∀b o',o'<g.Z b->w'.cell? (ad b o')=w.cell? (ad b o'))->(∀b,0<g.Z b->ZiB w' b=ZiB w b)->ZgO g w' (.rowS n) (g.hd n) true 1 (xs.take len++(xs.drop lo2).take len2++xs.drop (len+len2)) ->
   (Builtin.append_ #[t,tx] o.type #[a.eval x,a.eval y]).run P w = .ok v w'->Win 1 0 (len+len2) (g.hd n) v->o.wp P a w K Q:=by
  intro w' v h1 h2 h3 h4 h4' h5 hrun hW;have Kp:ZcK g g w w':=⟨fun _ _=>rfl,zH _,fun _=>zH _,h4,h4'⟩
  obtain ⟨j1,j2,j3⟩:=Zid (g':=g) (s':={ s with si:=s.si.set n (some (.row ver true 1 (xs.take len++(xs.drop lo2).take len2++xs.drop (len+len2))))}.put (some dd) (.one (.h (.row n ver) 1 0 (len+len2)))) hs.mem (X:=[]) (n:=n) (ver':=ver) (.inr ⟨_,_,_,_,hsi,.inr ⟨rfl,rfl⟩⟩) ⟨rfl,rfl,rfl⟩ (fun _ _=>rfl) Kp h2 h1
   (fun b hb hne=>⟨h3 b hb hne,rfl,rfl⟩) (fun b t hb=>by have:=hs.mem.own b t hb;omega) (fun b hb=>hs.mem.z b aF) h5 rfl rfl rfl
  unfold Oper.wp;rw [hexec _ hrun];refine hK g w' v j1 j3 (hs.next j3 (fun _ h=>by cases h) j2 (by simp [S.put]) (dst:=o.dst) (tv:=.one (.h (.row n ver) 1 0 (len+len2))) (by rw [hdd];rfl) (fun _=>?_));refine ⟨?_,?_,?_,fun hv hh=>?_⟩
  ·rcases hW with ⟨_,_,_,rfl⟩ | ⟨_,_,_,_,_,_,_,rfl,_⟩<;>rfl
  ·rcases hW with ⟨_,_,_,rfl⟩ | ⟨_,_,_,_,_,_,_,rfl,_⟩
   ·exact ⟨_,_,by
     rename_i h0 _ h01;rw [h01],.inl (by rename_i h0 _ h01;exact h01)⟩
   exact ⟨_,_,rfl,.inr rfl⟩
  ·intro ver' e sz xs' h;have hnlt:n<s.si.length:=by
    rcases zX n s.si.length with h' | h'
    ·exact h'
    rw [zM h'] at hsi;cases hsi
   simp only [S.put] at h;rw [zP hnlt] at h;simp only [zA,Ent.row.injEq] at h;omega
  rw [hh.2];exact hW
 have hsrcR:ZlQ P g w 1 tx (a.eval y) ((xs.drop lo2).take len2):=by
  rcases hrow.winER hwin2 hlen2 with ⟨h1,h2⟩ | ⟨b,o,c,h1,h2⟩
  ·rw [h1,h2];exact ZlQ.ofNil hu2 0
  rw [h1];exact ZlQ.ofER hu2 h2
 obtain ⟨news,hsrc,hnews⟩:=hsrcR;have hyl:((xs.drop lo2).take len2).length=len2:=by simp;omega
 rw [hyl,<-hsz] at hsrc;have hnl:news.length=len2:=by have:=hsrc.newsLen;rw [hsz] at this;omega
 by_cases hl0:len2=0
 ·subst hl0;have hn0:news = []:=List.length_eq_zero_iff.1 aF;subst hn0;have keep:xs.take len++(xs.drop lo2).take 0++xs.drop (len+0)=xs:=by simp
  rcases hwin with ⟨h0,_,h1,h2⟩ | ⟨b,o9,m,c,o',h0,⟨k1,k2⟩,h2,k3,k4⟩
  ·subst h1;refine fin w (.slice none 0 0) (zH _) ⟨rfl,rfl,rfl⟩ (fun _ _ _=>rfl) (fun _ _ _=>rfl) (fun _ _=>rfl) (by rw [keep];exact hrow) ?_ (.inl ⟨h0,rfl,rfl,rfl⟩);rw [h2];exact run_append_nothing w t tx o.type E0 i hu hi none 0 0 (zH _) (a.eval y) hsrc
  refine fin w (.slice (some (ad b o')) len (c-0)) (zH _) ⟨rfl,rfl,rfl⟩ (fun _ _ _=>rfl) (fun _ _ _=>rfl) (fun _ _=>rfl) (by rw [keep];exact hrow) ?_ (.inr ⟨b,o9,m,c,o',h0,⟨aF,k2⟩,rfl,k3,k4⟩);rw [h2];exact run_append_nothing w t tx o.type E0 i hu hi (some (ad b o')) len (c-0) aF (a.eval y) hsrc
 rcases hrow with ⟨h0,h1⟩ | ⟨b,o1,h0,h1⟩ | ⟨b,off,cap,cur,E,h0,h2,h3,h4,h5,h6,h7⟩
 ·rw [h1] at hlen2;simp at hlen2;omega
 ·rw [h1] at hlen2;simp at hlen2;omega
 rw [aD rfl] at h6;rcases hwin with ⟨h,_⟩ | ⟨b',o',n',c,oo,h,h',hv,k1,k2⟩
 ·rw [h0] at h;cases h
 rw [h0] at h;simp only [Value.slice.injEq,zA,Addr.mk.injEq] at h;obtain ⟨⟨rfl,rfl,-⟩,rfl,rfl⟩:=h;have hoo:=k2 rfl;rw [hoo] at hv;have hfit:off+len*i.size+news.length<=cur.size:=by rw [hsz];omega
 have hrun:=Zhz (ty:=o.type) hu hi (off:=off) (sLen:=len) (sCap:=cap-0) hsrc aF h4 hfit;rw [hsz,uQ,hnl] at hrun;obtain ⟨cs,hcse⟩ : ∃cs,cs=(cur.toList.take (off+len)++news++cur.toList.drop (off+len+len2)):=⟨_,rfl⟩
 rw [<-hcse] at hrun;have hnew:(w.setRow b cs.toArray).heap[b]? = some (.cells cs.toArray E (0,0)):=setRow_heap w _ cur _ E _ h4;have hi':=Zme hs.mem (cs:=cs.toArray) h4 h3 h6;have hcsl:cs.length=cur.size:=by subst hcse;simp;omega
 have hcell : ∀p,(w.setRow b cs.toArray).cell? (ad b p)=cs[p]? := fun p=>by simp [World.cell?,hnew]
 have hcold : ∀p,w.cell? (ad b p)=cur.toList[p]? := fun p=>by simp [World.cell?,h4]
 have e1:(cur.toList.take (off+len)).length=off+len:=by simp;omega
 have front : ∀p,p<off+len->cs[p]? = cur.toList[p]? := fun p hp=>by
  subst hcse;rw [yH,zS aF,yT,aD hp]
 have mid : ∀j v,news[j]? = some v->cs[off+len+j]? = some v:=fun j v hj=>by
  subst hcse;have:=ZmE hj;rw [yH,yA aF,e1,zS aF,(aF:off+len+j-(off+len)=j)];exact hj
 have tail : ∀p,off+len+len2<=p->cs[p]? = cur.toList[p]? := fun p hp=>by
  subst hcse;rw [yA aH,List.getElem?_drop]
  congr 1
  simp;omega
 refine fin (w.setRow b cs.toArray) _ (Nat.le_of_eq hi'.size.symm) hi'.ho (fun b' _ hne=>(hi'.same b' hne).1) hi'.K.cell hi'.K.mp ?_ (by rw [hv];exact hrun) (.inr ⟨b,off,xs.length,cap,off,h0,⟨aF,h2⟩,rfl,fun _=>aF,fun _=>rfl⟩);have hxl:(xs.take len++(xs.drop lo2).take len2++xs.drop (len+len2)).length=xs.length:=by simp;omega
 refine .inr (.inr ⟨b,off,cap,cs.toArray,E,by rw [h0,hxl],by rw [hxl];exact h2,h3,hnew,by simp;omega,by rw [aD rfl];exact h6,?_⟩);refine ER.append (ER.append ?_ ?_) ?_
 ·refine (h7.takeN len).keep' hi'.K fun p hp1 hp2=>?_;have:(xs.take len).length=len:=by simp;omega
  rw [hcell,hcold];exact front p aF
 ·have:(xs.take len).length=len:=by simp;omega
  refine hnews hi'.K fun j v hj=>?_;rw [hcell,this,uQ];exact mid j v hj
 have e2:(xs.take len++(xs.drop lo2).take len2).length=len+len2:=by simp;omega
 rw [e2];refine (h7.dropN (len+len2) aF).keep' hi'.K fun p hp1 hp2=>?_;rw [hcell,hcold];exact tail p aF
end
end Go.Dn
namespace Go.Dn
variable [Globs]
inductive BVs (st:List (List L)):List L->List L->Prop where
 | nil:BVs st [] []
 | pl (l:L) (ls ks:List L) (h:l.plain=true) (r:BVs st ls ks):BVs st (l::ls) (l::ks)
 | sl (sz:Nat) (xs:List (List L)) (ls ks:List L) (r:BVs st ls ks):BVs st (.sl sz xs::ls) (.sl sz xs::ks)
 | own (e:Bool) (sz:Nat) (xs:List (List L)) (ls ks:List L) (r:BVs st ls ks):BVs st (.own e sz xs::ls) (.sl sz xs::ks)
 | mp (es:List (L×L)) (ls ks:List L) (r:BVs st ls ks):BVs st (.mp es::ls) (.mz es::ks)
 | bx (n:Nat) (cs:List L) (ls ks:List L) (r:BVs st ls ks):BVs st (.bx n cs::ls) (.bx n cs::ks)
 | mz (es:List (L×L)) (ls ks:List L) (r:BVs st ls ks):BVs st (.mz es::ls) (.mz es::ks)
 | obj (i n:Nat) (c cs ls ks:List L) (h:st[i]? = some c) (hc:BVs st c cs) (hn:sizes cs=n) (hne:c.isEmpty=false) (r:BVs st ls ks):BVs st (.ptr (some i)::ls) (.bx n cs::ks)
def BVs.sizes {st:List (List L)} : ∀{c cs:List L},BVs st c cs->sizes c=sizes cs
 | _,_,.nil=>rfl
 | _,_,.pl _ _ _ _ r=>by simp only [Dn.sizes,r.sizes]
 | _,_,.sl _ _ _ _ r=>by simp only [Dn.sizes,r.sizes]
 | _,_,.own _ _ _ _ _ r=>by simp only [Dn.sizes,r.sizes,L.size]
 | _,_,.mp _ _ _ r=>by simp only [Dn.sizes,r.sizes,L.size]
 | _,_,.bx _ _ _ _ r=>by simp only [Dn.sizes,r.sizes]
 | _,_,.mz _ _ _ r=>by simp only [Dn.sizes,r.sizes]
 | _,_,.obj _ _ _ _ _ _ _ _ _ _ r=>by simp only [Dn.sizes,r.sizes,L.size]
section
variable {P:Program} {g g':G} {s:S} {w w':World}
def ZrT {b:Nat} (h:(g.ow b).isSome=true):Zff w b<=(g.lift w).Z b:=by
 show _<=if _ then _ else _
 rw [aD h];exact Nat.le_max_right _ _
def BVs.cr (hm:ZdK g s w) : ∀{c cs:List L},BVs s.st c cs->∀{p:Option (Nat×Nat)} {vs:List Value},CR g w p vs c->CR (g.lift w) w none vs cs
 | _,_,.nil,_,_,h=>by cases h;exact .nil _
 | _,_,.pl l ls ks hl r,p,_,h=>by
  cases h with
  | one _ v vs _ _ hv h1 hr=>
   refine .one _ _ _ _ _ ?_ h1 (BVs.cr hm r hr);cases hv<;>first | (simp [L.plain] at hl;done) | skip
   ·exact .int _ _ _
   ·exact .bool _ _
   ·exact .str _ _
   ·exact .nilp _
   exact .ref _ _ (by assumption)
  | arr _ k n xs vs _ hn hr=>exact .arr _ _ _ _ _ _ hn (BVs.cr hm r hr)
  | brr _ n xs vs _ hn hr=>exact .brr _ _ _ _ _ hn (BVs.cr hm r hr)
 | _,_,.sl sz xs ls ks r,p,_,h=>by
  cases h with
  | one _ v vs _ _ hv h1 hr=>
   refine .one _ _ _ _ _ ?_ h1 (BVs.cr hm r hr);cases hv with
   | slnil=>exact .slnil _ _
   | slz=>exact .slz _ _ _
   | sl _ b off len cap _ _ hl hc hZ he=>exact .sl _ b off len cap _ _ hl hc (xQ hZ ((ZeF g w).Z b)) (he.keep (ZeF g w) (by rw [hl];exact hZ))
 | _,_,.own e sz xs ls ks r,p,_,h=>by
  cases h with
  | one _ v vs _ _ hv h1 hr=>
   refine .one _ _ _ _ _ ?_ h1 (BVs.cr hm r hr);cases hv with
   | ownnil=>exact .slnil _ _
   | ownz=>exact .slz _ _ _
   | own q b off len cap _ _ _ a E hl hc ho hb hs hZ he=>
    refine .sl _ b off len cap _ _ hl hc (xQ ?_ (ZrT (by rw [ho];rfl))) (he.keep' (ZeF g w) fun _ _ _=>rfl);have:Zff w b=a.size:=by simp [Zff,hb]
    have h2:len*sz<=cap*sz:=wX _ hc;omega
 | _,_,.mp es ls ks r,p,_,h=>by
  cases h with
  | one _ v vs _ _ hv h1 hr=>
   refine .one _ _ _ _ _ ?_ h1 (BVs.cr hm r hr);cases hv with
   | mp q b cl en _ ho hb he=>
    refine .mz _ b en _ (yK ?_ (ZrT (w:=w) (by rw [ho.1];rfl))) (by simp [ZiB,hb]) (he.keep (ZeF g w));simp [Zff,hb]
 | _,_,.bx n cs ls ks r,p,_,h=>by
  cases h with
  | one _ v vs _ _ hv h1 hr=>
   refine .one _ _ _ _ _ ?_ h1 (BVs.cr hm r hr);cases hv with
   | bx _ _ b o _ us hn hZ hc hx=>exact .bx _ n b o cs us hn (xQ hZ ((ZeF g w).Z b)) hc (hx.keep (ZeF g w))
 | _,_,.mz es ls ks r,p,_,h=>by
  cases h with
  | one _ v vs _ _ hv h1 hr=>
   refine .one _ _ _ _ _ ?_ h1 (BVs.cr hm r hr);cases hv with
   | mz _ b en _ hZ hb he=>exact .mz _ b en _ (yK hZ ((ZeF g w).Z b)) hb (he.keep (ZeF g w))
 | _,_,.obj i n c cs ls ks hst hc hn hne r,p,_,h=>by
  cases h with
  | one _ v vs _ _ hv h1 hr=>
   refine .one _ _ _ _ _ ?_ h1 (BVs.cr hm r hr);cases hv with
   | ref _ _ hi=>
    obtain ⟨h2,h3,a,E,h4,h5⟩:=hm.obj i c hst (by intro e;subst e;simp at hne);have h6:=BVs.cr hm hc h5;have hlen:a.toList.length=n:=by rw [h5.size,hc.sizes];exact hn
    refine .bx _ n _ 0 cs a.toList hlen ?_ (fun j v hj=>?_) h6
    ·have hb:Zff w (g.ob i)=a.size:=by simp [Zff,h4]
     have:=ZrT (g:=g) (w:=w) (b:=g.ob i) (by rw [h2];rfl);simp at hlen;show 0+n<=(g.lift w).Z (g.ob i);omega
    simp only [World.cell?,h4];simpa using hj
def toCVV (s:S) (oc:List L) (md:Nat) (tv:TV) (c:Option CV):Option (CV×List Prop):=
 match tv,c with
 | .one (.adr (.obj i) 0),some (.one (.bx n cs))=>some (.one (.bx n cs),[BVs s.st [.ptr (some i)] [.bx n cs]])
 | .one (.l (.ptr (some i))),some (.one (.bx n cs))=>some (.one (.bx n cs),[BVs s.st [.ptr (some i)] [.bx n cs]])
 | tv,_=>toCVB s oc md tv
def Zpn (s:S) (oc:List L) (md:Nat):List Operand->List CV->Option (List CV×List Prop)
 | [],_=>some ([],[])
 | x::xs,ks=>match ev s x with
  | some tv=>match toCVV s oc md tv ks.head?,Zpn s oc md xs ks.tail with
   | some (c,ps),some (cs,qs)=>some (c::cs,ps++qs)
   | _,_=>none
  | none=>none
def callV (P:Program) (s:S) (o:Oper) (d:D):Option (List Nat×S×List Prop):=
 match o.op with
 | .call { callee:=.value (.func f),args:=⟨xs⟩,.. }=>match Zpn s d.oc d.wm xs d.cv,ZhG (d.ns.headD 0) 0 d.rs with
  | some (cs,ps),some (tvs,r)=>
   if (Ziu (d.ns.headD 0) r).all (fun n=>!TV.mens n s.sl)&&d.rs.all Zsg then
    some (Ziu (d.ns.headD 0) r,(s.setEnt? (d.ns.headD 0) r).put o.dst (ZgR tvs),ps++ZsB d.rs ++ [ZdW P f cs d.rs])
   else none
  | _,_=>none
 | _=>none
def BVs.val (hm:ZdK g s w) {i n:Nat} {cs:List L} {v:Value} (h:BVs s.st [.ptr (some i)] [.bx n cs]) (hv:LR g w none v (.ptr (some i))) (h1:v.oneCell'=true):LR ((g.lift w).out true) w none v (.bx n cs):=by
 have h2:=BVs.cr hm h (CR.one none v [] _ [] hv h1 (.nil _));obtain ⟨u,h6,_,h8⟩:=h2.at1 (o:=0) (l:=.bx n cs) rfl rfl;simp only [yJ,zA] at h6;subst h6;exact LR.keep (ZfG _ true w) h8
def ZqH (hm:ZdK g s w) {oc:List L} {md:Nat} {tv:TV} {k:Option CV} {c:CV} {ps:List Prop} {v:Value} {i:Nat} (h:toCVV s oc md tv k=some (c,ps)) (hp:Zce ps) (hv:ZdM g s w v tv):CVR ((g.lift w).out true) w i v c:=by
 unfold toCVV at h;split at h
 ·simp only [zA,zE] at h;obtain ⟨rfl,rfl⟩:=h;simp only [Zce] at hp;obtain ⟨h1,_,h2,h3⟩:=hv;have:=h3 trivial;subst this;exact ⟨h1,BVs.val hm hp (.ref _ _ h2) h1⟩
 ·simp only [zA,zE] at h;obtain ⟨rfl,rfl⟩:=h;simp only [Zce] at hp;exact ⟨hv.1,BVs.val hm hp hv.2 hv.1⟩
 exact ZlW hm h hp hv
def Zlh {oc:List L} {md:Nat} {a:Act} (hs:Sat g s w a.tmps) : ∀{xs:List Operand} {ks cs:List CV} {ps:List Prop} {i:Nat},Zpn s oc md xs ks=some (cs,ps)->Zce ps->Zgg ((g.lift w).out true) w i (xs.map a.eval) cs
 | [],ks,cs,ps,i,h,hp=>by simp only [Zpn,zA,zE] at h;obtain ⟨rfl,rfl⟩:=h;rfl
 | x::xs,ks,cs,ps,i,h,hp=>by
  simp only [Zpn] at h;split at h<;>try cases h
  rename_i tv hx;split at h<;>simp only [zA,zE,reduceCtorEq] at h;rename_i c ps1 cs1 qs1 h1 h2;obtain ⟨rfl,rfl⟩:=h;rw [Zce.append] at hp;exact ⟨_,_,rfl,ZqH hs.mem h1 hp.1 (ZbN hs hx),Zlh hs h2 hp.2⟩
def ZdB.callV {s s':S} {o:Oper} {d:D} {X:List Nat} {ps:List Prop} (h:Dn.callV P s o d=some (X,s',ps)) (hp:Zce ps):ZdB P o X s s'/\(∃tv,s'.sl=(s.put o.dst tv).sl)/\X.all (fun n=>!TV.mens n s.sl)=true:=by
 unfold Dn.callV at h;split at h<;>try (cases h;done)
 rename_i f xs _ ho;split at h<;>try (cases h;done)
 rename_i cs ps1 tvs r hcs hrs;split at h<;>simp only [zA,zE,reduceCtorEq] at h;rename_i hX;simp only [zV] at hX;obtain ⟨hX,hfl⟩:=hX;obtain ⟨rfl,rfl,rfl⟩:=h;rw [Zce.append,Zce.append] at hp;obtain ⟨⟨hp1,hp2⟩,hp3⟩:=hp;simp only [Zce] at hp3;refine ⟨?_,⟨ZgR tvs,by cases o.dst<;>cases r<;>rfl⟩,hX⟩;intro g w a hs K Q hK;obtain ⟨hent,hp4⟩:=hp3 (s.seen true);unfold Oper.wp;have hrun:(execOp a.eval o).run P w = .ok (.enter f (xs.map a.eval).toArray) w:=by
  have:=Zgl hent (xs.map a.eval).toArray w;simp [execOp,ho,resolve,Deferred.ofValue,Act.eval,invoke,this]
 rw [hrun];show Calls P f _ w _;refine (hp4 ((g.lift w).out true) w _ (Zlh hs hcs hp1) (ZpX hs.mem)).mono ?_;rintro e w' ⟨g',us,rfl,hM,hm',hus⟩;obtain ⟨g'',k1,k2,k3⟩:=Zqu hs hrs hX hfl (ZiI hp2) hM hm' hus (dst:=o.dst) (s':=(s.setEnt? (d.ns.headD 0) r).put o.dst (ZgR tvs)) (by cases o.dst<;>cases r<;>rfl) (by cases o.dst<;>rfl) (by cases o.dst<;>cases r<;>rfl) (by cases o.dst<;>cases r<;>rfl);exact hK _ _ _ k1 k2 k3
end
end Go.Dn
namespace Go.Dn
variable [Globs]
def G.seat (g:G) (n d:Nat):G:=
 { g with hd:=ZgJ g.hd d (g.hd n),ow:=fun b=>match g.ow b with
  | some (.rowS q)=>if q=n then some (.rowS d) else if q=d then some .foreign else some (.rowS q)
  | x=>x}
def Ztz (s:S) (o:Oper):Option (List Nat×S):=
 match o.dst,o.op with
 | some d,.assign x=>match ev s x with
  | some (.one (.h (.row n ver) sz lo len))=>match s.si[n]? with
   | some (some (.row ver1 e sz1 xs))=>if ver1=ver/\n≠d then
     (match s.si[d]? with
     | some (some (.row v0 _ _ _))=>some ([],{ s with si:=(s.si.set n none).set d (some (.row (v0+1) e sz1 xs))}.put (some d) (.one (.h (.row d (v0+1)) sz lo len)))
     | some none=>if TV.mens d s.sl then none else some ([d],{ s with si:=(s.si.set n none).set d (some (.row 0 e sz1 xs))}.put (some d) (.one (.h (.row d 0) sz lo len)))
     | _=>none)
    else none
   | _=>none
  | _=>none
 | _,_=>none
section
variable {P:Program} {g g':G} {s s':S} {w w':World}
def Zty {n d b:Nat} {t:Ow} (h:g.ow b=some t) (h1:t ≠ .rowS n) (h2:t ≠ .rowS d):(g.seat n d).ow b=some t:=by
 simp only [G.seat,h];cases t<;>try rfl
 rename_i q;show (if q=n then _ else _)=_;rw [aE (fun e=>h1 (by rw [e])),aE (fun e=>h2 (by rw [e]))]
def Ztx (hm:ZdK g s w) {X:List Nat} {n d ver ver':Nat} {e:Bool} {sz:Nat} {xs:List (List L)} (hne:n≠d) (hn:s.si[n]? = some (some (.row ver e sz xs))) (hdlt:d<s.si.length)
  (hd:d∈X\/∃ver0 e0 sz0 xs0,s.si[d]? = some (some (.row ver0 e0 sz0 xs0))/\ver0<ver')
  (hsi:s'.si=(s.si.set n none).set d (some (.row ver' e sz xs))) (hst:s'.st=s.st) (hep:s'.ep=s.ep) :
  Mod g (g.seat n d) w w/\ZdK (g.seat n d) s' w/\ZbA (· ∈ X) s s' g (g.seat n d) w w:=by
 have K:ZcK g (g.seat n d) w w:=⟨fun _ _=>rfl,zH _,fun _=>zH _,fun _ _ _=>rfl,fun _ _=>rfl⟩
 have hS : ∀b t,g.ow b=some t->t ≠ .rowS n->t ≠ .rowS d->Zhw g (g.seat n d) w w b:=fun b t h1 h2 h3=>⟨rfl,(Zty h1 h2 h3).trans h1.symm,rfl⟩
 have hnone : ∀b,g.ow b=none->(g.seat n d).ow b=none:=fun b h=>by simp [G.seat,h]
 have get : ∀{m:Nat} {x:Ent},s'.si[m]? = some (some x)->(m=d/\x = .row ver' e sz xs)\/(m≠d/\m≠n/\s.si[m]? = some (some x)):=by
  intro m x h;rw [hsi] at h;by_cases e1:d=m
  ·subst e1;rw [zP (aR hdlt)] at h;simp only [zA] at h;exact .inl ⟨rfl,h.symm⟩
  rw [zO e1] at h;by_cases e2:n=m
  ·subst e2;rw [zP (ZmE hn)] at h;cases h
  rw [zO e2] at h;exact .inr ⟨fun e=>e1 e.symm,fun e=>e2 e.symm,h⟩
 have hhd : ∀m,m≠d->(g.seat n d).hd m=g.hd m:=fun m h=>ZcZ _ _ h;have hrow:ZgO (g.seat n d) w (.rowS d) (g.hd n) e sz xs:=by
  have h1:=hm.site n _ hn;simp only [Zgf] at h1;rcases h1 with h1 | h1 | ⟨b,off,cap,a,E,h1,h2,h3,h4,h5,h6,h7⟩
  ·exact .inl h1
  ·exact .inr (.inl h1)
  exact .inr (.inr ⟨b,off,cap,a,E,h1,h2,by simp [G.seat,h3],h4,h5,h6,h7.keep' K fun _ _ _=>rfl⟩)
 refine ⟨⟨K,rfl,rfl,rfl,zH _,fun b hb=>?_,fun b hb h1 h2=>?_,fun i h1 h2=>absurd h2 (by show ¬ i<g.nob;omega)⟩,⟨by rw [hst];exact hm.stl,fun i c h hc=>?_,fun i hi=>?_,fun m ent h=>?_,fun b t h=>?_,hm.z,hm.gl.keep K⟩,⟨K,fun m hX h=>?_,fun m v hX h=>?_,fun m hX h=>?_,fun _ r hg hi hr _ _ off hv h=>.inl h,aF⟩⟩
 ·cases hb1:g.ow b with
  | none=>exact .inl ⟨rfl,(hnone b hb1).trans hb1.symm,rfl⟩
  | some t=>
   by_cases e1:t = .foreign
   ·subst e1;exact .inl (hS b _ hb1 aG aG)
   exact .inr ⟨by simp,fun e=>e1 (Option.some.inj e)⟩
 ·cases hb1:g.ow b with
  | none=>exact absurd (hnone b hb1) h1
  | some t=>
   refine ⟨by simp,fun e=>h2 ?_⟩;cases e;exact Zty hb1 aG aG
 ·rw [hst] at h;have h1:=hm.obj i c h hc;exact h1.keep K (hS _ _ h1.1 aG aG) (fun b' o hb=>hS _ _ hb aG aG)
 ·rcases hm.objB i hi with h | h
  ·exact .inl ((hS _ _ h aG aG).2.1.trans h)
  exact .inr ((hS _ _ h aG aG).2.1.trans h)
 ·rcases get h with ⟨rfl,rfl⟩ | ⟨m1,m2,h1⟩
  ·show ZgO _ _ _ ((g.seat n m).hd m) _ _ _;rw [show (g.seat n m).hd m=g.hd n from Zbq _ _ _];exact hrow
  have h2:=hm.site m ent h1;cases ent with
  | cells c=>exact Znq.keep K h2 (hS _ _ h2.1 aG aG) (fun b' o hb=>hS _ _ hb aG aG)
  | row v0 e0 sz0 xs0=>
   simp only [Zgf] at h2 |-;rw [hhd m m1];exact h2.keep K (fun b hb=>hS _ _ hb (by simp [m2]) (by simp [m1]))
  | mp es=>
   simp only [Zgf] at h2 |-;rw [hhd m m1];exact h2.keep K (fun b hb=>hS _ _ hb (by simp [m2]) (by simp [m1]))
 ·cases hb1:g.ow b with
  | none=>rw [hnone b hb1] at h;cases h
  | some t'=>exact hm.own b t' hb1
 ·obtain ⟨c,h⟩:=h;rcases get h with ⟨_,h1⟩ | ⟨_,_,h1⟩
  ·cases h1
  exact ⟨⟨c,h1⟩,rfl⟩
 ·obtain ⟨e0,sz0,xs0,h⟩:=h;rcases get h with ⟨rfl,h1⟩ | ⟨m1,_,h1⟩
  ·cases h1;rcases hd with hd | ⟨ver0,e1,sz1,xs1,h2,h3⟩
   ·exact absurd hd hX
   exact .inr ⟨ver0,e1,sz1,xs1,h2,h3⟩
  exact .inl ⟨⟨_,_,_,h1⟩,hhd m m1⟩
 obtain ⟨es,h⟩:=h;rcases get h with ⟨_,h1⟩ | ⟨m1,_,h1⟩
 ·cases h1
 exact ⟨⟨_,h1⟩,hhd m m1⟩
def ZdB.seat {o:Oper} {X:List Nat} (h:Ztz s o=some (X,s')):ZdB P o X s s'/\(∃tv,s'.sl=(s.put o.dst tv).sl)/\X.all (fun n=>!TV.mens n s.sl)=true:=by
 unfold Ztz at h;split at h<;>try (cases h;done)
 rename_i d x hdst ho;split at h<;>try (cases h;done)
 rename_i n ver sz lo len hx;split at h<;>try (cases h;done)
 rename_i ver1 e sz1 xs hn;split at h<;>try (cases h;done)
 rename_i hh;obtain ⟨rfl,hne⟩:=hh;have key : ∀(v':Nat) (X:List Nat) (hdlt:d<s.si.length),(d∈X\/∃ver0 e0 sz0 xs0,s.si[d]? = some (some (.row ver0 e0 sz0 xs0))/\ver0<v')->(∀m∈X,TV.mens m s.sl=false) ->
   ZdB P o X s ({ s with si:=(s.si.set n none).set d (some (.row v' e sz1 xs))}.put (some d) (.one (.h (.row d v') sz lo len))):=by
  intro v' X hdlt hd hX g w a hs K Q hK;have hv:=ZbN hs hx;have hexec:(execOp a.eval o).run P w = .ok (.value (a.eval x)) w:=by simp [execOp,ho]
  unfold Oper.wp;rw [hexec];obtain ⟨k1,k2,k3⟩:=Ztx (s':={ s with si:=(s.si.set n none).set d (some (.row v' e sz1 xs))}.put (some d) (.one (.h (.row d v') sz lo len))) hs.mem (X:=X) hne hn hdlt hd rfl rfl rfl;refine hK _ w _ k1 k3 (hs.next k3 hX k2 (by simp [S.put]) (dst:=o.dst) (tv:=.one (.h (.row d v') sz lo len)) (by rw [hdst];rfl) (fun _=>?_));obtain ⟨h1,h2,h3,h4⟩:=hv;have hget:({ s with si:=(s.si.set n none).set d (some (.row v' e sz1 xs))}.put (some d) (.one (.h (.row d v') sz lo len))).si[d]? = some (some (.row v' e sz1 xs)):=by
   show ((s.si.set n none).set d _)[d]? = _;rw [zP (aR hdlt)]
  refine ⟨h1,h2,fun ver'' e'' sz'' xs'' h=>?_,fun hv' hH=>?_⟩
  ·rw [hget] at h;cases h;exact zH _
  obtain ⟨_,rfl⟩:=hH;rw [show (g.seat n d).hd d=g.hd n from Zbq _ _ _];exact h4 _ ⟨⟨_,_,_,hn⟩,rfl⟩
 split at h
 ·rename_i v0 e0 sz0 xs0 hd;simp only [zA,zE] at h;obtain ⟨rfl,rfl⟩:=h;exact ⟨key _ [] (ZmE hd) (.inr ⟨_,_,_,_,hd,Nat.lt_succ_self _⟩) (fun _ h=>by cases h),⟨_,by rw [hdst];rfl⟩,rfl⟩
 ·rename_i hd;split at h<;>simp only [zA,zE,reduceCtorEq] at h;rename_i hmen;obtain ⟨rfl,rfl⟩:=h;have hmen':TV.mens d s.sl=false:=by simpa using hmen
  exact ⟨key _ [d] (ZmE hd) (.inl (List.mem_singleton.2 rfl)) (fun m h=>by rw [List.mem_singleton.1 h];exact hmen'),⟨_,by rw [hdst];rfl⟩,by simp [hmen']⟩
 cases h
end
end Go.Dn
namespace Go.Dn
variable [Globs]
def msOp (P:Program) (s:S) (o:Oper):Option (S×List Prop):=none
section
variable {P:Program} {g:G} {s:S} {w:World}
def ZdB.ms {o:Oper} {s':S} {ps:List Prop} (h:msOp P s o=some (s',ps)) (hp:Zce ps):ZdB P o o.dst.toList s s'/\(∃tv,s'.sl=(s.put o.dst tv).sl)/\o.dst.toList.all (fun n=>!TV.mens n s.sl)=true:=by unfold Dn.msOp at h;cases h
end
end Go.Dn
namespace Go.Dn
variable [Globs]
def clr2Op (P:Program) (s:S) (d:D) (o:Oper):Option (S×List Prop):=none
section
variable {P:Program} {g g':G} {s:S} {w w':World}
def Zno.refl (hm:ZdK g s w) (t:Ow):Zno g g w w t:=
 ⟨⟨rfl,rfl,rfl,rfl,rfl⟩,⟨fun _ _=>rfl,zH _,fun _=>zH _,fun _ _ _=>rfl,fun _ _=>rfl⟩,⟨rfl,rfl,rfl⟩,rfl,fun _ _=>⟨rfl,rfl,rfl⟩,hm.z,fun _ _ _ _ h=>h⟩
def ER.zeros {zv:List Value} {zl:List L} (hc:CR g w none zv zl) {b sz:Nat} (hl:zv.length=sz) : ∀(n o:Nat),(∀i j v,i<n->zv[j]? = some v->w.cell? (ad b (o+i*sz+j))=some v)->ER g w b o sz (zB n zl)
 | 0,o,h=>.nil _ _ _
 | n+1,o,h=>by
  rw [List.replicate_succ];refine .cons _ _ _ zv _ _ hl (fun j v hj=>?_) hc (ER.zeros hc hl n (o+sz) fun i j v hi hj=>?_)
  ·have:=h 0 j v aF hj;rwa [Nat.zero_mul,vC] at this
  have:=h (i+1) j v aF hj;rwa [Nat.add_mul,Nat.one_mul,(aF:o+(i*sz+sz)=o+sz+i*sz)] at this
def ZdB.clr2 {d:D} {o:Oper} {s':S} {ps:List Prop} (h:clr2Op P s d o=some (s',ps)) (hp:Zce ps):ZdB P o [] s s'/\∃tv,s'.sl=(s.put o.dst tv).sl:=by unfold Dn.clr2Op at h;cases h
end
end Go.Dn
namespace Go.Dn
variable [Globs]
def nstOp (P:Program) (s:S) (d:D) (o:Oper):Option (S×List Prop):=none
section
variable {P:Program} {g g':G} {s:S} {w w':World}
def ZdB.nst {s s':S} {o:Oper} {d:D} {ps:List Prop} (h:nstOp P s d o=some (s',ps)) (hp:Zce ps):ZdB P o [] s s'/\∃tv,s'.sl=(s.put o.dst tv).sl:=by unfold Dn.nstOp at h;cases h
end
end Go.Dn
namespace Go.Dn
variable [Globs]
def ldvOp (P:Program) (s:S) (o:Oper) (d:D):Option (List Nat×S×List Prop):=none
def ZdB.ldv {P:Program} {s s':S} {o:Oper} {d:D} {X:List Nat} {ps:List Prop} (h:ldvOp P s o d=some (X,s',ps)) (hp:Zce ps):ZdB P o X s s'/\(∃tv,s'.sl=(s.put o.dst tv).sl)/\X.all (fun n=>!TV.mens n s.sl)=true:=by unfold Dn.ldvOp at h;cases h
def untOp (s:S) (o:Oper):Option TV:=match o.op with
 | .assign _=>some .u
 | _=>none
def ZdB.unt {P:Program} {s:S} {o:Oper} {tv:TV} (h:untOp s o=some tv):ZdB P o [] s (s.put o.dst tv):=by
 refine .value fun g w a hs=>?_;unfold untOp at h;split at h<;>simp only [zA,reduceCtorEq] at h;rename_i x ho;subst h;exact ⟨a.eval x,by simp [execOp,ho],trivial⟩
def Zsb (cs:List Int) (k:Nat) (x:Int):List Int:=cs.take k++x::cs.drop k
structure InsC (P:Program) (f:FuncId):Prop where
 ent:ZqA P f
 room : ∀(w:World) (b off cap vb voff vc:Nat) (cs:List Int) (k:Nat) (x:Int) (cur va:Array Value) (E V:TypeId),k<=cs.length->(cs.length+1)*8<=140737488355328->cs.length+1<=cap->vb≠b ->
  w.heap[b]? = some (.cells cur E (0,0))->off+cap<=cur.size->(∀j v,(cs.map (Value.int .i64))[j]? = some v->w.cell? (ad b (off+j))=some v) ->
  w.heap[vb]? = some (.cells va V (0,0))->w.cell? (ad vb voff)=some (.int .i64 x) ->
  Calls P f #[.slice (some ⟨b,off,none⟩) cs.length cap,.int .i64 k,.slice (some ⟨vb,voff,none⟩) 1 vc] w fun e w'=>
   e = .returned (.slice (some ⟨b,off,none⟩) (cs.length+1) cap)/\(w'.os=w.os/\w'.tape=w.tape/\w'.output=w.output)/\w'.heap.size=w.heap.size/\(∀b',b'≠b->w'.heap[b']? = w.heap[b']?) /\
   ∃cur':Array Value,w'.heap[b]? = some (.cells cur' E (0,0))/\cur'.size=cur.size/\∀(j:Nat) (v:Value),((Zsb cs k x).map (Value.int .i64))[j]? = some v->cur'[off+j]? = some v
 grow : ∀(w:World) (base:Option Addr) (cap vb voff vc:Nat) (cs:List Int) (k:Nat) (x:Int),k<=cs.length->(cs.length+1)*8<=140737488355328->cs.length<=cap->cap<cs.length+1->(base=none->cs = []) ->
  (∀a,base=some a->∃b off,a=⟨b,off,none⟩/\∀j v,(cs.map (Value.int .i64))[j]? = some v->w.cell? (ad b (off+j))=some v)->w.cell? (ad vb voff)=some (.int .i64 x) ->
  Calls P f #[.slice base cs.length cap,.int .i64 k,.slice (some ⟨vb,voff,none⟩) 1 vc] w fun e w'=>∃(cap':Nat) (cur':Array Value) (E:TypeId),
   e = .returned (.slice (some ⟨w.heap.size,0,none⟩) (cs.length+1) cap')/\(w'.os=w.os/\w'.tape=w.tape/\w'.output=w.output)/\w'.heap.size=w.heap.size+1/\(∀b',b'<w.heap.size->w'.heap[b']? = w.heap[b']?) /\
   w'.heap[w.heap.size]? = some (.cells cur' E (0,0))/\cs.length+1<=cap'/\cap'<=cur'.size/\∀(j:Nat) (v:Value),((Zsb cs k x).map (Value.int .i64))[j]? = some v->cur'[j]? = some v
def insOp (P:Program) (s:S) (o:Oper) (d:D):Option (List Nat×S×List Prop):=
 match o.dst,o.op with
 | some dd,.call { callee:=.value (.func f),args:=⟨[x,i,y]⟩,.. }=>match appBase' s { d with m:=d.wm} dd 1 x,ev s i,ev s y with
  | some (s1,n,ver',true,xs,X,ps),some (.one (.l (.int .i64 k))),some (.one (.h (.row m v) 1 lo len))=>match s.si[m]?,s1.si[m]? with
   | some (some (.row v1 _ _ _)),some (some (.row v2 true 1 [[.int .i64 z]]))=>
    if v=v1/\v=v2/\m≠n/\lo=0/\len=1/\X.contains m=false then
     some (X,{ s1 with si:=s1.si.set n (some (.row ver' true 1 (xs.take k.toNat ++ [zK .i64 z]::xs.drop k.toNat)))}.put (some dd) (.one (.h (.row n ver') 1 0 (xs.take k.toNat ++ [zK .i64 z]::xs.drop k.toNat).length)),
      ps ++ [0<=k,k<=(xs.length:Int),isI xs=true,(xs.length+1)*8<=140737488355328,InsC P f])
    else none
   | _,_=>none
  | _,_,_=>none
 | _,_=>none
section
variable {P:Program} {g g':G} {s:S} {w w':World}
def Zqb (hown : ∀b t,g.ow b=some t->b<w.heap.size) (hz : ∀b,w.heap.size<=b->g.Z b=0) {n b off cap:Nat} {cur cur':Array Value} {E:TypeId} {xs:List (List L)} (ho:g.ow b=some (.rowS n)) (hb:w.heap[b]? = some (.cells cur E (0,0))) (hZ:g.Z b=0)
  (hfit:off+cap<=cur.size) (h1:w'.os=w.os/\w'.tape=w.tape/\w'.output=w.output) (h2:w'.heap.size=w.heap.size) (h3 : ∀b',b'≠b->w'.heap[b']? = w.heap[b']?) (h4:w'.heap[b]? = some (.cells cur' E (0,0))) (h5:cur'.size=cur.size) (hl:xs.length<=cap)
  (her : ∀g',ER g' w' b off 1 xs) : ∃g',Zlv g g' w w' n (.slice (some ⟨b,off,none⟩) xs.length cap) true 1 xs:=by
 have K:ZcK g (g.room n b true 0 (.slice (some ⟨b,off,none⟩) xs.length cap)) w w':=by
  refine ⟨fun _ _=>rfl,zH _,fun _=>zH _,fun b' o h=>?_,fun b' h=>?_⟩
  ·by_cases e:b'=b
   ·rw [e,hZ] at h;omega
   exact Zdr (h3 b' e)
  by_cases e:b'=b
  ·rw [e,ZgA hb,ZgA h4]
  exact ZeE (h3 b' e)
 exact ⟨g.room n b true 0 (.slice (some ⟨b,off,none⟩) xs.length cap),⟨rfl,rfl,rfl⟩,fun m hm=>ZcZ _ _ hm,Zbq _ _ _,K,h1,aF,fun b' hb' hne=>⟨h3 b' (fun e=>hne (by rw [e];exact ho)),rfl,rfl⟩,fun b' t h=>by rw [h2];exact hown b' t h,fun b' h=>hz b' aF,
  .inr (.inr ⟨b,off,cap,cur',E,rfl,hl,ho,h4,aF,by rw [aD rfl];exact hZ,her _⟩)⟩
def ZiX (hown : ∀b t,g.ow b=some t->b<w.heap.size) (hz : ∀b,w.heap.size<=b->g.Z b=0) {n cap:Nat} {cur':Array Value} {E:TypeId} {xs:List (List L)} (h1:w'.os=w.os/\w'.tape=w.tape/\w'.output=w.output) (h2:w'.heap.size=w.heap.size+1)
  (h3 : ∀b',b'<w.heap.size->w'.heap[b']? = w.heap[b']?) (h4:w'.heap[w.heap.size]? = some (.cells cur' E (0,0))) (h5:cap<=cur'.size) (hl:xs.length<=cap) (her : ∀g',ER g' w' w.heap.size 0 1 xs) :
  ∃g',Zlv g g' w w' n (.slice (some ⟨w.heap.size,0,none⟩) xs.length cap) true 1 xs:=by
 have hlt : ∀b o,o<g.Z b->b<w.heap.size:=fun b o h=>by
  rcases zX b w.heap.size with h' | h'
  ·exact h'
  rw [hz b h'] at h;omega
 have K:ZcK g (g.grow w n true 0 (.slice (some ⟨w.heap.size,0,none⟩) xs.length cap)) w w':=by
  refine ⟨fun _ _=>rfl,zH _,fun b=>?_,fun b o h=>Zdr (h3 b (hlt b o h)),fun b h=>ZeE (h3 b (hlt b 0 h))⟩;by_cases hb:b=w.heap.size
  ·rw [hb,hz _ (zH _)];exact xD _
  show _<=ZgJ _ _ _ _;rw [ZcZ _ _ hb];exact zH _
 refine ⟨g.grow w n true 0 (.slice (some ⟨w.heap.size,0,none⟩) xs.length cap),⟨rfl,rfl,rfl⟩,fun m hm=>ZcZ _ _ hm,Zbq _ _ _,K,h1,aF,fun b hb hne=>⟨h3 b hb,?_,ZcZ _ _ aF⟩,fun b t h=>?_,fun b hb=>?_,?_⟩
 ·rw [ZlL _ _ _ _ _ _ aF,aE hne]
 ·rw [h2];by_cases hb:b=w.heap.size
  ·omega
  rw [ZlL _ _ _ _ _ _ hb] at h;have h':=h;split at h'
  ·rename_i h3;have:=hown b _ h3;omega
  have:=hown b _ h';omega
 ·show ZgJ _ _ _ _=_;rw [ZcZ _ _ aF];exact hz b aF
 refine .inr (.inr ⟨w.heap.size,0,cap,cur',E,rfl,hl,Zse _ _ _ _ _ _,h4,aF,?_,her _⟩);show ZgJ _ _ _ _=_;rw [Zbq];rfl
def insI_row (cs:List Int) (k:Nat) (x:Int):(Zec cs).take k ++ [.int .i64 x]::(Zec cs).drop k=Zec (Zsb cs k x):=by
 unfold Zec Zsb;rw [List.map_append,xF,List.map_take,List.map_drop]
def ZdB.ins {o:Oper} {d:D} {X:List Nat} {s':S} {ps:List Prop} (h:insOp P s o d=some (X,s',ps)) (hp:Zce ps):ZdB P o X s s'/\(∃tv,s'.sl=(s.put o.dst tv).sl)/\X.all (fun n=>!TV.mens n s.sl)=true:=by
 unfold insOp at h;split at h<;>try (cases h;done)
 rename_i dd f x i y _ hd ho;split at h<;>try (cases h;done)
 rename_i s1 n ver' xs X0 ps1 k m v lo len hbase hik hyk;split at h<;>try (cases h;done)
 rename_i v1 e1 z1 xs1 v2 z hsm hs1m;split at h<;>simp only [zA,zE,reduceCtorEq] at h;rename_i hh;obtain ⟨rfl,rfl,hmn,rfl,rfl,hmX⟩:=hh;obtain ⟨rfl,rfl,rfl⟩:=h;rw [Zce.append] at hp;obtain ⟨hp1,hp2⟩:=hp;simp only [Zce] at hp2;obtain ⟨hk0,hk1,hI,hbig,hC⟩:=hp2;obtain ⟨kn,rfl⟩ : ∃kn:Nat,k=(kn:Int):=⟨k.toNat,aF⟩
 simp only [Int.toNat_natCast] at *;obtain ⟨hsl1,hX0⟩:=ZmU hbase;refine ⟨?_,⟨.one (.h (.row n ver') 1 0 (xs.take kn ++ [zK .i64 z]::xs.drop kn).length),by rw [hd];simp only [S.put,hsl1]⟩,hX0⟩;intro g w a hs K Q hK;obtain ⟨g1,hM1,hm1,k1,hrow,hn,hsl,hsil⟩:=Zip hbase hp1 hs;have hxs:=Zjq hI;obtain ⟨cs,hcs⟩ : ∃cs,cs=xs.map Zge:=⟨_,rfl⟩
 rw [<-hcs] at hxs;have hcl:cs.length=xs.length:=by rw [hcs];simp
 have hres:xs.take kn ++ [zK .i64 z]::xs.drop kn=Zec (Zsb cs kn z):=by rw [<-insI_row,<-hxs]
 have hrl:(Zec (Zsb cs kn z)).length=cs.length+1:=by simp [Zec,Zsb];omega
 have hvi:a.eval i = .int .i64 kn:=(ZbN hs hik).2.int_eq;have hrv:=hm1.site m _ hs1m;simp only [Zgf] at hrv;have hdm:g1.hd m=g.hd m:=by
  rcases k1.row m _ (fun h=>by have:=List.contains_iff_mem.2 h;rw [hmX] at this;cases this) ⟨_,_,_,hs1m⟩ with h | ⟨ver0,_,_,_,h,hlt⟩
  ·exact h.2
  rw [hsm] at h;simp only [zA,Ent.row.injEq] at h;omega
 have hwin:=(ZbN hs hyk).2.2.2 (g.hd m) ⟨⟨_,_,_,hsm⟩,rfl⟩;rw [hdm] at hrv;obtain ⟨vb,voff,vcap,va,V,hv1,hv2,hv3,hv4,hv5,hv6,hv7⟩ : ∃b off cap a E,g.hd m = .slice (some (ad b off)) 1 cap/\1<=cap/\g1.ow b=some (.rowS m)/\w.heap[b]? = some (.cells a E (0,0))/\off+cap*1<=a.size/\g1.Z b=0/\ER g1 w b off 1 [[zK .i64 z]]:=by
  rcases hrv with ⟨_,h⟩ | ⟨_,_,_,h⟩ | ⟨b,off,cap,aa,E,h1,h2,h3,h4,h5,h6,h7⟩
  ·cases h
  ·cases h
  exact ⟨b,off,cap,aa,E,h1,h2,h3,h4,h5,by simpa using h6,h7⟩
 have hvy:a.eval y = .slice (some ⟨vb,voff,none⟩) 1 vcap:=by
  rcases hwin with ⟨_,_,h,_⟩ | ⟨b',o,n',c,o',h,h',hv,j1,j2⟩
  ·cases h
  rw [hv1] at h;simp only [Value.slice.injEq,zA,Addr.mk.injEq] at h;obtain ⟨⟨rfl,rfl,-⟩,rfl,rfl⟩:=h;have:=j2 rfl;subst this;rw [hv,Nat.sub_zero]
 have hvx:w.cell? (ad vb voff)=some (.int .i64 z):=ER.cellsI (l:=[z]) hv7 0 _ rfl;have hrun:(execOp a.eval o).run P w = .ok (.enter f #[a.eval x,a.eval i,a.eval y]) w:=by
  have:=Zgl hC.ent #[a.eval x,a.eval i,a.eval y] w;have hfun:a.eval (.func f) = .func (.func f) #[] #[]:=rfl;simp [execOp,ho,resolve,Deferred.ofValue,hfun,invoke,this]
 unfold Oper.wp;rw [hrun];show Calls P f _ w _;rw [hvi,hvy];have fin : ∀hv' w' g',Zlv g1 g' w w' n hv' true 1 (xs.take kn ++ [zK .i64 z]::xs.drop kn)->K (a.put o.dst hv') w':=by
  intro hv' w' g' hN;obtain ⟨hM,hm',k⟩:=Zid (s':={ s1 with si:=s1.si.set n (some (.row ver' true 1 (xs.take kn ++ [zK .i64 z]::xs.drop kn)))}.put (some dd) (.one (.h (.row n ver') 1 0 (xs.take kn ++ [zK .i64 z]::xs.drop kn).length))) hm1 (X:=X0) (n:=n) (ver':=ver')
   (hn.imp id fun ⟨v0,e1,sz1,xs1,h1,h2⟩=>⟨v0,e1,sz1,xs1,h1,.inl h2⟩) hN.hob hN.hhd hN.K hN.ho hN.hsize hN.hsame hN.hown hN.hz (by rw [hN.hdn];exact hN.hrow) rfl rfl rfl
  have kk:=k1.trans k;refine hK g' w' hv' (hM1.trans hM) kk (hs.next kk (fun m hm=>by have:=xM.1 hX0 m hm;simpa using this) hm' (by simp [S.put,hsil]) (dst:=o.dst) (tv:=.one (.h (.row n ver') 1 0 (xs.take kn ++ [zK .i64 z]::xs.drop kn).length)) (by rw [hd];simp only [S.put,hsl]) (fun _=>?_));have hin:Znn g' (({ s1 with si:=s1.si.set n (some (.row ver' true 1 (xs.take kn ++ [zK .i64 z]::xs.drop kn)))}:S).put (some dd) (.one (.h (.row n ver') 1 0 (xs.take kn ++ [zK .i64 z]::xs.drop kn).length))) (.row n ver'):=by
   intro v1 e1 sz1 xs1 h;have h2:(s1.si.set n (some (Ent.row ver' true 1 (xs.take kn ++ [zK .i64 z]::xs.drop kn))))[n]? = some (some (.row v1 e1 sz1 xs1)):=h;have hlt:n<s1.si.length:=by
    rcases zX n s1.si.length with h' | h'
    ·exact h'
    rw [zM (aR h')] at h2;cases h2
   rw [zP hlt] at h2;simp only [zA,Ent.row.injEq] at h2;omega
  rcases hN.hrow with ⟨h1,h2⟩ | ⟨b1,o1,h1,h2⟩ | ⟨b1,o1,cap,aa,E,h1,k2,_⟩
  ·simp at h2
  ·simp at h2
  rw [h1];refine ⟨rfl,⟨_,_,rfl,.inr rfl⟩,hin,?_⟩;rintro hv0 ⟨_,rfl⟩;right;exact ⟨b1,o1,(xs.take kn ++ [zK .i64 z]::xs.drop kn).length,cap,o1,hN.hdn.trans h1,⟨aF,k2⟩,by simp,fun _=>by simp,fun _=>rfl⟩
 have hER : ∀{w':World} {b off:Nat} {cur':Array Value} {E:TypeId},w'.heap[b]? = some (.cells cur' E (0,0))->(∀j v,((Zsb cs kn z).map (Value.int .i64))[j]? = some v->cur'[off+j]? = some v)->∀g',ER g' w' b off 1 (Zec (Zsb cs kn z)):=by
  intro w' b off cur' E h1 h2 g';refine Zlc .i64 _ fun j v hj=>?_;have:=h2 j v hj;simp only [World.cell?,h1];exact this
 rcases hrow with ⟨h0,h1⟩ | ⟨b,o1,h0,h1⟩ | ⟨b,off,cap,cur,E,h0,h2,h3,h4,h5,h6,h7⟩
 ·have hc0:cs = []:=sZ (by rw [hcl,h1];rfl);rw [h0];have e0:(.slice none 0 0:Value) = .slice none cs.length 0:=by rw [hc0];rfl
  rw [e0];refine (hC.grow w none 0 vb voff vcap cs kn z aF aF (by rw [hc0];simp) aF (fun _=>hc0) (fun a h=>by cases h) hvx).mono ?_;rintro e w' ⟨cap',cur',E,rfl,q1,q2,q3,q4,q5,q6,q7⟩;obtain ⟨g',hN⟩:=ZiX (n:=n) hm1.own hm1.z q1 q2 q3 q4 q6 aF (hER (off:=0) q4 (fun j v hj=>by rw [yE];exact q7 j v hj));rw [hrl,<-hres] at hN;exact fin _ w' g' hN
 ·have hc0:cs = []:=sZ (by rw [hcl,h1];rfl);rw [h0];have e0:(.slice (some (ad b o1)) 0 0:Value) = .slice (some (ad b o1)) cs.length 0:=by rw [hc0];rfl
  rw [e0];refine (hC.grow w (some (ad b o1)) 0 vb voff vcap cs kn z aF aF (by rw [hc0];simp) aF (fun h=>by cases h) (fun a h=>by cases h;exact ⟨b,o1,rfl,fun j v hj=>by rw [hc0] at hj;simp at hj⟩) hvx).mono ?_;rintro e w' ⟨cap',cur',E,rfl,q1,q2,q3,q4,q5,q6,q7⟩;obtain ⟨g',hN⟩:=ZiX (n:=n) hm1.own hm1.z q1 q2 q3 q4 q6 aF (hER (off:=0) q4 (fun j v hj=>by rw [yE];exact q7 j v hj));rw [hrl,<-hres] at hN;exact fin _ w' g' hN
 rw [aD rfl] at h6;rw [h0,<-hcl];have hcells:=ER.cellsI (l:=cs) (by rw [<-hxs];exact h7);by_cases hroom:cs.length+1<=cap
 ·have hne:vb≠b:=by
   rintro rfl;rw [h3] at hv3;simp only [zA,Ow.rowS.injEq] at hv3;exact hmn hv3.symm
  refine (hC.room w b off cap vb voff vcap cs kn z cur va E V aF aF hroom hne h4 aF hcells hv4 hvx).mono ?_;rintro e w' ⟨rfl,q1,q2,q3,cur',q4,q5,q6⟩;obtain ⟨g',hN⟩:=Zqb (n:=n) (cap:=cap) hm1.own hm1.z h3 h4 h6 aF q1 q2 q3 q4 q5 (by rw [hrl];exact hroom) (hER q4 q6);rw [hrl,<-hres] at hN;exact fin _ w' g' hN
 refine (hC.grow w (some (ad b off)) cap vb voff vcap cs kn z aF aF aF aF (fun h=>by cases h) (fun a h=>by cases h;exact ⟨b,off,rfl,hcells⟩) hvx).mono ?_;rintro e w' ⟨cap',cur',E',rfl,q1,q2,q3,q4,q5,q6,q7⟩;obtain ⟨g',hN⟩:=ZiX (n:=n) hm1.own hm1.z q1 q2 q3 q4 q6 aF (hER (off:=0) q4 (fun j v hj=>by rw [yE];exact q7 j v hj));rw [hrl,<-hres] at hN;exact fin _ w' g' hN
end
end Go.Dn
namespace Go.Dn
variable [Globs]
inductive BVx (st:List (List L)):List L->List L->Prop where
 | of (c cs:List L) (h:BVs st c cs):BVx st c cs
 | pl (l:L) (ls ks:List L) (h:l.plain=true) (r:BVx st ls ks):BVx st (l::ls) (l::ks)
 | gone (ls ks:List L) (r:BVx st ls ks):BVx st (.gone::ls) (.gone::ks)
 | bx (n:Nat) (c cs ls ks:List L) (hc:BVx st c cs) (r:BVx st ls ks):BVx st (.bx n c::ls) (.bx n cs::ks)
 | obj (i n:Nat) (c cs ls ks:List L) (h:st[i]? = some c) (hc:BVx st c cs) (hn:sizes cs=n) (hne:c.isEmpty=false) (r:BVx st ls ks):BVx st (.ptr (some i)::ls) (.bx n cs::ks)
def BVx.sizes {st:List (List L)} : ∀{c cs:List L},BVx st c cs->Dn.sizes c=Dn.sizes cs
 | _,_,.of _ _ h=>h.sizes
 | _,_,.pl _ _ _ _ r=>by simp only [Dn.sizes,r.sizes]
 | _,_,.gone _ _ r=>by simp only [Dn.sizes,r.sizes]
 | _,_,.bx _ _ _ _ _ _ r=>by simp only [Dn.sizes,r.sizes,L.size]
 | _,_,.obj _ _ _ _ _ _ _ _ _ _ r=>by simp only [Dn.sizes,r.sizes,L.size]
section
variable {P:Program} {g g' G0:G} {s:S} {w w':World}
def LR.plainK (K:ZcK g G0 w w) {p:Option (Nat×Nat)} {v:Value} {l:L} (hl:l.plain=true) (h:LR g w p v l):LR G0 w none v l:=by
 cases h<;>first | (simp [L.plain] at hl;done) | skip
 ·exact .int _ _ _
 ·exact .bool _ _
 ·exact .str _ _
 ·exact .nilp _
 exact LR.keep K (.ref none _ (by assumption))
def BVs.crG (hm:ZdK g s w) (K:ZcK g G0 w w) (hZ : ∀b t,g.ow b=some t->(∀q,t ≠ .rowS q)->Zff w b<=G0.Z b) : ∀{c cs:List L},BVs s.st c cs->∀{p:Option (Nat×Nat)} {vs:List Value},CR g w p vs c->CR G0 w none vs cs
 | _,_,.nil,_,_,h=>by cases h;exact .nil _
 | _,_,.pl l ls ks hl r,p,_,h=>by
  cases h with
  | one _ v vs _ _ hv h1 hr=>exact .one _ _ _ _ _ (hv.plainK K hl) h1 (BVs.crG hm K hZ r hr)
  | arr _ k n xs vs _ hn hr=>exact .arr _ _ _ _ _ _ hn (BVs.crG hm K hZ r hr)
  | brr _ n xs vs _ hn hr=>exact .brr _ _ _ _ _ hn (BVs.crG hm K hZ r hr)
 | _,_,.sl sz xs ls ks r,p,_,h=>by
  cases h with
  | one _ v vs _ _ hv h1 hr=>
   refine .one _ _ _ _ _ ?_ h1 (BVs.crG hm K hZ r hr);cases hv with
   | slnil=>exact .slnil _ _
   | slz=>exact .slz _ _ _
   | sl _ b off len cap _ _ hl hc hZ' he=>exact .sl _ b off len cap _ _ hl hc (xQ hZ' (K.Z b)) (he.keep K (by rw [hl];exact hZ'))
 | _,_,.own e sz xs ls ks r,p,_,h=>by
  cases h with
  | one _ v vs _ _ hv h1 hr=>
   refine .one _ _ _ _ _ ?_ h1 (BVs.crG hm K hZ r hr);cases hv with
   | ownnil=>exact .slnil _ _
   | ownz=>exact .slz _ _ _
   | own q b off len cap _ _ _ a E hl hc ho hb hs hZ' he=>
    refine .sl _ b off len cap _ _ hl hc (xQ ?_ (hZ b _ ho aG)) (he.keep' K fun _ _ _=>rfl);have:Zff w b=a.size:=by simp [Zff,hb]
    have h2:len*sz<=cap*sz:=wX _ hc;omega
 | _,_,.mp es ls ks r,p,_,h=>by
  cases h with
  | one _ v vs _ _ hv h1 hr=>
   refine .one _ _ _ _ _ ?_ h1 (BVs.crG hm K hZ r hr);cases hv with
   | mp q b cl en _ ho hb he=>
    refine .mz _ b en _ (yK ?_ (hZ b _ ho.1 aG)) (by simp [ZiB,hb]) (he.keep K);simp [Zff,hb]
 | _,_,.bx n cs ls ks r,p,_,h=>by
  cases h with
  | one _ v vs _ _ hv h1 hr=>
   refine .one _ _ _ _ _ ?_ h1 (BVs.crG hm K hZ r hr);cases hv with
   | bx _ _ b o _ us hn hZ' hc hx=>exact .bx _ n b o cs us hn (xQ hZ' (K.Z b)) hc (hx.keep K)
 | _,_,.mz es ls ks r,p,_,h=>by
  cases h with
  | one _ v vs _ _ hv h1 hr=>
   refine .one _ _ _ _ _ ?_ h1 (BVs.crG hm K hZ r hr);cases hv with
   | mz _ b en _ hZ' hb he=>exact .mz _ b en _ (yK hZ' (K.Z b)) hb (he.keep K)
 | _,_,.obj i n c cs ls ks hst hc hn hne r,p,_,h=>by
  cases h with
  | one _ v vs _ _ hv h1 hr=>
   refine .one _ _ _ _ _ ?_ h1 (BVs.crG hm K hZ r hr);cases hv with
   | ref _ _ hi=>
    obtain ⟨h2,h3,a,E,h4,h5⟩:=hm.obj i c hst (by intro e;subst e;simp at hne);have h6:=BVs.crG hm K hZ hc h5;have hlen:a.toList.length=n:=by rw [h5.size,hc.sizes];exact hn
    refine .bx _ n _ 0 cs a.toList hlen ?_ (fun j v hj=>?_) h6
    ·have hb:Zff w (g.ob i)=a.size:=by simp [Zff,h4]
     have:=hZ (g.ob i) _ h2 aG;simp at hlen;omega
    simp only [World.cell?,h4];simpa using hj
def BVx.crG (hm:ZdK g s w) (K:ZcK g G0 w w) (hZ : ∀b t,g.ow b=some t->(∀q,t ≠ .rowS q)->Zff w b<=G0.Z b) : ∀{c cs:List L},BVx s.st c cs->∀{p:Option (Nat×Nat)} {vs:List Value},CR g w p vs c->CR G0 w none vs cs
 | _,_,.of _ _ h,_,_,h1=>BVs.crG hm K hZ h h1
 | _,_,.pl l ls ks hl r,p,_,h=>by
  cases h with
  | one _ v vs _ _ hv h1 hr=>exact .one _ _ _ _ _ (hv.plainK K hl) h1 (BVx.crG hm K hZ r hr)
  | arr _ k n xs vs _ hn hr=>exact .arr _ _ _ _ _ _ hn (BVx.crG hm K hZ r hr)
  | brr _ n xs vs _ hn hr=>exact .brr _ _ _ _ _ hn (BVx.crG hm K hZ r hr)
 | _,_,.gone ls ks r,p,_,h=>by
  cases h with
  | one _ v vs _ _ hv h1 hr=>exact .one _ _ _ _ _ (.gone _ _) h1 (BVx.crG hm K hZ r hr)
 | _,_,.bx n c cs ls ks hc r,p,_,h=>by
  cases h with
  | one _ v vs _ _ hv h1 hr=>
   refine .one _ _ _ _ _ ?_ h1 (BVx.crG hm K hZ r hr);cases hv with
   | bx _ _ b o _ us hn hZ' hcl hx=>exact .bx _ n b o cs us hn (xQ hZ' (K.Z b)) hcl (BVx.crG hm K hZ hc hx)
 | _,_,.obj i n c cs ls ks hst hc hn hne r,p,_,h=>by
  cases h with
  | one _ v vs _ _ hv h1 hr=>
   refine .one _ _ _ _ _ ?_ h1 (BVx.crG hm K hZ r hr);cases hv with
   | ref _ _ hi=>
    obtain ⟨h2,h3,a,E,h4,h5⟩:=hm.obj i c hst (by intro e;subst e;simp at hne);have h6:=BVx.crG hm K hZ hc h5;have hlen:a.toList.length=n:=by rw [h5.size,hc.sizes];exact hn
    refine .bx _ n _ 0 cs a.toList hlen ?_ (fun j v hj=>?_) h6
    ·have hb:Zff w (g.ob i)=a.size:=by simp [Zff,h4]
     have:=hZ (g.ob i) _ h2 aG;simp at hlen;omega
    simp only [World.cell?,h4];simpa using hj
def G.outD (g:G) (w:World) (bo:Option Nat):G:=
 { g with ow:=fun b=>if bo=some b then some (.rowS 0) else if (g.ow b).isSome then some .foreign else none,Z:=fun b=>if bo=some b then g.Z b else (g.lift w).Z b}
def ZkO (g:G) (w:World) (bo:Option Nat):ZcK g (g.outD w bo) w w:=by
 refine ⟨fun _ _=>rfl,zH _,fun b=>?_,fun _ _ _=>rfl,fun _ _=>rfl⟩;show _<=if _ then _ else _
 split
 ·exact zH _
 exact (ZeF g w).Z b
def ZtR (hm:ZdK g s w) {bo:Option Nat} (hbo : ∀b,bo=some b->b<w.heap.size/\∃n,g.ow b=some (.rowS n)):ZdK (g.outD w bo) (.ofSt (s.seen true)) w:=by
 refine ⟨by simp only [S.ofSt,S.seen,if_true,uA];exact hm.stl,fun i c h hne=>?_,fun i hi=>?_,fun n ent h=>by simp [S.ofSt] at h,fun b t h=>?_,fun b hb=>?_,hm.gl.keep (ZkO g w bo)⟩
 ·simp only [S.ofSt,S.seen,if_true,wA] at h;split at h<;>simp at h;exact absurd h.symm (fun e=>hne (e ▸ rfl))
 ·right;have h0:g.ow (g.ob i)=some (.obj i)\/g.ow (g.ob i)=some .foreign:=hm.objB i hi;show (if bo=some (g.ob i) then _ else if _ then _ else _)=_;rw [aE,aD]
  ·show (g.ow (g.ob i)).isSome=true;rcases h0 with h | h<;>(rw [h];rfl)
  intro e;obtain ⟨_,n,hn⟩:=hbo _ e;rcases h0 with h | h<;>(rw [h] at hn;cases hn)
 ·have h1:(if bo=some b then some (Ow.rowS 0) else if (g.ow b).isSome then some .foreign else none)=some t:=h;split at h1
  ·rename_i e;exact (hbo b e).1
  split at h1
  ·rename_i e;obtain ⟨t',ht⟩:=rY.1 e;exact hm.own b t' ht
  cases h1
 show (if bo=some b then g.Z b else if (g.ow b).isSome then _ else g.Z b)=0;have h0:=hm.z b hb;have h1:(g.ow b).isSome=false:=by
  cases h:g.ow b with
  | none=>rfl
  | some t=>have:=hm.own b t h;omega
 rw [h1];split<;>simpa using h0
def dlf_new (hm:ZdK g s w) {n:Nat} {bo:Option Nat} (hbo : ∀b,bo=some b->b<w.heap.size/\g.ow b=some (.rowS n)/\g.Z b=0) (hM:Mod (g.outD w bo) g' w w') {st':S} (hm':ZdK g' st' w') {v:Value} {ys:List (List L)} (hrow:ZgO g' w' (.rowS 0) v true 1 ys) (hI:isI ys=true) :
  ∃g2,Zlv g g2 w w' n v true 1 ys:=by
 have old : ∀b,b<w.heap.size->bo≠some b->Zhw (g.outD w bo) g' w w' b:=fun b hb hne=>by
  rcases hM.same b hb with h | h
  ·exact h
  have h1:(g.outD w bo).ow b=if (g.ow b).isSome then some .foreign else none:=by show (if _ then _ else _)=_;rw [aE hne]
  rw [h1] at h;split at h
  ·exact absurd rfl h.2
  exact absurd rfl h.1
 obtain ⟨g2,hg2⟩ : ∃g2:G,g2 = { g with ow:=fun b=>if b<w.heap.size/\bo≠some b then g.ow b else Zgt 0 n (g'.ow b),Z:=fun b=>if b<w.heap.size/\bo≠some b then g.Z b else g'.Z b,hd:=ZgJ g.hd n v}:=⟨_,rfl⟩
 have how : ∀b,g2.ow b=if b<w.heap.size/\bo≠some b then g.ow b else Zgt 0 n (g'.ow b):=fun b=>by rw [hg2]
 have hgZ : ∀b,g2.Z b=if b<w.heap.size/\bo≠some b then g.Z b else g'.Z b:=fun b=>by rw [hg2]
 have hzl : ∀b o,o<g.Z b->b<w.heap.size/\bo≠some b:=fun b o h=>by
  refine ⟨?_,fun e=>?_⟩
  ·rcases zX b w.heap.size with h' | h'
   ·exact h'
   rw [hm.z b h'] at h;omega
  rw [(hbo b e).2.2] at h;omega
 have K:ZcK g g2 w w':=by
  refine ⟨fun _ _=>by rw [hg2],by rw [hg2];exact zH _,fun b=>?_,fun b o h=>?_,fun b h=>?_⟩
  ·rw [hgZ];split
   ·exact zH _
   rename_i hh;rcases Nat.eq_zero_or_pos (g.Z b) with h0 | h0
   ·rw [h0];exact xD _
   exact absurd (hzl b 0 h0) hh
  ·obtain ⟨h1,h2⟩:=hzl b o h;exact Zdr (old b h1 h2).1
  obtain ⟨h1,h2⟩:=hzl b 0 h;exact ZeE (old b h1 h2).1
 refine ⟨g2,by rw [hg2];exact ⟨rfl,rfl,rfl⟩,fun m hmn=>by rw [hg2];exact ZcZ _ _ hmn,by rw [hg2];exact Zbq _ _ _,K,⟨hM.os,hM.tape,hM.output⟩,hM.size,fun b hb hne=>?_,fun b t h=>?_,fun b hb=>?_,?_⟩
 ·have hb2:bo≠some b:=fun e=>hne (hbo b e).2.1;exact ⟨(old b hb hb2).1,by rw [how,aD ⟨hb,hb2⟩],by rw [hgZ,aD ⟨hb,hb2⟩]⟩
 ·rw [how] at h;split at h
  ·rename_i hh;exact yK hh.1 hM.size
  cases h2:g'.ow b with
  | none=>rw [h2] at h;cases h
  | some t'=>exact hm'.own b t' h2
 ·rw [hgZ,aE (by intro h;have:=hM.size;omega)];exact hm'.z b hb
 rcases hrow with h | h | ⟨b1,o1,cap,aa,E,h1,h2,h3,h4,h5,h6,h7⟩
 ·exact .inl h
 ·exact .inr (.inl h)
 have hnot : ¬ (b1<w.heap.size/\bo≠some b1):=by
  rintro ⟨hb,hne⟩;have h8:=(old b1 hb hne).2.1;rw [h3] at h8;have h9:(g.outD w bo).ow b1=if (g.ow b1).isSome then some .foreign else none:=by show (if _ then _ else _)=_;rw [aE hne]
  rw [h9] at h8;split at h8<;>cases h8
 refine .inr (.inr ⟨b1,o1,cap,aa,E,h1,h2,?_,h4,h5,?_,?_⟩)
 ·rw [how,aE hnot,h3];simp [Zgt]
 ·rw [hgZ,aE hnot];exact h6
 have hys:=Zjq hI;rw [hys] at h7 |-;refine Zlc .i64 _ fun j v hj=>ER.cellsI h7 j v hj
def dlfOp (P:Program) (s:S) (o:Oper) (d:D):Option (List Nat×S×List Prop):=
 match o.dst,o.op with
 | some dd,.call { callee:=.value (.func f),args:=⟨[x,y]⟩,.. }=>match appBase' s { d with m:=d.wm} dd 1 x,ev s y,d.cv,d.rs with
  | some (s1,n,ver',true,xs,X,ps),some (.one (.l (.fn k j cs))),[.one (.fn k' j' cs')],[.row true 1 ys]=>
   if k=k'/\j=j' then
    some (X,{ s1 with si:=s1.si.set n (some (.row ver' true 1 ys))}.put (some dd) (.one (.h (.row n ver') 1 0 ys.length)),ps ++ [BVx s1.st cs cs',isI ys=true,ZdW P f [.row true 1 xs,.one (.fn k' j' cs')] [.row true 1 ys]])
   else none
  | _,_,_,_=>none
 | _,_=>none
def ZdB.dlf {o:Oper} {d:D} {X:List Nat} {s':S} {ps:List Prop} (h:dlfOp P s o d=some (X,s',ps)) (hp:Zce ps):ZdB P o X s s'/\(∃tv,s'.sl=(s.put o.dst tv).sl)/\X.all (fun n=>!TV.mens n s.sl)=true:=by
 unfold dlfOp at h;split at h<;>try (cases h;done)
 rename_i dd f x y _ hd ho;split at h<;>try (cases h;done)
 rename_i s1 n ver' xs X0 ps1 k j cs k' j' cs' ys hbase hyk hdc hdr;split at h<;>simp only [zA,zE,reduceCtorEq] at h;rename_i hh;obtain ⟨rfl,rfl⟩:=hh;obtain ⟨rfl,rfl,rfl⟩:=h;rw [Zce.append] at hp;obtain ⟨hp1,hp2⟩:=hp;simp only [Zce] at hp2;obtain ⟨hbv,hI,hC⟩:=hp2;obtain ⟨hsl1,hX0⟩:=ZmU hbase;refine ⟨?_,⟨.one (.h (.row n ver') 1 0 ys.length),by rw [hd];simp only [S.put,hsl1]⟩,hX0⟩;intro g w a hs K Q hK;obtain ⟨g1,hM1,hm1,k1,hrow,hn,hsl,hsil⟩:=Zip hbase hp1 hs;obtain ⟨hent,hC⟩:=hC (s1.seen true);have hrun:(execOp a.eval o).run P w = .ok (.enter f #[a.eval x,a.eval y]) w:=by
  have:=Zgl hent #[a.eval x,a.eval y] w;have hfun:a.eval (.func f) = .func (.func f) #[] #[]:=rfl;simp [execOp,ho,resolve,Deferred.ofValue,hfun,invoke,this]
 unfold Oper.wp;rw [hrun];show Calls P f _ w _;obtain ⟨bo,hbo,hrow0⟩ : ∃bo:Option Nat,(∀b,bo=some b->b<w.heap.size/\g1.ow b=some (.rowS n)/\g1.Z b=0)/\ZgO (g1.outD w bo) w (.rowS 0) (a.eval x) true 1 xs:=by
  rcases hrow with h | h | ⟨b,off,cap,aa,E,h1,h2,h3,h4,h5,h6,h7⟩
  ·exact ⟨none,(fun b e=>by cases e),.inl h⟩
  ·exact ⟨none,(fun b e=>by cases e),.inr (.inl h)⟩
  rw [aD rfl] at h6;refine ⟨some b,(fun b' e=>by cases e;exact ⟨hm1.own b _ h3,h3,h6⟩),.inr (.inr ⟨b,off,cap,aa,E,h1,h2,?_,h4,h5,?_,h7.keep' (ZkO g1 w (some b)) fun _ _ _=>rfl⟩)⟩
  ·show (if _ then _ else _)=_;rw [aD rfl]
  show (if _ then _ else _)=_;rw [aD rfl,aD rfl];exact h6
 have hfn:CVR (g1.outD w bo) w 1 (a.eval y) (.one (.fn k j cs')):=by
  obtain ⟨h1,h2⟩:=ZbN hs hyk;refine ⟨h1,?_⟩;have h3:LR g w none (a.eval y) (.fn k j cs):=h2;generalize a.eval y=v at h3;cases h3 with
  | fn _ _ _ vs _ hc=>
   refine .fn _ k j vs cs' (BVx.crG hm1 (ZkO g1 w bo) (fun b t hb ht=>?_) hbv (CR.keep hM1.keep hc));show _<=if bo=some b then _ else _
   rw [aE]
   ·exact ZrT (by rw [hb];rfl)
   intro e;rw [(hbo b e).2.1] at hb;simp only [zA] at hb;exact ht n hb.symm
 refine (hC (g1.outD w bo) w [a.eval x,a.eval y] ⟨_,_,rfl,hrow0,_,_,rfl,hfn,rfl⟩ (ZtR hm1 fun b e=>⟨(hbo b e).1,n,(hbo b e).2.1⟩)).mono ?_;rintro e w' ⟨g',us,rfl,hM,hm',hus⟩;obtain ⟨v,rest,rfl,hv,hrest⟩:=hus;cases hrest;obtain ⟨g2,hN⟩:=dlf_new hm1 hbo hM hm' hv hI;show K (a.put o.dst v) w';obtain ⟨hM2,hm2,k2⟩:=Zid (s':={ s1 with si:=s1.si.set n (some (.row ver' true 1 ys))}.put (some dd) (.one (.h (.row n ver') 1 0 ys.length))) hm1 (X:=X0) (n:=n) (ver':=ver')
  (hn.imp id fun ⟨v0,e1,sz1,xs1,h1,h2⟩=>⟨v0,e1,sz1,xs1,h1,.inl h2⟩) hN.hob hN.hhd hN.K hN.ho hN.hsize hN.hsame hN.hown hN.hz (by rw [hN.hdn];exact hN.hrow) rfl rfl rfl
 have kk:=k1.trans k2;refine hK g2 w' v (hM1.trans hM2) kk (hs.next kk (fun m hm=>by have:=xM.1 hX0 m hm;simpa using this) hm2 (by simp [S.put,hsil]) (dst:=o.dst) (tv:=.one (.h (.row n ver') 1 0 ys.length)) (by rw [hd];simp only [S.put,hsl]) (fun _=>?_));have hin:Znn g2 (({ s1 with si:=s1.si.set n (some (.row ver' true 1 ys))}:S).put (some dd) (.one (.h (.row n ver') 1 0 ys.length))) (.row n ver'):=by
  intro v1 e1 sz1 xs1 h;have h2:(s1.si.set n (some (Ent.row ver' true 1 ys)))[n]? = some (some (.row v1 e1 sz1 xs1)):=h;have hlt:n<s1.si.length:=by
   rcases zX n s1.si.length with h' | h'
   ·exact h'
   rw [zM (aR h')] at h2;cases h2
  rw [zP hlt] at h2;simp only [zA,Ent.row.injEq] at h2;omega
 have hdn:=hN.hdn;rcases hN.hrow with ⟨h1,h2⟩ | ⟨b1,o1,h1,h2⟩ | ⟨b1,o1,cap,aa,E,h1,q2,_⟩
 ·rw [h1];refine ⟨rfl,⟨none,0,by rw [h2];rfl,.inl (by rw [h2];rfl)⟩,hin,?_⟩;rintro hv0 ⟨_,rfl⟩;left;exact ⟨hdn.trans h1,rfl,by rw [h2];rfl,rfl⟩
 ·rw [h1];refine ⟨rfl,⟨_,0,by rw [h2];rfl,.inl (by rw [h2];rfl)⟩,hin,?_⟩;rintro hv0 ⟨_,rfl⟩;right;exact ⟨b1,o1,0,0,o1,hdn.trans h1,⟨by rw [h2];simp,zH _⟩,by rw [h2];simp,fun h=>aF,fun _=>rfl⟩
 rw [h1];refine ⟨rfl,⟨_,_,rfl,.inr rfl⟩,hin,?_⟩;rintro hv0 ⟨_,rfl⟩;right;exact ⟨b1,o1,ys.length,cap,o1,hdn.trans h1,⟨aF,q2⟩,by simp,fun _=>by simp,fun _=>rfl⟩
end
end Go.Dn
namespace Go.Dn
variable [Globs]
def Zel (P:Program):Zjg:=fun s o d=>
 match o.op with
 | .box _ _=>if d.m=2 then (fbOp s o).map fun r=>([],s.put o.dst r,[]) else Zoa P s o d
 | .load _ _=>if d.m=2 then (ldbOp P s o).map fun r=>([],s.put o.dst r,[]) else if d.m=13 then ldvOp P s o d else Zoa P s o d
 | .assign _=>if d.m=4 then Ztz s o |>.map fun r=>(r.1,r.2,[]) else if d.m=14 then (untOp s o).map fun r=>([],s.put o.dst r,[]) else Zoa P s o d
 | .makeFunc _ _ _=>(ZtZ s o).map fun r=>([],s.put o.dst r,[])
 | .makeSlice _ _ _=>(msOp P s o).map fun r=>(o.dst.toList,r.1,r.2)
 | .store _ _ _=>if d.m=8 then (Ztw P s d o).map fun r=>([],r.1,r.2) else if d.m=12 then (nstOp P s d o).map fun r=>([],r.1,r.2) else Zoa P s o d
 | .slice _ _ _ _ (some _)=>(sl3Op P s o d).map fun r=>([],s.put o.dst r.1,r.2)
 | .slice _ _ _ _ none=>if d.m=9 then (slxOp P s o).map fun r=>([],s.put o.dst r.1,r.2) else Zoa P s o d
 | .call { callee:=.builtin .append,.. }=>if d.m=9 then (apiOp P s o).map fun r=>([],r.1,r.2) else Zoa P s o d
 | .call { callee:=.builtin .clear,.. }=>if d.m=11 then (clr2Op P s d o).map fun r=>([],r.1,r.2) else (clrOp P s o).map fun r=>([],r.1,r.2)
 | .call { callee:=.value _,.. }=>if d.m=5 then callC P s o d else if d.m=6 then callM P s o d else if d.m=10 then callV P s o d else if d.m=15 then insOp P s o d else if d.m=16 then dlfOp P s o d else if d.m=7 then (Ztt P s o).map fun r=>([],r.1,r.2) else Zoa P s o d
 | _=>Zoa P s o d
def ZfL (P:Program):Zgs P (Zel P):=by
 intro s o d X s' ps h hp;have F:=stepX_ok P s o d X s' ps;have two : ∀{x:Option (S×List Prop)},(∀s' ps,x=some (s',ps)->Zce ps->ZdB P o [] s s'/\∃tv,s'.sl=(s.put o.dst tv).sl)->x.map (fun r=>(([]:List Nat),r.1,r.2))=some (X,s',ps) ->
   ZdB P o X s s'/\(∃tv,s'.sl=(s.put o.dst tv).sl)/\X.all (fun n=>!TV.mens n s.sl)=true:=by
  intro x hok hx;obtain ⟨r,h1,h2⟩:=zI.1 hx;simp only [zE] at h2;obtain ⟨rfl,rfl,rfl⟩:=h2;obtain ⟨k1,k2⟩:=hok _ _ h1 hp;exact ⟨k1,k2,rfl⟩
 have one : ∀{x:Option TV},(∀r,x=some r->ZdB P o [] s (s.put o.dst r))->x.map (fun r=>(([]:List Nat),s.put o.dst r,([]:List Prop)))=some (X,s',ps)->ZdB P o X s s'/\(∃tv,s'.sl=(s.put o.dst tv).sl)/\X.all (fun n=>!TV.mens n s.sl)=true:=by
  intro x hok hx;obtain ⟨r,h1,h2⟩:=zI.1 hx;simp only [zE] at h2;obtain ⟨rfl,rfl,rfl⟩:=h2;exact ⟨hok r h1,⟨_,rfl⟩,rfl⟩
 have val : ∀{x:Option (TV×List Prop)},(∀r ps,x=some (r,ps)->Zce ps->ZdB P o [] s (s.put o.dst r))->x.map (fun r=>(([]:List Nat),s.put o.dst r.1,r.2))=some (X,s',ps)->ZdB P o X s s'/\(∃tv,s'.sl=(s.put o.dst tv).sl)/\X.all (fun n=>!TV.mens n s.sl)=true:=by
  intro x hok hx;obtain ⟨r,h1,h2⟩:=zI.1 hx;simp only [zE] at h2;obtain ⟨rfl,rfl,rfl⟩:=h2;exact ⟨hok _ _ h1 hp,⟨_,rfl⟩,rfl⟩
 unfold Zel at h;split at h
 ·split at h
  ·exact one (fun r hr=>.fb hr) h
  exact F h hp
 ·split at h
  ·exact one (fun r hr=>.ldb hr) h
  split at h
  ·exact ZdB.ldv h hp
  exact F h hp
 ·split at h
  ·obtain ⟨r,h1,h2⟩:=zI.1 h;simp only [zE] at h2;obtain ⟨rfl,rfl,rfl⟩:=h2;exact ZdB.seat h1
  split at h
  ·exact one (fun r hr=>.unt hr) h
  exact F h hp
 ·obtain ⟨r,h1,h2⟩:=zI.1 h;simp only [zE] at h2;obtain ⟨rfl,rfl,rfl⟩:=h2;exact ⟨.mkFn h1,⟨_,rfl⟩,rfl⟩
 ·obtain ⟨r,h1,h2⟩:=zI.1 h;simp only [zE] at h2;obtain ⟨rfl,rfl,rfl⟩:=h2;exact ZdB.ms h1 hp
 ·split at h
  ·exact two (fun s' ps hr hq=>ZdB.self hr hq) h
  split at h
  ·exact two (fun s' ps hr hq=>ZdB.nst hr hq) h
  exact F h hp
 ·exact val (fun r ps hr hq=>ZdB.sl3 hr hq) h
 ·split at h
  ·exact val (fun r ps hr hq=>ZdB.slx hr hq) h
  exact F h hp
 ·split at h
  ·exact two (fun s' ps hr hq=>ZdB.api hr hq) h
  exact F h hp
 ·split at h
  ·exact two (fun s' ps hr hq=>ZdB.clr2 hr hq) h
  exact two (fun s' ps hr hq=>ZdB.clr hr hq) h
 ·split at h
  ·exact ZdB.callC h hp
  split at h
  ·exact ZdB.callM h hp
  split at h
  ·exact ZdB.callV h hp
  split at h
  ·exact ZdB.ins h hp
  split at h
  ·exact ZdB.dlf h hp
  split at h
  ·exact two (fun s' ps hr hq=>ZdB.sort hr hq) h
  exact F h hp
 exact F h hp
def G.cut (g:G) (n:Nat):G:={ g with nob:=n}
def flatE:L->Bool
 | .int _ _ | .bool _ | .str _ | .arr _ _ _ | .brr _ _=>true
 | _=>false
def flatL:L->Bool
 | .sl _ xs=>xs.all fun x=>x.all flatE
 | l=>flatE l
def flatV:CV->Bool
 | .one x=>flatL x
 | .agg ls=>ls.all flatL
 | .row _ _ xs=>xs.all fun x=>x.all flatE
section
variable {g g':G} {w w':World}
def LR.flatE {p:Option (Nat×Nat)} {n:Nat} {v:Value} {l:L} (hl:Dn.flatE l=true) (h:LR g w p v l):LR (g.cut n) w p v l:=by
 cases h<;>first | (simp [Dn.flatE] at hl;done) | skip
 ·exact .int _ _ _
 ·exact .bool _ _
 exact .str _ _
def CR.flatE {n:Nat} : ∀{p:Option (Nat×Nat)} {vs:List Value} {ls:List L},CR g w p vs ls->ls.all Dn.flatE=true->CR (g.cut n) w p vs ls
 | _,_,_,.nil _,_=>.nil _
 | _,_,_,.one _ v vs l ls hv h1 hr,hl=>by
  simp only [yQ,zV] at hl;exact .one _ _ _ _ _ (hv.flatE hl.1) h1 (CR.flatE hr hl.2)
 | _,_,_,.arr _ k n xs vs ls hn hr,hl=>by
  simp only [yQ,zV] at hl;exact .arr _ _ _ _ _ _ hn (CR.flatE hr hl.2)
 | _,_,_,.brr _ n xs vs ls hn hr,hl=>by
  simp only [yQ,zV] at hl;exact .brr _ _ _ _ _ hn (CR.flatE hr hl.2)
def ER.flatE {n:Nat} : ∀{xs:List (List L)} {b off sz:Nat},ER g w b off sz xs->(xs.all fun x=>x.all Dn.flatE)=true->ER (g.cut n) w b off sz xs
 | _,_,_,_,.nil _ _ _,_=>.nil _ _ _
 | _,_,_,_,.cons b off sz vs x xs hn hc hx hr,hl=>by
  simp only [yQ,zV] at hl;exact .cons _ _ _ vs x xs hn hc (hx.flatE hl.1) (ER.flatE hr hl.2)
def LR.flatL {p:Option (Nat×Nat)} {n:Nat} {v:Value} {l:L} (hl:Dn.flatL l=true) (h:LR g w p v l):LR (g.cut n) w p v l:=by
 unfold Dn.flatL at hl;split at hl
 ·cases h with
  | slnil=>exact .slnil _ _
  | slz=>exact .slz _ _ _
  | sl _ b off len cap _ _ h1 hc hZ he=>exact .sl _ b off len cap _ _ h1 hc hZ (he.flatE hl)
 exact h.flatE hl
def CR.flatL {n:Nat} : ∀{p:Option (Nat×Nat)} {vs:List Value} {ls:List L},CR g w p vs ls->ls.all Dn.flatL=true->CR (g.cut n) w p vs ls
 | _,_,_,.nil _,_=>.nil _
 | _,_,_,.one _ v vs l ls hv h1 hr,hl=>by
  simp only [yQ,zV] at hl;exact .one _ _ _ _ _ (hv.flatL hl.1) h1 (CR.flatL hr hl.2)
 | _,_,_,.arr _ k n xs vs ls hn hr,hl=>by
  simp only [yQ,zV] at hl;exact .arr _ _ _ _ _ _ hn (CR.flatL hr hl.2)
 | _,_,_,.brr _ n xs vs ls hn hr,hl=>by
  simp only [yQ,zV] at hl;exact .brr _ _ _ _ _ hn (CR.flatL hr hl.2)
def Zgg.flatV {n:Nat} : ∀{rs:List CV} {us:List Value} {i:Nat},Zgg g w i us rs->rs.all Dn.flatV=true->Zgg (g.cut n) w i us rs
 | [],us,i,h,_=>h
 | c::cs,us,i,h,hl=>by
  simp only [yQ,zV] at hl;obtain ⟨v,rest,rfl,hc,hr⟩:=h;refine ⟨v,rest,rfl,?_,Zgg.flatV hr hl.2⟩;cases c with
  | one x=>exact ⟨hc.1,hc.2.flatL hl.1⟩
  | agg ls=>obtain ⟨vs,rfl,h2⟩:=hc;exact ⟨vs,rfl,h2.flatL hl.1⟩
  | row e sz xs=>
   rcases hc with h1 | h1 | ⟨b,off,cap,a,E,h1,h2,h3,h4,h5,h6,h7⟩
   ·exact .inl h1
   ·exact .inr (.inl h1)
   exact .inr (.inr ⟨b,off,cap,a,E,h1,h2,h3,h4,h5,h6,h7.flatE hl.1⟩)
def ErO (g:G) (w:World) (sz:Nat) (xs:List (List L)):Prop:=xs = []\/∃b off,ER g w b off sz xs
def ErO.cons {sz:Nat} {x:List L} {xs:List (List L)} (h:ErO g w sz (x::xs)):(∃vs,CR g w none vs x)/\ErO g w sz xs:=by
 rcases h with h | ⟨b,off,h⟩
 ·cases h
 cases h with
 | cons _ _ _ vs _ _ hn hc hx hr=>exact ⟨⟨vs,hx⟩,.inr ⟨_,_,hr⟩⟩
def LR.slO {p:Option (Nat×Nat)} {v:Value} {sz:Nat} {xs:List (List L)} (h:LR g w p v (.sl sz xs)):ErO g w sz xs:=by
 cases h with
 | slnil=>exact .inl rfl
 | slz=>exact .inl rfl
 | sl _ b off len cap _ _ hl hc hZ he=>exact .inr ⟨b,off,he⟩
def LR.ownO {p:Option (Nat×Nat)} {v:Value} {e:Bool} {sz:Nat} {xs:List (List L)} (h:LR g w p v (.own e sz xs)):ErO g w sz xs:=by
 cases h with
 | ownnil=>exact .inl rfl
 | ownz=>exact .inl rfl
 | own _ b off len cap _ _ _ a E hl hc ho hb hs hZ he=>exact .inr ⟨b,off,he⟩
def CR.tail {p:Option (Nat×Nat)} {vs:List Value} {l:L} {ls:List L} (h:CR g w p vs (l::ls)) : ∃p vs,CR g w p vs ls:=by
 cases h with
 | one _ _ _ _ _ _ _ hr=>exact ⟨_,_,hr⟩
 | arr _ _ _ _ _ _ _ hr=>exact ⟨_,_,hr⟩
 | brr _ _ _ _ _ _ hr=>exact ⟨_,_,hr⟩
mutual
def LR.cutO : ∀{p':Option (Nat×Nat)} {v':Value} {l:L},LR g' w' p' v' l->(∃p v,LR g w p v l)->LR (g'.cut g.nob) w' p' v' l
 | _,_,_,.int _ _ _,_=>.int _ _ _
 | _,_,_,.bool _ _,_=>.bool _ _
 | _,_,_,.str _ _,_=>.str _ _
 | _,_,_,.nilp _,_=>.nilp _
 | _,_,_,.ref _ i hi',⟨_,_,h⟩=>by cases h with | ref _ _ hi=>exact .ref (g:=g'.cut g.nob) _ i hi
 | _,_,_,.slnil _ _,_=>.slnil _ _
 | _,_,_,.slz _ _ _,_=>.slz _ _ _
 | _,_,_,.sl _ b off len cap sz xs hl hc hZ he,⟨_,_,h⟩=>.sl _ b off len cap sz xs hl hc hZ (ER.cutO he h.slO)
 | _,_,_,.ownnil _ _ _,_=>.ownnil _ _ _
 | _,_,_,.ownz _ _ _ _ _,_=>.ownz _ _ _ _ _
 | _,_,_,.own _ b off len cap sz e xs a E hl hc ho hb hs hZ he,⟨_,_,h⟩=>.own _ b off len cap sz e xs a E hl hc ho hb hs hZ (ER.cutO he h.ownO)
 | _,_,_,.mp _ b cl en es ho hb he,⟨_,_,h⟩=>.mp _ b cl en es ho hb (MR.cutO he (by cases h with | mp _ _ _ _ _ _ _ he=>exact ⟨_,he⟩))
 | _,_,_,.gone _ _,_=>.gone _ _
 | _,_,_,.fn _ f n vs cs hc,⟨_,_,h⟩=>.fn _ f n vs cs (CR.cutO hc (by cases h with | fn _ _ _ _ _ hc=>exact ⟨_,_,hc⟩))
 | _,_,_,.bx _ n b o ls vs hn hZ hc hx,⟨_,_,h⟩=>.bx _ n b o ls vs hn hZ hc (CR.cutO hx (by cases h with | bx _ _ _ _ _ _ _ _ _ hx=>exact ⟨_,_,hx⟩))
 | _,_,_,.mz _ b en es hZ hb he,⟨_,_,h⟩=>.mz _ b en es hZ hb (MR.cutO he (by cases h with | mz _ _ _ _ _ _ he=>exact ⟨_,he⟩))
 | _,_,_,.yl _ l,_=>.yl _ l
def CR.cutO : ∀{p':Option (Nat×Nat)} {vs':List Value} {ls:List L},CR g' w' p' vs' ls->(∃p vs,CR g w p vs ls)->CR (g'.cut g.nob) w' p' vs' ls
 | _,_,_,.nil _,_=>.nil _
 | _,_,_,.one _ v vs l ls hv h1 hr,⟨_,_,h⟩=>.one _ v vs l ls (LR.cutO hv (by
   cases h with
   | one _ _ _ _ _ hv' _ _=>exact ⟨_,_,hv'⟩
   | arr=>cases hv
   | brr=>cases hv)) h1 (CR.cutO hr h.tail)
 | _,_,_,.arr _ k n xs vs ls hn hr,⟨_,_,h⟩=>.arr _ k n xs vs ls hn (CR.cutO hr h.tail)
 | _,_,_,.brr _ n xs vs ls hn hr,⟨_,_,h⟩=>.brr _ n xs vs ls hn (CR.cutO hr h.tail)
def ER.cutO : ∀{b off sz:Nat} {xs:List (List L)},ER g' w' b off sz xs->ErO g w sz xs->ER (g'.cut g.nob) w' b off sz xs
 | _,_,_,_,.nil _ _ _,_=>.nil _ _ _
 | _,_,_,_,.cons b off sz vs x xs hn hc hx hr,h=>.cons b off sz vs x xs hn hc (CR.cutO hx ⟨_,h.cons.1⟩) (ER.cutO hr h.cons.2)
def MR.cutO : ∀{en':List MapEntry} {es:List (L×L)},MR g' w' en' es->(∃en,MR g w en es)->MR (g'.cut g.nob) w' en' es
 | _,_,.nil,_=>.nil
 | _,_,.cons e ens k v es hk hv h1 hr,⟨_,h⟩=>.cons e ens k v es hk (LR.cutO hv (by cases h with | cons _ _ _ _ _ _ hv _ _=>exact ⟨_,_,hv⟩)) h1 (MR.cutO hr (by cases h with | cons _ _ _ _ _ _ _ _ hr=>exact ⟨_,hr⟩))
end
def Snd.drop {P:Program} {f:FuncId} {args rs:List CV} {st ex:List (List L)} (h:Snd P f args st rs (st++ex)) (hr:rs.all Dn.flatV=true):Snd P f args st rs st:=by
 refine ⟨h.1,fun g w vs ha hm=>(h.2 g w vs ha hm).mono ?_⟩;rintro e w' ⟨g',us,rfl,hM,hm',hus⟩;have K:ZcK g (g'.cut g.nob) w w':=⟨hM.keep.ob,zH _,hM.keep.Z,hM.keep.cell,hM.keep.mp⟩
 refine ⟨g'.cut g.nob,us,rfl,⟨K,hM.os,hM.tape,hM.output,hM.size,hM.same,hM.own,fun i h1 h2=>absurd h2 (by show ¬ i<g.nob;omega)⟩,⟨hm.stl,fun i c hc hne=>?_,fun i hi=>hm'.objB i (yK hi hM.keep.nob),fun n ent h=>by simp [S.ofSt] at h,hm'.own,hm'.z,hm.gl.keep K⟩,hus.flatV hr⟩;have hi:i<st.length:=by
  rcases zX i st.length with h' | h'
  ·exact h'
  simp only [S.ofSt] at hc;rw [zM h'] at hc;cases hc
 obtain ⟨h1,h2,a,E,h3,h4⟩:=hm'.obj i c (by simp only [S.ofSt] at hc |-;rw [zS hi];exact hc) hne;obtain ⟨_,_,a0,_,_,h5⟩:=hm.obj i c hc hne;exact ⟨h1,h2,a,E,h3,CR.cutO h4 ⟨_,_,h5⟩⟩
def ZdW.of_ext {P:Program} {f:FuncId} {args rs:List CV} (h : ∀st,∃ex,Snd P f args st rs (st++ex)) (hr:rs.all Dn.flatV=true):ZdW P f args rs:=fun st=>(h st).elim fun _ h=>h.drop hr
end
end Go.Dn
namespace Go.Dn
variable [Globs]
def fe (ro:Option Nat):Fence:={ Fence.wide with round:=ro}
def Zms (o:Oper):Bool:=match o.op with
 | .defer _=>false
 | _=>true
def Zjg.calm (step:Zjg):Zjg:=fun s o d=>match step s o d with
 | some ([],r)=>some ([],r)
 | _=>none
section
variable {P:Program} {g g':G} {s s':S} {w w':World} {n:Nat} {ro:Option Nat}
def fe_calls {f:FuncId} {args:Array Value} {R:Ending->World->Prop} (h:Calls P f args w R):CallsIn (fe ro) n P f args w R:=(callsIn_wide (n:=n)).2 h
def fe_rows {row:String} {args:Array Value} {R:Value->World->Prop} (h:Rows P row args w R):RowsIn (fe ro) n P row args w R:=
 fun c cs _=>let ⟨v,w',r,s⟩:=h c cs;⟨v,w',r,stepsIn_wide.2 s⟩
def op_fe {o:Oper} {a:Act} {K:Act->World->Prop} {Q:Exit->Act->World->Prop} (hd:Zms o=true) (h:o.wp P a w K Q):o.wpIn (fe ro) n P a w K Q:=by
 refine ⟨fun f _=>trivial,?_⟩;rw [Oper.semAt_plain _ _ _ (fun c e=>by unfold Zms at hd;rw [e] at hd;cases hd)];unfold Oper.wp at h;generalize (execOp a.eval o).run P w=r at h
 match r,h with
 | .ok (.enter f args) w',h=>exact ⟨(fun e=>by cases e),fe_calls h⟩
 | .ok (.row row args) w',h=>exact ⟨(fun e=>by cases e),fe_rows h⟩
 | .ok (.value _) _,h=>exact h
 | .ok .skip _,h=>exact h
 | .ok (.defer _) _,h=>exact h
 | .halt (.panic _) _,h=>exact h
def calm_ok {step:Zjg} (h:Zgs P step):Zgs P step.calm:=by
 intro s o d X s' ps e hp;unfold Zjg.calm at e;split at e<;>simp only [zA,reduceCtorEq] at e;rename_i r hr;exact h s o d _ _ _ (hr.trans (congrArg some e)) hp
def ZhN {step:Zjg} (hok:Zgs P step) {ops:Array Oper} {Q:Exit->Act->World->Prop} {l2:List Oper} : ∀{l:List Oper} {i:Nat} {g:G} {s s':S} {w:World} {a:Act} {ds:List (Nat×D)} {ps:List Prop},
  l.all Zms=true->ZgX step.calm (ops.toList.map (·.dst)) l i s ds=some (s',ps)->Zce ps->Sat g s w a.tmps ->
  (∀g' w' a',Mod g g' w w'->Sat g' s' w' a'.tmps->a'.defers=a.defers->(∀m,(∃c,s'.si[m]? = some (some (.cells c)))->(∃c,s.si[m]? = some (some (.cells c)))/\g'.sb m=g.sb m)->wpListIn (fe ro) n P ops Q l2 a' w')->wpListIn (fe ro) n P ops Q (l++l2) a w
 | [],i,g,s,s',w,a,ds,ps,hd,h,hp,hs,hQ=>by
  simp only [ZgX,zA,zE] at h;obtain ⟨rfl,rfl⟩:=h;exact hQ g w a (.refl _ _) hs rfl (fun m h=>⟨h,rfl⟩)
 | o::rest,i,g,s,s',w,a,ds,ps,hd,h,hp,hs,hQ=>by
  simp only [yQ,zV] at hd;unfold ZgX at h;rw [List.cons_append];unfold wpListIn;split at h<;>try cases h
  ·rename_i qs hg;split at h<;>try cases h
   rename_i X s1 ps1 h1;split at h<;>simp only [zA,zE,reduceCtorEq] at h;rename_i s2 rs h2;obtain ⟨rfl,rfl⟩:=h;rw [Zce.append,Zce.append] at hp;rw [aD (Zhr hs hg hp.1.1)];have hX:X = []:=by
    unfold Zjg.calm at h1;split at h1<;>simp only [zA,zE,reduceCtorEq] at h1;exact h1.1.symm
   refine op_fe hd.1 ((calm_ok hok _ _ _ _ _ _ h1 hp.1.2).1 g w a hs _ _ fun g' w' v hm hk hs'=>?_);exact ZhN hok hd.2 h2 hp.2 hs' fun g'' w'' a'' hm' hs'' hd hc=>hQ g'' w'' a'' (hm.trans hm') hs'' (hd.trans (by cases o.dst<;>rfl)) fun m hm3=>by
    obtain ⟨k1,k2⟩:=hc m hm3;obtain ⟨k3,k4⟩:=hk.cells m (by rw [hX];simp) k1;exact ⟨k3,k2.trans k4⟩
  rename_i qs hg;split at h<;>simp only [zA,zE,reduceCtorEq] at h;rename_i s2 rs h2;obtain ⟨rfl,rfl⟩:=h;rw [Zce.append] at hp;rw [aE (by rw [Zhr hs hg hp.1];decide)];refine ⟨fun _ _=>trivial,ZhN hok hd.2 h2 hp.2 (hs.skip o.dst) fun g'' w'' a'' hm' hs'' hd hc=>hQ g'' w'' a'' hm' hs'' (hd.trans (by cases o.dst<;>rfl)) fun m hm3=>?_⟩;obtain ⟨k1,k2⟩:=hc m hm3;have e:(s.put o.dst (.tup [])).si=s.si:=by cases o.dst<;>rfl
  rw [e] at k1;exact ⟨k1,k2⟩
end
structure Zsu (g:G) (w w':World):Prop where
 size:w.heap.size<=w'.heap.size
 at_ : ∀b,b<w.heap.size->w'.heap[b]? = w.heap[b]? \/ ((g.ow b=none\/g.ow b=some .foreign)/\g.Z b=0/\∀i,i<g.nob->g.ob i≠b)
 os:w'.os=w.os
 tape:w'.tape=w.tape
 output:w'.output=w.output
section
variable {P:Program} {g g' g0:G} {s s':S} {w w' w0:World}
def Zsu.refl (g:G) (w:World):Zsu g w w:=⟨zH _,fun _ _=>.inl rfl,rfl,rfl,rfl⟩
def Zsu.own (U:Zsu g w w') {b:Nat} {t:Ow} (hb:b<w.heap.size) (h:g.ow b=some t) (ht:t ≠ .foreign):w'.heap[b]? = w.heap[b]? := by
 rcases U.at_ b hb with h1 | ⟨h1 | h1,_⟩
 ·exact h1
 ·rw [h1] at h;cases h
 rw [h1] at h;cases h;exact absurd rfl ht
def Zsu.keeps (U:Zsu g w w') (hz : ∀b,w.heap.size<=b->g.Z b=0):ZcK g g w w':=by
 have key : ∀b,0<g.Z b->w'.heap[b]? = w.heap[b]? := by
  intro b hb;rcases zX b w.heap.size with h | h
  ·rcases U.at_ b h with h1 | ⟨_,h1,_⟩
   ·exact h1
   omega
  have:=hz b h;omega
 exact ⟨fun _ _=>rfl,zH _,fun _=>zH _,fun b o h=>Zdr (key b aF),fun b h=>ZeE (key b h)⟩
def ZdK.un (hm:ZdK g s w) (U:Zsu g w w'):ZdK g s w':=by
 have K:=U.keeps hm.z;have sm : ∀{b:Nat} {t:Ow},g.ow b=some t->t ≠ .foreign->Zhw g g w w' b:=fun h ht=>⟨U.own (hm.own _ _ h) h ht,rfl,rfl⟩
 refine ⟨hm.stl,fun i c h hne=>?_,hm.objB,fun n ent h=>?_,fun b t h=>yK (hm.own b t h) U.size,fun b hb=>hm.z b (xQ U.size hb),hm.gl.keep K⟩
 ·have h1:=hm.obj i c h hne;exact h1.keep K (sm h1.1 aG) (fun b' o hb=>sm hb aG)
 have h1:=hm.site n ent h;cases ent with
 | cells c=>exact Znq.keep K h1 (sm h1.1 aG) (fun b' o hb=>sm hb aG)
 | row ver e sz xs=>exact ZgO.keep K h1 (fun b hb=>sm hb aG)
 | mp es=>exact Zvv.keep K h1 (fun b hb=>sm hb aG)
def ZbA.un (hm:ZdK g s w) (U:Zsu g w w'):ZbA (fun _=>False) s s g g w w':=by
 refine ⟨U.keeps hm.z,fun n _ h=>⟨h,rfl⟩,fun n ver _ h=>.inl ⟨h,rfl⟩,fun n _ h=>⟨h,rfl⟩,fun _ r hg hi hr _ _ off hv h=>.inl ?_,zH _⟩;have:w'.heap[g.rb r]? = w.heap[g.rb r]? := by
  cases r with
  | site n=>obtain ⟨c,hc⟩:=hr;have h1:=(hm.site n _ hc).1;exact U.own (hm.own _ _ h1) h1 aG
  | obj i=>
   have hlt:g.ob i<w.heap.size:=by rcases hm.objB i hi with h1 | h1<;>exact hm.own _ _ h1
   rcases U.at_ _ hlt with h1 | ⟨_,_,h1⟩
   ·exact h1
   exact absurd rfl (h1 i hi)
  | glob k=>exact absurd rfl (hg k)
 rw [Zdr this] at h;exact h
def Sat.un {t:Array Value} (hs:Sat g s w t) (U:Zsu g w w'):Sat g s w' t:=
 ⟨hs.len,hs.lensi,fun n tv h=>ZdM.keep (ZbA.un hs.mem U) (fun _ h=>h.elim) (hs.slot n tv h),hs.mem.un U⟩
def Mod.un (M:Mod g0 g w0 w) (U:Zsu g w w') (hz : ∀b,w.heap.size<=b->g.Z b=0) (hb : ∀b,b<w0.heap.size->w'.heap[b]? = w.heap[b]?):Mod g0 g w0 w':=
 ⟨M.keep.trans (U.keeps hz),U.os.trans M.os,U.tape.trans M.tape,U.output.trans M.output,xQ M.size U.size,fun b h=>by
  rcases M.same b h with h1 | h1
  ·exact .inl ⟨(hb b h).trans h1.1,h1.2⟩
  exact .inr h1,M.own,M.newob⟩
def Mod.fr {gf gf':G} {W W':World} (M1:Mod g0 g w0 W) (M2:Mod gf gf' W W') (e1:gf.ob=g.ob/\gf.nob=g.nob/\gf.Z=g.Z) (o1 : ∀b,b<w0.heap.size->gf.ow b=g.ow b) (e2:g'.ob=gf'.ob/\g'.nob=gf'.nob/\g'.Z=gf'.Z) (o2 : ∀b,b<w0.heap.size->g'.ow b=gf'.ow b):Mod g0 g' w0 W':=by
 have K1:ZcK g gf W W:=⟨fun i _=>by rw [e1.1],by rw [e1.2.1];exact zH _,fun b=>by rw [e1.2.2];exact zH _,fun _ _ _=>rfl,fun _ _=>rfl⟩
 have K2:ZcK gf' g' W' W':=⟨fun i _=>by rw [e2.1],by rw [e2.2.1];exact zH _,fun b=>by rw [e2.2.2];exact zH _,fun _ _ _=>rfl,fun _ _=>rfl⟩
 refine ⟨M1.keep.trans (K1.trans (M2.keep.trans K2)),M2.os.trans M1.os,M2.tape.trans M1.tape,M2.output.trans M1.output,xQ M1.size M2.size,fun b hb=>?_,fun b hb h1 h2=>?_,fun i h1 h2=>?_⟩
 ·rcases M1.same b hb with h1 | h1
  ·rcases M2.same b (yK hb M1.size) with h2 | h2
   ·exact .inl ⟨h2.1.trans h1.1,(o2 b hb).trans (h2.2.1.trans ((o1 b hb).trans h1.2.1)),by rw [e2.2.2,h2.2.2,e1.2.2];exact h1.2.2⟩
   rw [o1 b hb,h1.2.1] at h2;exact .inr h2
  exact .inr h1
 ·rw [o2 b hb] at h1 h2;obtain ⟨h3,h4⟩:=M2.own b (yK hb M1.size) h1 h2;rw [o1 b hb] at h3 h4;exact M1.own b hb h3 h4
 rw [e2.1];by_cases h:i<g.nob
 ·rw [M2.keep.ob i (by rw [e1.2.1];exact h),e1.1];exact M1.newob i h1 h
 exact xQ M1.size (M2.newob i (by rw [e1.2.1];omega) (by rw [<-e2.2.1];exact h2))
end
def G.fr2 (g:G) (n1 b1 n2 b2:Nat):G:=
 { g with sb:=fun n=>if n=n1 then b1 else if n=n2 then b2 else g.sb n,ow:=fun b=>if b=b1 then some (.site n1) else if b=b2 then some (.site n2) else g.ow b}
def G.un2 (g:G) (b1 b2:Nat):G:={ g with ow:=fun b=>if b=b1\/b=b2 then some .foreign else g.ow b}
structure RI (g:G) (W:World) (B b1 b2 l D i:Nat) (v:Bool) (lp:Loop):Prop where
 u : ∀b,b=b1\/b=b2\/b=l\/b=D->(g.ow b=none\/g.ow b=some .foreign)/\g.Z b=0/\b<W.heap.size/\B<=b/\∀j,j<g.nob->g.ob j≠b
 ne:b1≠b2/\b1≠l/\b1≠D/\b2≠l/\b2≠D/\l≠D
 hi:i<g.nob
 h1 : ∃E,W.heap[b1]? = some (.cells #[.pointer (some ⟨g.ob i,0,none⟩)] E (0,0))
 h2 : ∃E,W.heap[b2]? = some (.cells #[.bool v] E (0,0))
 hl:W.heap[l]? = some (.loop lp)
 hD:W.heap[D]? = some (.deferred (some []))
section
variable {P:Program} {g g' g0:G} {s s':S} {W W' w0:World} {B b1 b2 l D i:Nat} {v:Bool} {lp:Loop}
def RI.same (I:RI g W B b1 b2 l D i v lp) (M:Mod g g' W W') {b:Nat} (h:b=b1\/b=b2\/b=l\/b=D):Zhw g g' W W' b:=by
 obtain ⟨h1,_,h3,_⟩:=I.u b h;rcases M.same b h3 with h4 | h4
 ·exact h4
 rcases h1 with h1 | h1
 ·exact absurd h1 h4.1
 exact absurd h1 h4.2
def RI.mod (I:RI g W B b1 b2 l D i v lp) (M:Mod g g' W W'):RI g' W' B b1 b2 l D i v lp:=by
 refine ⟨fun b h=>?_,I.ne,yK I.hi M.keep.nob,?_,?_,(I.same M (.inr (.inr (.inl rfl)))).1.trans I.hl,(I.same M (.inr (.inr (.inr rfl)))).1.trans I.hD⟩
 ·obtain ⟨h1,h2,h3,h4,h5⟩:=I.u b h;obtain ⟨k1,k2,k3⟩:=I.same M h;refine ⟨by rw [k2];exact h1,by rw [k3];exact h2,yK h3 M.size,h4,fun j hj=>?_⟩;by_cases e:j<g.nob
  ·rw [M.keep.ob j e];exact h5 j e
  have:=M.newob j aF hj;omega
 ·obtain ⟨E,h⟩:=I.h1;exact ⟨E,by rw [M.keep.ob i I.hi];exact (I.same M (.inl rfl)).1.trans h⟩
 obtain ⟨E,h⟩:=I.h2;exact ⟨E,(I.same M (.inr (.inl rfl))).1.trans h⟩
def RI.put (I:RI g W B b1 b2 l D i v lp) (lp':Loop):RI g (W.putObj l (.loop lp')) B b1 b2 l D i v lp'/\Zsu g W (W.putObj l (.loop lp')):=by
 obtain ⟨n1,n2,n3,n4,n5,n6⟩:=I.ne;refine ⟨⟨fun b h=>by rw [World.putObj_size];exact I.u b h,I.ne,I.hi,?_,?_,World.putObj_heap_same (I.u l aG).2.2.1,?_⟩,by rw [World.putObj_size];exact zH _,fun b hb=>?_,rfl,rfl,rfl⟩
 ·obtain ⟨E,h⟩:=I.h1;exact ⟨E,(World.putObj_heap_other n2).trans h⟩
 ·obtain ⟨E,h⟩:=I.h2;exact ⟨E,(World.putObj_heap_other n4).trans h⟩
 ·exact (World.putObj_heap_other (Ne.symm n6)).trans I.hD
 by_cases e:b=l
 ·subst e;have:=I.u b aG;exact .inr ⟨this.1,this.2.1,this.2.2.2.2⟩
 exact .inl (World.putObj_heap_other e)
def RI.shut (I:RI g W B b1 b2 l D i v lp) (o:Obj):Zsu g W (W.putObj D o):=by
 refine ⟨by rw [World.putObj_size];exact zH _,fun b hb=>?_,rfl,rfl,rfl⟩;by_cases e:b=D
 ·subst e;have:=I.u b aG;exact .inr ⟨this.1,this.2.1,this.2.2.2.2⟩
 exact .inl (World.putObj_heap_other e)
def RI.frame (I:RI g W B b1 b2 l D i v lp) {st:List (List L)} (hm:ZdK g (.ofSt st) W) {n1 n2:Nat} (hn:n1≠n2) (hst:s.st=st)
  (hsi : ∀n ent,s.si[n]? = some (some ent)->(n=n1/\ent = .cells [.ptr (some i)])\/(n=n2/\ent = .cells [.bool v])):ZdK (g.fr2 n1 b1 n2 b2) s W:=by
 have K:ZcK g (g.fr2 n1 b1 n2 b2) W W:=⟨fun _ _=>rfl,zH _,fun _=>zH _,fun _ _ _=>rfl,fun _ _=>rfl⟩
 obtain ⟨u1,u2,u3,u4,u5⟩:=I.u b1 aG;obtain ⟨q1,q2,q3,q4,q5⟩:=I.u b2 aG;have how : ∀b t,g.ow b=some t->t ≠ .foreign->(g.fr2 n1 b1 n2 b2).ow b=g.ow b:=by
  intro b t h ht;show (if b=b1 then _ else if b=b2 then _ else g.ow b)=_;rw [aE,aE]
  ·rintro rfl;rcases q1 with h1 | h1<;>rw [h1] at h<;>cases h;exact ht rfl
  rintro rfl;rcases u1 with h1 | h1<;>rw [h1] at h<;>cases h;exact ht rfl
 have hob : ∀j,j<g.nob->(g.fr2 n1 b1 n2 b2).ow (g.ob j)=g.ow (g.ob j):=fun j hj=>by
  show (if g.ob j=b1 then _ else if g.ob j=b2 then _ else g.ow (g.ob j))=_;rw [aE (u5 j hj),aE (q5 j hj)]
 refine ⟨by rw [hst];exact hm.stl,fun j c h hne=>?_,fun j hj=>?_,fun n ent h=>?_,fun b t h=>?_,hm.z,hm.gl.keep K⟩
 ·have h1:=hm.obj j c (by rw [hst] at h;exact h) hne;exact h1.keep K ⟨rfl,how _ _ h1.1 aG,rfl⟩ (fun b' o hb=>⟨rfl,how _ _ hb aG,rfl⟩)
 ·show (g.fr2 n1 b1 n2 b2).ow (g.ob j)=_\/(g.fr2 n1 b1 n2 b2).ow (g.ob j)=_;rw [hob j hj];exact hm.objB j hj
 ·rcases hsi n ent h with ⟨rfl,rfl⟩ | ⟨rfl,rfl⟩
  ·obtain ⟨E,h1⟩:=I.h1;have e:(g.fr2 n b1 n2 b2).sb n=b1:=by show (if n=n then b1 else _)=_;rw [aD rfl]
   refine ⟨?_,?_,_,E,by rw [e];exact h1,.one _ _ _ _ _ (.ref _ i I.hi) rfl (.nil _)⟩
   ·rw [e];show (if b1=b1 then _ else _)=_;rw [aD rfl]
   rw [e];exact u2
  obtain ⟨E,h1⟩:=I.h2;have e:(g.fr2 n1 b1 n b2).sb n=b2:=by show (if n=n1 then b1 else if n=n then b2 else _)=_;rw [aE (Ne.symm hn),aD rfl]
  refine ⟨?_,?_,_,E,by rw [e];exact h1,.one _ _ _ _ _ (.bool _ _) rfl (.nil _)⟩
  ·rw [e];show (if b2=b1 then _ else if b2=b2 then _ else _)=_;rw [aE (Ne.symm I.ne.1),aD rfl]
  rw [e];exact q2
 have h':(if b=b1 then some (Ow.site n1) else if b=b2 then some (Ow.site n2) else g.ow b)=some t:=h;by_cases e1:b=b1
 ·subst e1;exact u3
 rw [aE e1] at h';by_cases e2:b=b2
 ·subst e2;exact q3
 rw [aE e2] at h';exact hm.own b t h'
def RI.back (I:RI g W B b1 b2 l D i v lp) {n1 n2:Nat} (hn:n1≠n2) {gf':G} (M:Mod (g.fr2 n1 b1 n2 b2) gf' W W') (hm:ZdK gf' s' W') (k1:gf'.sb n1=b1) (k2:gf'.sb n2=b2) {v':Bool}
  (e1:s'.si[n1]? = some (some (.cells [.ptr (some i)]))) (e2:s'.si[n2]? = some (some (.cells [.bool v']))) :
  RI (gf'.un2 b1 b2) W' B b1 b2 l D i v' lp/\ZdK (gf'.un2 b1 b2) (.ofSt s'.st) W':=by
 have K:ZcK gf' (gf'.un2 b1 b2) W' W':=⟨fun _ _=>rfl,zH _,fun _=>zH _,fun _ _ _=>rfl,fun _ _=>rfl⟩
 have hi:i<gf'.nob:=yK I.hi M.keep.nob;obtain ⟨o1,z1,a1,E1,p1,c1⟩:=hm.site n1 _ e1;obtain ⟨o2,z2,a2,E2,p2,c2⟩:=hm.site n2 _ e2;rw [k1] at o1 z1 p1;rw [k2] at o2 z2 p2;have how : ∀b t,gf'.ow b=some t->(∀n,t ≠ .site n)->(gf'.un2 b1 b2).ow b=gf'.ow b:=by
  intro b t h ht;show (if b=b1\/b=b2 then _ else gf'.ow b)=_;rw [aE];rintro (rfl | rfl)
  ·rw [o1] at h;cases h;exact ht _ rfl
  rw [o2] at h;cases h;exact ht _ rfl
 obtain ⟨m1,m2,m3,m4,m5,m6⟩:=I.ne;have oth : ∀b,b=l\/b=D->Zhw (g.fr2 n1 b1 n2 b2) gf' W W' b/\(g.fr2 n1 b1 n2 b2).ow b=g.ow b:=by
  intro b hb;have e:(g.fr2 n1 b1 n2 b2).ow b=g.ow b:=by
   show (if b=b1 then _ else if b=b2 then _ else g.ow b)=_;rw [aE (by rintro rfl;rcases hb with h | h;exact m2 h;exact m3 h),aE (by rintro rfl;rcases hb with h | h;exact m4 h;exact m5 h)]
  obtain ⟨h1,_,h3,_⟩:=I.u b (by rcases hb with h | h<;>simp [h]);refine ⟨?_,e⟩;rcases M.same b h3 with h4 | h4
  ·exact h4
  rw [e] at h4;rcases h1 with h1 | h1
  ·exact absurd h1 h4.1
  exact absurd h1 h4.2
 refine ⟨⟨fun b hb=>?_,I.ne,hi,?_,?_,(oth l (.inl rfl)).1.1.trans I.hl,(oth D (.inr rfl)).1.1.trans I.hD⟩,⟨hm.stl,fun j c h hne=>?_,fun j hj=>?_,fun n ent h=>by simp [S.ofSt] at h,fun b t h=>?_,hm.z,hm.gl.keep K⟩⟩
 ·have hB:=(I.u b hb).2.2.2.1;have hsz:=yK (I.u b hb).2.2.1 M.size;have obne : ∀n,gf'.ow b=some (.site n)->∀j,j<gf'.nob->gf'.ob j≠b:=by
   rintro n h j hj rfl;rcases hm.objB j hj with h1 | h1<;>rw [h] at h1<;>cases h1
  by_cases hb12:b=b1\/b=b2
  ·refine ⟨.inr ?_,?_,hsz,hB,?_⟩
   ·show (if b=b1\/b=b2 then _ else _)=_;rw [aD hb12]
   ·rcases hb12 with rfl | rfl;exact z1;exact z2
   rcases hb12 with rfl | rfl;exact obne _ o1;exact obne _ o2
  have hlD:b=l\/b=D:=by
   rcases hb with h | h | h | h
   ·exact absurd (Or.inl h) hb12
   ·exact absurd (Or.inr h) hb12
   ·exact .inl h
   exact .inr h
  obtain ⟨⟨s1,s2,s3⟩,s4⟩:=oth b hlD;obtain ⟨h1,h2,h3,h4,h5⟩:=I.u b hb;refine ⟨?_,?_,hsz,hB,fun j hj=>?_⟩
  ·show (if b=b1\/b=b2 then _ else gf'.ow b)=none\/(if b=b1\/b=b2 then _ else gf'.ow b)=_;rw [aE hb12,s2,s4];exact h1
  ·show gf'.Z b=0;rw [s3];exact h2
  by_cases e:j<g.nob
  ·show gf'.ob j≠b;rw [M.keep.ob j e];exact h5 j e
  have:=M.newob j (by show g.nob<=j;omega) hj;show gf'.ob j≠b;omega
 ·obtain ⟨xs,rfl⟩ : ∃xs:List Value,a1=xs.toArray:=⟨a1.toList,rfl⟩
  cases c1 with
  | one _ v _ _ _ hv _ hr=>cases hr;cases hv;exact ⟨E1,p1⟩
 ·obtain ⟨xs,rfl⟩ : ∃xs:List Value,a2=xs.toArray:=⟨a2.toList,rfl⟩
  cases c2 with
  | one _ v _ _ _ hv _ hr=>cases hr;cases hv;exact ⟨E2,p2⟩
 ·have h1:=hm.obj j c h hne;exact h1.keep K ⟨rfl,how _ _ h1.1 aG,rfl⟩ (fun b' o hb=>⟨rfl,how _ _ hb aG,rfl⟩)
 ·show (gf'.un2 b1 b2).ow (gf'.ob j)=_\/(gf'.un2 b1 b2).ow (gf'.ob j)=_;rcases hm.objB j hj with h1 | h1
  ·left;rw [how _ _ h1 aG];exact h1
  right;rw [how _ _ h1 aG];exact h1
 have h':(if b=b1\/b=b2 then some Ow.foreign else gf'.ow b)=some t:=h;by_cases e:b=b1\/b=b2
 ·exact yK (I.u b (by rcases e with h | h<;>simp [h])).2.2.1 M.size
 rw [aE e] at h';exact hm.own b t h'
end
def ZdK.cut {g1 g:G} {s1:S} {w1 w:World} {st ex:List (List L)} (h1:ZdK g1 s1 w1) (hst:s1.st=st) (hm:ZdK g (.ofSt (st++ex)) w) (K0:ZcK g1 g w1 w):ZdK (g.cut g1.nob) (.ofSt st) w:=by
 have K:ZcK g1 (g.cut g1.nob) w1 w:=⟨K0.ob,zH _,K0.Z,K0.cell,K0.mp⟩
 refine ⟨by show st.length=g1.nob;rw [<-hst];exact h1.stl,fun i c hc hne=>?_,fun i hi=>hm.objB i (yK hi K0.nob),fun n ent h=>by simp [S.ofSt] at h,hm.own,hm.z,h1.gl.keep K⟩;have hi:i<st.length:=by
  rcases zX i st.length with h' | h'
  ·exact h'
  simp only [S.ofSt] at hc;rw [zM h'] at hc;cases hc
 obtain ⟨h2,h3,a,E,h4,h5⟩:=hm.obj i c (by simp only [S.ofSt] at hc |-;rw [zS hi];exact hc) hne;obtain ⟨_,_,a0,_,_,h6⟩:=h1.obj i c (by rw [hst];exact hc) hne;exact ⟨h2,h3,a,E,h4,CR.cutO h5 ⟨_,_,h6⟩⟩
def Mod.cut {g0 g:G} {w0 w:World} (M:Mod g0 g w0 w) {n:Nat} (h0:g0.nob<=n) (h1:n<=g.nob):Mod g0 (g.cut n) w0 w:=
 ⟨⟨M.keep.ob,h0,M.keep.Z,M.keep.cell,M.keep.mp⟩,M.os,M.tape,M.output,M.size,M.same,M.own,fun i h2 h3=>M.newob i h2 (yK h3 h1)⟩
end Go.Dn
namespace Go.Dn
variable [Globs]
inductive PS where
 | r (ds:List (Nat×D))
 | d (r:DR)
 | c (b:Bool)
 | s (n:Nat)
def Zsa (k:Nat):List PS->E->Bool
 | [.s n],.n=>k==n
 | _,_=>false
def goS (step:Zjg):Nat->List K->E->S->List PS->Option (List K×E×S×List Prop×List (Cmp×Cmp))
 | 0,_,_,_,_=>none
 | n+1,ks,e,s,ds=>if Zsa ks.length ds e then some (ks,.n,s,[],[]) else match ks with
  | []=>match ds with
   | []=>some ([],e,s,[],[])
   | _::_=>none
  | .h J::ks=>match e with
   | .n=>match ds with
    | []=>some (.h J::ks,.n,s,[],[])
    | _::_=>none
   | .x id=>goS step n ks (.x id) s ds
   | .ret=>goS step n ks .ret s ds
  | .b id::ks=>match e with
   | .n=>goS step n ks .n s ds
   | .x id'=>if id'=id then goS step n ks .n s ds else goS step n ks (.x id') s ds
   | .ret=>goS step n ks .ret s ds
  | .c x::ks=>match e with
   | .x id=>goS step n ks (.x id) s ds
   | .ret=>goS step n ks .ret s ds
   | .n=>match x with
    | .skip=>goS step n ks .n s ds
    | .seq x y=>goS step n (.c x :: .c y::ks) .n s ds
    | .block id x=>goS step n (.c x :: .b id::ks) .n s ds
    | .exit id=>goS step n ks (.x id) s ds
    | .ret=>goS step n ks .ret s ds
    | .cond t x y=>match ds with
     | .c b::ds=>match ev s t with
      | some (.one (.l (.bool v)))=>match goS step n (.c (if b then x else y)::ks) .n s ds with
       | some (ks',e',s',ps,es)=>some (ks',e',s',(v=b)::ps,es)
       | none=>none
      | _=>none
     | _=>none
    | .region _ ops dr=>match ds with
     | .r d::ds=>if dr then none else match ZgX step (ops.toList.map (·.dst)) ops.toList 0 s d with
      | some (s',ps)=>match goS step n ks .n s' ds with
       | some (ks',e',s'',qs,es)=>some (ks',e',s'',ps++qs,es)
       | none=>none
      | none=>none
     | .d r::ds=>if dr then match ZoT step ops.toList s r with
      | some (s',ps,es)=>match goS step n ks .n s' ds with
       | some (ks',e',s'',qs,fs)=>some (ks',e',s'',ps++qs,es++fs)
       | none=>none
      | none=>none
      else none
     | _=>none
    | .loop x=>match ds with
     | []=>some (.c (.loop x)::ks,.n,s,[],[])
     | _::_=>none
    | _=>none
def isStop_n {k:Nat} {ds:List PS} {e:E} (h:Zsa k ds e=true):e = .n:=by
 unfold Zsa at h;split at h
 ·rfl
 cases h
def Zuy {P:Program} {step:Zjg} (hok:Zgs P step) (hfol:P.follows .mixedOrders=true) {R:Exit->Act->World->Prop} :
  ∀{n:Nat} {ks ks':List K} {e e':E} {s s':S} {ds:List PS} {ps:List Prop} {es:List (Cmp×Cmp)} {g:G} {a:Act} {w:World},goS step n ks e s ds=some (ks',e',s',ps,es)->Zce ps->(∀q∈es,q.1=q.2)->Sat g s w a.tmps ->
  (∀g' w' a',Mod g g' w w'->Sat g' s' w' a'.tmps->a'.defers=a.defers->exK P R ks' e'.exit a' w')->exK P R ks e.exit a w:=by
 intro n
 induction n with
 | zero=>
  intro ks ks' e e' s s' ds ps es g a w h hp he hs hQ;simp [goS] at h
 | succ n ih=>
  intro ks ks' e e' s s' ds ps es g a w h hp he hs hQ;have stop : ∀{ks:List K} {e:E},(ks=ks'/\e=e'/\s=s'/\[]=ps/\[]=es)->exK P R ks e.exit a w:=by
   rintro ks e ⟨rfl,rfl,rfl,rfl,rfl⟩;exact hQ g w a (.refl _ _) hs rfl
  by_cases hst:Zsa ks.length ds e=true
  ·have:=isStop_n hst;subst this;unfold goS at h;rw [aD hst] at h;simp only [zA,zE] at h;exact stop h
  unfold goS at h;rw [aE hst] at h;cases ks with
  | nil=>
   cases ds with
   | nil=>simp only [zA,zE] at h;exact stop h
   | cons d ds=>simp at h
  | cons k ks=>
   cases k with
   | h J=>
    cases e with
    | n=>cases ds with
     | nil=>simp only [zA,zE] at h;exact stop h
     | cons d ds=>simp at h
    | x id=>have:=ih h hp he hs hQ;simp only [E.exit] at this |-;unfold exK;exact this
    | ret=>have:=ih h hp he hs hQ;simp only [E.exit] at this |-;unfold exK;exact this
   | b id=>
    cases e with
    | n=>have:=ih h hp he hs hQ;simp only [E.exit] at this |-;unfold exK;exact this
    | x id'=>
     simp only [E.exit];unfold exK;simp only at h;split at h
     ·rename_i hid;rw [aD hid];exact ih h hp he hs hQ
     rename_i hid;rw [aE hid];exact ih h hp he hs hQ
    | ret=>have:=ih h hp he hs hQ;simp only [E.exit] at this |-;unfold exK;exact this
   | c x=>
    cases e with
    | x id=>have:=ih h hp he hs hQ;simp only [E.exit] at this |-;unfold exK;exact this
    | ret=>have:=ih h hp he hs hQ;simp only [E.exit] at this |-;unfold exK;exact this
    | n=>
     show exK P R _ .normal a w;cases x with
     | skip=>have:=ih h hp he hs hQ;unfold exK;exact wp_skip this
     | seq x y=>exact ZoP (ih h hp he hs hQ)
     | block id x=>exact Zql (ih h hp he hs hQ)
     | exit id=>have:=ih h hp he hs hQ;unfold exK;exact wp_exit this
     | ret=>have:=ih h hp he hs hQ;unfold exK;exact wp_ret this
     | cond t x y=>
      cases ds with
      | nil=>simp at h
      | cons d ds=>
       cases d with
       | r d=>simp at h
       | d d=>simp at h
       | s n=>simp at h
       | c b=>
        simp only at h;split at h<;>try (cases h;done)
        rename_i v hev;split at h<;>simp only [zA,zE,reduceCtorEq] at h;rename_i k1 e1 s1 ps1 es1 h1;obtain ⟨rfl,rfl,rfl,rfl,rfl⟩:=h;rw [Zce.cons] at hp;obtain ⟨rfl,hp⟩:=hp;have hv:=(ZbN hs hev).2.bool_eq;have:=ih h1 hp he hs hQ;simp only [E.exit] at this;unfold exK at this |-;exact wp_cond hv this
     | region id ops dr=>
      cases ds with
      | nil=>simp at h
      | cons d ds=>
       cases d with
       | c b=>simp at h
       | s n=>simp at h
       | r d=>
        cases dr with
        | true=>simp at h
        | false=>
         simp only [Bool.false_eq_true,if_false] at h;split at h<;>try (cases h;done)
         rename_i s1 ps1 h1;split at h<;>simp only [zA,zE,reduceCtorEq] at h;rename_i k1 e1 s2 ps2 es2 h2;obtain ⟨rfl,rfl,rfl,rfl,rfl⟩:=h;rw [Zce.append] at hp;unfold exK;refine wp_region_list (ZiG hok h1 hp.1 hs fun g' w' a' hm hs' hd=>?_);exact ih h2 hp.2 he hs' fun g'' w'' a'' hm' hs'' hd'=>hQ g'' w'' a'' (hm.trans hm') hs'' (hd'.trans hd)
       | d d=>
        cases dr with
        | false=>simp at h
        | true=>
         simp only [if_true] at h;split at h<;>try (cases h;done)
         rename_i s1 ps1 es1 h1;split at h<;>simp only [zA,zE,reduceCtorEq] at h;rename_i k1 e1 s2 ps2 es2 h2;obtain ⟨rfl,rfl,rfl,rfl,rfl⟩:=h;rw [Zce.append] at hp;unfold exK;refine ZsY hok hfol h1 hp.1 (fun q hq=>he q (List.mem_append_left _ hq)) hs fun g' w' a' hm hs' hd=>?_;exact ih h2 hp.2 (fun q hq=>he q (List.mem_append_right _ hq)) hs' fun g'' w'' a'' hm' hs'' hd'=>hQ g'' w'' a'' (hm.trans hm') hs'' (hd'.trans hd)
     | loop x=>
      cases ds with
      | nil=>simp only [zA,zE] at h;exact stop h
      | cons d ds=>simp at h
     | _=>simp at h
def At (g0:G) (w0:World) (s:S) (J:Act->World->Prop):Prop:=∀g w a,Mod g0 g w0 w->Sat g s w a.tmps->a.defers = []->J a w
def goQ (step:Zjg) (n:Nat) (ks:List K) (s:S) (ds:List PS) (live sites:List Nat):Option (List K×S×List Prop):=
 match goS step n ks .n s ds with
 | some (ks',.n,s',ps,[])=>some (ks',s'.norm live sites,ps)
 | _=>none
def goQd (step:Zjg) (n:Nat) (ks:List K) (s:S) (ds:List PS) (live sites:List Nat):Option (List K×S×List Prop):=
 match goS step n ks .n s ds with
 | some (ks',.n,s',ps,_)=>some (ks',s'.norm live sites,ps)
 | _=>none
def Zkt (b:Bool):Option (List K×E×S×List Prop×List (Cmp×Cmp))->List Cmp
 | some (_,_,_,_,es)=>es.map fun q=>if b then q.1 else q.2
 | none=>[]
def finQ (P:Program) (fn:Func) (step:Zjg) (n:Nat) (ks:List K) (s:S) (ds:List PS) (oc:List L) (md:Nat) (own:List Nat):Option (List CV×List (List L)×List Prop):=
 match goS step n ks .n s ds with
 | some ([],.n,s',ps,[])=>match Zix P s' oc md own 0 fn.results.toList with
  | some (rs,_,qs)=>some (rs,s'.st,ps++qs)
  | none=>none
 | some ([],.ret,s',ps,[])=>match Zix P s' oc md own 0 fn.results.toList with
  | some (rs,_,qs)=>some (rs,s'.st,ps++qs)
  | none=>none
 | _=>none
def ZoL (P:Program) (fn:Func) (step:Zjg) (n:Nat) (ks:List K) (s:S) (ds:List PS) (oc:List L) (md:Nat) (own:List Nat):Option (List CV×List (List L)×List Prop):=
 match goS step n ks .n s ds with
 | some ([],.n,s',ps,_)=>match Zix P s' oc md own 0 fn.results.toList with
  | some (rs,_,qs)=>some (rs,s'.st,ps++qs)
  | none=>none
 | some ([],.ret,s',ps,_)=>match Zix P s' oc md own 0 fn.results.toList with
  | some (rs,_,qs)=>some (rs,s'.st,ps++qs)
  | none=>none
 | _=>none
section
variable {P:Program} {step:Zjg} {g0:G} {w0:World} {R:Exit->Act->World->Prop} {n:Nat} {ks ks':List K} {s s':S} {ds:List PS} {live sites:List Nat} {ps:List Prop}
def ZoU {x:Option (List K×E×S×List Prop×List (Cmp×Cmp))} {ks:List K} {e:E} {s:S} {ps:List Prop} {es:List (Cmp×Cmp)} (hx:x=some (ks,e,s,ps,es)) (h:Zkt true x=Zkt false x) : ∀q∈es,q.1=q.2:=by
 subst hx;simp only [Zkt,if_true,Bool.false_eq_true,if_false] at h;intro q hq;exact List.map_inj_left.1 h q hq
def At.goA (hok:Zgs P step) (hfol:P.follows .mixedOrders=true) {e e':E} {es:List (Cmp×Cmp)} (h:goS step n ks e s ds=some (ks',e',s',ps,es)) (hp:Zce ps) (he : ∀q∈es,q.1=q.2)
  (hk:At g0 w0 s' (exK P R ks' e'.exit)):At g0 w0 s (exK P R ks e.exit):=fun g w a hM hs hd=>
 Zuy hok hfol h hp he hs fun g' w' a' hM' hs' hd'=>hk g' w' a' (hM.trans hM') hs' (hd'.trans hd)
def At.norm {J:Act->World->Prop} (h:At g0 w0 (s.norm live sites) J):At g0 w0 s J:=fun g w a hM hs hd=>h g w a hM (hs.norm live sites) hd
def At.go (hok:Zgs P step) (hfol:P.follows .mixedOrders=true) (h:goQ step n ks s ds live sites=some (ks',s',ps)) (hp:Zce ps) (hk:At g0 w0 s' (exK P R ks' .normal)):At g0 w0 s (exK P R ks .normal):=by
 unfold goQ at h;split at h<;>simp only [zA,zE,reduceCtorEq] at h;rename_i h1;obtain ⟨rfl,rfl,rfl⟩:=h;exact At.goA (e:=.n) hok hfol h1 hp (fun q hq=>by cases hq) hk.norm
def At.goD (hok:Zgs P step) (hfol:P.follows .mixedOrders=true) (h:goQd step n ks s ds live sites=some (ks',s',ps)) (hc:Zkt true (goS step n ks .n s ds)=Zkt false (goS step n ks .n s ds)) (hp:Zce ps)
  (hk:At g0 w0 s' (exK P R ks' .normal)):At g0 w0 s (exK P R ks .normal):=by
 unfold goQd at h;split at h<;>simp only [zA,zE,reduceCtorEq] at h;rename_i h1;obtain ⟨rfl,rfl,rfl⟩:=h;exact At.goA (e:=.n) hok hfol h1 hp (ZoU h1 hc) hk.norm
def At.ends {fn:Func} {rs:List CV} {e':E} {oc:List L} {md:Nat} {own:List Nat} {m:Option (Nat×Nat)} {qs:List Prop} (hE:Znp P fn g0 w0 rs s'.st R) (he:e' = .n\/e' = .ret) (hr:Zix P s' oc md own 0 fn.results.toList=some (rs,m,qs)) (hq:Zce qs) :
  At g0 w0 s' (exK P R [] e'.exit):=fun g w a hM hs hd=>by
 unfold exK;exact hE g w a s' oc md own m qs e' he hM hs hd hr hq rfl
def At.fin {fn:Func} {rs:List CV} {st':List (List L)} {oc:List L} {md:Nat} {own:List Nat} (hok:Zgs P step) (hfol:P.follows .mixedOrders=true) (hE:Znp P fn g0 w0 rs st' R)
  (h:finQ P fn step n ks s ds oc md own=some (rs,st',ps)) (hp:Zce ps):At g0 w0 s (exK P R ks .normal):=by
 unfold finQ at h;split at h
 ·rename_i h1;split at h<;>simp only [zA,zE,reduceCtorEq] at h;rename_i h2;obtain ⟨rfl,rfl,rfl⟩:=h;rw [Zce.append] at hp;exact At.goA (e:=.n) hok hfol h1 hp.1 (fun q hq=>by cases hq) (At.ends (e':=.n) hE (.inl rfl) h2 hp.2)
 ·rename_i h1;split at h<;>simp only [zA,zE,reduceCtorEq] at h;rename_i h2;obtain ⟨rfl,rfl,rfl⟩:=h;rw [Zce.append] at hp;exact At.goA (e:=.n) hok hfol h1 hp.1 (fun q hq=>by cases hq) (At.ends (e':=.ret) hE (.inr rfl) h2 hp.2)
 cases h
def At.finD {fn:Func} {rs:List CV} {st':List (List L)} {oc:List L} {md:Nat} {own:List Nat} (hok:Zgs P step) (hfol:P.follows .mixedOrders=true) (hE:Znp P fn g0 w0 rs st' R)
  (h:ZoL P fn step n ks s ds oc md own=some (rs,st',ps)) (hc:Zkt true (goS step n ks .n s ds)=Zkt false (goS step n ks .n s ds)) (hp:Zce ps):At g0 w0 s (exK P R ks .normal):=by
 unfold ZoL at h;split at h
 ·rename_i h1;split at h<;>simp only [zA,zE,reduceCtorEq] at h;rename_i h2;obtain ⟨rfl,rfl,rfl⟩:=h;rw [Zce.append] at hp;exact At.goA (e:=.n) hok hfol h1 hp.1 (ZoU h1 hc) (At.ends (e':=.n) hE (.inl rfl) h2 hp.2)
 ·rename_i h1;split at h<;>simp only [zA,zE,reduceCtorEq] at h;rename_i h2;obtain ⟨rfl,rfl,rfl⟩:=h;rw [Zce.append] at hp;exact At.goA (e:=.n) hok hfol h1 hp.1 (ZoU h1 hc) (At.ends (e':=.ret) hE (.inr rfl) h2 hp.2)
 cases h
def At.loop {x:Code} (m:Nat) (h:At g0 w0 s (Code.rounds P x (exK P R ks) m)):At g0 w0 s (exK P R (.c (.loop x)::ks) .normal):=fun g w a hM hs hd=>Zsi m (h g w a hM hs hd)
def At.round {x:Code} {m:Nat} (h:At g0 w0 s (exK P R (.c x :: .h (Code.rounds P x (exK P R ks) m)::ks) .normal)):At g0 w0 s (Code.rounds P x (exK P R ks) (m+1)):=fun g w a hM hs hd=>Zmg (h g w a hM hs hd)
def At.here {J:Act->World->Prop} (h:At g0 w0 s J):At g0 w0 s (exK P R (.h J::ks) .normal):=fun g w a hM hs hd=>by unfold exK;exact h g w a hM hs hd
def Snd.of {f:FuncId} {fn:Func} {c:Code} {args:List CV} {st:List (List L)} {rs:List CV} {st':List (List L)} (hf:P.funcs[f]? = some fn)
  (hn : (fn.name == "runtime.NumGoroutine") = false) (hb : fn.body = some c) (hlen : args.length <= fn.ntmps)
  (h : ∀(g:G) (w:World) (R:Exit->Act->World->Prop),Znp P fn g w rs st' R->At g w (S.enter fn.ntmps args st) (exK P R [.c c] .normal)):Snd P f args st rs st':=
 Snd.mk hf hn hb hlen fun g w a R hs hd hE=>h g w R hE g w a (.refl _ _) hs hd
end
section
variable {α:Type}
def chk (p:Prop) [Decidable p] (A:Option α):Option α:=if p then A else none
def Zba {p:Prop} [Decidable p] {A:Option α} {r:α} (h:chk p A=some r):p/\A=some r:=by
 unfold chk at h;split at h
 ·exact ⟨by assumption,h⟩
 cases h
def Zbd {v:Bool} {A B:Option α} {r:α} {G:Prop} (h:(if v=true then A else B)=some r) (ht:v=true->A=some r->G) (hf:v=false->B=some r->G):G:=by
 cases v
 ·exact hf rfl (aR h)
 exact ht rfl (aR h)
def Zbb {β:Type} (o:Option β) (f:β->Option α):Option α:=match o with
 | some i=>f i
 | none=>none
def Zab {β:Type} {o:Option β} {f:β->Option α} {r:α} (h:Zbb o f=some r) : ∃i,o=some i/\f i=some r:=by
 cases o with
 | none=>cases h
 | some i=>exact ⟨i,rfl,h⟩
def Zac {x r:α} (h:some x=some r):x=r:=by cases h;rfl
end
def mkSl:Nat->Nat->List (Nat×TV)->List TV
 | _,0,_=>[]
 | i,n+1,[]=>.u::mkSl (i+1) n []
 | i,n+1,(j,t)::r=>if i=j then t::mkSl (i+1) n r else .u::mkSl (i+1) n ((j,t)::r)
def mkSi:Nat->Nat->List (Nat×Ent)->List (Option Ent)
 | _,0,_=>[]
 | i,n+1,[]=>none::mkSi (i+1) n []
 | i,n+1,(j,t)::r=>if i=j then some t::mkSi (i+1) n r else none::mkSi (i+1) n ((j,t)::r)
def mkS (n:Nat) (sl:List (Nat×TV)) (si:List (Nat×Ent)) (st:List (List L)):S:=⟨mkSl 0 n sl,mkSi 0 n si,st,0⟩
def ZbK:Code->List Nat->Code
 | .seq a _,0::r=>ZbK a r
 | .seq _ b,_::r=>ZbK b r
 | .cond _ a _,0::r=>ZbK a r
 | .cond _ _ b,_::r=>ZbK b r
 | .block _ b,_::r=>ZbK b r
 | .loop b,_::r=>ZbK b r
 | .scope b,_::r=>ZbK b r
 | x,_=>x
end Go.Dn
namespace Go.Dn
variable [Globs]
def Zrr (o:Option (List K×S×List Prop)) (ks':List K) (s':S) (A:Prop):Prop:=
 match o with
 | some (k,s,ps)=>(k,s)=(ks',s')/\(A->Zce ps)
 | none=>False
def Zrs (o:Option (List K×S×List Prop)) (k0:K) (s':S) (A:Prop):Prop:=
 match o with
 | some (k,s,ps)=>(k.head?,s)=(some k0,s')/\(A->Zce ps)
 | none=>False
def Zjh (o:Option (List CV×List (List L)×List Prop)) (rs:List CV) (st':List (List L)) (A:Prop):Prop:=
 match o with
 | some (k,s,ps)=>(k,s)=(rs,st')/\(A->Zce ps)
 | none=>False
section
variable {P:Program} {g0:G} {w0:World} {R:Exit->Act->World->Prop} {ks ks':List K} {s s':S} {A:Prop}
def goodQ {o:Option (List K×S×List Prop)} (h:((ks',s')=(ks',s')/\(A->A))=Zrr o ks' s' A) (a:A) : ∃ps,o=some (ks',s',ps)/\Zce ps:=by
 have h1:Zrr o ks' s' A:=h ▸ ⟨rfl,id⟩;unfold Zrr at h1;split at h1
 ·rename_i k s ps;obtain ⟨h2,h3⟩:=h1;simp only [zE] at h2;obtain ⟨rfl,rfl⟩:=h2;exact ⟨ps,rfl,h3 a⟩
 exact h1.elim
def goodF {o:Option (List CV×List (List L)×List Prop)} {rs:List CV} {st':List (List L)} (h:((rs,st')=(rs,st')/\(A->A))=Zjh o rs st' A) (a:A) : ∃ps,o=some (rs,st',ps)/\Zce ps:=by
 have h1:Zjh o rs st' A:=h ▸ ⟨rfl,id⟩;unfold Zjh at h1;split at h1
 ·rename_i k s ps;obtain ⟨h2,h3⟩:=h1;simp only [zE] at h2;obtain ⟨rfl,rfl⟩:=h2;exact ⟨ps,rfl,h3 a⟩
 exact h1.elim
def goodN {o:Option (List K×S×List Prop)} {k:K} (h:((some k,s')=(some k,s')/\(A->A))=Zrs o k s' A) (a:A) : ∃ks' ps,o=some (k::ks',s',ps)/\Zce ps:=by
 have h1:Zrs o k s' A:=h ▸ ⟨rfl,id⟩;unfold Zrs at h1;split at h1
 ·rename_i k0 s ps;obtain ⟨h2,h3⟩:=h1;simp only [zE] at h2;obtain ⟨h4,rfl⟩:=h2;cases k0 with
  | nil=>cases h4
  | cons k0 ks0=>simp at h4;subst h4;exact ⟨_,ps,rfl,h3 a⟩
 exact h1.elim
def At.q (hfol:P.follows .mixedOrders=true) (n:Nat) (ds:List PS) (live sites:List Nat) (a:A) (hk:At g0 w0 s' (exK P R ks' .normal))
  (h:((ks',s')=(ks',s')/\(A->A))=Zrr (goQ (Zel P) n ks s ds live sites) ks' s' A):At g0 w0 s (exK P R ks .normal):=by
 obtain ⟨ps,h1,h2⟩:=goodQ h a;exact At.go (ZfL P) hfol h1 h2 hk
def At.qd (hfol:P.follows .mixedOrders=true) (n:Nat) (ds:List PS) (live sites:List Nat) (a:A) (hk:At g0 w0 s' (exK P R ks' .normal))
  (h:((ks',s')=(ks',s')/\(A->A))=Zrr (goQd (Zel P) n ks s ds live sites) ks' s' A) (hc:Zkt true (goS (Zel P) n ks .n s ds)=Zkt false (goS (Zel P) n ks .n s ds)):At g0 w0 s (exK P R ks .normal):=by
 obtain ⟨ps,h1,h2⟩:=goodQ h a;exact At.goD (ZfL P) hfol h1 hc h2 hk
def At.n {J:Act->World->Prop} (hfol:P.follows .mixedOrders=true) (n:Nat) (ds:List PS) (live sites:List Nat) (a:A) (hk:At g0 w0 s' J)
  (h:((some (K.h J),s')=(some (K.h J),s')/\(A->A))=Zrs (goQ (Zel P) n ks s ds live sites) (.h J) s' A):At g0 w0 s (exK P R ks .normal):=by
 obtain ⟨ks',ps,h1,h2⟩:=goodN h a;exact At.go (ZfL P) hfol h1 h2 (At.here hk)
def At.nd {J:Act->World->Prop} (hfol:P.follows .mixedOrders=true) (n:Nat) (ds:List PS) (live sites:List Nat) (a:A) (hk:At g0 w0 s' J)
  (h:((some (K.h J),s')=(some (K.h J),s')/\(A->A))=Zrs (goQd (Zel P) n ks s ds live sites) (.h J) s' A) (hc:Zkt true (goS (Zel P) n ks .n s ds)=Zkt false (goS (Zel P) n ks .n s ds)):At g0 w0 s (exK P R ks .normal):=by
 obtain ⟨ks',ps,h1,h2⟩:=goodN h a;exact At.goD (ZfL P) hfol h1 hc h2 (At.here hk)
def At.f {fn:Func} {rs:List CV} {st':List (List L)} (hfol:P.follows .mixedOrders=true) (hE:Znp P fn g0 w0 rs st' R) (n:Nat) (ds:List PS) (oc:List L) (md:Nat) (own:List Nat) (a:A)
  (h:((rs,st')=(rs,st')/\(A->A))=Zjh (finQ P fn (Zel P) n ks s ds oc md own) rs st' A):At g0 w0 s (exK P R ks .normal):=by
 obtain ⟨ps,h1,h2⟩:=goodF h a;exact At.fin (ZfL P) hfol hE h1 h2
def At.fd {fn:Func} {rs:List CV} {st':List (List L)} (hfol:P.follows .mixedOrders=true) (hE:Znp P fn g0 w0 rs st' R) (n:Nat) (ds:List PS) (oc:List L) (md:Nat) (own:List Nat) (a:A)
  (h:((rs,st')=(rs,st')/\(A->A))=Zjh (ZoL P fn (Zel P) n ks s ds oc md own) rs st' A) (hc:Zkt true (goS (Zel P) n ks .n s ds)=Zkt false (goS (Zel P) n ks .n s ds)):At g0 w0 s (exK P R ks .normal):=by
 obtain ⟨ps,h1,h2⟩:=goodF h a;exact At.finD (ZfL P) hfol hE h1 hc h2
def loopN {α ρ:Type} (body:(α->Option ρ)->α->Option ρ):Nat->α->Option ρ
 | 0,_=>none
 | k+1,x=>body (loopN body k) x
def At.loopN {α ρ:Type} (St:α->S) {x:Code} {ks:List K} {body:(α->Option ρ)->α->Option ρ} {r:ρ}
  (hb : ∀(c:α->Option ρ) (J:Act->World->Prop),(∀y,c y=some r->At g0 w0 (St y) J)->∀y,body c y=some r->At g0 w0 (St y) (exK P R (.c x :: .h J::ks) .normal)) :
  ∀(k:Nat) (y:α),Dn.loopN body k y=some r->At g0 w0 (St y) (Code.rounds P x (exK P R ks) k)
 | 0,y,h=>by cases h
 | k+1,y,h=>At.round (hb (Dn.loopN body k) _ (fun y' h'=>At.loopN St hb k y' h') y h)
end
end Go.Dn
namespace Go.Dn
variable [Globs]
def Zaq {st:List (List L)} {i:Nat} {c:List L} (h:st[i]? = some c) (c':List L):(st.set i c')[i]? = some c':=by
 have:i<st.length:=by
  rcases zX i st.length with h' | h'
  ·exact h'
  rw [zM h'] at h;cases h
 simp [this]
def st_new (st:List (List L)) (c:List L):(st ++ [c])[st.length]? = some c:=by simp
def st_old {st:List (List L)} {i:Nat} {c:List L} (h:st[i]? = some c) (c':List L):(st ++ [c'])[i]? = some c:=by
 have:i<st.length:=by
  rcases zX i st.length with h' | h'
  ·exact h'
  rw [zM h'] at h;cases h
 rw [zS this];exact h
def not_true {b:Bool} (h:b=true):(!b)=false:=by subst h;rfl
def not_false {b:Bool} (h:b=false):(!b)=true:=by subst h;rfl
def Zcu {b:Bool} (h:(!b)=true):b=false:=by cases b<;>first | rfl | cases h
def Zcv {b:Bool} (h:(!b)=false):b=true:=by cases b<;>first | rfl | cases h
def optM {α:Type} (o:Option (Option (Nat×L))) (f:Nat->L->Option α) (g:Option α):Option α:=match o with
 | some (some (j,v))=>f j v
 | some none=>g
 | none=>none
def Zov {α:Type} {o:Option (Option (Nat×L))} {f:Nat->L->Option α} {g:Option α} {r:α} (h:optM o f g=some r):(∃j v,o=some (some (j,v))/\f j v=some r)\/(o=some none/\g=some r):=by
 unfold optM at h;split at h
 ·exact .inl ⟨_,_,rfl,h⟩
 ·exact .inr ⟨rfl,h⟩
 cases h
def ZuE {o:Option (Option (Nat×L))} {j:Nat} {v:L} (h:o=some (some (j,v))) : ∃j,o=some (some (j,v)):=⟨j,h⟩
def ex_at {o:Option (Option (Nat×L))} {j:Nat} {v:L} (h:o=some (some (j,v))) : ∃v,o=some (some (j,v)):=⟨v,h⟩
end Go.Dn
namespace Go.Dn
variable [Globs]
def ZkH {α:Type} {a b:α} (h : [a] = [b]):a=b:=by cases h;rfl
end Go.Dn
namespace Go.Dn.F
open Go.Dn
variable [Globs]
def ZeH (_:Nat) (x y c:Int):Option (Int×Int):=
 chk (0<=x)<|chk (0<=y)<|chk (0<=c)<|chk (c<=1)<|some ((x+y+c)%18446744073709551616,(x+y+c)/18446744073709551616)
def ZfQ (_:Nat) (x y c:Int):Option (Int×Int):=
 chk (0<=x)<|chk (0<=y)<|chk (0<=c)<|chk (c<=1)<|chk (y<=18446744073709551615)<|some ((x-y-c)%18446744073709551616,if x<y+c then 1 else 0)
def ZnZ:Array Value->Sem Value:=fun args=>do
 let (x, y, b) <- Extern.MathBitsCarry.three "Sub64" args
 pure (Extern.MathBitsCarry.pair ((x+Extern.MathBitsCarry.m64-y-b)%Extern.MathBitsCarry.m64) (if x<y+b then 1 else 0))
def run_sub {P:Program} (x y b:Nat) (hb:b<=1) (w:World) :
  (ZnZ #[.int .u64 x,.int .u64 y,.int .u64 b]).run P w =
   .ok (.tuple #[.int .u64 (((x+18446744073709551616-y-b)%18446744073709551616:Nat):Int),.int .u64 ((if x<y+b then 1 else 0:Nat):Int)]) w:=by
 have:b=0\/b=1:=aF
 rcases this with rfl | rfl<;>rfl
variable {P:Program} {f:FuncId} {fn:Func}
def Znm (hf : P.funcs[f]? = some fn) (hname : (fn.name == "runtime.NumGoroutine") = false) (hb : fn.body.isNone = true) (hn : Extern.findNext fn = none) (he : Extern.find fn = some add64Entry)
  {N:Nat} {x y z:Int} {r:Int×Int} (h:ZeH N x y z=some r):ExtI P f [(.u64,x),(.u64,y),(.u64,z)] [(.u64,r.1),(.u64,r.2)]:=by
 intro w;unfold ZeH at h;obtain ⟨h1,h⟩:=Zba h;obtain ⟨h2,h⟩:=Zba h;obtain ⟨h3,h⟩:=Zba h;obtain ⟨h4,h⟩:=Zba h;have:=Zac h;subst this;rw [run_callFunc_extern hf hname hb hn he];show (Result.andThen ((add64Entry #[.int .u64 x,.int .u64 y,.int .u64 z]).run P w) _)=_;rw [run_add64 x y z h1 h2 h3 h4];rfl
def Znl (hf : P.funcs[f]? = some fn) (hname : (fn.name == "runtime.NumGoroutine") = false) (hb : fn.body.isNone = true) (hn : Extern.findNext fn = none) (he : Extern.find fn = some ZnZ)
  {N:Nat} {x y z:Int} {r:Int×Int} (h:ZfQ N x y z=some r):ExtI P f [(.u64,x),(.u64,y),(.u64,z)] [(.u64,r.1),(.u64,r.2)]:=by
 intro w;unfold ZfQ at h;obtain ⟨h1,h⟩:=Zba h;obtain ⟨h2,h⟩:=Zba h;obtain ⟨h3,h⟩:=Zba h;obtain ⟨h4,h⟩:=Zba h;obtain ⟨h5,h⟩:=Zba h;have:=Zac h;subst this;rw [run_callFunc_extern hf hname hb hn he];obtain ⟨X,rfl⟩:=tU h1;obtain ⟨Y,rfl⟩:=tU h2;obtain ⟨Z,rfl⟩:=tU h3;show (Result.andThen ((ZnZ #[.int .u64 X,.int .u64 Y,.int .u64 Z]).run P w) _)=_;rw [run_sub X Y Z aF];have e1:(((X+18446744073709551616-Y-Z)%18446744073709551616:Nat):Int)=((X:Int)-Y-Z)%18446744073709551616:=aF
 have e2:((if X<Y+Z then 1 else 0:Nat):Int)=if (X:Int)<Y+Z then 1 else 0:=by
  by_cases hh:X<Y+Z
  ·rw [aD hh,aD aF];rfl
  rw [aE hh,aE aF];rfl
 rw [e1,e2];rfl
end Go.Dn.F
namespace Go.Dn
variable [Globs]
section
variable {P:Program} {g0:G} {w0:World} {R:Exit->Act->World->Prop} {ks:List K} {s:S}
def ZtU {o:Oper} {d1 d2 T T2 E:Nat} {sz:Nat} {xs:List (List L)} (h:o.op = .binOp .eql T (.tmp d1) (.const (.slice none 0 0)) T2) (hu:P.underlying T=some (.slice E)) (hd:o.dst=some d2)
  (hs0:s.sl[d1]? = some (.one (.l (.sl sz xs)))) {g:G} {w:World} {a:Act} (hs:Sat g s w a.tmps) {K:Act->World->Prop} {Q:Exit->Act->World->Prop}
  (hK : ∀b g' a',(b=true->xs = [])->Mod g g' w w->Sat g' (s.put (some d2) (.one (.l (.bool b)))) w a'.tmps->a'.defers=a.defers->K a' w):o.wp P a w K Q:=by
 have hv:=hs.slot d1 _ hs0;have ha:a.eval (.tmp d1)=a.tmps.getD d1 undef:=rfl;rw [<-ha] at hv;obtain ⟨_,hl⟩:=hv;simp only [TR] at hl;obtain ⟨p,n,c,hpv,hnil⟩ : ∃p n c,a.eval (.tmp d1) = .slice p n c/\(p.isNone=true->xs = []):=by
  generalize a.eval (.tmp d1)=v at hl;cases hl with
  | slnil=>exact ⟨none,0,0,rfl,fun _=>rfl⟩
  | slz _ _ a0=>exact ⟨_,0,0,rfl,fun h=>by cases h⟩
  | sl _ b off len cap _ _ hl hc hZ he=>exact ⟨_,_,_,rfl,fun h=>by cases h⟩
 have hc0:a.eval (.const (.slice none 0 0)) = .slice none 0 0:=rfl;have hrun:(execOp a.eval o).run P w = .ok (.value (.bool p.isNone)) w:=by
  have h1:(binOp .eql T (.slice p n c) (.slice none 0 0)).run P w = .ok (.bool p.isNone) w:=by
   exact Lib.run_eql_slice_nil w T E p n c 0 0 hu
  have h2:(eqGuard .eql T (.tmp d1) (.const (.slice none 0 0)) (.slice p n c) (.slice none 0 0)).run P w = .ok () w:=by simp [eqGuard]
  simp only [execOp,h,hpv,hc0,Sem.run_bind,h1,h2,Result.andThen_ok,Sem.run_pure]
 unfold Oper.wp;rw [hrun];have hsl:ZdM g (s.put o.dst (.one (.l (.bool p.isNone)))) w (.bool p.isNone) (.one (.l (.bool p.isNone))):=⟨rfl,.bool _ _⟩
 have hn:=hs.next (X:=fun _=>False) (s':=s.put o.dst (.one (.l (.bool p.isNone)))) (ZbA.refl (by cases o.dst<;>rfl) (by cases o.dst<;>rfl)) (fun _ h=>h.elim) (hs.mem.cast (by cases o.dst<;>rfl) (by cases o.dst<;>rfl)) (by cases o.dst<;>rfl) (dst:=o.dst) (tv:=.one (.l (.bool p.isNone))) (v:=.bool p.isNone) rfl (fun _=>hsl);rw [<-hd] at hK;exact hK p.isNone g _ hnil (.refl g w) hn (by cases o.dst<;>rfl)
def At.nilcmp (hok:Zgs P (Zel P)) {id d0 d1 d2 T T2 E:Nat} {o1 o2:Oper} {sz:Nat} {xs:List (List L)} {rest:Code}
  (h1:o1.op = .move (.tmp d0)) (g1:o1.guard=none) (e1:o1.dst=some d1) (h2:o2.op = .binOp .eql T (.tmp d1) (.const (.slice none 0 0)) T2) (g2:o2.guard=none) (e2:o2.dst=some d2) (hu:P.underlying T=some (.slice E))
  (hs0:s.sl[d0]? = some (.one (.l (.sl sz xs)))) (hd1:d1<s.sl.length)
  (k : ∀b,(b=true->xs = [])->At g0 w0 ((s.put (some d1) (.one (.l (.sl sz xs)))).put (some d2) (.one (.l (.bool b)))) (exK P R (.c rest::ks) .normal)) :
  At g0 w0 s (exK P R (.c (.seq (.region id #[o1,o2] false) rest)::ks) .normal):=by
 intro g w a hM hs hd;refine ZoP ?_;unfold exK;refine wp_region_list ?_;unfold wpList;rw [aD (by unfold Region.wanted;rw [g1])];left;have hpv:Dn.pv P s o1=some (.one (.l (.sl sz xs)),[]):=by
  unfold Dn.pv;rw [h1];simp only [ev,hs0,yS]
 refine (ZdB.pv hpv trivial) g w a hs _ _ fun g' w' v hm hk hs'=>?_;rw [e1] at hs' |-;unfold wpList;rw [aD (by unfold Region.wanted;rw [g2])];left;refine ZtU (s:=s.put (some d1) (.one (.l (.sl sz xs)))) (sz:=sz) (xs:=xs) h2 hu e2 (by simp [S.put,hd1]) hs' fun b g'' a' hb hm' hs'' hd'=>?_;unfold wpList;exact k b hb g'' w' a' ((hM.trans hm).trans hm') hs'' (by rw [hd'];exact hd)
end
def opPos:Code->Nat->String
 | .seq (.region _ os _) _,i=>match os[i]? with
  | some o=>o.pos
  | none => ""
 | _, _ => ""
end Go.Dn
