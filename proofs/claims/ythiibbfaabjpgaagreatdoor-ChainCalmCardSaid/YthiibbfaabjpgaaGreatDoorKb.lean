import Derived.Test.YthiibbfaabjpgaaGreatDoorKa
import Derived.Great.BuildSlice
import Derived.Deep.AppendSrc
import Derived.Deep.Upon
import Derived.Laws.Tables
import Derived.Laws.StructEq
import Derived.ChangeKeysEq
import Derived.Laws.BytesString
import Derived.Laws.Cells
import Derived.MapKept
import Derived.WideKeyRuns
import Derived.Laws.MakeOwn
import Derived.Orders
set_option linter.all false
open Array renaming length_toList->tN,ext'->qG,getElem?_toList->tF,getD_eq_getD_getElem?->xW,getElem?_setIfInBounds_ne->xZ,getD->uM,all_eq_true_iff_forall_mem->tZ,replicate->vX
open Bool renaming false_eq_true->yP,not_true->pM,true_and->wT,and_eq_true->zV,not_eq_true'->vR
open List renaming mem_cons->xL,flatMap_cons->uF,length_append->zU,length_cons->wO,getElem?_eq_none->zM,getElem?_append_left->zS,getElem?_append_right->yA,map_cons->xF,getElem?_set_self->zP,getElem?_set_ne->zO,append_assoc->yH,getElem?_take->yT,take_zero->uD,getElem?_map->yR,getElem?_drop->xG,getD->zF,length_map->wJ,all_eq_true->xM,ext_getElem?->vD,length_take->wB,mem_cons_self->wP,mem_cons_of_mem->yN,all_cons->yQ,range->uW,mem_range->uN,getElem?_cons_zero->yJ,getElem?_eq_getElem->zQ,getElem?_eq_some_iff->zZ,length_singleton->yX,mem_append_right->sL,filter_cons_of_neg->uG,filter_cons_of_pos->uZ,filter_eq_nil_iff->qI
open Nat renaming add_mul->wG,lt_or_ge->zX,add_assoc->xK,le_refl->zH,zero_add->yE,mul_le_mul_right->wX,add_zero->vC
open Option renaming map_eq_some_iff->zI,bind_eq_some_iff->yD,map_some->yS,map_none->vI
open Option.some renaming injEq->zA,inj->xB
open Prod renaming fst->tX,snd->tY
open Prod.mk renaming injEq->zE
namespace Go.Dn
variable [Globs]
def Zje (s:S) (size:Nat):Nat->List (Nat×Operand)->Option (List (List L))
 | _,[]=>some []
 | i,(j,x)::r=>if i=j then
   match (ev s x).bind tvL with
   | some ls=>if sizes ls=size then (Zje s size (i+1) r).map (ls :: ·) else none
   | none=>none
  else none
def bsOp (P:Program) (s:S) (o:Oper):Option S:=
 match o.dst,o.op with
 | some d,.buildSlice t n ⟨parts⟩=>
  if TV.mens d s.sl then none else
  match P.underlying t with
  | some (.slice e)=>match P.info? e with
   | some ie=>match ie.zero with
    | some _=>match Zje s ie.size 0 parts with
     | some xs=>if 0<n*ie.size/\n*ie.size<=2^24/\parts.length=n then
       some ((s.setEnt d (.row 0 true ie.size xs)).put (some d) (.one (.h (.row d 0) ie.size 0 n)))
      else if n=0/\parts = [] then some ((s.setEnt d (.row 0 true ie.size [])).put (some d) (.one (.h (.row d 0) ie.size 0 0))) else none
     | none=>none
    | none=>none
   | none=>none
  | _=>none
 | _,_=>none
inductive VX (g:G) (w:World) (sz:Nat):List Value->List (List L)->Prop where
 | nil:VX g w sz [] []
 | cons (v:Value) (x:List L) (vs:List Value) (xs:List (List L)) (hc:CR g w none v.cells.toList x) (hn:v.cells.size=sz) (hr:VX g w sz vs xs):VX g w sz (v::vs) (x::xs)
section
variable {P:Program} {g g':G} {s:S} {w w':World}
def VX.len {sz:Nat} {vs:List Value} {xs:List (List L)} (h:VX g w sz vs xs):vs.length=xs.length/\∀v∈vs,v.cells.size=sz:=by
 induction h with
 | nil=>simp
 | cons v x vs xs hc hn hr ih=>
  refine ⟨by simp [ih.1],fun u hu=>?_⟩;rcases xL.1 hu with rfl | hu
  ·exact hn
  exact ih.2 u hu
def VX.flat {sz:Nat} {vs:List Value} {xs:List (List L)} (h:VX g w sz vs xs):(vs.flatMap fun v=>v.cells.toList).length=xs.length*sz:=by
 induction h with
 | nil=>simp
 | cons v x vs xs hc hn hr ih=>
  rw [uF,zU,ih,wO,wG];have:v.cells.toList.length=sz:=by simpa using hn
  omega
def VX.er {sz:Nat} {vs:List Value} {xs:List (List L)} (h:VX g w sz vs xs) (K:ZcK g g' w w') : ∀{b off:Nat},(∀j v,(vs.flatMap fun v=>v.cells.toList)[j]? = some v->w'.cell? (ad b (off+j))=some v)->ER g' w' b off sz xs:=by
 induction h with
 | nil=>intro b off _;exact .nil _ _ _
 | cons v x vs xs hc hn hr ih=>
  intro b off hcell;have hlen:v.cells.toList.length=sz:=by simpa using hn
  refine .cons b off sz v.cells.toList x xs hlen (fun j u hj=>hcell j u ?_) (CR.keep K hc) (ih fun j u hj=>?_)
  ·have hlt:j<v.cells.toList.length:=by
    rcases zX j v.cells.toList.length with h | h
    ·exact h
    rw [zM h] at hj;cases hj
   rw [uF,zS hlt];exact hj
  have:=hcell (sz+j) u (by rw [uF,yA aF,hlen,(aF:sz+j-sz=j)];exact hj);rwa [<-xK] at this
def Zkz {a:Act} (hs:Sat g s w a.tmps) {size:Nat} : ∀{parts:List (Nat×Operand)} {i:Nat} {xs:List (List L)},Zje s size i parts=some xs ->
  VX g w size (parts.map fun p=>a.eval p.2) xs/\(parts.map fun p=>(p.1,a.eval p.2))=((parts.map fun p=>a.eval p.2).zipIdx i).map fun x=>(x.2,x.1)
 | [],i,xs,h=>by simp only [Zje,zA] at h;subst h;exact ⟨.nil,rfl⟩
 | (j,x)::r,i,xs,h=>by
  simp only [Zje] at h;split at h<;>try cases h
  rename_i hij;subst hij;split at h<;>try cases h
  rename_i ls hls;split at h<;>try cases h
  rename_i hsz;obtain ⟨xs',h1,rfl⟩:=zI.1 h;obtain ⟨k1,k2⟩:=Zkz hs h1;obtain ⟨tv,h2,h3⟩:=yD.1 hls;have hc:=Zpm (p:=none) h3 (ZbN hs h2);refine ⟨.cons _ _ _ _ hc ?_ k1,?_⟩
  ·have h5:=hc.size;have h6:(a.eval x).cells.size=sizes ls:=by simpa using h5
   exact h6.trans hsz
  simp only [xF,List.zipIdx_cons,k2]
def ZdB.newRow {P:Program} {s:S} {o:Oper} {d sz n:Nat} {xs:List (List L)} (hd:o.dst=some d) (hmen:TV.mens d s.sl=false) (hn:xs.length=n)
  (h : ∀(g:G) (w:World) (a:Act),Sat g s w a.tmps->∃(vs:List Value) (E:TypeId),VX g w sz vs xs /\
   (execOp a.eval o).run P w = .ok (.value (.slice (some ⟨w.heap.size,0,none⟩) n n)) (w.alloc (.cells (vs.flatMap fun v=>v.cells.toList).toArray E))) :
  ZdB P o [d] s ((s.setEnt d (.row 0 true sz xs)).put (some d) (.one (.h (.row d 0) sz 0 n))):=by
 intro g w a hs K Q hK;obtain ⟨vs,E,h1,h2⟩:=h g w a hs;subst hn;unfold Oper.wp;rw [h2];have hz:=hs.mem.z;have KK:=ZhU (g:=g) (w:=w) hz (.cells (vs.flatMap fun v=>v.cells.toList).toArray E) (.rowS d) d (.slice (some ⟨w.heap.size,0,none⟩) xs.length xs.length);have hrow:ZgO (g.new w (.rowS d) d (.slice (some ⟨w.heap.size,0,none⟩) xs.length xs.length)) (w.alloc (.cells (vs.flatMap fun v=>v.cells.toList).toArray E)) (.rowS d) (.slice (some ⟨w.heap.size,0,none⟩) xs.length xs.length) true sz xs:=by
  refine .inr (.inr ⟨w.heap.size,0,xs.length,(vs.flatMap fun v=>v.cells.toList).toArray,E,rfl,zH _,Zbq _ _ _,heap_alloc_new w _,?_,(by rw [aD rfl];exact hz _ (zH _)),?_⟩)
  ·have e:=h1.flat;simp only [List.size_toArray];omega
  refine h1.er KK fun j v hj=>?_;simp only [World.cell?,yE,heap_alloc_new];simpa using hj
 have hm:ZdK (g.new w (.rowS d) d (.slice (some ⟨w.heap.size,0,none⟩) xs.length xs.length)) ((s.setEnt d (.row 0 true sz xs)).put (some d) (.one (.h (.row d 0) sz 0 xs.length))) (w.alloc (.cells (vs.flatMap fun v=>v.cells.toList).toArray E)):=by
  refine ZlH hs.mem (ent:=.row 0 true sz xs) rfl rfl ?_;simp only [Zgf];rw [show (g.new w (.rowS d) d (.slice (some ⟨w.heap.size,0,none⟩) xs.length xs.length)).hd d=_ from Zbq _ _ _];exact hrow
 have k:=Zkh (s':=((s.setEnt d (.row 0 true sz xs)).put (some d) (.one (.h (.row d 0) sz 0 xs.length)))) (ob:=.cells (vs.flatMap fun v=>v.cells.toList).toArray E) (t:=.rowS d) (d:=d) (hv:=.slice (some ⟨w.heap.size,0,none⟩) xs.length xs.length) (ent:=.row 0 true sz xs) hs.mem rfl rfl;refine hK _ _ _ (Zoy hz _ (.rowS d) d _) k ?_;refine hs.next k (fun n hn=>by simp at hn;subst hn;exact hmen) hm (by simp [S.put,S.setEnt]) (dst:=o.dst) (tv:=.one (.h (.row d 0) sz 0 xs.length)) (by rw [hd];rfl) (fun _=>?_);exact Zog hrow (Zbq _ _ _)
def ZdB.bs {P:Program} {s s':S} {o:Oper} (h:bsOp P s o=some s') : ∃d,o.dst=some d/\ZdB P o [d] s s':=by
 unfold bsOp at h;split at h<;>try cases h
 rename_i d t n parts hd ho;split at h<;>try cases h
 rename_i hmen;split at h<;>try cases h
 rename_i e hu;split at h<;>try cases h
 rename_i ie hie;split at h<;>try cases h
 rename_i z hz;split at h<;>try cases h
 rename_i xs hxs;split at h
 case isFalse=>
  split at h<;>simp only [zA,reduceCtorEq] at h;rename_i hh;subst h;obtain ⟨rfl,rfl⟩:=hh;refine ⟨d,hd,.newRow hd (aR hmen) rfl fun g w a hs=>⟨[],e,.nil,?_⟩⟩;simp [execOp,ho,Instr.buildSlice,underlying,hu,sizeOf,hie,Instr.fill,Go.newRow,typeInfo]
  congr 2
  exact Array.eq_empty_of_size_eq_zero aG
 simp only [zA] at h;rename_i hh;subst h;obtain ⟨hpos,hsmall,hlen⟩:=hh;have hxl : ∀{parts:List (Nat×Operand)} {i:Nat} {xs:List (List L)},Zje s ie.size i parts=some xs->xs.length=parts.length:=by
  intro parts
  induction parts with
  | nil=>intro i xs h;simp only [Zje,zA] at h;subst h;rfl
  | cons p r ih=>
   intro i xs h;obtain ⟨j,x⟩:=p;simp only [Zje] at h;split at h<;>try cases h
   split at h<;>try cases h
   split at h<;>try cases h
   obtain ⟨xs',h1,rfl⟩:=zI.1 h;simp [ih h1]
 have hx:=hxl hxs;refine ⟨d,hd,?_⟩;refine .newRow hd (aR hmen) aF fun g w a hs=>?_;obtain ⟨k1,k2⟩:=Zkz hs hxs;refine ⟨_,e,k1,?_⟩;have hsz:0<ie.size:=Nat.pos_of_mul_pos_left hpos;have hf:=Great.fill_whole hsz (parts.map fun p=>a.eval p.2) ((Array.range (n*ie.size)).map (z.cells[· % z.cells.size]!)) k1.len.2 (by simp [hlen]);have hrun:=run_buildSlice (P:=P) w t e n ((⟨parts⟩:Array (Nat×Operand)).map fun (i,x)=>(i,a.eval x)) _ ie z hu hie hz aF aF (by
  rw [show ((⟨parts⟩:Array (Nat×Operand)).map fun (i,x)=>(i,a.eval x)).toList=parts.map fun p=>(p.1,a.eval p.2) by simp,k2];exact hf)
 simp only [execOp,ho,Sem.run_bind,hrun,Result.andThen_ok,Sem.run_pure]
end
end Go.Dn
namespace Go.Dn
variable [Globs]
section
variable {P:Program} {g g':G} {s s':S} {w w':World}
def Zid (hm:ZdK g s w) {X:List Nat} {n ver':Nat} {e':Bool} {sz':Nat} {xs':List (List L)}
  (hn:n∈X\/∃ver e sz xs,s.si[n]? = some (some (.row ver e sz xs))/\(ver<ver'\/(ver'=ver/\g'.hd n=g.hd n)))
  (hob:g'.ob=g.ob/\g'.nob=g.nob/\g'.sb=g.sb) (hhd : ∀m,m≠n->g'.hd m=g.hd m) (K:ZcK g g' w w') (ho:w'.os=w.os/\w'.tape=w.tape/\w'.output=w.output)
  (hsize:w.heap.size<=w'.heap.size) (hsame : ∀b,b<w.heap.size->g.ow b≠some (.rowS n)->Zhw g g' w w' b)
  (hown : ∀b t,g'.ow b=some t->b<w'.heap.size) (hz : ∀b,w'.heap.size<=b->g'.Z b=0) (hrow:ZgO g' w' (.rowS n) (g'.hd n) e' sz' xs')
  (hsi:s'.si=s.si.set n (some (.row ver' e' sz' xs'))) (hst:s'.st=s.st) (hep:s'.ep=s.ep) :
  Mod g g' w w'/\ZdK g' s' w'/\ZbA (· ∈ X) s s' g g' w w':=by
 have hset : ∀{x:Option Ent},(s.si.set n (some (.row ver' e' sz' xs')))[n]? = some x->x=some (.row ver' e' sz' xs'):=by
  intro x h;have hlt:n<s.si.length:=by
   rcases zX n s.si.length with h' | h'
   ·exact h'
   rw [zM (aR h')] at h;cases h
  rw [zP hlt] at h;exact (xB h).symm
 have hS : ∀b t,g.ow b=some t->t ≠ .rowS n->Zhw g g' w w' b:=fun b t h1 h2=>hsame b (hm.own b t h1) (fun e=>by rw [h1] at e;exact h2 (xB e));refine ⟨⟨K,ho.1,ho.2.1,ho.2.2,hsize,fun b hb=>?_,fun b hb h1 h2=>?_,fun i h1 h2=>absurd h2 (by rw [hob.2.1];omega)⟩,⟨by rw [hst,hob.2.1];exact hm.stl,fun i c h hne=>?_,fun i hi=>?_,fun m ent h=>?_,hown,hz,hm.gl.keep K⟩,⟨K,fun m hX h=>?_,fun m v hX h=>?_,fun m hX h=>?_,fun _ r hg hi hr _ _ off hv h=>?_,aF⟩⟩
 ·by_cases h:g.ow b=some (.rowS n)
  ·right;rw [h];simp
  exact .inl (hsame b hb h)
 ·by_cases h:g.ow b=some (.rowS n)
  ·rw [h];simp
  rw [(hsame b hb h).2.1] at h1 h2;exact ⟨h1,h2⟩
 ·rw [hst] at h;rw [hob.1];have h1:=hm.obj i c h hne;exact h1.keep K (hS _ _ h1.1 aG) (fun b' o hb=>hS _ _ hb aG)
 ·rw [hob.2.1] at hi;rw [hob.1];rcases hm.objB i hi with h | h
  ·exact .inl ((hS _ _ h aG).2.1.trans h)
  exact .inr ((hS _ _ h aG).2.1.trans h)
 ·rw [hsi] at h;by_cases e:n=m
  ·subst e;have:=hset h;simp only [zA] at this;subst this;exact hrow
  rw [zO e] at h;have h1:=hm.site m ent h;cases ent with
  | cells c=>
   simp only [Zgf] at h1 |-;rw [hob.2.2];exact h1.keep K (hS _ _ h1.1 aG) (fun b' o hb=>hS _ _ hb aG)
  | row v0 e0 sz0 xs0=>
   simp only [Zgf] at h1 |-;rw [hhd m (fun e'=>e e'.symm)];exact h1.keep K (fun b hb=>hS _ _ hb (by simp;exact fun e'=>e e'.symm))
  | mp es=>
   simp only [Zgf] at h1 |-;rw [hhd m (fun e'=>e e'.symm)];exact h1.keep K (fun b hb=>hS _ _ hb (by simp;exact fun e'=>e e'.symm))
 ·obtain ⟨c,h⟩:=h;rw [hsi] at h;by_cases e:n=m
  ·subst e;have:=hset h;cases this
  rw [zO e] at h;exact ⟨⟨c,h⟩,by rw [hob.2.2]⟩
 ·obtain ⟨e0,sz0,xs0,h⟩:=h;rw [hsi] at h;by_cases e:n=m
  ·subst e;have:=hset h;simp only [zA,Ent.row.injEq] at this;obtain ⟨rfl,_⟩:=this;rcases hn with hn | ⟨ver,e1,sz1,xs1,hn,hver⟩
   ·exact absurd hn hX
   rcases hver with h2 | ⟨h2,h3⟩
   ·exact .inr ⟨ver,_,_,_,hn,h2⟩
   subst h2;exact .inl ⟨⟨_,_,_,hn⟩,h3⟩
  rw [zO e] at h;exact .inl ⟨⟨_,_,_,h⟩,hhd m (fun e'=>e e'.symm)⟩
 ·obtain ⟨es,h⟩:=h;rw [hsi] at h;by_cases e:n=m
  ·subst e;have:=hset h;cases this
  rw [zO e] at h;exact ⟨⟨_,h⟩,hhd m (fun e'=>e e'.symm)⟩
 left;have hb:Zhw g g' w w' (g.rb r):=by
  cases r with
  | site m=>
   obtain ⟨c,h1⟩:=hr;exact hS _ _ (hm.site m _ h1).1 aG
  | obj i=>
   rcases hm.objB i hi with h | h
   ·exact hS _ _ h aG
   exact hS _ _ h aG
  | glob k=>exact absurd rfl (hg k)
 rwa [Zdr hb.1] at h
def ER.cells {sz:Nat} : ∀{xs:List (List L)} {b off:Nat},ER g w b off sz xs->∃vs:List Value,vs.length=xs.length*sz/\(∀j v,vs[j]? = some v->w.cell? (ad b (off+j))=some v)/\(∀v∈vs,v.oneCell'=true) /\
  (∀{g':G} {w':World} {b' off':Nat},ZcK g g' w w'->(∀j v,vs[j]? = some v->w'.cell? (ad b' (off'+j))=some v)->ER g' w' b' off' sz xs)
 | [],b,off,h=>⟨[],by simp,fun j v h=>(by simp at h),fun v h=>(by cases h),fun _ _=>.nil _ _ _⟩
 | x::xs,b,off,h=>by
  cases h with
  | cons _ _ _ vs _ _ hn hc hx hr=>
   obtain ⟨us,h1,h2,h3,h4⟩:=ER.cells hr;refine ⟨vs++us,by simp [h1,hn,wG];omega,fun j v hj=>?_,fun v hv=>?_,fun K hcell=>?_⟩
   ·by_cases hlt:j<vs.length
    ·rw [zS hlt] at hj;exact hc j v hj
    rw [yA aF] at hj;have:=h2 _ _ hj;rwa [hn,(aF:off+sz+(j-sz)=off+j)] at this
   ·rcases List.mem_append.1 hv with hv | hv
    ·exact hx.cells1 v hv
    exact h3 v hv
   refine .cons _ _ _ vs _ _ hn (fun j v hj=>hcell j v ?_) (CR.keep K hx) (h4 K fun j v hj=>?_)
   ·have hlt:j<vs.length:=by
     rcases zX j vs.length with h | h
     ·exact h
     rw [zM h] at hj;cases hj
    rw [zS hlt];exact hj
   have:=hcell (sz+j) v (by rw [yA aF,hn,(aF:sz+j-sz=j)];exact hj);rwa [<-xK] at this
def ZlQ (P:Program) (g:G) (w:World) (sz:Nat) (tx:TypeId) (x:Value) (ys:List (List L)):Prop:=
 ∃news:List Value,Go.Src P sz tx x ys.length news w/\∀{g':G} {w':World} {b' off':Nat},ZcK g g' w w'->(∀j v,news[j]? = some v->w'.cell? (ad b' (off'+j))=some v)->ER g' w' b' off' sz ys
def ZlQ.ofER {sz:Nat} {tx e':TypeId} (hk:P.underlying tx=some (.slice e')) {ys:List (List L)} {b off c:Nat} (h:ER g w b off sz ys):ZlQ P g w sz tx (.slice (some (ad b off)) ys.length c) ys:=by
 obtain ⟨vs,h1,h2,h3,h4⟩:=h.cells;refine ⟨vs,Src.ofSlice w hk (ad b off) ys.length c vs h1 (fun j u hj=>?_) h3,h4⟩;have:(ad b off).add j=ad b (off+j):=by unfold Addr.add;split<;>simp_all
 rw [this];exact h2 j u hj
def ZlQ.ofZero {sz:Nat} {tx e':TypeId} (hk:P.underlying tx=some (.slice e')) (a:Addr):ZlQ P g w sz tx (.slice (some a) 0 0) []:=
 ⟨[],Src.ofSlice w hk a 0 0 [] aG (fun j u hj=>by simp at hj) (fun u hu=>by cases hu),fun _ _=>.nil _ _ _⟩
def ZlQ.ofNil {sz:Nat} {tx e':TypeId} (hk:P.underlying tx=some (.slice e')) (c:Nat):ZlQ P g w sz tx (.slice none 0 c) []:=
 ⟨[],Src.ofNil w hk c,fun _ _=>.nil _ _ _⟩
end
end Go.Dn
namespace Go.Dn
variable [Globs]
structure Zlv (g g':G) (w w':World) (n:Nat) (hv':Value) (e:Bool) (sz:Nat) (xs:List (List L)):Prop where
 hob:g'.ob=g.ob/\g'.nob=g.nob/\g'.sb=g.sb
 hhd : ∀m,m≠n->g'.hd m=g.hd m
 hdn:g'.hd n=hv'
 K:ZcK g g' w w'
 ho:w'.os=w.os/\w'.tape=w.tape/\w'.output=w.output
 hsize:w.heap.size<=w'.heap.size
 hsame : ∀b,b<w.heap.size->g.ow b≠some (.rowS n)->Zhw g g' w w' b
 hown : ∀b t,g'.ow b=some t->b<w'.heap.size
 hz : ∀b,w'.heap.size<=b->g'.Z b=0
 hrow:ZgO g' w' (.rowS n) hv' e sz xs
section
variable {P:Program} {g:G} {w:World}
def G.grow (g:G) (w:World) (n:Nat) (e:Bool) (z:Nat) (hv:Value):G:=
 { g with ow:=ZgJ (fun b=>if g.ow b=some (.rowS n) then some .foreign else g.ow b) w.heap.size (some (.rowS n)),Z:=ZgJ g.Z w.heap.size (if e then 0 else z),hd:=ZgJ g.hd n hv}
def Zse (g:G) (w:World) (n:Nat) (e:Bool) (z:Nat) (hv:Value):(g.grow w n e z hv).ow w.heap.size=some (.rowS n):=by simp [G.grow,ZgJ]
def ZlL (g:G) (w:World) (n:Nat) (e:Bool) (z:Nat) (hv:Value) {b:Nat} (h:b≠w.heap.size):(g.grow w n e z hv).ow b=if g.ow b=some (.rowS n) then some .foreign else g.ow b:=by simp [G.grow,ZgJ,h]
def app_grow (hown : ∀b t,g.ow b=some t->b<w.heap.size) (hz : ∀b,w.heap.size<=b->g.Z b=0) {n:Nat} {e:Bool} {sz:Nat} {xs ys:List (List L)} {olds news rest:List Value} {E0:TypeId} {cap:Nat}
  (h1 : ∀{g':G} {w':World} {b' off':Nat},ZcK g g' w w'->(∀j v,olds[j]? = some v->w'.cell? (ad b' (off'+j))=some v)->ER g' w' b' off' sz xs)
  (h2 : ∀{g':G} {w':World} {b' off':Nat},ZcK g g' w w'->(∀j v,news[j]? = some v->w'.cell? (ad b' (off'+j))=some v)->ER g' w' b' off' sz ys)
  (hl1:olds.length=xs.length*sz) (hl2:news.length=ys.length*sz) (hcap:xs.length+ys.length<=cap) (hrest:rest.length=(cap-(xs.length+ys.length))*sz) :
  ∃g',Zlv g g' w (w.drew.alloc (.cells ((olds++news++rest).toArray) E0)) n (.slice (some ⟨w.heap.size,0,none⟩) (xs++ys).length cap) e sz (xs++ys):=by
 have hold : ∀b,b<w.heap.size->(w.drew.alloc (.cells ((olds++news++rest).toArray) E0)).heap[b]? = w.heap[b]? := fun b hb=>Zev w.drew _ hb;have K:ZcK g (g.grow w n e ((xs++ys).length*sz) (.slice (some ⟨w.heap.size,0,none⟩) (xs++ys).length cap)) w (w.drew.alloc (.cells ((olds++news++rest).toArray) E0)):=by
  refine ⟨fun _ _=>rfl,zH _,fun b=>?_,fun b o ho=>?_,fun b ho=>ZeE (hold b ?_)⟩
  rotate_left 2
  ·rcases zX b w.heap.size with h | h
   ·exact h
   rw [hz b h] at ho;omega
  ·by_cases hb:b=w.heap.size
   ·subst hb;rw [hz _ (zH _)];exact Nat.zero_le _
   show _<=ZgJ _ _ _ _;rw [ZcZ _ _ hb];exact zH _
  have:b<w.heap.size:=by
   rcases zX b w.heap.size with h | h
   ·exact h
   rw [hz b h] at ho;omega
  exact Zdr (hold b this)
 refine ⟨g.grow w n e ((xs++ys).length*sz) (.slice (some ⟨w.heap.size,0,none⟩) (xs++ys).length cap),⟨rfl,rfl,rfl⟩,fun m hm=>ZcZ _ _ hm,Zbq _ _ _,K,⟨rfl,rfl,rfl⟩,by simp,fun b hb hne=>⟨hold b hb,?_,ZcZ _ _ aF⟩,fun b t h=>?_,fun b hb=>?_,?_⟩
 ·rw [ZlL _ _ _ _ _ _ aF,aE hne]
 ·have hsz:(w.drew.alloc (.cells ((olds++news++rest).toArray) E0)).heap.size=w.heap.size+1:=by rw [World.size_alloc];rfl
  rw [hsz];by_cases hb:b=w.heap.size
  ·omega
  rw [ZlL _ _ _ _ _ _ hb] at h;have h':=h;split at h'
  ·rename_i h3;have:=hown b _ h3;omega
  have:=hown b _ h';omega
 ·have hsz:(w.drew.alloc (.cells ((olds++news++rest).toArray) E0)).heap.size=w.heap.size+1:=by rw [World.size_alloc];rfl
  rw [hsz] at hb;show ZgJ _ _ _ _=_;rw [ZcZ _ _ aF];exact hz b aF
 have hcell : ∀j v,(olds++news++rest)[j]? = some v->(w.drew.alloc (.cells ((olds++news++rest).toArray) E0)).cell? (ad w.heap.size (0+j))=some v:=by
  intro j v hj;have hh:=heap_alloc_new w.drew (.cells ((olds++news++rest).toArray) E0);have hh':(w.drew.alloc (.cells ((olds++news++rest).toArray) E0)).heap[w.heap.size]? = some (.cells ((olds++news++rest).toArray) E0):=hh;simp only [World.cell?,hh',yE];simpa using hj
 refine .inr<|.inr ⟨w.heap.size,0,cap,(olds++news++rest).toArray,E0,rfl,by simpa using hcap,Zse _ _ _ _ _ _,heap_alloc_new w.drew _,?_,?_,?_⟩
 ·simp only [List.size_toArray,zU,hl1,hl2,hrest,yE];rw [<-wG,<-wG];exact wX _ aF
 ·show ZgJ _ _ _ _=_;rw [Zbq];simp
 refine ER.append (h1 K fun j v hj=>hcell j v ?_) (h2 K fun j v hj=>?_)
 ·rw [yH,zS]
  ·exact hj
  rcases zX j olds.length with h | h
  ·exact h
  rw [zM h] at hj;cases hj
 have hlt:j<news.length:=by
  rcases zX j news.length with h | h
  ·exact h
  rw [zM h] at hj;cases hj
 have:=hcell (olds.length+j) v (by
  rw [yH,yA aF,zS aF,(aF:olds.length+j-olds.length=j)];exact hj)
 rwa [hl1,yE,(aF:xs.length*sz+j=0+xs.length*sz+j)] at this
def G.room (g:G) (n b:Nat) (e:Bool) (z:Nat) (hv:Value):G:=
 { g with Z:=if e then g.Z else ZgJ g.Z b z,hd:=ZgJ g.hd n hv}
def app_room (hown : ∀b t,g.ow b=some t->b<w.heap.size) (hz : ∀b,w.heap.size<=b->g.Z b=0) {n:Nat} {e:Bool} {sz:Nat} {xs ys:List (List L)} {news:List Value} {b off cap:Nat} {cur:Array Value} {E0:TypeId}
  (ho:g.ow b=some (.rowS n)) (hb:w.heap[b]? = some (.cells cur E0 (0,0))) (hfit:off+cap*sz<=cur.size) (hZ:g.Z b=if e then 0 else off+xs.length*sz)
  (h1:ER g w b off sz xs)
  (h2 : ∀{g':G} {w':World} {b' off':Nat},ZcK g g' w w'->(∀j v,news[j]? = some v->w'.cell? (ad b' (off'+j))=some v)->ER g' w' b' off' sz ys)
  (hl2:news.length=ys.length*sz) (hcap:xs.length+ys.length<=cap) :
  ∃g',Zlv g g' w (w.setRow b (cur.toList.take (off+xs.length*sz)++news++cur.toList.drop (off+xs.length*sz+news.length)).toArray) n (.slice (some ⟨b,off,none⟩) (xs++ys).length cap) e sz (xs++ys):=by
 obtain ⟨cs,hcs⟩ : ∃cs,cs=(cur.toList.take (off+xs.length*sz)++news++cur.toList.drop (off+xs.length*sz+news.length)):=⟨_,rfl⟩
 rw [<-hcs];have hmul:(xs.length+ys.length)*sz<=cap*sz:=wX _ hcap;rw [wG] at hmul;have hlen:cs.length=cur.size:=by subst hcs;simp;omega
 have hoth : ∀b',b'≠b->(w.setRow b cs.toArray).heap[b']? = w.heap[b']? := fun b' h=>setRow_other w _ _ _ h;have hnew:(w.setRow b cs.toArray).heap[b]? = some (.cells cs.toArray E0 (0,0)):=setRow_heap w _ cur _ E0 _ hb;have hblt:b<w.heap.size:=hown _ _ ho;have hcell : ∀o,(w.setRow b cs.toArray).cell? (ad b o)=cs[o]? := fun o=>by simp [World.cell?,hnew]
 have hcold : ∀o,w.cell? (ad b o)=cur.toList[o]? := fun o=>by simp [World.cell?,hb]
 have hpre : ∀o,o<off+xs.length*sz->cs[o]? = cur.toList[o]? := fun o h=>by
  subst hcs;rw [yH,zS aH,yT,aD h]
 have K:ZcK g (g.room n b e (off+(xs++ys).length*sz) (.slice (some ⟨b,off,none⟩) (xs++ys).length cap)) w (w.setRow b cs.toArray):=by
  refine ⟨fun _ _=>rfl,zH _,fun b'=>?_,fun b' o h=>?_,fun b' h=>?_⟩
  rotate_left 2
  ·by_cases hb':b'=b
   ·rw [hb',ZgA hb,ZgA hnew]
   exact ZeE (hoth b' hb')
  ·cases e with
   | true=>exact zH _
   | false=>
    by_cases hb':b'=b
    ·subst hb';simp only [yP,if_false] at hZ;simp only [G.room,yP,if_false,Zbq,hZ,zU,wG];omega
    simp [G.room,ZcZ _ _ hb']
  by_cases hb':b'=b
  ·subst hb';rw [hZ] at h;rw [hcell,hcold];exact hpre o (by split at h<;>omega)
  exact Zdr (hoth b' hb')
 refine ⟨g.room n b e (off+(xs++ys).length*sz) (.slice (some ⟨b,off,none⟩) (xs++ys).length cap),⟨rfl,rfl,rfl⟩,fun m hm=>ZcZ _ _ hm,Zbq _ _ _,K,⟨rfl,rfl,rfl⟩,by simp,fun b' hb' hne=>?_,fun b' t h=>by simpa using hown b' t h,fun b' h=>?_,?_⟩
 ·have:b'≠b:=fun e=>by subst e;exact hne ho
  refine ⟨hoth b' this,rfl,?_⟩;cases e with
  | true=>rfl
  | false=>simp [G.room,ZcZ _ _ this]
 ·have hs:(w.setRow b cs.toArray).heap.size=w.heap.size:=by simp
  rw [hs] at h;have:b'≠b:=aF
  cases e with
  | true=>exact hz b' h
  | false=>simp [G.room,ZcZ _ _ this,hz b' h]
 refine .inr<|.inr ⟨b,off,cap,cs.toArray,E0,rfl,by simpa using hcap,ho,hnew,by simp [hlen];omega,?_,?_⟩
 ·cases e with
  | true=>simpa [G.room] using hZ
  | false=>simp [G.room,Zbq]
 refine ER.append (h1.keep' K fun o h3 h4=>?_) (h2 K fun j v hj=>?_)
 ·rw [hcell,hcold];exact hpre o h4
 have hlt:j<news.length:=by
  rcases zX j news.length with h | h
  ·exact h
  rw [zM h] at hj;cases hj
 rw [hcell];subst hcs;have e1:(cur.toList.take (off+xs.length*sz)).length=off+xs.length*sz:=by simp;omega
 rw [yH,yA aF,zS aF,e1,(aF:off+xs.length*sz+j-(off+xs.length*sz)=j)];exact hj
def Zhz {t tx ty E0:TypeId} {i:TypeInfo} (ht:P.underlying t=some (.slice E0)) (hi:P.info? E0=some i) {b off sLen sCap:Nat} {x:Value} {n:Nat} {news:List Value} (hs:Go.Src P i.size tx x n news w)
  (hroom:sLen+n<=sCap) {cur:Array Value} {E:TypeId} (hb:w.heap[b]? = some (.cells cur E (0,0))) (hfit:off+sLen*i.size+news.length<=cur.size) :
  (Builtin.append_ #[t,tx] ty #[.slice (some ⟨b,off,none⟩) sLen sCap,x]).run P w =
   .ok (.slice (some ⟨b,off,none⟩) (sLen+n) sCap) (w.setRow b (cur.toList.take (off+sLen*i.size)++news++cur.toList.drop (off+sLen*i.size+news.length)).toArray):=by
 have hst:=run_storeCells_at P b (off+sLen*i.size) E news 0 cur w hb aF hs.one;simp only [vC] at hst;rcases hs.kind with ⟨e',hk⟩ | hk<;>simp [Builtin.append_,run_underlying ht,run_underlying hk,sizeOf,typeInfo,hi,hs.len,hroom,hs.cells,Addr.add_lit,hst]
def app_run (hown : ∀b t,g.ow b=some t->b<w.heap.size) (hz : ∀b,w.heap.size<=b->g.Z b=0) {n:Nat} {hv:Value} {e:Bool} {sz:Nat} {xs ys:List (List L)} {t tx ty E0:TypeId} {i:TypeInfo} {z x:Value}
  (hr:ZgO g w (.rowS n) hv e sz xs) (hs:ZlQ P g w sz tx x ys) (ht:P.underlying t=some (.slice E0)) (hi:P.info? E0=some i) (hsz:i.size=sz) (hz0:i.zero=some z) (hzs:z.cells.size=sz) (hby:0<i.bytes)
  (hbound:(xs++ys).length*i.bytes<=140737488355328) :
  ∃hv' w' g',(Builtin.append_ #[t,tx] ty #[hv,x]).run P w = .ok hv' w'/\Zlv g g' w w' n hv' e sz (xs++ys):=by
 subst hsz;obtain ⟨news,hsrc,hnews⟩:=hs;rw [zU] at hbound;have h63:((xs.length+ys.length:Nat):Int)<=9223372036854775807:=by
  have:=Nat.le_mul_of_pos_right (xs.length+ys.length) hby;omega
 have hnl:=hsrc.newsLen;have grow : ∀(base:Option Addr) (cap:Nat) (olds:List Value),(Builtin.firstCells i.size xs.length (.slice base xs.length cap)).run P w.drew = .ok olds.toArray w.drew->olds.length=xs.length*i.size ->
   (∀{g':G} {w':World} {b' off':Nat},ZcK g g' w w'->(∀j v,olds[j]? = some v->w'.cell? (ad b' (off'+j))=some v)->ER g' w' b' off' i.size xs)->cap<xs.length+ys.length ->
   ∃hv' w' g',(Builtin.append_ #[t,tx] ty #[.slice base xs.length cap,x]).run P w = .ok hv' w'/\Zlv g g' w w' n hv' e i.size (xs++ys):=by
  intro base cap olds hold hol hER hlt;have hrun:=run_append_grow_src (P:=P) w t tx ty E0 i z ht hi hz0 base xs.length cap olds hold x ys.length news hsrc hlt h63 (growslice_fits hlt hbound);have hge:=grownCap_ge w (xs.length+ys.length) cap E0;obtain ⟨g',hg⟩:=app_grow (n:=n) (e:=e) (E0:=E0) (cap:=grownCap w (xs.length+ys.length) cap E0) (rest:=(Builtin.zeroCells z.cells (grownCap w (xs.length+ys.length) cap E0-(xs.length+ys.length))).toList)
   hown hz hER hnews hol hnl hge (by rw [tN,size_zeroCells,hzs])
  refine ⟨_,_,g',hrun,?_⟩;have ea:((olds++news).toArray++Builtin.zeroCells z.cells (grownCap w (xs.length+ys.length) cap E0-(xs.length+ys.length)))=(olds++news++(Builtin.zeroCells z.cells (grownCap w (xs.length+ys.length) cap E0-(xs.length+ys.length))).toList).toArray:=by
   apply qG;simp
  rw [ea];rw [zU] at hg;exact hg
 rcases hr with ⟨rfl,rfl⟩ | ⟨b,o,rfl,rfl⟩ | ⟨b,off,cap,cur,E,rfl,hcap,ho,hb,hfit,hZ,hER⟩
 ·by_cases hy:ys = []
  ·subst hy;have hn0:news = []:=by simpa using hnl
   subst hn0;refine ⟨.slice none 0 0,w,{ g with hd:=ZgJ g.hd n (.slice none 0 0)},run_append_nothing w t tx ty E0 i ht hi none 0 0 (zH _) x hsrc,?_⟩;exact ⟨⟨rfl,rfl,rfl⟩,fun m hm=>ZcZ _ _ hm,Zbq _ _ _,⟨fun _ _=>rfl,zH _,fun _=>zH _,fun _ _ _=>rfl,fun _ _=>rfl⟩,⟨rfl,rfl,rfl⟩,zH _,fun b hb _=>⟨rfl,rfl,rfl⟩,hown,hz,.inl ⟨rfl,rfl⟩⟩
  have hpos:0<ys.length:=List.length_pos_iff.2 hy;exact grow none 0 [] (run_firstCells_none w.drew i.size 0 0 0) aG (fun _ _=>.nil _ _ _) (aR hpos)
 ·by_cases hy:ys = []
  ·subst hy;have hn0:news = []:=by simpa using hnl
   subst hn0;refine ⟨.slice (some (ad b o)) 0 0,w,{ g with hd:=ZgJ g.hd n (.slice (some (ad b o)) 0 0)},run_append_nothing w t tx ty E0 i ht hi (some (ad b o)) 0 0 (zH _) x hsrc,?_⟩;exact ⟨⟨rfl,rfl,rfl⟩,fun m hm=>ZcZ _ _ hm,Zbq _ _ _,⟨fun _ _=>rfl,zH _,fun _=>zH _,fun _ _ _=>rfl,fun _ _=>rfl⟩,⟨rfl,rfl,rfl⟩,zH _,fun b hb _=>⟨rfl,rfl,rfl⟩,hown,hz,.inr (.inl ⟨b,o,rfl,rfl⟩)⟩
  have hpos:0<ys.length:=List.length_pos_iff.2 hy;exact grow (some (ad b o)) 0 [] (run_firstCells_some w.drew i.size 0 (ad b o) 0 0 [] aG (fun j u hj=>by simp at hj)) aG (fun _ _=>.nil _ _ _) (aR hpos)
 by_cases hroom:xs.length+ys.length<=cap
 ·have hmul:(xs.length+ys.length)*i.size<=cap*i.size:=wX _ hroom;rw [wG] at hmul;have hrun:=Zhz (ty:=ty) ht hi (off:=off) hsrc hroom hb aF;obtain ⟨g',hg⟩:=app_room (n:=n) hown hz ho hb hfit hZ hER hnews hnl hroom;rw [zU] at hg;exact ⟨_,_,g',hrun,hg⟩
 obtain ⟨olds,k1,k2,k3,k4⟩:=hER.cells;refine grow (some (ad b off)) cap olds ?_ k1 k4 aF;refine run_firstCells_some w.drew i.size xs.length (ad b off) xs.length cap olds k1 (fun j u hj=>?_);have e1:(ad b off).add j=ad b (off+j):=by unfold Addr.add;split<;>simp_all
 rw [e1];exact k2 j u hj
end
end Go.Dn
namespace Go.Dn
variable [Globs]
def ZoY (b:ByteArray):List (List L):=b.data.toList.map fun x=>[.int .u8 x.toNat]
def Zvi (P:Program) (s:S) (d:D) (tx:TypeId) (sz:Nat):TV->Option (List (List L)×List Prop)
 | .one (.l (.sl sz' ys))=>match P.underlying tx with
  | some (.slice _)=>if sz'=sz then some (ys,[]) else match ys with
   | []=>some ([],[])
   | _::_=>none
  | _=>none
 | .one (.h src sz' lo len)=>match P.underlying tx,Ziw s d.oc src with
  | some (.slice _),some (_,sz'',ys,ps)=>if sz'=sz/\sz''=sz then some ((win d.wm ys lo len).1,(win d.wm ys lo len).2++ps) else none
  | _,_=>none
 | .one (.asl r off n lo len)=>match P.underlying tx,ZgQ s d.oc r with
  | some (.slice _),some (c,ps)=>match ZgL c off with
   | some (.arr k m xs)=>if m=n/\sz=1 then
     (if lo=0/\len=n then some (xs.map (fun x=>[.int k x]),ps) else some (((xs.drop lo).take len).map (fun x=>[.int k x]),ps))
    else none
   | _=>none
  | _,_=>none
 | .one (.l (.str b))=>match P.underlying tx with
  | some .string=>if sz=1 then some (ZoY b,[]) else none
  | _=>none
 | _=>none
def Zrk:Operand->Bool
 | .const (.slice none 0 0)=>true
 | _=>false
def ZnS:List L->Nat->Option (Bool×Nat×List (List L)×List L)
 | [],_=>none
 | l::ls,o=>if o=0 then
   (match l with
   | .own e sz xs=>some (e,sz,xs,.gone::ls)
   | _=>none)
  else if l.size<=o then (ZnS ls (o-l.size)).map (fun r=>(r.1,r.2.1,r.2.2.1,l::r.2.2.2)) else none
def ZmV (s:S) (oe:List L) (md dd sz:Nat):TV->Option (S×Nat×Nat×Bool×List (List L)×List Nat×List Prop)
 | .one (.h (.row n ver) sz' lo len)=>match Ziw s [] (.row n ver) with
  | some (e,sz'',xs,qs)=>if sz'=sz/\sz''=sz/\(e=true\/md<=1) then some (s,n,ver+1,e,(win md xs lo len).1,[],(win md xs lo len).2++qs) else none
  | none=>none
 | .one (.h (.mem r off ep) sz' lo len)=>if ep=s.ep/\TV.mens dd s.sl=false/\r ≠ .site dd then
   match ZgQ s oe r with
   | some (c,qs)=>match ZnS c off with
    | some (e,sz'',xs,c')=>if sz'=sz/\sz''=sz/\(e=true\/md<=1) then
      some ((s.setRoot r c').setEnt dd (.row 0 e sz xs),dd,1,e,(win md xs lo len).1,[dd],(win md xs lo len).2++qs) else none
    | none=>none
   | none=>none
  else none
 | .one (.l (.own _ sz' []))=>if sz'=sz/\TV.mens dd s.sl=false then some (s,dd,0,true,[],[dd],[]) else none
 | _=>none
def appBase' (s:S) (d:D) (dd sz:Nat) (x:Operand):Option (S×Nat×Nat×Bool×List (List L)×List Nat×List Prop):=
 if Zrk x then (if TV.mens dd s.sl then none else some (s,dd,0,true,[],[dd],[])) else (ev s x).bind (ZmV s d.oe d.m dd sz)
def Zvj (P:Program) (s:S) (o:Oper) (d:D):Option (List Nat×S×List Prop):=
 match o.dst,o.op with
 | some dd,.call { callee:=.builtin .append,args:=⟨[x,y]⟩,argTypes:=⟨[t,tx]⟩}=>
  match P.underlying t with
  | some (.slice E0)=>match P.info? E0 with
   | some i=>match i.zero with
    | some z=>if z.cells.size=i.size/\0<i.bytes then
      match appBase' s d dd i.size x,(ev s y).bind (Zvi P s d tx i.size) with
      | some (s1,n,ver',e,xs,X,ps),some (ys,qs)=>
       some (X,{ s1 with si:=s1.si.set n (some (.row ver' e i.size (xs++ys)))}.put (some dd) (.one (.h (.row n ver') i.size 0 (xs++ys).length)),ps++qs ++ [(xs++ys).length*i.bytes<=140737488355328])
      | _,_=>none
     else none
    | none=>none
   | none=>none
  | _=>none
 | _,_=>none
section
variable {P:Program} {g:G} {s:S} {w:World}
def Zsy : ∀(l:List UInt8) {g:G} {w:World} {b off:Nat},(∀j v,(l.map fun x=>Value.int .u8 x.toNat)[j]? = some v->w.cell? (ad b (off+j))=some v)->ER g w b off 1 (l.map fun x=>[.int .u8 x.toNat])
 | [],_,_,_,_,_=>.nil _ _ _
 | x::l,g,w,b,off,h=>by
  refine .cons _ _ _ [.int .u8 x.toNat] _ _ rfl (fun j v hj=>?_) (.one _ _ _ _ _ (.int _ _ _) rfl (.nil _)) (Zsy l fun j v hj=>?_)
  ·cases j with
   | zero=>exact h 0 v (aR hj)
   | succ j=>simp at hj
  have:=h (j+1) v (aR hj);rwa [(aF:off+1+j=off+(j+1))]
def ZgO.winER {t:Ow} {hv v:Value} {e:Bool} {sz lo len:Nat} {xs:List (List L)} (h:ZgO g w t hv e sz xs) (hw:Win sz lo len hv v) (hl:lo+len<=xs.length) :
  (v = .slice none 0 0/\(xs.drop lo).take len = [])\/∃b o c,v = .slice (some (ad b o)) ((xs.drop lo).take len).length c/\ER g w b o sz ((xs.drop lo).take len):=by
 have hlen:((xs.drop lo).take len).length=len:=by simp;omega
 rcases h with ⟨rfl,rfl⟩ | ⟨b,o,rfl,rfl⟩ | ⟨b,off,cap,a,E,rfl,h2,h3,h4,h5,h6,h7⟩
 ·rcases hw with ⟨_,rfl,rfl,rfl⟩ | ⟨b,o,n,c,o',h,_⟩
  ·exact .inl ⟨rfl,rfl⟩
  cases h
 ·rcases hw with ⟨h,_⟩ | ⟨b,o,n,c,o',h,h1,rfl,_⟩
  ·cases h
  right;have:len=0:=by simp at hl;omega
  subst this;exact ⟨b,o',c-lo,by simp,by simp;exact .nil _ _ _⟩
 rcases hw with ⟨h,_⟩ | ⟨b',o,n,c,o',h,h1,rfl,k1,k2⟩
 ·cases h
 simp only [Value.slice.injEq,zA,Addr.mk.injEq] at h;obtain ⟨⟨rfl,rfl,-⟩,rfl,rfl⟩:=h;right;refine ⟨b,o',cap-lo,by rw [hlen],?_⟩;by_cases hc:lo<cap
 ·rw [k1 hc];exact (h7.dropN lo aF).takeN len
 have:len=0:=aF
 subst this;rw [uD];exact .nil _ _ _
def Zlc (k:IntKind) : ∀(l:List Int) {g:G} {w:World} {b off:Nat},(∀j v,(l.map (Value.int k))[j]? = some v->w.cell? (ad b (off+j))=some v)->ER g w b off 1 (l.map fun x=>[.int k x])
 | [],_,_,_,_,_=>.nil _ _ _
 | x::l,g,w,b,off,h=>by
  refine .cons _ _ _ [.int k x] _ _ rfl (fun j v hj=>?_) (.one _ _ _ _ _ (.int _ _ _) rfl (.nil _)) (Zlc k l fun j v hj=>?_)
  ·cases j with
   | zero=>exact h 0 v (aR hj)
   | succ j=>simp at hj
  have:=h (j+1) v (aR hj);rwa [(aF:off+1+j=off+(j+1))]
def Zqv (hm:ZdK g s w) {d:D} {tx:TypeId} {sz:Nat} {tv:TV} {ys:List (List L)} {ps:List Prop} {v:Value} (h:Zvi P s d tx sz tv=some (ys,ps)) (hp:Zce ps) (hv:ZdM g s w v tv) :
  ZlQ P g w sz tx v ys:=by
 unfold Zvi at h;split at h
 ·split at h<;>try (cases h;done)
  rename_i e' hu;obtain ⟨_,hl⟩:=hv;split at h
  ·rename_i hsz;subst hsz;simp only [zA,zE] at h;obtain ⟨rfl,rfl⟩:=h;cases hl with
   | slnil=>exact ZlQ.ofNil hu 0
   | slz _ _ a0=>exact ZlQ.ofZero hu a0
   | sl _ b off len cap _ _ hl hc hZ he=>subst hl;exact ZlQ.ofER hu he
  split at h<;>simp only [zA,zE,reduceCtorEq] at h;obtain ⟨rfl,rfl⟩:=h;cases hl with
  | slnil=>exact ZlQ.ofNil hu 0
  | slz _ _ a0=>exact ZlQ.ofZero hu a0
  | sl _ b off len cap _ _ hl hc hZ he=>subst hl;exact ZlQ.ofER (ys:=[]) hu (.nil _ _ _)
 ·rename_i src sz' lo len;split at h<;>try (cases h;done)
  rename_i e' eb sz'' zs ps' hu hr;split at h<;>simp only [zA,zE,reduceCtorEq] at h;rename_i hsz;obtain ⟨rfl,rfl⟩:=hsz;obtain ⟨rfl,rfl⟩:=h;obtain ⟨_,_,_,hwin⟩:=hv;rw [Zce.append] at hp;obtain ⟨hv0,t0,k1,k2,_⟩:=Zfs hm hr hp.2;obtain ⟨w1,w2,_⟩:=ZhJ hp.1;rw [w1];rcases k2.winER (hwin _ k1) w2 with ⟨rfl,h2⟩ | ⟨b,o,c,rfl,h2⟩
  ·rw [h2];exact ZlQ.ofNil hu 0
  exact ZlQ.ofER hu h2
 ·rename_i r off n lo len;split at h<;>try (cases h;done)
  rename_i e' c ps' hu hr;split at h<;>try (cases h;done)
  rename_i k m xs hseg;split at h<;>try (cases h;done)
  rename_i hmn;obtain ⟨rfl,rfl⟩:=hmn;have hps:Zce ps':=by split at h<;>(simp only [zA,zE] at h;obtain ⟨_,rfl⟩:=h;exact hp)
  obtain ⟨k1,k2,t',k3⟩:=Zeg hm hr hps;obtain ⟨vs,k4,k5⟩:=k3.cell;obtain ⟨k6,k7⟩:=k4.atArr hseg;obtain ⟨_,_,_,hv⟩:=hv;obtain ⟨h1,o',rfl,h2⟩:=hv k2;have hys:ys=((xs.drop lo).take len).map (fun x=>[.int k x]):=by
   split at h
   ·rename_i hh;simp only [zA,zE] at h;rw [<-h.1,hh.1,hh.2,List.drop_zero,List.take_of_length_le aF]
   simp only [zA,zE] at h;exact h.1.symm
  have hlen:((xs.drop lo).take len).length=len:=by simp;omega
  have key:ZlQ P g w 1 tx (.slice (some (ad (g.rb r) o')) (((xs.drop lo).take len).map (fun x=>[L.int k x])).length (m-lo)) (((xs.drop lo).take len).map (fun x=>[L.int k x])):=by
   refine ZlQ.ofER hu ?_;by_cases hc:lo<m
   ·rw [h2 hc];refine Zlc k _ fun j v hj=>?_;simp only [yR,zI] at hj;obtain ⟨y,hy,rfl⟩:=hj;have hj':j<len:=by
     rcases zX j len with h | h
     ·exact h
     rw [zM aF] at hy;cases hy
    rw [yT,aD hj',xG] at hy;rw [k5,xK,k7 (lo+j) aF,zF,hy];rfl
   have:len=0:=aF
   subst this;rw [uD];exact .nil _ _ _
  rw [wJ,hlen] at key;rw [hys];exact key
 ·rename_i b;split at h<;>try cases h
  rename_i hu;split at h<;>simp only [zA,zE,reduceCtorEq] at h;rename_i hsz;subst hsz;obtain ⟨rfl,rfl⟩:=h;obtain ⟨_,hl⟩:=hv;cases hl;have hl:(ZoY b).length=b.size:=by simp [ZoY]
  refine ⟨byteCells b,?_,fun K h=>Zsy _ h⟩;rw [hl];exact Src.ofString w hu b
 cases h
def CR.keepR {g':G} {w':World} (K:ZcK g g' w w') {b lo:Nat} (hS : ∀b' o,lo<=o->g.ow b'=some (.rowM b o)->Zhw g g' w w' b') :
  ∀{o:Nat} {vs:List Value} {ls:List L},lo<=o->CR g w (some (b,o)) vs ls->CR g' w' (some (b,o)) vs ls
 | _,_,_,_,.nil _=>.nil _
 | _,_,_,hl,.one _ v vs l ls hv h1 hr=>.one _ v vs l ls (LR.keepO K (fun b' h=>hS b' _ hl h) hv) h1 (CR.keepR K hS (o:=_+1) aF hr)
 | _,_,_,hl,.arr _ k n xs vs ls hn hr=>.arr _ k n xs vs ls hn (CR.keepR K hS (o:=_+n) aF hr)
 | _,_,_,hl,.brr _ n xs vs ls hn hr=>.brr _ n xs vs ls hn (CR.keepR K hS (o:=_+n) aF hr)
def ZhD {b:Nat} {e:Bool} {sz:Nat} {xs:List (List L)} : ∀{c c':List L} {o off:Nat} {vs:List Value},CR g w (some (b,o)) vs c->ZnS c off=some (e,sz,xs,c') ->
  ∃v,vs[off]? = some v/\ZgO g w (.rowM b (o+off)) v e sz xs/\∀(g':G) (w':World),ZcK g g' w w'->(∀b' o',o'≠o+off->g.ow b'=some (.rowM b o')->Zhw g g' w w' b')->CR g' w' (some (b,o)) vs c'
 | [],c',o,off,vs,h,hg=>by simp [ZnS] at hg
 | l::ls,c',o,off,vs,h,hg=>by
  simp only [ZnS] at hg;split at hg
  ·rename_i ho;subst ho;split at hg<;>simp only [zA,zE,reduceCtorEq] at hg;obtain ⟨rfl,rfl,rfl,rfl⟩:=hg;cases h with
   | one _ v vs _ _ hv h1 hr=>
    refine ⟨v,rfl,Zlw.1 hv,fun g' w' K hS=>.one _ _ _ _ _ (.gone _ _) h1 ?_⟩;exact CR.keepR K (lo:=o+1) (fun b' o' h1 h2=>hS b' o' aF h2) (o:=o+1) (zH _) hr
  rename_i ho;split at hg<;>try (cases hg;done)
  rename_i hle;obtain ⟨r,h1,h2⟩:=zI.1 hg;obtain ⟨e1,sz1,xs1,c1⟩:=r;simp only [zE] at h2;obtain ⟨rfl,rfl,rfl,rfl⟩:=h2;cases h with
  | one _ v vs _ _ hv h1' hr=>
   have hs1:l.size=1:=by cases hv<;>rfl
   obtain ⟨u,k1,k2,k3⟩:=ZhD (o:=o+1) hr h1;rw [hs1] at hle k1 k2 k3;refine ⟨u,?_,by rwa [(aF:o+1+(off-1)=o+off)] at k2,fun g' w' K hS=>.one _ _ _ _ _ (LR.keepO K (fun b' hb=>hS b' _ (by show o≠_;omega) hb) hv) h1' (k3 g' w' K (by rwa [(aF:o+1+(off-1)=o+off)]))⟩;rw [List.getElem?_cons,aE ho];exact k1
  | arr _ k n ys vs _ hn hr=>
   simp only [L.size] at hle h1;obtain ⟨u,k1,k2,k3⟩:=ZhD (o:=o+n) hr h1;refine ⟨u,?_,by rwa [(aF:o+n+(off-n)=o+off)] at k2,fun g' w' K hS=>.arr _ _ _ _ _ _ hn (k3 g' w' K (by rwa [(aF:o+n+(off-n)=o+off)]))⟩;rw [yA aH];simpa [hn] using k1
  | brr _ n ys vs _ hn hr=>
   simp only [L.size] at hle h1;obtain ⟨u,k1,k2,k3⟩:=ZhD (o:=o+n) hr h1;refine ⟨u,?_,by rwa [(aF:o+n+(off-n)=o+off)] at k2,fun g' w' K hS=>.brr _ _ _ _ _ hn (k3 g' w' K (by rwa [(aF:o+n+(off-n)=o+off)]))⟩;rw [yA aH];simpa [hn] using k1
def G.take (g:G) (b off dd:Nat) (v:Value):G:={ g with ow:=fun b'=>if g.ow b'=some (.rowM b off) then some (.rowS dd) else g.ow b',hd:=ZgJ g.hd dd v}
def Zpp (hm:ZdK g s w) {r:Root} {oe c c':List L} {qs:List Prop} {off dd:Nat} {e:Bool} {sz:Nat} {xs:List (List L)} (hc:ZgQ s oe r=some (c,qs)) (hp:Zce qs) (hgo:ZnS c off=some (e,sz,xs,c')) (hr:r ≠ .site dd) :
  ∃v,Hd g s w (.mem r off s.ep) v/\Mod g (g.take (g.rb r) off dd v) w w/\ZdK (g.take (g.rb r) off dd v) ((s.setRoot r c').setEnt dd (.row 0 e sz xs)) w /\
   ZbA (· ∈ [dd]) s ((s.setRoot r c').setEnt dd (.row 0 e sz xs)) g (g.take (g.rb r) off dd v) w w/\ZgO (g.take (g.rb r) off dd v) w (.rowS dd) v e sz xs:=by
 obtain ⟨hi,hok,hng,hblk⟩:=ZfD hm hc hp;obtain ⟨ht,hZ,aa,E,hb,hcr⟩:=hblk;obtain ⟨v,k1,k2,k3⟩:=ZhD hcr hgo;rw [yE] at k2 k3;have hcell:w.cell? (ad (g.rb r) off)=some v:=by simp only [World.cell?,hb];simpa using k1
 refine ⟨v,⟨rfl,hok,hcell⟩,?_⟩;obtain ⟨g',hg'⟩ : ∃g',g'=g.take (g.rb r) off dd v:=⟨_,rfl⟩
 rw [<-hg'];have how : ∀b',g.ow b'≠some (.rowM (g.rb r) off)->g'.ow b'=g.ow b':=fun b' h=>by subst hg';show (if _ then _ else _)=_;rw [aE h]
 have K:ZcK g g' w w:=by subst hg';exact ⟨fun _ _=>rfl,zH _,fun _=>zH _,fun _ _ _=>rfl,fun _ _=>rfl⟩
 have hob:g'.ob=g.ob/\g'.nob=g.nob/\g'.sb=g.sb/\g'.Z=g.Z:=by subst hg';exact ⟨rfl,rfl,rfl,rfl⟩
 have hhd : ∀n,n≠dd->g'.hd n=g.hd n:=fun n h=>by subst hg';exact ZcZ _ _ h
 have hS : ∀b',g.ow b'≠some (.rowM (g.rb r) off)->Zhw g g' w w b':=fun b' h=>⟨rfl,how b' h,by rw [hob.2.2.2]⟩
 have hS' : ∀b' t,g.ow b'=some t->t ≠ .rowM (g.rb r) off->Zhw g g' w w b':=fun b' t h1 h2=>hS b' (fun e=>h2 (by rw [h1] at e;exact xB e));have hrow:ZgO g' w (.rowS dd) v e sz xs:=by
  rcases k2 with h | h | ⟨b1,o1,cap,a1,E1,q1,q2,q3,q4,q5,q6,q7⟩
  ·exact .inl h
  ·exact .inr (.inl h)
  refine .inr (.inr ⟨b1,o1,cap,a1,E1,q1,q2,?_,q4,q5,by rw [hob.2.2.2];exact q6,q7.keep' K fun _ _ _=>rfl⟩);subst hg';show (if _ then _ else _)=_;rw [aD q3]
 have hne : ∀i,r ≠ .obj i->g.ow (g.ob i)=some (.obj i)->g.ob i≠g.rb r:=fun i h1 h2 e=>by
  rw [e,ht] at h2;cases r<;>simp [Zfy] at h2;exact h1 (by rw [h2])
 have hnew:Znq g' w (g.rb r) (Zfy r) c':=by
  refine ⟨?_,by rw [hob.2.2.2];exact hZ,aa,E,hb,k3 g' w K fun b' o' h1 h2=>hS' b' _ h2 (by simp;exact h1)⟩;rw [how _ (by rw [ht];cases r<;>simp [Zfy])];exact ht
 have hstl:(s.setRoot r c').st.length=s.st.length:=by cases r<;>simp [S.setRoot,S.setEnt]
 have hsi : ∀n ent,((s.setRoot r c').setEnt dd (.row 0 e sz xs)).si[n]? = some (some ent)->(n=dd/\ent = .row 0 e sz xs)\/(n≠dd/\(s.setRoot r c').si[n]? = some (some ent)):=by
  intro n ent h;simp only [S.setEnt] at h;by_cases e':dd=n
  ·subst e';left;by_cases hlt:dd<(s.setRoot r c').si.length
   ·rw [zP hlt] at h;exact ⟨rfl,by cases h;rfl⟩
   rw [zM (aR hlt)] at h;cases h
  rw [zO e'] at h;exact .inr ⟨fun e=>e' e.symm,h⟩
 have hsi2 : ∀n ent,(s.setRoot r c').si[n]? = some (some ent)->(r = .site n/\ent = .cells c')\/(r ≠ .site n/\s.si[n]? = some (some ent)):=by
  intro n ent h;cases r with
  | site k=>
   simp only [S.setRoot,S.setEnt] at h;by_cases e':k=n
   ·subst e';obtain ⟨cc,hok'⟩:=hok;have hlt:k<s.si.length:=by
     rcases zX k s.si.length with h0 | h0
     ·exact h0
     rw [zM h0] at hok';cases hok'
    rw [zP hlt] at h;cases h;exact .inl ⟨rfl,rfl⟩
   rw [zO e'] at h;exact .inr ⟨fun e=>e' (by cases e;rfl),h⟩
  | obj j=>exact .inr ⟨fun e=>(by cases e),h⟩
  | glob k=>exact .inr ⟨fun e=>(by cases e),h⟩
 refine ⟨⟨K,rfl,rfl,rfl,zH _,fun b' hb'=>?_,fun b' hb' h1 h2=>?_,fun i h1 h2=>absurd h2 (by rw [hob.2.1];omega)⟩,⟨?_,fun i cc h hne'=>?_,fun i hi'=>?_,fun n ent h=>?_,fun b' t h=>?_,fun b' h=>by rw [hob.2.2.2];exact hm.z b' h,hm.gl.keep K⟩,⟨K,fun n hX h=>?_,fun n ver hX h=>?_,fun n hX h=>?_,fun _ _ _ _ _ _ _ _ _ h=>.inl h,?_⟩,hrow⟩
 ·by_cases h:g.ow b'=some (.rowM (g.rb r) off)
  ·right;rw [h];simp
  exact .inl (hS b' h)
 ·by_cases h:g.ow b'=some (.rowM (g.rb r) off)
  ·rw [h];simp
  rw [how b' h] at h1 h2;exact ⟨h1,h2⟩
 ·rw [hob.2.1];exact hstl.trans hm.stl
 ·rw [hob.1];have h0:(s.setRoot r c').st[i]? = some cc:=h;by_cases er:r = .obj i
  ·subst er;have hi':i<s.st.length:=by rw [hm.stl];exact hi
   simp only [S.setRoot] at h0;rw [zP hi'] at h0;cases h0;exact hnew
  have h':s.st[i]? = some cc:=by
   cases r with
   | obj j=>
    simp only [S.setRoot] at h0;rwa [zO (fun e'=>er (by rw [e']))] at h0
   | site n=>exact h0
   | glob k=>exact h0
  have h2:=hm.obj i cc h' hne';exact h2.keep K (hS' _ _ h2.1 aG) (fun b' o hb'=>hS' _ _ hb' (by simp;exact fun e1=>absurd e1 (hne i er h2.1)))
 ·rw [hob.2.1] at hi';rw [hob.1];rcases hm.objB i hi' with h | h
  ·exact .inl ((how _ (by rw [h];simp)).trans h)
  exact .inr ((how _ (by rw [h];simp)).trans h)
 ·rcases hsi n ent h with ⟨rfl,rfl⟩ | ⟨hnd,h1⟩
  ·simp only [Zgf];rw [show g'.hd n=v by subst hg';exact Zbq _ _ _];exact hrow
  rcases hsi2 n ent h1 with ⟨rfl,rfl⟩ | ⟨hns,h2⟩
  ·simp only [Zgf];rw [hob.2.2.1];exact hnew
  have h3:=hm.site n ent h2;cases ent with
  | cells cc=>
   simp only [Zgf] at h3 |-;rw [hob.2.2.1];refine h3.keep K (hS' _ _ h3.1 aG) (fun b' o hb'=>hS' _ _ hb' ?_);simp only [ne_eq,Ow.rowM.injEq,not_and];intro e1;have h4:=h3.1;rw [e1,ht] at h4;cases r<;>simp [Zfy] at h4;exact absurd (by rw [h4]) hns
  | row ver ee sz' xs'=>
   simp only [Zgf] at h3 |-;rw [hhd n hnd];exact h3.keep K (fun b' hb'=>hS' _ _ hb' aG)
  | mp es=>
   simp only [Zgf] at h3 |-;rw [hhd n hnd];exact h3.keep K (fun b' hb'=>hS' _ _ hb' aG)
 ·by_cases h':g.ow b'=some (.rowM (g.rb r) off)
  ·exact hm.own _ _ h'
  rw [how b' h'] at h;exact hm.own _ _ h
 ·obtain ⟨cc,h⟩:=h;rcases hsi n _ h with ⟨rfl,h1⟩ | ⟨hnd,h1⟩
  ·cases h1
  rcases hsi2 n _ h1 with ⟨rfl,h2⟩ | ⟨_,h2⟩
  ·exact ⟨hok,by rw [hob.2.2.1]⟩
  exact ⟨⟨cc,h2⟩,by rw [hob.2.2.1]⟩
 ·obtain ⟨e1,sz1,xs1,h⟩:=h;rcases hsi n _ h with ⟨rfl,h1⟩ | ⟨hnd,h1⟩
  ·exact absurd aG hX
  rcases hsi2 n _ h1 with ⟨_,h2⟩ | ⟨_,h2⟩
  ·cases h2
  exact .inl ⟨⟨_,_,_,h2⟩,hhd n hnd⟩
 ·obtain ⟨es,h⟩:=h;rcases hsi n _ h with ⟨rfl,h1⟩ | ⟨hnd,h1⟩
  ·cases h1
  rcases hsi2 n _ h1 with ⟨_,h2⟩ | ⟨_,h2⟩
  ·cases h2
  exact ⟨⟨_,h2⟩,hhd n hnd⟩
 show s.ep<=(s.setRoot r c').ep;cases r<;>exact zH _
def ZlQ.keep {P:Program} {g':G} {sz:Nat} {tx:TypeId} {x:Value} {ys:List (List L)} (K:ZcK g g' w w) (h:ZlQ P g w sz tx x ys):ZlQ P g' w sz tx x ys:=by
 obtain ⟨news,h1,h2⟩:=h;exact ⟨news,h1,fun K' h=>h2 (K.trans K') h⟩
def Zpb {P:Program} {s s':S} {o:Oper} {d:D} {X:List Nat} {ps:List Prop} (h:Zvj P s o d=some (X,s',ps)):(∃tv,s'.sl=(s.put o.dst tv).sl)/\X.all (fun n=>!TV.mens n s.sl)=true:=by
 unfold Zvj at h;split at h<;>try (cases h;done)
 rename_i dd x y t tx hd ho;split at h<;>try (cases h;done)
 split at h<;>try (cases h;done)
 rename_i i hi;split at h<;>try (cases h;done)
 split at h<;>try (cases h;done)
 split at h<;>simp only [zA,zE,reduceCtorEq] at h;rename_i s1 n ver' e xs X' ps1 ys qs hb _;obtain ⟨rfl,rfl,_⟩:=h;have key:s1.sl=s.sl/\X'.all (fun n=>!TV.mens n s.sl)=true:=by
  unfold appBase' at hb;split at hb
  ·split at hb<;>simp only [zA,zE,reduceCtorEq] at hb;rename_i hm;obtain ⟨rfl,_,_,_,_,rfl,_⟩:=hb;exact ⟨rfl,by simpa using hm⟩
  obtain ⟨tv,h1,h2⟩:=yD.1 hb;unfold ZmV at h2;split at h2
  ·split at h2<;>try (cases h2;done)
   split at h2<;>simp only [zA,zE,reduceCtorEq] at h2;obtain ⟨rfl,_,_,_,_,rfl,_⟩:=h2;exact ⟨rfl,rfl⟩
  ·split at h2<;>try (cases h2;done)
   rename_i hh;split at h2<;>try (cases h2;done)
   split at h2<;>try (cases h2;done)
   split at h2<;>simp only [zA,zE,reduceCtorEq] at h2;obtain ⟨rfl,_,_,_,_,rfl,_⟩:=h2;exact ⟨(ZdO _ _ _).1,by simp [hh.2.1]⟩
  ·split at h2<;>simp only [zA,zE,reduceCtorEq] at h2;rename_i hh;obtain ⟨rfl,_,_,_,_,rfl,_⟩:=h2;exact ⟨rfl,by simp [hh.2]⟩
  cases h2
 exact ⟨⟨.one (.h (.row n ver') i.size 0 (xs++ys).length),by rw [hd];simp only [S.put,key.1]⟩,key.2⟩
def ZdB.append {P:Program} {s s':S} {o:Oper} {d:D} {X:List Nat} {ps:List Prop} (h:Zvj P s o d=some (X,s',ps)) (hp:Zce ps):ZdB P o X s s':=by
 have hX:=(Zpb h).2;unfold Zvj at h;split at h<;>try (cases h;done)
 rename_i dd x y t tx hd ho;split at h<;>try (cases h;done)
 rename_i E0 hu;split at h<;>try (cases h;done)
 rename_i i hi;split at h<;>try (cases h;done)
 rename_i z hz;split at h<;>try (cases h;done)
 rename_i hzs;split at h<;>simp only [zA,zE,reduceCtorEq] at h;rename_i s1 n ver' e xs X' ps1 ys qs hb hy;obtain ⟨rfl,rfl,rfl⟩:=h;rw [Zce.append,Zce.append] at hp;obtain ⟨⟨hp1,hp2⟩,hp3⟩:=hp;simp only [Zce] at hp3;obtain ⟨by',hy1,hy2⟩:=yD.1 hy;intro g w a hs K Q hK;have hsrc0:=Zqv (P:=P) hs.mem hy2 hp2 (ZbN hs hy1);obtain ⟨g1,hM1,hm1,k1,hrow,hn,hsl,hsil⟩ : ∃g1,Mod g g1 w w/\ZdK g1 s1 w/\ZbA (· ∈ X') s s1 g g1 w w/\ZgO g1 w (.rowS n) (a.eval x) e i.size xs/\(n∈X'\/∃ver e1 sz xs1,s1.si[n]? = some (some (.row ver e1 sz xs1))/\ver<ver')/\s1.sl=s.sl/\s1.si.length=s.si.length:=by
  unfold appBase' at hb;split at hb
  ·rename_i hnil;split at hb<;>simp only [zA,zE,reduceCtorEq] at hb;obtain ⟨rfl,rfl,rfl,rfl,rfl,rfl,rfl⟩:=hb;have hv:a.eval x = .slice none 0 0:=by
    unfold Zrk at hnil;split at hnil
    ·rfl
    cases hnil
   exact ⟨g,.refl g w,hs.mem,.refl rfl rfl,.inl ⟨hv,rfl⟩,.inl aG,rfl,rfl⟩
  obtain ⟨bx,hx1,hx2⟩:=yD.1 hb;have hbx:=ZbN hs hx1;unfold ZmV at hx2;split at hx2
  ·rename_i n' ver sz' lo len;split at hx2<;>try (cases hx2;done)
   rename_i e0 sz0 xs0 qs0 hre;split at hx2<;>simp only [zA,zE,reduceCtorEq] at hx2;rename_i hh;obtain ⟨rfl,rfl,he⟩:=hh;obtain ⟨rfl,rfl,rfl,rfl,rfl,rfl,rfl⟩:=hx2;rw [Zce.append] at hp1;obtain ⟨hv0,t0,q1,q2,q3⟩:=Zfs hs.mem hre hp1.2;obtain ⟨rfl,rfl⟩:=q3 _ _ rfl;obtain ⟨w1,w2,w3⟩:=ZhJ hp1.1;have hr:=q2.win (hbx.2.2.2 _ q1) w2 (he.imp id w3);rw [w1];refine ⟨g,.refl g w,hs.mem,.refl rfl rfl,hr,.inr ?_,rfl,rfl⟩;simp only [Ziw] at hre;split at hre<;>try (cases hre;done)
   rename_i h1;split at hre<;>try (cases hre;done)
   rename_i hv1;exact ⟨_,_,_,_,h1,aF⟩
  ·rename_i r off ep sz' lo len;split at hx2<;>try (cases hx2;done)
   rename_i hh0;obtain ⟨rfl,hmen,hrd⟩:=hh0;split at hx2<;>try (cases hx2;done)
   rename_i c qs0 hc;split at hx2<;>try (cases hx2;done)
   rename_i e0 sz0 xs0 c' hgo;split at hx2<;>simp only [zA,zE,reduceCtorEq] at hx2;rename_i hh;obtain ⟨rfl,rfl,he⟩:=hh;obtain ⟨rfl,rfl,rfl,rfl,rfl,rfl,rfl⟩:=hx2;rw [Zce.append] at hp1;obtain ⟨w1,w2,w3⟩:=ZhJ hp1.1;obtain ⟨v,q1,q2,q3,q4,q5⟩:=Zpp hs.mem hc hp1.2 hgo hrd;have hr:=q5.win (hbx.2.2.2 _ q1) w2 (he.imp id w3);rw [w1];refine ⟨_,q2,q3,q4,hr,.inl aG,(ZdO _ _ _).1,?_⟩;simp only [S.setEnt,List.length_set];exact (ZdO _ _ _).2
  ·split at hx2<;>simp only [zA,zE,reduceCtorEq] at hx2;obtain ⟨rfl,rfl,rfl,rfl,rfl,rfl,rfl⟩:=hx2;refine ⟨g,.refl g w,hs.mem,.refl rfl rfl,?_,.inl aG,rfl,rfl⟩;have hl:=hbx.2;simp only [TR] at hl;generalize a.eval x=v at hl;cases hl with
   | ownnil=>exact .inl ⟨rfl,rfl⟩
   | ownz _ _ _ b o=>exact .inr (.inl ⟨b,o,rfl,rfl⟩)
  cases hx2
 have hsrc:=hsrc0.keep hM1.keep;obtain ⟨hv',w',g',hrun,hN⟩:=app_run (ty:=o.type) hm1.own hm1.z hrow hsrc hu hi rfl hz hzs.1 hzs.2 hp3;have hexec:(execOp a.eval o).run P w = .ok (.value hv') w':=by
  simp only [execOp,ho,resolve,invoke,builtin,Sem.run_bind,Sem.run_pure,Result.andThen_ok,List.map_toArray,xF,List.map_nil,hrun]
 unfold Oper.wp;rw [hexec];obtain ⟨hM,hm',k⟩:=Zid (s':={ s1 with si:=s1.si.set n (some (.row ver' e i.size (xs++ys)))}.put (some dd) (.one (.h (.row n ver') i.size 0 (xs++ys).length))) hm1 (X:=X') (n:=n) (ver':=ver')
  (hn.imp id fun ⟨v0,e1,sz1,xs1,h1,h2⟩=>⟨v0,e1,sz1,xs1,h1,.inl h2⟩) hN.hob hN.hhd hN.K hN.ho hN.hsize hN.hsame hN.hown hN.hz (by rw [hN.hdn];exact hN.hrow) rfl rfl rfl
 have kk:=k1.trans k;refine hK g' w' hv' (hM1.trans hM) kk (hs.next kk (fun m hm=>by have:=xM.1 hX m hm;simpa using this) hm' (by simp [S.put,hsil]) (dst:=o.dst) (tv:=.one (.h (.row n ver') i.size 0 (xs++ys).length)) (by rw [hd];simp only [S.put,hsl]) (fun _=>?_));have hin:Znn g' (({ s1 with si:=s1.si.set n (some (.row ver' e i.size (xs++ys)))}:S).put (some dd) (.one (.h (.row n ver') i.size 0 (xs++ys).length))) (.row n ver'):=by
  intro v1 e1 sz1 xs1 h;have hlt:n<s1.si.length:=by
   rcases zX n s1.si.length with h' | h'
   ·exact h'
   have h2:(s1.si.set n (some (Ent.row ver' e i.size (xs++ys))))[n]? = some (some (.row v1 e1 sz1 xs1)):=h;rw [zM (aR h')] at h2;cases h2
  have h2:(s1.si.set n (some (Ent.row ver' e i.size (xs++ys))))[n]? = some (some (.row v1 e1 sz1 xs1)):=h;rw [zP hlt] at h2;simp only [zA,Ent.row.injEq] at h2;omega
 rcases hN.hrow with ⟨h1,h2⟩ | ⟨b1,o1,h1,h2⟩ | ⟨b1,o1,cap,aa,E,h1,k2,_⟩
 ·rw [h1];refine ⟨rfl,⟨none,0,by rw [h2];rfl,.inl (by rw [h2];rfl)⟩,hin,?_⟩;rintro hv0 ⟨_,rfl⟩;left;exact ⟨hN.hdn.trans h1,rfl,by rw [h2];rfl,rfl⟩
 ·rw [h1];refine ⟨rfl,⟨_,0,by rw [h2];rfl,.inl (by rw [h2];rfl)⟩,hin,?_⟩;rintro hv0 ⟨_,rfl⟩;right;exact ⟨b1,o1,0,0,o1,hN.hdn.trans h1,⟨by rw [h2];simp,zH _⟩,by rw [h2];simp,fun h=>aF,fun _=>rfl⟩
 rw [h1];refine ⟨rfl,⟨_,_,rfl,.inr rfl⟩,hin,?_⟩;rintro hv0 ⟨_,rfl⟩;right;exact ⟨b1,o1,(xs++ys).length,cap,o1,hN.hdn.trans h1,⟨aF,k2⟩,by simp,fun _=>by simp,fun _=>rfl⟩
end
end Go.Dn
namespace Go.Dn
variable [Globs]
def ZtV (P:Program) (s:S) (o:Oper):Option (List Nat×S×List Prop):=
 match o.dst,o.op with
 | some dd,.assign x=>if Zrk x then
   match P.underlying o.type with
   | some (.slice e)=>match P.info? e with
    | some i=>if TV.mens dd s.sl then none else
      some ([dd],{ s with si:=s.si.set dd (some (.row 0 true i.size []))}.put (some dd) (.one (.h (.row dd 0) i.size 0 0)),[])
    | none=>none
   | _=>none
  else none
 | _,_=>none
def Zox {P:Program} {s s':S} {o:Oper} {X:List Nat} {ps:List Prop} (h:ZtV P s o=some (X,s',ps)):(∃tv,s'.sl=(s.put o.dst tv).sl)/\X.all (fun n=>!TV.mens n s.sl)=true:=by
 unfold ZtV at h;split at h<;>try cases h
 rename_i dd x hd ho;split at h<;>try cases h
 split at h<;>try cases h
 split at h<;>try cases h
 rename_i i hi;split at h<;>simp only [zA,zE,reduceCtorEq] at h;rename_i hm;obtain ⟨rfl,rfl,rfl⟩:=h;exact ⟨⟨.one (.h (.row dd 0) i.size 0 0),by rw [hd];rfl⟩,by simpa using hm⟩
def ZdB.nil {P:Program} {s s':S} {o:Oper} {X:List Nat} {ps:List Prop} (h:ZtV P s o=some (X,s',ps)):ZdB P o X s s':=by
 have hX:=(Zox h).2;unfold ZtV at h;split at h<;>try cases h
 rename_i dd x hd ho;split at h<;>try cases h
 rename_i hnil;split at h<;>try cases h
 split at h<;>try cases h
 rename_i i hi;split at h<;>simp only [zA,zE,reduceCtorEq] at h;obtain ⟨rfl,rfl,rfl⟩:=h;intro g w a hs K Q hK;have hv:a.eval x = .slice none 0 0:=by
  unfold Zrk at hnil;split at hnil
  ·rfl
  cases hnil
 have hexec:(execOp a.eval o).run P w = .ok (.value (.slice none 0 0)) w:=by simp [execOp,ho,hv]
 unfold Oper.wp;rw [hexec];have hrow:ZgO ({ g with hd:=ZgJ g.hd dd (.slice none 0 0)}:G) w (.rowS dd) (.slice none 0 0) true i.size []:=.inl ⟨rfl,rfl⟩;have hhd:({ g with hd:=ZgJ g.hd dd (.slice none 0 0)}:G).hd dd = .slice none 0 0:=Zbq _ _ _;obtain ⟨hM,hm',k⟩:=Zid (g':={ g with hd:=ZgJ g.hd dd (.slice none 0 0)}) (s':={ s with si:=s.si.set dd (some (.row 0 true i.size []))}.put (some dd) (.one (.h (.row dd 0) i.size 0 0))) hs.mem (X:=[dd]) (n:=dd) (ver':=0)
  (.inl aG) ⟨rfl,rfl,rfl⟩ (fun m hm=>ZcZ _ _ hm) ⟨fun _ _=>rfl,zH _,fun _=>zH _,fun _ _ _=>rfl,fun _ _=>rfl⟩ ⟨rfl,rfl,rfl⟩ (zH _) (fun _ _ _=>⟨rfl,rfl,rfl⟩) hs.mem.own hs.mem.z (by rw [hhd];exact hrow) rfl rfl rfl
 refine hK _ w _ hM k (hs.next k (fun m hm=>by have:=xM.1 hX m hm;simpa using this) hm' (by simp [S.put]) (dst:=o.dst) (tv:=.one (.h (.row dd 0) i.size 0 0)) (by rw [hd];rfl) (fun _=>?_));exact Zog hrow hhd
def bsOp_sl {P:Program} {s s':S} {o:Oper} (h:bsOp P s o=some s'):(∃tv,s'.sl=(s.put o.dst tv).sl)/\o.dst.toList.all (fun n=>!TV.mens n s.sl)=true:=by
 unfold bsOp at h;split at h<;>try cases h
 rename_i d t n parts hd ho;split at h<;>try cases h
 rename_i hmen;split at h<;>try cases h
 split at h<;>try cases h
 rename_i ie hie;split at h<;>try cases h
 split at h<;>try cases h
 rename_i xs hxs;split at h
 ·simp only [zA] at h;subst h;exact ⟨⟨.one (.h (.row d 0) ie.size 0 n),by rw [hd];rfl⟩,by simpa [hd] using hmen⟩
 split at h<;>simp only [zA,reduceCtorEq] at h;subst h;exact ⟨⟨.one (.h (.row d 0) ie.size 0 0),by rw [hd];rfl⟩,by simpa [hd] using hmen⟩
def zTs:List L->List Value->Option (List T)
 | [],[]=>some []
 | .arr k n xs::ls,vs=>if xs.length=n then match ZhL k xs vs with
  | some rest=>(zTs ls rest).map (.l (.arr k n xs) :: ·)
  | none=>none
  else none
 | .brr n xs::ls,vs=>if xs.length=n then match Zhg xs vs with
  | some rest=>(zTs ls rest).map (.l (.brr n xs) :: ·)
  | none=>none
  else none
 | .own e sz []::ls,.slice none 0 0::vs=>(zTs ls vs).map (.l (.own e sz []) :: ·)
 | .sl sz []::ls,.slice none 0 0::vs=>(zTs ls vs).map (.l (.sl sz []) :: ·)
 | .int k n::ls,.int k' m::vs=>if k'=k/\m=n then (zTs ls vs).map (.l (.int k n) :: ·) else none
 | .bool b::ls,.bool c::vs=>if c=b then (zTs ls vs).map (.l (.bool b) :: ·) else none
 | .str x::ls,.string y::vs=>if y=x then (zTs ls vs).map (.l (.str x) :: ·) else none
 | .ptr none::ls,.pointer none::vs=>(zTs ls vs).map (.l (.ptr none) :: ·)
 | .gone::ls,v::vs=>if v.oneCell' then (zTs ls vs).map (.l .gone :: ·) else none
 | _,_=>none
def ZuD (s:S) (Zfk:Nat->Option (Nat×Nat)):List T->List (Nat×Operand)->Option (List T)
 | ts,[]=>some ts
 | ts,(i,x)::r=>match Zfk i,(ev s x).bind tvT with
  | some (off,size),some us=>match ZqI ts off,ZqJ ts (off+size) with
   | some a,some b=>if (us.map T.size).sum=size then ZuD s Zfk (a++us++b) r else none
   | _,_=>none
  | _,_=>none
def ZtN (P:Program) (t:TypeId):Option (Nat->Option (Nat×Nat)):=
 match P.underlying t with
 | some (.array _ e)=>(P.info? e).map fun ie=>fun i=>some (i*ie.size,ie.size)
 | some (.struct fs)=>(fs.toList.mapM (fun f=>(P.info? f.type).map fun i=>(f.offset,i.size))).map fun ps=>fun i=>ps.toArray[i]?
 | _=>none
def Zro (P:Program) (s:S) (d:D) (o:Oper):Option (TV×List Prop):=
 match o.op with
 | .build t ⟨parts⟩=>match P.info? t,ZqD P 40 t,ZtN P t with
  | some it,some ls,some Zfk=>match it.zero with
   | some z=>match zTs (slz (fun i=>if d.ns.contains i then 0 else if d.mv.contains i then 2 else 1) 0 ls) z.cells.toList with
    | some ts=>(ZuD s Zfk ts parts).map fun r=>(.agg r,[])
    | none=>none
   | none=>none
  | _,_,_=>none
 | _=>none
section
variable {P:Program} {g:G} {s:S} {w:World}
def TsR.leaf {l:L} {v:Value} (h1:l.single=true) (hc:v.oneCell'=true) (h:LR g w none v l):TsR g s w [v] [.l l]:=by
 rw [Zpc (fun l' e=>by cases e;exact h1)];exact ⟨v,rfl,hc,h⟩
def Zpi : ∀{ls:List L} {vs:List Value} {ts:List T},zTs ls vs=some ts->TsR g s w vs ts:=by
 intro ls
 induction ls with
 | nil=>
  intro vs ts h;cases vs with
  | nil=>simp only [zTs,zA] at h;subst h;rw [TsR]
  | cons v vs=>simp [zTs] at h
 | cons l ls ih=>
  intro vs ts h;unfold zTs at h;split at h
  ·rename_i heq;cases heq
  ·rename_i k n xs ls' vs' heq;cases heq;split at h<;>try cases h
   rename_i hn;split at h<;>try cases h
   rename_i rest hr;obtain ⟨ts',h1,rfl⟩:=zI.1 h;rw [Zhq hr,TsR];exact ⟨hn,rest,rfl,ih h1⟩
  ·rename_i n xs ls' vs' heq;cases heq;split at h<;>try cases h
   rename_i hn;split at h<;>try cases h
   rename_i rest hr;obtain ⟨ts',h1,rfl⟩:=zI.1 h;rw [ZgP hr,TsR];exact ⟨hn,rest,rfl,ih h1⟩
  ·rename_i e sz ls' vs' heq;cases heq;obtain ⟨ts',h1,rfl⟩:=zI.1 h;exact (TsR.leaf rfl rfl (.ownnil _ _ _)).join (ih h1)
  ·rename_i sz ls' vs' heq;cases heq;obtain ⟨ts',h1,rfl⟩:=zI.1 h;exact (TsR.leaf rfl rfl (.slnil _ _)).join (ih h1)
  ·rename_i k n ls' k' m vs' heq;cases heq;split at h<;>try cases h
   rename_i hh;obtain ⟨rfl,rfl⟩:=hh;obtain ⟨ts',h1,rfl⟩:=zI.1 h;exact (TsR.leaf rfl rfl (.int _ _ _)).join (ih h1)
  ·rename_i b ls' c vs' heq;cases heq;split at h<;>try cases h
   rename_i hh;subst hh;obtain ⟨ts',h1,rfl⟩:=zI.1 h;exact (TsR.leaf rfl rfl (.bool _ _)).join (ih h1)
  ·rename_i x ls' y vs' heq;cases heq;split at h<;>try cases h
   rename_i hh;subst hh;obtain ⟨ts',h1,rfl⟩:=zI.1 h;exact (TsR.leaf rfl rfl (.str _ _)).join (ih h1)
  ·rename_i ls' vs' heq;cases heq;obtain ⟨ts',h1,rfl⟩:=zI.1 h;exact (TsR.leaf rfl rfl (.nilp _)).join (ih h1)
  ·rename_i ls' v vs' heq;cases heq;split at h<;>try cases h
   rename_i hone;obtain ⟨ts',h1,rfl⟩:=zI.1 h;exact (TsR.leaf rfl hone (.gone _ _)).join (ih h1)
  cases h
def ZuC (cells:Array Value) (off:Nat) (us:Array Value) (h:off+us.size<=cells.size) :
  (us.zipIdx.foldl (fun cs (c,j)=>cs.setIfInBounds (off+j) c) cells).toList=cells.toList.take off++us.toList++cells.toList.drop (off+us.size):=by
 have e:us.zipIdx.foldl (fun cs (x:Value×Nat)=>cs.setIfInBounds (off+x.2) x.1) cells=(us.toList.zipIdx 0).foldl (fun cs (x:Value×Nat)=>cs.setIfInBounds (off+x.2) x.1) cells:=by
  rw [<-Array.foldl_toList];simp
 show (us.zipIdx.foldl (fun cs (x:Value×Nat)=>cs.setIfInBounds (off+x.2) x.1) cells).toList=_;rw [e];obtain ⟨h1,h2⟩:=Great.foldl_set off us.toList 0 cells;apply vD;intro k;rw [tF,h2 k];simp only [vC,tN];by_cases hk:off<=k/\k<off+us.size/\k<cells.size
 ·rw [aD hk,yH,yA aH];have e1:(cells.toList.take off).length=off:=by simp;omega
  rw [e1,zS aH]
 rw [aE hk,<-tF];by_cases h3:k<off
 ·rw [yH,zS aH,yT,aD h3]
 rw [yA aH];simp only [zU,wB,tN,xG]
 congr 1;omega
def ZmH {a:Act} (hs:Sat g s w a.tmps) {Zfk:Nat->Option (Nat×Nat)} : ∀{parts:List (Nat×Operand)} {ts r:List T} {cells:Array Value},ZuD s Zfk ts parts=some r->TsR g s w cells.toList ts ->
  ∃c',Instr.fill Zfk cells (parts.map fun p=>(p.1,a.eval p.2))=some c'/\TsR g s w c'.toList r
 | [],ts,r,cells,h,ht=>by simp only [ZuD,zA] at h;subst h;exact ⟨cells,rfl,ht⟩
 | (i,x)::rest,ts,r,cells,h,ht=>by
  simp only [ZuD] at h;split at h<;>try cases h
  rename_i off size us hpl hus;split at h<;>try cases h
  rename_i ta tb hta htb;split at h<;>try cases h
  rename_i hsz;obtain ⟨tv,h1,h2⟩:=yD.1 hus;have hu:=ZjP h2 (ZbN hs h1);have hul:(a.eval x).cells.size=size:=by
   have:=hu.len;simp at this;omega
  obtain ⟨k1,k2⟩:=ht.take hta;obtain ⟨k3,k4⟩:=ht.drop htb;have hfit:off+(a.eval x).cells.size<=cells.size:=by simp at k3;omega
  have hnew:TsR g s w ((a.eval x).cells.zipIdx.foldl (fun cs (c,j)=>cs.setIfInBounds (off+j) c) cells).toList (ta++us++tb):=by
   rw [ZuC cells off _ hfit,hul];exact (k2.append hu).append k4
  obtain ⟨c',h3,h4⟩:=ZmH hs h hnew;refine ⟨c',?_,h4⟩;simp only [xF];unfold Instr.fill;simp only [hpl];rw [aE (by simp [hul];omega)];exact h3
def ZdB.build {P:Program} {s:S} {o:Oper} {d:D} {tv:TV} {ps:List Prop} (h:Zro P s d o=some (tv,ps)):ZdB P o [] s (s.put o.dst tv):=by
 refine .value fun g w a hs=>?_;unfold Zro at h;split at h<;>try cases h
 rename_i t parts ho;split at h<;>try cases h
 rename_i it ls Zfk hit _ hpl;split at h<;>try cases h
 rename_i z hz;split at h<;>try cases h
 rename_i ts hts;obtain ⟨r,h1,h2⟩:=zI.1 h;simp only [zE] at h2;obtain ⟨rfl,rfl⟩:=h2;obtain ⟨c',h3,h4⟩:=ZmH hs h1 (Zpi (g:=g) (s:=s) (w:=w) hts);refine ⟨.agg c',?_,⟨c',rfl,h4⟩⟩;have hb:P.built t ((⟨parts⟩:Array (Nat×Operand)).map fun (i,x)=>(i,a.eval x)).toList=some c':=by
  have e:((⟨parts⟩:Array (Nat×Operand)).map fun (i,x)=>(i,a.eval x)).toList=parts.map fun p=>(p.1,a.eval p.2):=by simp
  rw [e];unfold ZtN at hpl;unfold Program.built;split at hpl
  ·rename_i n e hu;obtain ⟨ie,h5,rfl⟩:=zI.1 hpl;simp only [hit,hu,hz,h5];exact h3
  ·rename_i fs hu;obtain ⟨ps,h5,rfl⟩:=zI.1 hpl;simp only [hit,hu,hz,h5];exact h3
  cases hpl
 simp only [execOp,ho,Sem.run_bind,run_build w t _ c' hb,Result.andThen_ok,Sem.run_pure]
end
end Go.Dn
namespace Go.Dn
variable [Globs]
def bnd (s:S) (dflt:Nat):Option Operand->Option (Nat×List Prop)
 | none=>some (dflt,[])
 | some x=>match ev s x with
  | some (.one (.l (.int _ n)))=>some (n.toNat,[0<=n])
  | _=>none
def slOp (P:Program) (s:S) (o:Oper) (d:D):Option (TV×List Prop):=
 match o.op with
 | .slice t x low high none=>match P.underlying t with
  | some (.slice e)=>match P.info? e,ev s x with
   | some i,some (.one (.h src sz lo len))=>match bnd s 0 low,bnd s len high,ZjM s d.oc src with
    | some (l,ps),some (h,qs),some (_,_,rs)=>if i.size=sz then some (.one (.h src sz (lo+l) (h-l)),ps++qs++([l<=h,h<=len]++rs)) else none
    | _,_,_=>none
   | some i,some (.one (.l (.sl sz ys)))=>match bnd s 0 low,bnd s ys.length high with
    | some (l,ps),some (h,qs)=>if i.size=sz then some (.one (.l (.sl sz ((ys.drop l).take (h-l)))),ps++qs ++ [l<=h,h<=ys.length]) else none
    | _,_=>none
   | _,_=>none
  | _=>none
 | _=>none
section
variable {P:Program} {g:G} {s:S} {w:World}
def Zio {a:Act} (hs:Sat g s w a.tmps) {dflt n:Nat} {x:Option Operand} {ps:List Prop} (h:bnd s dflt x=some (n,ps)) (hp:Zce ps) :
  (x=none/\n=dflt)\/∃y k m,x=some y/\a.eval y = .int k m/\0<=m/\n=m.toNat:=by
 cases x with
 | none=>simp only [bnd,zA,zE] at h;exact .inl ⟨rfl,h.1.symm⟩
 | some x=>
  simp only [bnd] at h;split at h<;>simp only [zA,zE,reduceCtorEq] at h;rename_i k m hx;obtain ⟨rfl,rfl⟩:=h;simp only [Zce] at hp;exact .inr ⟨x,k,m,rfl,(ZbN hs hx).2.int_eq,hp,rfl⟩
def ZsZ {a:Act} (hs:Sat g s w a.tmps) {len cap l h:Nat} {low high:Option Operand} {ps qs:List Prop} (hl:bnd s 0 low=some (l,ps)) (hh:bnd s len high=some (h,qs)) (hp:Zce ps) (hq:Zce qs)
  (h1:l<=h) (h2:h<=len) (h3:len<=cap):(Instr.sliceBounds true len cap (low.map a.eval) (high.map a.eval) none).run P w = .ok (l,h,cap) w:=by
 unfold Instr.sliceBounds;rcases Zio hs hl hp with ⟨rfl,rfl⟩ | ⟨y,k,m,rfl,e1,e2,rfl⟩<;>rcases Zio hs hh hq with ⟨rfl,rfl⟩ | ⟨y',k',m',rfl,e1',e2',rfl⟩
 ·simp
 ·simp only [yS,vI,e1',Sem.run_bind,Sem.run_pure,Result.andThen_ok];rw [run_sliceBound w k' m' cap _ e2' aF];rfl
 ·simp only [yS,vI,e1,Sem.run_bind,Sem.run_pure,Result.andThen_ok];rw [run_sliceBound w k m _ _ e2 aF];rfl
 simp only [yS,vI,e1,e1',Sem.run_bind,Sem.run_pure,Result.andThen_ok];rw [run_sliceBound w k' m' cap _ e2' aF];simp only [Result.andThen_ok];rw [run_sliceBound w k m _ _ e2 aF];rfl
def ZiE {a:Act} (hs:Sat g s w a.tmps) {t e:TypeId} {i:TypeInfo} (hu:P.underlying t=some (.slice e)) (hi:P.info? e=some i) {q:Option Addr} {len cap l h:Nat} {low high:Option Operand} {ps qs:List Prop}
  (hl:bnd s 0 low=some (l,ps)) (hh:bnd s len high=some (h,qs)) (hp:Zce ps) (hq:Zce qs) (h1:l<=h) (h2:h<=len) (h3:len<=cap) :
  (Instr.sliceAt t (.slice q len cap) (low.map a.eval) (high.map a.eval) none).run P w = .ok (.slice (if cap=l then q else q.map (·.add (l*i.size))) (h-l) (cap-l)) w:=by
 unfold Instr.sliceAt;rw [Sem.run_bind,run_underlying hu];simp only [Result.andThen_ok];unfold Instr.slice;rw [Sem.run_bind,run_underlying hu];simp only [Result.andThen_ok,Sem.run_bind,ZsZ hs hl hh hp hq h1 h2 h3,Zeb hi,Sem.run_pure]
def Hd.inj {src:Src} {v v':Value} (h:Hd g s w src v) (h':Hd g s w src v'):v=v':=by
 cases src with
 | row n ver=>exact h.2.trans h'.2.symm
 | mem r off ep=>have:=h.2.2.symm.trans h'.2.2;exact xB this
def ZdB.slice {P:Program} {s:S} {o:Oper} {d:D} {tv:TV} {ps:List Prop} (h:slOp P s o d=some (tv,ps)) (hp:Zce ps):ZdB P o [] s (s.put o.dst tv):=by
 refine .value fun g w a hs=>?_;unfold slOp at h;split at h<;>try cases h
 rename_i t x low high ho;split at h<;>try cases h
 rename_i e hu;have ex : ∀{u:Value},(Instr.sliceAt t (a.eval x) (low.map a.eval) (high.map a.eval) none).run P w = .ok u w->(execOp a.eval o).run P w = .ok (.value u) w:=by
  intro u h;simp only [execOp,ho,vI,Sem.run_bind,h,Result.andThen_ok,Sem.run_pure]
 split at h<;>try cases h
 ·rename_i i src sz lo len hi hx;split at h<;>try cases h
  rename_i l ps1 hh qs1 _ _ rs1 hl hhi hrc;split at h<;>simp only [zA,zE,reduceCtorEq] at h;rename_i hsz;subst hsz;obtain ⟨rfl,rfl⟩:=h;rw [Zce.append,Zce.append,Zce.append] at hp;obtain ⟨⟨hp1,hp2⟩,hp3,hp4⟩:=hp;simp only [Zce] at hp3;obtain ⟨h1,h2⟩:=hp3;obtain ⟨hone,_,hin,hwin⟩:=ZbN hs hx;obtain ⟨hv,_,_,hH,_⟩:=ZkJ hs.mem hrc hp4;rcases hwin hv hH with ⟨rfl,rfl,rfl,hv'⟩ | ⟨b,o0,n,c,o',rfl,⟨k1,k2⟩,hv',k3,k4⟩
  ·have hrun:=ZiE (P:=P) (w:=w) hs hu hi (q:=none) (cap:=0) hl hhi hp1 hp2 h1 h2 (zH _);have e1:hh=0:=by omega
   have e2:l=0:=aF
   subst e1;subst e2;rw [<-hv'] at hrun;refine ⟨_,ex hrun,rfl,⟨_,_,rfl,.inl rfl⟩,hin,fun hv2 hH2=>?_⟩;rw [Hd.inj hH2 hH];left;exact ⟨rfl,rfl,rfl,rfl⟩
  have hrun:=ZiE (P:=P) (w:=w) hs hu hi (q:=some (ad b o')) (cap:=c-lo) hl hhi hp1 hp2 h1 h2 aF;rw [<-hv'] at hrun;refine ⟨_,ex hrun,rfl,⟨_,_,rfl,.inr (by split<;>rfl)⟩,hin,fun hv2 hH2=>?_⟩;rw [Hd.inj hH2 hH];right;have eadd:(some (ad b o')).map (·.add (l*i.size))=some (ad b (o'+l*i.size)):=by
   simp only [yS,zA];unfold Addr.add;split<;>simp_all
  by_cases hc:c-lo=l
  ·rw [aD hc];exact ⟨b,o0,n,c,o',rfl,⟨aF,k2⟩,by rw [Nat.sub_sub],fun h=>aF,fun h=>k4 aF⟩
  rw [aE hc,eadd];refine ⟨b,o0,n,c,o'+l*i.size,rfl,⟨aF,k2⟩,by rw [Nat.sub_sub],fun h=>?_,fun h=>?_⟩
  ·rw [k3 aF,wG];omega
  have e1:lo=0:=aF
  have e2:l=0:=aF
  rw [e2];simp [k4 e1]
 rename_i i sz ys hi hx;split at h<;>try cases h
 rename_i l ps1 hh qs1 hl hhi;split at h<;>simp only [zA,zE,reduceCtorEq] at h;rename_i hsz;subst hsz;obtain ⟨rfl,rfl⟩:=h;rw [Zce.append,Zce.append] at hp;obtain ⟨⟨hp1,hp2⟩,hp3⟩:=hp;simp only [Zce] at hp3;obtain ⟨h1,h2⟩:=hp3;obtain ⟨_,hL⟩:=ZbN hs hx;generalize hax:a.eval x=ax at hL;cases hL with
 | slz _ _ a0=>
  have hrun:=ZiE (P:=P) (w:=w) hs hu hi (q:=some a0) (cap:=0) hl hhi hp1 hp2 h1 h2 (zH _);have e1:hh=0:=by simpa using h2
  have e2:l=0:=aF
  subst e1;subst e2;rw [hax] at ex;exact ⟨_,ex hrun,rfl,.slz _ _ _⟩
 | slnil=>
  have hrun:=ZiE (P:=P) (w:=w) hs hu hi (q:=none) (cap:=0) hl hhi hp1 hp2 h1 h2 (zH _);have e1:hh=0:=by simpa using h2
  have e2:l=0:=aF
  subst e1;subst e2;rw [hax] at ex;exact ⟨_,ex hrun,rfl,.slnil _ _⟩
 | sl _ b off len cap _ _ hlen hc hZ he=>
  subst hlen;have hrun:=ZiE (P:=P) (w:=w) hs hu hi (q:=some (ad b off)) (cap:=cap) hl hhi hp1 hp2 h1 h2 hc;rw [hax] at ex;refine ⟨_,ex hrun,rfl,?_⟩;have eadd:(some (ad b off)).map (·.add (l*i.size))=some (ad b (off+l*i.size)):=by
   simp only [yS,zA];unfold Addr.add;split<;>simp_all
  have hlen2:((ys.drop l).take (hh-l)).length=hh-l:=by simp;omega
  have hmul:l*i.size+(hh-l)*i.size<=ys.length*i.size:=by
   rw [<-wG];exact wX _ aF
  by_cases hcl:cap=l
  ·rw [aD hcl];have e1:hh-l=0:=by omega
   refine .sl _ b off _ _ _ _ hlen2 aF (by rw [e1];omega) ?_;rw [e1,uD];exact .nil _ _ _
  rw [aE hcl,eadd];exact .sl _ b _ _ _ _ _ hlen2 aF aF (ER.takeN _ (ER.dropN l he aF))
end
end Go.Dn
namespace Go.Dn
variable [Globs]
def eqFs (P:Program) (eq:TypeId->List L->List L->Option Bool) (a b:List L):List Field->Option Bool
 | []=>some true
 | fd :: fs => if fd.name = "_" then none else match P.info? fd.type with
  | some i=>match (Zgn a fd.offset).bind (fun d=>Zho d i.size),(Zgn b fd.offset).bind (fun d=>Zho d i.size) with
   | some a',some b'=>match eq fd.type a' b',eqFs P eq a b fs with
    | some r,some r'=>some (r&&r')
    | _,_=>none
   | _,_=>none
  | none=>none
def eqL (P:Program):Nat->TypeId->List L->List L->Option Bool
 | 0,_,_,_=>none
 | f+1,t,a,b=>match P.underlying t with
  | some .bool=>match a,b with
   | [.bool x],[.bool y]=>some (x==y)
   | _,_=>none
  | some (.int _)=>match a,b with
   | [.int k x],[.int k' y]=>if k=k' then some (x==y) else none
   | _,_=>none
  | some .string=>match a,b with
   | [.str x],[.str y]=>some (x.toList==y.toList)
   | _,_=>none
  | some (.array n e)=>match P.underlying e,P.info? e,a,b with
   | some (.int _),some ie,[.arr k m xs],[.arr k' m' ys]=>if ie.size=1/\k=k'/\m=n/\m'=n/\0<f then some (xs==ys) else none
   | _,_,_,_=>none
  | some (.struct fs)=>if P.stoodInHeld t then none else eqFs P (eqL P f) a b fs.toList
  | _=>none
def Zsx (P:Program) (t:TypeId) (v:Value):Prop:=(Zfa P t=some true->∃vs,v = .agg vs)/\(Zfa P t=some false->v.oneCell'=true)
section
variable {P:Program} {g:G} {s:S} {w:World}
def Zke {v:Value} (h:v.oneCell'=true):v.cells.toList = [v]:=by cases v<;>first | rfl | simp [Value.oneCell'] at h
def CR.single {vs:List Value} {l:L} (h:CR g w none vs [l]) (h1:l.single=true) : ∃v,vs = [v]/\LR g w none v l:=by
 cases h with
 | one _ v vs _ _ hv hc hr=>cases hr;exact ⟨v,rfl,hv⟩
 | arr=>simp [L.single] at h1
 | brr=>simp [L.single] at h1
def CR.arr1 {vs:List Value} {k:IntKind} {n:Nat} {xs:List Int} (h:CR g w none vs [.arr k n xs]):xs.length=n/\vs=xs.map (Value.int k):=by
 cases h with
 | one _ v vs _ _ hv=>exact hv.noArr.elim
 | arr _ _ _ _ _ _ hn hr=>cases hr;exact ⟨hn,by simp⟩
def Zis {d:Nat} {e:TypeId} {q:IntKind} {ie:TypeInfo} (he:P.underlying e=some (.int q)) (hi:P.info? e=some ie) (h1:ie.size=1) {A B:Array Value} {k:IntKind} {f h:Nat->Int} (w:World) :
  ∀(is:List Nat),(∀j∈is,A[j]? = some (.int k (f j))/\B[j]? = some (.int k (h j)))->(Op.eqItems (d+1) e (P.cellsOf e) A B is).run P w = .ok (is.all fun j=>f j==h j) w
 | [],_=>by simp [Op.eqItems]
 | j::is,hj=>by
  have hc:P.cellsOf e=1:=by simp [Program.cellsOf,hi,h1]
  obtain ⟨ha,hb⟩:=hj j (wP ..);have ih:=Zis (d:=d) he hi h1 (A:=A) (B:=B) (k:=k) (f:=f) (h:=h) w is (fun j hj'=>hj j (yN _ hj'));have hag:(isAgg e).run P w = .ok false w:=Zgk (b:=false) (by simp [Zfa,he]);have hp : ∀(C:Array Value) (v:Value),C[j]? = some v->(part e C (j*P.cellsOf e)).run P w = .ok v w:=fun C v hv=>by
   simp [part,hag,hc,hv]
  have heq:=run_equalIn_int (P:=P) w d e k q (f j) (h j) he;simp only [Op.eqItems,Sem.run_bind,hp A _ ha,hp B _ hb,Result.andThen_ok,heq,yQ];cases hx:(f j==h j)
  ·simp
  simp only [pM,yP,if_false,wT];exact ih
def ints_all {xs ys:List Int} {n:Nat} (hx:xs.length=n) (hy:ys.length=n):((uW n).all fun j=>xs.getD j 0==ys.getD j 0)=(xs==ys):=by
 rw [Bool.eq_iff_iff];simp only [xM,uN,beq_iff_eq];constructor
 ·intro h;apply List.ext_getElem aF;intro i h1 h2;have:=h i aF;simpa [zF,h1,h2] using this
 rintro rfl i _;rfl
def ZuG {f:Nat} {t:TypeId} {a b:List L} {r:Bool} (h:eqL P f t a b=some r) (hag:Zfa P t=some false):sizes a=1/\sizes b=1:=by
 cases f with
 | zero=>simp [eqL] at h
 | succ f=>
  unfold eqL at h;split at h<;>try (cases h;done)
  ·split at h<;>simp only [zA,reduceCtorEq] at h;exact ⟨rfl,rfl⟩
  ·split at h<;>try (cases h;done)
   exact ⟨rfl,rfl⟩
  ·split at h<;>simp only [zA,reduceCtorEq] at h;exact ⟨rfl,rfl⟩
  ·rename_i hu;simp [Zfa,hu] at hag
  rename_i hu;simp [Zfa,hu] at hag
def ZmJ : ∀{f:Nat} {t:TypeId} {a b:List L} {r:Bool},eqL P f t a b=some r->∀{v v':Value},CR g w none v.cells.toList a->CR g w none v'.cells.toList b->Zsx P t v->Zsx P t v' ->
  ∀(d:Nat) (w':World),(Op.equalIn (d+f) t v v').run P w' = .ok r w'
 | 0,_,_,_,_,h,_,_,_,_,_,_,_,_=>by simp [eqL] at h
 | f+1,t,a,b,r,h,v,v',hv,hv',hf,hf',d,w'=>by
  have scal:Zfa P t=some false->∀{l l':L},a = [l]->b = [l']->l.single=true->l'.single=true->LR g w none v l/\LR g w none v' l':=fun hag l l' ha hb h1 h2=>by
   subst ha;subst hb;obtain ⟨u,e1,e2⟩:=hv.single h1;obtain ⟨u',e3,e4⟩:=hv'.single h2;rw [Zke (hf.2 hag)] at e1;rw [Zke (hf'.2 hag)] at e3;cases e1;cases e3;exact ⟨e2,e4⟩
  unfold eqL at h;split at h<;>try (cases h;done)
  ·rename_i hu;split at h<;>simp only [zA,reduceCtorEq] at h;subst h;obtain ⟨h1,h2⟩:=scal (by simp [Zfa,hu]) rfl rfl rfl rfl;rw [h1.bool_eq,h2.bool_eq];exact run_equalIn_bool w' (d+f) t _ _ hu
  ·rename_i q hu;split at h<;>try (cases h;done)
   split at h<;>simp only [zA,reduceCtorEq] at h;rename_i hk;subst hk;subst h;obtain ⟨h1,h2⟩:=scal (by simp [Zfa,hu]) rfl rfl rfl rfl;rw [h1.int_eq,h2.int_eq];exact run_equalIn_int w' (d+f) t _ q _ _ hu
  ·rename_i hu;split at h<;>simp only [zA,reduceCtorEq] at h;subst h;obtain ⟨h1,h2⟩:=scal (by simp [Zfa,hu]) rfl rfl rfl rfl;rw [h1.str_eq,h2.str_eq];exact run_equalIn_string w' (d+f) t _ _ hu
  ·rename_i n e hu;split at h<;>try (cases h;done)
   rename_i q ie k m xs k' m' ys hue hie;split at h<;>simp only [zA,reduceCtorEq] at h;rename_i hh;obtain ⟨h1,rfl,rfl,rfl,hf0⟩:=hh;subst h;obtain ⟨A,rfl⟩:=hf.1 (by simp [Zfa,hu]);obtain ⟨B,rfl⟩:=hf'.1 (by simp [Zfa,hu]);obtain ⟨hx,ex⟩:=hv.arr1;obtain ⟨hy,ey⟩:=hv'.arr1;rw [show d+(f+1)=(d+f)+1 from rfl,run_equalIn_array w' (d+f) A B hu hie];obtain ⟨f,rfl⟩ : ∃f',f=f'+1:=⟨f-1,aF⟩
   have:=Zis (P:=P) (d:=d+f) hue hie h1 (A:=A) (B:=B) (k:=k) (f:=fun j=>xs.getD j 0) (h:=fun j=>ys.getD j 0) w' (uW m') (fun j hj=>by
    simp only [uN] at hj;have eA:A=(xs.map (Value.int k)).toArray:=qG (by simpa [Value.cells] using ex);have eB:B=(ys.map (Value.int k)).toArray:=qG (by simpa [Value.cells] using ey);subst eA;subst eB;constructor
    ·simp [zF,hx,hj]
    simp [zF,hy,hj])
   rw [ints_all hx hy] at this;exact this
  rename_i fs hu;split at h<;>try (cases h;done)
  rename_i hst;obtain ⟨A,rfl⟩:=hf.1 (by simp [Zfa,hu]);obtain ⟨B,rfl⟩:=hf'.1 (by simp [Zfa,hu]);have hfo:P.fieldsOf t=fs:=by simp [Program.fieldsOf,hu]
  rw [show d+(f+1)=(d+f)+1 from rfl,run_equalIn_struct w' (d+f) t A B (by rw [hfo];exact hu) (aR hst),hfo];generalize fs.toList=l at h;clear hfo hu
  induction l generalizing r with
  | nil=>simp only [eqFs,zA] at h;subst h;simp [Op.eqFields]
  | cons fd l ih=>
   simp only [eqFs] at h;split at h<;>try (cases h;done)
   rename_i hname;split at h<;>try (cases h;done)
   rename_i i hi;split at h<;>try (cases h;done)
   rename_i a' b' ha hb;split at h<;>simp only [zA,reduceCtorEq] at h;rename_i r1 r2 h1 h2;subst h;have partOf : ∀{C:Array Value} {c c':List L},(c'=a'\/c'=b')->CR g w none (Value.agg C).cells.toList c->(Zgn c fd.offset).bind (fun d=>Zho d i.size)=some c' ->
     ∃u,(part fd.type C fd.offset).run P w' = .ok u w'/\CR g w none u.cells.toList c'/\Zsx P fd.type u:=by
    intro C c c' hcc hC hc;obtain ⟨d1,k1,k2⟩:=yD.1 hc;obtain ⟨k3,k4⟩:=hC.drop k1;obtain ⟨k5,k6⟩:=k4.take k2;have hlen:((C.toList.drop fd.offset).take i.size).length=i.size:=by
     rw [wB];exact Nat.min_eq_left k5
    cases hag:Zfa P fd.type with
    | none=>
     exfalso;have:P.underlying fd.type=none:=by
      unfold Zfa at hag;split at hag<;>simp_all
     cases h1':eqL P f fd.type a' b' with
     | none=>rw [h1'] at h1;cases h1
     | some _=>cases f<;>simp [eqL,this] at h1'
    | some ag=>
     have hr:=Zgk (w:=w') hag;cases ag with
     | true=>
      refine ⟨.agg (C.extract fd.offset (fd.offset+i.size)),by simp [part,hr,Zeb hi],?_,⟨fun _=>⟨_,rfl⟩,fun e=>(by cases hag.symm.trans e)⟩⟩;have:(Value.agg (C.extract fd.offset (fd.offset+i.size))).cells.toList=(C.toList.drop fd.offset).take i.size:=by
       simp [Value.cells,List.extract]
      rw [this];exact k6
     | false=>
      have hone:i.size=1:=by
       have e1:=k6.size;have e3:((C.toList.drop fd.offset).take i.size).length=sizes c':=e1;have e2:sizes c'=1:=by
        rcases hcc with rfl | rfl
        ·exact (ZuG h1 hag).1
        exact (ZuG h1 hag).2
       omega
      rw [hone] at k6 hlen;obtain ⟨u,hu⟩ : ∃u,(C.toList.drop fd.offset).take 1 = [u]:=List.length_eq_one_iff.1 hlen;have hu':C[fd.offset]? = some u:=by
       have:=congrArg (fun l:List Value=>l[0]?) hu;simpa [yT] using this
      have h1c:u.oneCell'=true:=k6.cells1 u (by show u∈(C.toList.drop fd.offset).take 1;rw [hu];simp);refine ⟨u,by simp [part,hr,hu'],?_,⟨fun e=>(by cases hag.symm.trans e),fun _=>h1c⟩⟩;rw [Zke h1c,<-hu];exact k6
   obtain ⟨u,p1,p2,p3⟩:=partOf (.inl rfl) hv ha;obtain ⟨u',p4,p5,p6⟩:=partOf (.inr rfl) hv' hb;have heq:=ZmJ h1 p2 p5 p3 p6 d w';have ihr:=ih (r:=r2) h2;simp only [Op.eqFields,Sem.run_bind,Sem.run_ite,p1,p4,Result.andThen_ok,heq];rw [aD hname];cases r1
   ·simp
   simp only [pM,yP,if_false,wT];exact ihr
end
def eqTV (P:Program) (t:TypeId):TV->TV->Option Bool
 | .agg ts,.agg us=>match tLs ts,tLs us with
  | some a,some b=>if Zfa P t=some true/\P.eqGuardType P.depth t=false then eqL P 40 t a b else none
  | _,_=>none
 | .one (.l (.bool x)),.one (.l (.bool y))=>match P.underlying t with
  | some .bool=>some (x==y)
  | _=>none
 | .one (.l (.ptr o)),.one (.l (.ptr none))=>match P.underlying t with
  | some (.pointer _)=>some o.isNone
  | _=>none
 | .one (.adr _ _),.one (.l (.ptr none))=>match P.underlying t with
  | some (.pointer _)=>some false
  | _=>none
 | .one (.l (.ptr none)),.one (.l (.ptr o))=>match P.underlying t with
  | some (.pointer _)=>some o.isNone
  | _=>none
 | .one (.l (.bx _ _)),.one (.l (.ptr none))=>match P.underlying t with
  | some (.pointer _)=>some false
  | _=>none
 | _,_=>none
def eqOp (P:Program) (s:S) (o:Oper):Option TV:=
 match o.op with
 | .binOp op t x y _=>match ev s x,ev s y with
  | some a,some b=>match op with
   | .eql=>(eqTV P t a b).map fun r=>.one (.l (.bool r))
   | .neq=>(eqTV P t a b).map fun r=>.one (.l (.bool !r))
   | _=>none
  | _,_=>none
 | _=>none
section
variable {P:Program} {g:G} {s:S} {w:World}
def ZsX {t:TypeId} {a b:TV} {r:Bool} {u v:Value} (h:eqTV P t a b=some r) (hu:ZdM g s w u a) (hv:ZdM g s w v b) (X Y:Operand) :
  (∀op,op=BinOp.eql\/op=BinOp.neq->(eqGuard op t X Y u v).run P w = .ok () w)/\(Op.equal t u v).run P w = .ok r w/\(∀(op:BinOp),op = .eql\/op = .neq->binOp op t u v=if op = .eql then (do pure (.bool (<-Op.equal t u v))) else (do pure (.bool (!(<-Op.equal t u v))))):=by
 have ptrOf : ∀{u:Value} {o:Option Nat},ZdM g s w u (.one (.l (.ptr o)))->∃q,u = .pointer q/\q.isNone=o.isNone:=fun hu=>by
  have:=hu.2;cases this<;>exact ⟨_,rfl,rfl⟩
 have nilR : ∀{r:Bool},P.underlying t=some (.pointer (P.pointee t))->∀q:Option Addr,q.isNone=r ->
   (∀op,op=BinOp.eql\/op=BinOp.neq->(eqGuard op t X Y (.pointer q) (.pointer none)).run P w = .ok () w)/\(Op.equal t (.pointer q) (.pointer none)).run P w = .ok r w /\
   (∀(op:BinOp),op = .eql\/op = .neq->binOp op t (.pointer q) (.pointer none)=if op = .eql then (do pure (.bool (<-Op.equal t (.pointer q) (.pointer none)))) else (do pure (.bool (!(<-Op.equal t (.pointer q) (.pointer none)))))):=fun hpe q hq=>by
  refine ⟨fun op ho=>?_,by rw [<-hq];exact run_equal_pointer_nil w t q hpe,fun op ho=>?_⟩
  ·rcases ho with rfl | rfl<;>simp [eqGuard]
  rcases ho with rfl | rfl<;>cases q<;>simp [binOp]
 unfold eqTV at h;split at h
 ·split at h<;>try (cases h;done)
  rename_i a' b' ha hb;split at h<;>try (cases h;done)
  rename_i hh;obtain ⟨hag,hgu⟩:=hh;obtain ⟨A,rfl,hA⟩:=hu;obtain ⟨B,rfl,hB⟩:=hv;have hA':CR g w none (Value.agg A).cells.toList a':=Zhp ha hA;have hB':CR g w none (Value.agg B).cells.toList b':=Zhp hb hB;refine ⟨fun op ho=>?_,?_,fun op ho=>?_⟩
  ·rcases ho with rfl | rfl<;>simp [eqGuard,hgu]
  ·exact ZmJ h hA' hB' ⟨fun _=>⟨_,rfl⟩,fun e=>by rw [hag] at e;cases e⟩ ⟨fun _=>⟨_,rfl⟩,fun e=>by rw [hag] at e;cases e⟩ 9960 w
  rcases ho with rfl | rfl<;>simp [binOp]
 ·split at h<;>simp only [zA,reduceCtorEq] at h;rename_i hty;subst h;rw [hu.2.bool_eq,hv.2.bool_eq];refine ⟨fun op ho=>?_,run_equal_bool w t _ _ hty,fun op ho=>?_⟩
  ·rcases ho with rfl | rfl<;>simp [eqGuard]
  rcases ho with rfl | rfl<;>simp [binOp]
 ·split at h<;>simp only [zA,reduceCtorEq] at h;rename_i e hty;subst h;have hpe:P.underlying t=some (.pointer (P.pointee t)):=by simp [Program.pointee,hty]
  have hv':v = .pointer none:=by have:=hv.2;cases this;rfl
  obtain ⟨q,rfl,hq⟩:=ptrOf hu;subst hv';exact nilR hpe q hq
 ·split at h<;>simp only [zA,reduceCtorEq] at h;rename_i e hty;subst h;have hpe:P.underlying t=some (.pointer (P.pointee t)):=by simp [Program.pointee,hty]
  have hv':v = .pointer none:=by have:=hv.2;cases this;rfl
  obtain ⟨_,⟨q,rfl⟩,_⟩:=hu;subst hv';exact nilR hpe (some q) rfl
 ·split at h<;>simp only [zA,reduceCtorEq] at h;rename_i e hty;subst h;have hpe:P.underlying t=some (.pointer (P.pointee t)):=by simp [Program.pointee,hty]
  have hu':u = .pointer none:=by have:=hu.2;cases this;rfl
  obtain ⟨q,rfl,hq⟩:=ptrOf hv;subst hu';refine ⟨fun op ho=>?_,?_,fun op ho=>?_⟩
  ·rcases ho with rfl | rfl<;>simp [eqGuard]
  ·have : ∀d,(Op.equalIn (d+1) t (.pointer none) (.pointer q)).run P w = .ok q.isNone w:=fun d=>by cases q<;>simp [Op.equalIn,run_underlying hty]
   rw [<-hq];exact this 9999
  rcases ho with rfl | rfl<;>cases q<;>simp [binOp]
 ·split at h<;>simp only [zA,reduceCtorEq] at h;rename_i e hty;subst h;have hpe:P.underlying t=some (.pointer (P.pointee t)):=by simp [Program.pointee,hty]
  have hv':v = .pointer none:=by have:=hv.2;cases this;rfl
  obtain ⟨q,rfl⟩ : ∃q,u = .pointer (some q):=by have:=hu.2;cases this;exact ⟨_,rfl⟩
  subst hv';exact nilR hpe (some q) rfl
 cases h
def ZdB.eq {o:Oper} {tv:TV} (h:eqOp P s o=some tv):ZdB P o [] s (s.put o.dst tv):=by
 refine .value fun g w a hs=>?_;unfold eqOp at h;split at h<;>try (cases h;done)
 rename_i op t x y yt ho;split at h<;>try (cases h;done)
 rename_i ta tb hx hy;have key : ∀{r:Bool},eqTV P t ta tb=some r->(op = .eql\/op = .neq)->∃v,(execOp a.eval o).run P w = .ok (.value v) w/\ZdM g s w v (.one (.l (.bool (if op = .eql then r else !r)))):=by
  intro r hr hop;obtain ⟨h1,h2,h3⟩:=ZsX hr (ZbN hs hx) (ZbN hs hy) x y;refine ⟨.bool (if op = .eql then r else !r),?_,rfl,.bool _ _⟩;simp only [execOp,ho,Sem.run_bind,h1 op hop,h3 op hop,Result.andThen_ok];rcases hop with rfl | rfl
  ·simp [h2]
  simp [h2]
 split at h<;>try (cases h;done)
 ·obtain ⟨r,h1,rfl⟩:=zI.1 h;simpa using key h1 (.inl rfl)
 obtain ⟨r,h1,rfl⟩:=zI.1 h;simpa using key h1 (.inr rfl)
end
end Go.Dn
namespace Go.Dn
variable [Globs]
def Zlz (xs:List Int):ByteArray:=⟨(xs.map fun n=>UInt8.ofNat n.toNat).toArray⟩
def Zge:List L->Int
 | [.int _ n]=>n
 | _=>0
def isB (ys:List (List L)):Bool:=ys.all fun x=>match x with
 | [.int .u8 _]=>true
 | _=>false
def ZuN (P:Program) (s:S) (d:D) (o:Oper):Option (TV×List Prop):=
 match o.op with
 | .convert u t x=>match P.underlying u,P.underlying t,ev s x with
  | some (.slice e),some .string,some tv=>match P.underlying e with
   | some (.int .u8)=>match tv with
    | .one (.l (.sl 1 ys))=>some (.one (.l (.str (Zlz (ys.map Zge)))),[isB ys=true])
    | .one (.h src 1 lo len)=>match Ziw s d.oc src with
     | some (_,1,xs,ps)=>some (.one (.l (.str (Zlz ((win d.wm xs lo len).1.map Zge)))),(win d.wm xs lo len).2++ps ++ [isB (win d.wm xs lo len).1=true])
     | _=>none
    | .one (.asl r off n lo len)=>match ZgQ s d.oc r with
     | some (c,ps)=>match ZgL c off with
      | some (.arr .u8 m xs)=>if m=n/\lo=0/\len=n then some (.one (.l (.str (Zlz xs))),ps) else none
      | _=>none
     | none=>none
    | _=>none
   | _=>none
  | _,_,_=>none
 | _=>none
def idxOp (P:Program) (s:S) (o:Oper):Option (TV×List Prop):=
 match o.op with
 | .index t x i=>match P.underlying t,ev s x,(ev s i).bind Zow with
  | some (.array len e),some (.agg [.l (.arr k n xs)]),some (.int _ j)=>match Zfa P e,P.info? e with
   | some false,some ie=>if ie.size=1/\n=len then some (.one (.l (.int k (xs.getD j.toNat 0))),[0<=j,j<len]) else none
   | _,_=>none
  | some .string,some (.one (.l (.str b))),some (.int _ j)=>some (.one (.l (.int .u8 (b.data.toList.getD j.toNat 0).toNat)),[0<=j,j<b.size])
  | _,_,_=>none
 | _=>none
def aslOp (P:Program) (s:S) (o:Oper):Option (TV×List Prop):=
 match o.op with
 | .slice t x low high none=>match P.underlying t,ev s x with
  | some (.array n e),some tv=>match Zta P t,tv with
   | some (_,1),.one (.adr r off)=>match bnd s 0 low,bnd s n high with
    | some (l,ps),some (h,qs)=>some (.one (.asl r off n l (h-l)),ps++qs ++ [l<=h,h<=n])
    | _,_=>none
   | _,_=>none
  | some .string,some (.one (.l (.str b)))=>match bnd s 0 low,bnd s b.size high with
   | some (l,ps),some (h,qs)=>some (.one (.l (.str (b.extract l h))),ps++qs ++ [l<=h,h<=b.size])
   | _,_=>none
  | _,_=>none
 | _=>none
section
variable {P:Program} {g:G} {s:S} {w:World}
def Zuj (ns:List Int):ns.foldl (fun r n=>r.push (UInt8.ofNat n.toNat)) ByteArray.empty=Zlz ns:=by
 have gen : ∀(ns:List Int) (b:ByteArray),ns.foldl (fun r n=>r.push (UInt8.ofNat n.toNat)) b=⟨b.data++(ns.map fun n=>UInt8.ofNat n.toNat).toArray⟩:=by
  intro ns
  induction ns with
  | nil=>intro b;simp
  | cons n ns ih=>
   intro b;rw [List.foldl_cons,ih];simp [ByteArray.push]
 rw [gen];simp [Zlz]
def conv_run {u t e:TypeId} (hu:P.underlying u=some (.slice e)) (ht:P.underlying t=some .string) (he:P.underlying e=some (.int .u8)) (q:Option Addr) (len cap:Nat) (w:World) :
  (convert u t (.slice q len cap)).run P w=(Conv.bytesToString (.slice q len cap)).run P w:=by
 simp [convert,run_underlying hu,run_underlying ht,run_underlying he]
def Zkw (a:Addr) (len cap:Nat) (ns:List Int) (hl:ns.length=len) (h : ∀j v,(ns.map (Value.int .u8))[j]? = some v->w.cell? (a.add j)=some v) :
  (Conv.bytesToString (.slice (some a) len cap)).run P w = .ok (.string (Zlz ns)) w:=by
 have h1:=run_loadCells_list (P:=P) (w:=w) a (ns.map (Value.int .u8)) h;rw [wJ,hl] at h1;rw [run_bytesToString w a len cap ns h1,Zuj]
def ER.bytes : ∀{ys:List (List L)} {b o:Nat},ER g w b o 1 ys->isB ys=true->∀j v,((ys.map Zge).map (Value.int .u8))[j]? = some v->w.cell? (ad b (o+j))=some v
 | [],b,o,h,hb,j,v,hj=>by simp at hj
 | y::ys,b,o,h,hb,j,v,hj=>by
  simp only [isB,yQ,zV] at hb;cases h with
  | cons _ _ _ vs _ _ hn hc hx hr=>
   cases j with
   | zero=>
    simp only [xF,yJ,zA] at hj;have h1:=hb.1;split at h1
    ·rename_i n;obtain ⟨u,e1,e2⟩:=hx.single rfl;subst e1;have:=e2.int_eq;subst this;simp only [Zge] at hj;subst hj;exact hc 0 _ rfl
    cases h1
   | succ j=>
    have:=ER.bytes hr (by simpa [isB] using hb.2) j v (aR hj);rwa [(aF:o+1+j=o+(j+1))] at this
def ZdB.conv {o:Oper} {d:D} {tv:TV} {ps:List Prop} (h:ZuN P s d o=some (tv,ps)) (hp:Zce ps):ZdB P o [] s (s.put o.dst tv):=by
 refine .value fun g w a hs=>?_;unfold ZuN at h;split at h<;>try (cases h;done)
 rename_i u t x ho;split at h<;>try (cases h;done)
 rename_i e tv0 hu ht hx;split at h<;>try (cases h;done)
 rename_i he;have fin : ∀{q:Option Addr} {len cap:Nat} {b:ByteArray},a.eval x = .slice q len cap->(Conv.bytesToString (.slice q len cap)).run P w = .ok (.string b) w->tv = .one (.l (.str b))->∃v,(execOp a.eval o).run P w = .ok (.value v) w/\ZdM g s w v tv:=by
  intro q len cap b h1 h2 h3;subst h3;refine ⟨.string b,?_,rfl,.str _ _⟩;simp only [execOp,ho,h1,Sem.run_bind,conv_run hu ht he,h2,Result.andThen_ok,Sem.run_pure]
 have hv:=ZbN hs hx;split at h
 ·rename_i ys;simp only [zA,zE] at h;obtain ⟨rfl,rfl⟩:=h;simp only [Zce] at hp;obtain ⟨_,hl⟩:=hv;generalize hax:a.eval x=ax at hl;cases hl with
  | slnil=>exact fin hax (b:=Zlz []) (by simp [Conv.bytesToString];rfl) rfl
  | slz _ _ a0=>exact fin hax (Zkw (P:=P) a0 0 0 [] rfl (fun j v hj=>by simp at hj)) rfl
  | sl _ b off len cap _ _ hl hc hZ he'=>
   subst hl;refine fin hax (Zkw (P:=P) (ad b off) ys.length cap (ys.map Zge) aG fun j v hj=>?_) rfl;rw [Zhu];exact he'.bytes hp j v hj
 ·rename_i src lo len;split at h<;>simp only [zA,zE,reduceCtorEq] at h;rename_i eb xs ps' hr;obtain ⟨rfl,rfl⟩:=h;rw [Zce.append,Zce.append] at hp;obtain ⟨⟨hp1,hp2⟩,hp3⟩:=hp;simp only [Zce] at hp3;obtain ⟨hv0,t0,k1,k2,_⟩:=Zfs hs.mem hr hp2;obtain ⟨w1,w2,_⟩:=ZhJ hp1;rw [w1] at hp3;rcases k2.winER (hv.2.2.2 _ k1) w2 with ⟨h1,h2⟩ | ⟨b,o,c,h1,h2⟩
  ·exact fin h1 (b:=Zlz []) (by simp [Conv.bytesToString];rfl) (by rw [w1,h2];rfl)
  refine fin h1 (Zkw (P:=P) (ad b o) _ c (((xs.drop lo).take len).map Zge) (wJ _) fun j v hj=>?_) (by rw [w1]);rw [Zhu];exact h2.bytes hp3 j v hj
 ·rename_i r off n lo len;split at h<;>try (cases h;done)
  rename_i c ps' hc;split at h<;>try (cases h;done)
  rename_i m xs hseg;split at h<;>simp only [zA,zE,reduceCtorEq] at h;rename_i hh;obtain ⟨rfl,rfl,rfl⟩:=hh;obtain ⟨rfl,rfl⟩:=h;obtain ⟨k1,k2,t',k3⟩:=Zeg hs.mem hc hp;obtain ⟨vs,k4,k5⟩:=k3.cell;obtain ⟨k6,k7⟩:=k4.atArr hseg;obtain ⟨_,_,_,h3⟩:=hv;obtain ⟨h1,o',h2,h3⟩:=h3 k2;refine fin h2 (Zkw (P:=P) _ _ _ xs k6 fun j v hj=>?_) rfl;have hj':j<len:=by
   rcases zX j len with h | h
   ·exact h
   rw [zM (by simpa [k6] using h)] at hj;cases hj
  rw [Zhu,h3 aF,k5,vC,k7 j hj'];simp only [yR,zI] at hj;obtain ⟨y,hy,rfl⟩:=hj;simp [zF,hy]
 cases h
def ZdB.idx {o:Oper} {tv:TV} {ps:List Prop} (h:idxOp P s o=some (tv,ps)) (hp:Zce ps):ZdB P o [] s (s.put o.dst tv):=by
 refine .value fun g w a hs=>?_;unfold idxOp at h;split at h<;>try (cases h;done)
 rename_i t x i ho;split at h<;>try (cases h;done)
 ·rename_i len e k n xs kj j hu hx hi;split at h<;>try (cases h;done)
  rename_i ie hag hie;split at h<;>simp only [zA,zE,reduceCtorEq] at h;rename_i hh;obtain ⟨h1,rfl⟩:=hh;obtain ⟨rfl,rfl⟩:=h;simp only [Zce] at hp;obtain ⟨ti,hi1,hi2⟩:=yD.1 hi;have hiv:=(ZbN hs hi1)
  rw [ZhT hi2] at hiv;have hj:=hiv.2.int_eq;obtain ⟨A,hA,hts⟩:=ZbN hs hx;rw [TsR] at hts;obtain ⟨hn,rest,e1,e2⟩:=hts;rw [TsR] at e2;subst e2;have hA':A=(xs.map (Value.int k)).toArray:=qG (aR e1);subst hA';refine ⟨.int k (xs.getD j.toNat 0),?_,rfl,.int _ _ _⟩;have hlt:j.toNat<xs.length:=aF
  simp [execOp,ho,hA,hj,Instr.index,asIntOf,run_underlying hu,hp.1,hp.2,part,Zgk hag,Zeb hie,h1,zF,hlt]
 rename_i b kj j hu hx hi;simp only [zA,zE] at h;obtain ⟨rfl,rfl⟩:=h;simp only [Zce] at hp;obtain ⟨ti,hi1,hi2⟩:=yD.1 hi;have hiv:=(ZbN hs hi1)
 rw [ZhT hi2] at hiv;have hj:=hiv.2.int_eq;have hb:=(ZbN hs hx).2.str_eq;refine ⟨.int .u8 (b.data.toList.getD j.toNat 0).toNat,?_,rfl,.int _ _ _⟩;have hlt:j.toNat<b.size:=aF
 have hlt':j.toNat<b.data.size:=hlt;have hget:b[j.toNat]? = some (b.data.toList.getD j.toNat 0):=by
  rw [getElem?_pos b j.toNat hlt];simp only [zA,zF];rw [zQ (aR hlt')];simp [ByteArray.getElem_eq_getElem_data]
 simp [execOp,ho,hb,hj,Instr.index,asIntOf,run_underlying hu,hp.1,hget]
def ZmR {a:Act} (hs:Sat g s w a.tmps) {len l h:Nat} {low high:Option Operand} {ps qs:List Prop} (hl:bnd s 0 low=some (l,ps)) (hh:bnd s len high=some (h,qs)) (hp:Zce ps) (hq:Zce qs)
  (h1:l<=h) (h2:h<=len):(Instr.sliceBounds false len len (low.map a.eval) (high.map a.eval) none).run P w = .ok (l,h,len) w:=by
 unfold Instr.sliceBounds;rcases Zio hs hl hp with ⟨rfl,rfl⟩ | ⟨y,k,m,rfl,e1,e2,rfl⟩<;>rcases Zio hs hh hq with ⟨rfl,rfl⟩ | ⟨y',k',m',rfl,e1',e2',rfl⟩
 ·simp
 ·simp only [yS,vI,e1',Sem.run_bind,Sem.run_pure,Result.andThen_ok];rw [run_sliceBound w k' m' len _ e2' aF];rfl
 ·simp only [yS,vI,e1,Sem.run_bind,Sem.run_pure,Result.andThen_ok];rw [run_sliceBound w k m _ _ e2 aF];rfl
 simp only [yS,vI,e1,e1',Sem.run_bind,Sem.run_pure,Result.andThen_ok];rw [run_sliceBound w k' m' len _ e2' aF];simp only [Result.andThen_ok];rw [run_sliceBound w k m _ _ e2 aF];rfl
def ZdB.asl {o:Oper} {tv:TV} {ps:List Prop} (h:aslOp P s o=some (tv,ps)) (hp:Zce ps):ZdB P o [] s (s.put o.dst tv):=by
 refine .value fun g w a hs=>?_;unfold aslOp at h;split at h<;>try (cases h;done)
 rename_i t x low high ho;split at h<;>try (cases h;done)
 ·rename_i n e tv0 hu hx;split at h<;>try (cases h;done)
  rename_i n' r off har;split at h<;>simp only [zA,zE,reduceCtorEq] at h;rename_i l ps1 hh qs1 hl hhi;obtain ⟨rfl,rfl⟩:=h;rw [Zce.append,Zce.append] at hp;obtain ⟨⟨hp1,hp2⟩,hp3⟩:=hp;simp only [Zce] at hp3;obtain ⟨h1,h2⟩:=hp3;obtain ⟨_,⟨q,hq⟩,hin,hok⟩:=ZbN hs hx;have hb:=ZmR (P:=P) (w:=w) hs hl hhi hp1 hp2 h1 h2;have hi : ∃i,P.info? e=some i/\i.size=1:=by
   unfold Zta at har;rw [hu] at har;simp only at har;split at har<;>simp only [zA,zE,reduceCtorEq] at har;rename_i i hi;exact ⟨i,hi,har.2⟩
  obtain ⟨i,hi,hi1⟩:=hi;refine ⟨.slice (some (if n=l then q else q.add (l*1))) (hh-l) (n-l),?_,rfl,⟨_,_,rfl,.inr rfl⟩,hin,fun hr=>?_⟩
  ·simp only [execOp,ho,vI,Sem.run_bind,Instr.sliceAt,run_underlying hu,Result.andThen_ok,hq,Instr.sureAddr,Sem.run_pure,hb,Zeb hi,hi1]
  have:=hok hr;rw [hq] at this;simp only [Value.pointer.injEq,zA] at this;subst this;refine ⟨aF,?_⟩;by_cases hc:n=l
  ·rw [aD hc];exact ⟨off,rfl,fun h=>aF⟩
  rw [aE hc,Zhu];exact ⟨_,rfl,fun h=>aF⟩
 rename_i b hu hx;split at h<;>simp only [zA,zE,reduceCtorEq] at h;rename_i l ps1 hh qs1 hl hhi;obtain ⟨rfl,rfl⟩:=h;rw [Zce.append,Zce.append] at hp;obtain ⟨⟨hp1,hp2⟩,hp3⟩:=hp;simp only [Zce] at hp3;obtain ⟨h1,h2⟩:=hp3;have hbv:=(ZbN hs hx).2.str_eq;have hb:=ZmR (P:=P) (w:=w) hs hl hhi hp1 hp2 h1 h2;refine ⟨.string (b.extract l hh),?_,rfl,.str _ _⟩;simp [execOp,ho,Instr.sliceAt,Instr.slice,run_underlying hu,hbv,hb]
end
end Go.Dn
namespace Go.Dn
variable [Globs]
def ZqW:List L->Nat->L->Option (L×List L)
 | [],_,_=>none
 | l::ls,o,x=>if o=0 then (if l.single then some (l,x::ls) else none) else if l.size<=o then (ZqW ls (o-l.size) x).map (fun r=>(r.1,l::r.2)) else none
section
variable {P:Program} {g g':G} {s:S} {w w':World}
def Zii {b:Nat} {x l:L} : ∀{c c':List L} {o off:Nat} {vs:List Value},CR g w (some (b,o)) vs c->ZqW c off x=some (l,c') ->
  ∃v,vs[off]? = some v/\v.oneCell'=true/\LR g w (some (b,o+off)) v l/\∀(g':G) (w':World),ZcK g g' w w'->(∀b' o',o'≠o+off->g.ow b'=some (.rowM b o')->Zhw g g' w w' b') ->
   LR g' w' (some (b,o+off)) v x->CR g' w' (some (b,o)) vs c'
 | [],c',o,off,vs,h,hg=>by simp [ZqW] at hg
 | l0::ls,c',o,off,vs,h,hg=>by
  simp only [ZqW] at hg;split at hg
  ·rename_i ho;subst ho;split at hg<;>simp only [zA,zE,reduceCtorEq] at hg;rename_i hs;obtain ⟨rfl,rfl⟩:=hg;cases h with
   | one _ v vs _ _ hv h1 hr=>
    exact ⟨v,rfl,h1,hv,fun g' w' K hS hx=>.one _ _ _ _ _ hx h1 (CR.keepR K (lo:=o+1) (fun b' o' h1 h2=>hS b' o' aF h2) (o:=o+1) (zH _) hr)⟩
   | arr=>simp [L.single] at hs
   | brr=>simp [L.single] at hs
  rename_i ho;split at hg<;>try (cases hg;done)
  rename_i hle;obtain ⟨r,h1,h2⟩:=zI.1 hg;obtain ⟨l1,c1⟩:=r;simp only [zE] at h2;obtain ⟨rfl,rfl⟩:=h2;cases h with
  | one _ v vs _ _ hv h1' hr=>
   have hs1:l0.size=1:=by cases hv<;>rfl
   obtain ⟨u,k1,k1',k2,k3⟩:=Zii (o:=o+1) hr h1;rw [hs1] at hle k1 k2 k3;refine ⟨u,?_,k1',by rwa [(aF:o+1+(off-1)=o+off)] at k2,fun g' w' K hS hx=>.one _ _ _ _ _ (LR.keepO K (fun b' hb=>hS b' _ (by show o≠_;omega) hb) hv) h1' (k3 g' w' K (by rwa [(aF:o+1+(off-1)=o+off)]) (by rwa [(aF:o+1+(off-1)=o+off)]))⟩;rw [List.getElem?_cons,aE ho];exact k1
  | arr _ k n ys vs _ hn hr=>
   simp only [L.size] at hle h1;obtain ⟨u,k1,k1',k2,k3⟩:=Zii (o:=o+n) hr h1;refine ⟨u,?_,k1',by rwa [(aF:o+n+(off-n)=o+off)] at k2,fun g' w' K hS hx=>.arr _ _ _ _ _ _ hn (k3 g' w' K (by rwa [(aF:o+n+(off-n)=o+off)]) (by rwa [(aF:o+n+(off-n)=o+off)]))⟩;rw [yA aH];simpa [hn] using k1
  | brr _ n ys vs _ hn hr=>
   simp only [L.size] at hle h1;obtain ⟨u,k1,k1',k2,k3⟩:=Zii (o:=o+n) hr h1;refine ⟨u,?_,k1',by rwa [(aF:o+n+(off-n)=o+off)] at k2,fun g' w' K hS hx=>.brr _ _ _ _ _ hn (k3 g' w' K (by rwa [(aF:o+n+(off-n)=o+off)]) (by rwa [(aF:o+n+(off-n)=o+off)]))⟩;rw [yA aH];simpa [hn] using k1
structure Zno (g g':G) (w w':World) (t:Ow):Prop where
 hg:g'.ob=g.ob/\g'.nob=g.nob/\g'.sb=g.sb/\g'.hd=g.hd/\g'.ow=g.ow
 K:ZcK g g' w w'
 ho:w'.os=w.os/\w'.tape=w.tape/\w'.output=w.output
 size:w'.heap.size=w.heap.size
 same : ∀b',g.ow b'≠some t->Zhw g g' w w' b'
 z : ∀b,w.heap.size<=b->g'.Z b=0
 cell : ∀b' o hv,g.ow b'≠some t->w'.cell? (ad b' o)=some hv->w.cell? (ad b' o)=some hv
def Zno.mod {t:Ow} (h:Zno g g' w w' t) (ht:t ≠ .foreign):Mod g g' w w':=by
 refine ⟨h.K,h.ho.1,h.ho.2.1,h.ho.2.2,by rw [h.size];exact zH _,fun b hb=>?_,fun b hb h1 h2=>by rw [h.hg.2.2.2.2] at h1 h2;exact ⟨h1,h2⟩,fun i h1 h2=>absurd h2 (by rw [h.hg.2.1];omega)⟩;by_cases e:g.ow b=some t
 ·right;rw [e];exact ⟨by simp,by simpa using ht⟩
 exact .inl (h.same b e)
def Zqr (hm:ZdK g s w) {r:Root} {oe c c':List L} {qs:List Prop} {off:Nat} {x l:L} (hc:ZgQ s oe r=some (c,qs)) (hp:Zce qs) (hput:ZqW c off x=some (l,c'))
  (hi:Zno g g' w w' (.rowM (g.rb r) off)) (hx : ∀v,w.cell? (ad (g.rb r) off)=some v->v.oneCell'=true->LR g w (some (g.rb r,off)) v l->LR g' w' (some (g.rb r,off)) v x) :
  Mod g g' w w'/\ZdK g' (s.setRoot r c') w'/\ZbA (· ∈ []) s (s.setRoot r c') g g' w w':=by
 obtain ⟨hri,hok,hng,hblk⟩:=ZfD hm hc hp;obtain ⟨ht,hZ,aa,E,hb,hcr⟩:=hblk;obtain ⟨v,k1,k1',k2,k3⟩:=Zii hcr hput;rw [yE] at k2 k3;have hcell:w.cell? (ad (g.rb r) off)=some v:=by simp only [World.cell?,hb];simpa using k1
 have K:=hi.K;obtain ⟨e1,e2,e3,e4,e5⟩:=hi.hg;have hS' : ∀b' t,g.ow b'=some t->t ≠ .rowM (g.rb r) off->Zhw g g' w w' b':=fun b' t h1 h2=>hi.same b' (fun e=>h2 (by rw [h1] at e;exact xB e));have hrb:Zhw g g' w w' (g.rb r):=hS' _ _ ht (by cases r<;>simp [Zfy]);have hnew:Znq g' w' (g.rb r) (Zfy r) c':=by
  refine ⟨by rw [e5];exact ht,by rw [hrb.2.2];exact hZ,aa,E,by rw [hrb.1];exact hb,k3 g' w' K (fun b' o' h1 h2=>hS' b' _ h2 (by simp;exact h1)) (hx v hcell k1' k2)⟩
 have hstl:(s.setRoot r c').st.length=s.st.length:=by cases r<;>simp [S.setRoot,S.setEnt]
 have hne : ∀i,r ≠ .obj i->g.ow (g.ob i)=some (.obj i)->g.ob i≠g.rb r:=fun i h1 h2 e=>by
  rw [e,ht] at h2;cases r<;>simp [Zfy] at h2;exact h1 (by rw [h2])
 have hsi2 : ∀n ent,(s.setRoot r c').si[n]? = some (some ent)->(r = .site n/\ent = .cells c')\/(r ≠ .site n/\s.si[n]? = some (some ent)):=by
  intro n ent h;cases r with
  | site k=>
   simp only [S.setRoot,S.setEnt] at h;by_cases e':k=n
   ·subst e';obtain ⟨cc,hok'⟩:=hok;have hlt:k<s.si.length:=by
     rcases zX k s.si.length with h0 | h0
     ·exact h0
     rw [zM h0] at hok';cases hok'
    rw [zP hlt] at h;cases h;exact .inl ⟨rfl,rfl⟩
   rw [zO e'] at h;exact .inr ⟨fun e=>e' (by cases e;rfl),h⟩
  | obj j=>exact .inr ⟨fun e=>(by cases e),h⟩
  | glob k=>exact .inr ⟨fun e=>(by cases e),h⟩
 refine ⟨hi.mod aG,⟨by rw [e2];exact hstl.trans hm.stl,fun i cc h hne'=>?_,fun i hi'=>?_,fun n ent h=>?_,fun b' t h=>?_,fun b' h=>hi.z b' (by rw [hi.size] at h;exact h),hm.gl.keep K⟩,⟨K,fun n hX h=>?_,fun n ver hX h=>?_,fun n hX h=>?_,fun _ r' hg' hi' hr' _ _ o hv h=>?_,?_⟩⟩
 ·rw [e1];by_cases er:r = .obj i
  ·subst er;have hi':i<s.st.length:=by rw [hm.stl];exact hri
   simp only [S.setRoot] at h;rw [zP hi'] at h;cases h;exact hnew
  have h':s.st[i]? = some cc:=by
   cases r with
   | obj j=>
    simp only [S.setRoot] at h;rwa [zO (fun e'=>er (by rw [e']))] at h
   | site n=>exact h
   | glob k=>exact h
  have h2:=hm.obj i cc h' hne';exact h2.keep K (hS' _ _ h2.1 aG) (fun b' o hb'=>hS' _ _ hb' (by simp;exact fun e1=>absurd e1 (hne i er h2.1)))
 ·rw [e2] at hi';rw [e1,e5];exact hm.objB i hi'
 ·rcases hsi2 n ent h with ⟨rfl,rfl⟩ | ⟨hns,h2⟩
  ·simp only [Zgf];rw [e3];exact hnew
  have h3:=hm.site n ent h2;cases ent with
  | cells cc=>
   simp only [Zgf] at h3 |-;rw [e3];refine h3.keep K (hS' _ _ h3.1 aG) (fun b' o hb'=>hS' _ _ hb' ?_);simp only [ne_eq,Ow.rowM.injEq,not_and];intro e1;have h4:=h3.1;rw [e1,ht] at h4;cases r<;>simp [Zfy] at h4;exact absurd (by rw [h4]) hns
  | row ver ee sz' xs'=>
   simp only [Zgf] at h3 |-;rw [e4];exact h3.keep K (fun b' hb'=>hS' _ _ hb' aG)
  | mp es=>
   simp only [Zgf] at h3 |-;rw [e4];exact h3.keep K (fun b' hb'=>hS' _ _ hb' aG)
 ·rw [e5] at h;rw [hi.size];exact hm.own _ _ h
 ·obtain ⟨cc,h⟩:=h;rcases hsi2 n _ h with ⟨rfl,h2⟩ | ⟨_,h2⟩
  ·exact ⟨hok,by rw [e3]⟩
  exact ⟨⟨cc,h2⟩,by rw [e3]⟩
 ·obtain ⟨ee,sz1,xs1,h⟩:=h;rcases hsi2 n _ h with ⟨_,h2⟩ | ⟨_,h2⟩
  ·cases h2
  exact .inl ⟨⟨_,_,_,h2⟩,by rw [e4]⟩
 ·obtain ⟨es,h⟩:=h;rcases hsi2 n _ h with ⟨_,h2⟩ | ⟨_,h2⟩
  ·cases h2
  exact ⟨⟨_,h2⟩,by rw [e4]⟩
 ·left;refine hi.cell _ _ _ ?_ h;cases r' with
  | site m=>obtain ⟨c1,h1⟩:=hr';have:=(hm.site m _ h1).1;simp only [G.rb];rw [this];simp
  | obj i=>simp only [G.rb];rcases hm.objB i hi' with h | h<;>(rw [h];simp)
  | glob k=>exact absurd rfl (hg' k)
 cases r<;>exact zH _
def ZlZ (hm:ZdK g s w) {n:Nat} {ent ent':Ent} (hn:s.si[n]? = some (some ent))
  (hk:(∃ver e sz xs e' xs',ent = .row ver e sz xs/\ent' = .row ver e' sz xs')\/∃es es',ent = .mp es/\ent' = .mp es')
  (hi:Zno g g' w w' (.rowS n)) (hx:Zgf g w n ent->Zgf g' w' n ent') :
  Mod g g' w w'/\ZdK g' (s.setEnt n ent') w'/\ZbA (· ∈ []) s (s.setEnt n ent') g g' w w':=by
 have K:=hi.K;obtain ⟨e1,e2,e3,e4,e5⟩:=hi.hg;have hS' : ∀b' t,g.ow b'=some t->t ≠ .rowS n->Zhw g g' w w' b':=fun b' t h1 h2=>hi.same b' (fun e=>h2 (by rw [h1] at e;exact xB e));have hlt:n<s.si.length:=by
  rcases zX n s.si.length with h0 | h0
  ·exact h0
  rw [zM h0] at hn;cases hn
 have hsi : ∀m en,(s.setEnt n ent').si[m]? = some (some en)->(m=n/\en=ent')\/(m≠n/\s.si[m]? = some (some en)):=by
  intro m en h;simp only [S.setEnt] at h;by_cases e:n=m
  ·subst e;rw [zP hlt] at h;cases h;exact .inl ⟨rfl,rfl⟩
  rw [zO e] at h;exact .inr ⟨fun e'=>e e'.symm,h⟩
 refine ⟨hi.mod aG,⟨by rw [e2];exact hm.stl,fun i cc h hne'=>?_,fun i hi'=>?_,fun m en h=>?_,fun b' t h=>?_,fun b' h=>hi.z b' (by rw [hi.size] at h;exact h),hm.gl.keep K⟩,⟨K,fun m hX h=>?_,fun m ver hX h=>?_,fun m hX h=>?_,fun _ r' hg' hi' hr' _ _ o hv h=>?_,zH _⟩⟩
 ·rw [e1];have h2:=hm.obj i cc h hne';exact h2.keep K (hS' _ _ h2.1 aG) (fun b' o hb'=>hS' _ _ hb' aG)
 ·rw [e2] at hi';rw [e1,e5];exact hm.objB i hi'
 ·rcases hsi m en h with ⟨rfl,rfl⟩ | ⟨hmn,h2⟩
  ·exact hx (hm.site _ _ hn)
  have h3:=hm.site m en h2;cases en with
  | cells cc=>
   simp only [Zgf] at h3 |-;rw [e3];exact h3.keep K (hS' _ _ h3.1 aG) (fun b' o hb'=>hS' _ _ hb' aG)
  | row ver ee sz' xs'=>
   simp only [Zgf] at h3 |-;rw [e4];exact h3.keep K (fun b' hb'=>hS' _ _ hb' (by simp;exact hmn))
  | mp es=>
   simp only [Zgf] at h3 |-;rw [e4];exact h3.keep K (fun b' hb'=>hS' _ _ hb' (by simp;exact hmn))
 ·rw [e5] at h;rw [hi.size];exact hm.own _ _ h
 ·obtain ⟨cc,h⟩:=h;rcases hsi m _ h with ⟨rfl,h2⟩ | ⟨_,h2⟩
  ·rcases hk with ⟨_,_,_,_,_,_,_,h3⟩ | ⟨_,_,_,h3⟩<;>(rw [h3] at h2;cases h2)
  exact ⟨⟨cc,h2⟩,by rw [e3]⟩
 ·obtain ⟨ee,sz1,xs1,h⟩:=h;rcases hsi m _ h with ⟨rfl,h2⟩ | ⟨_,h2⟩
  ·rcases hk with ⟨_,_,_,_,_,_,h4,h3⟩ | ⟨_,_,_,h3⟩
   ·rw [h3] at h2;cases h2;exact .inl ⟨⟨_,_,_,by rw [hn,h4]⟩,by rw [e4]⟩
   rw [h3] at h2;cases h2
  exact .inl ⟨⟨_,_,_,h2⟩,by rw [e4]⟩
 ·obtain ⟨es,h⟩:=h;rcases hsi m _ h with ⟨rfl,h2⟩ | ⟨_,h2⟩
  ·rcases hk with ⟨_,_,_,_,_,_,h4,h3⟩ | ⟨es0,_,h4,h3⟩
   ·rw [h3] at h2;cases h2
   rw [h3] at h2;cases h2;exact ⟨⟨_,by rw [hn,h4]⟩,by rw [e4]⟩
  exact ⟨⟨_,h2⟩,by rw [e4]⟩
 left;refine hi.cell _ _ _ ?_ h;cases r' with
 | site m=>obtain ⟨c1,h1⟩:=hr';have:=(hm.site m _ h1).1;simp only [G.rb];rw [this];simp
 | obj i=>simp only [G.rb];rcases hm.objB i hi' with h | h<;>(rw [h];simp)
 | glob k=>exact absurd rfl (hg' k)
def S.freeze1 (s:S) (n:Nat):S:=
 match s.si[n]? with
 | some (some (.row ver true sz xs))=>s.setEnt n (.row ver false sz xs)
 | _=>s
def S.freeze (s:S):List Nat->S
 | []=>s
 | n::ns=>(s.freeze1 n).freeze ns
def ZsW (s:S) (n:Nat):(s.freeze1 n).sl=s.sl/\(s.freeze1 n).si.length=s.si.length:=by
 unfold S.freeze1;split<;>simp [S.setEnt]
def ZgO.freeze (hm:ZdK g s w) {n:Nat} {sz:Nat} {xs:List (List L)} (h:ZgO g w (.rowS n) (g.hd n) true sz xs) :
  ∃g',Zno g g' w w (.rowS n)/\ZgO g' w (.rowS n) (g'.hd n) false sz xs:=by
 rcases h with h | h | ⟨b,off,cap,a,E,h1,h2,h3,h4,h5,h6,h7⟩
 ·exact ⟨g,⟨⟨rfl,rfl,rfl,rfl,rfl⟩,.refl g w,⟨rfl,rfl,rfl⟩,rfl,fun _ _=>⟨rfl,rfl,rfl⟩,hm.z,fun _ _ _ _ h=>h⟩,.inl h⟩
 ·exact ⟨g,⟨⟨rfl,rfl,rfl,rfl,rfl⟩,.refl g w,⟨rfl,rfl,rfl⟩,rfl,fun _ _=>⟨rfl,rfl,rfl⟩,hm.z,fun _ _ _ _ h=>h⟩,.inr (.inl h)⟩
 have hb:b<w.heap.size:=hm.own _ _ h3;rw [aD rfl] at h6;have K:ZcK g { g with Z:=ZgJ g.Z b (off+xs.length*sz)} w w:=by
  refine ⟨fun _ _=>rfl,zH _,fun b'=>?_,fun _ _ _=>rfl,fun _ _=>rfl⟩;by_cases e:b'=b
  ·subst e;rw [h6];exact Nat.zero_le _
  show _<=ZgJ _ _ _ _;rw [ZcZ _ _ e];exact zH _
 refine ⟨{ g with Z:=ZgJ g.Z b (off+xs.length*sz)},⟨⟨rfl,rfl,rfl,rfl,rfl⟩,K,⟨rfl,rfl,rfl⟩,rfl,fun b' hb'=>⟨rfl,rfl,?_⟩,fun b' hb'=>?_,fun _ _ _ _ h=>h⟩,.inr (.inr ⟨b,off,cap,a,E,h1,h2,h3,h4,h5,?_,h7.keep' K fun _ _ _=>rfl⟩)⟩
 ·exact ZcZ _ _ (fun e=>hb' (by rw [e];exact h3))
 ·show ZgJ _ _ _ _=_;rw [ZcZ _ _ aF];exact hm.z _ hb'
 show ZgJ _ _ _ _=_;rw [Zbq];rfl
def Sat.freeze1 {t:Array Value} (hs:Sat g s w t) (n:Nat) : ∃g',Mod g g' w w/\ZbA (· ∈ []) s (s.freeze1 n) g g' w w/\Sat g' (s.freeze1 n) w t:=by
 unfold S.freeze1;split
 ·rename_i ver sz xs hn;have hr:=hs.mem.site n _ hn;simp only [Zgf] at hr;obtain ⟨g',hi,h1⟩:=ZgO.freeze hs.mem hr;obtain ⟨k1,k2,k3⟩:=ZlZ hs.mem hn (ent':=.row ver false sz xs) (.inl ⟨_,_,_,_,_,_,rfl,rfl⟩) hi (fun _=>h1);refine ⟨g',k1,k3,hs.len,by simp [S.setEnt,hs.lensi],fun m tv h=>ZdM.keep k3 (fun _ h=>by cases h) (hs.slot m tv h),k2⟩
 exact ⟨g,.refl g w,.refl rfl rfl,hs⟩
def Sat.freeze : ∀{ns:List Nat} {g:G} {s:S} {t:Array Value},Sat g s w t->∃g',Mod g g' w w/\ZbA (· ∈ []) s (s.freeze ns) g g' w w/\Sat g' (s.freeze ns) w t
 | [],g,s,t,hs=>⟨g,.refl g w,.refl rfl rfl,hs⟩
 | n::ns,g,s,t,hs=>by
  obtain ⟨g1,h1,h2,h3⟩:=hs.freeze1 n;obtain ⟨g2,h4,h5,h6⟩:=Sat.freeze (ns:=ns) h3;exact ⟨g2,h1.trans h4,h2.trans h5,h6⟩
def Zqg : ∀(ns:List Nat) (s:S),(s.freeze ns).sl=s.sl
 | [],_=>rfl
 | n::ns,s=>by rw [S.freeze,Zqg ns,(ZsW s n).1]
def ZdB.freeze {o:Oper} {X:List Nat} {s s':S} {ns:List Nat} (h:ZdB P o X (s.freeze ns) s'):ZdB P o X s s':=by
 intro g w a hs K Q hK;obtain ⟨g1,h1,h2,h3⟩:=hs.freeze (ns:=ns);refine h g1 w a h3 K Q fun g' w' v k1 k2 k3=>hK g' w' v (h1.trans k1) (ZbA.trans (X:=(· ∈ X)) ⟨h2.keep,fun n _=>h2.cells n aG,fun n ver _=>h2.row n ver aG,fun n _=>h2.mp n aG,fun he r hg hi hr hr' _=>h2.mem he r hg hi hr hr' (fun _ _=>by simp),h2.ep⟩ k2) k3
end
end Go.Dn
namespace Go.Dn
variable [Globs]
def keyL:TV->Option L
 | .one (.l (.int k n))=>some (.int k n)
 | .agg [.l (.arr k n xs)]=>some (.arr k n xs)
 | _=>none
def ZoG:L->L->Option Bool
 | .int k n,.int k' m=>if k=k' then some (n==m) else none
 | .arr k n xs,.arr k' n' ys=>if k=k'/\n=n' then some (xs==ys) else none
 | _,_=>none
def ZiT:List (L×L)->L->Option (Option (Nat×L))
 | [],_=>some none
 | (k,v)::es,x=>match ZoG x k with
  | some true=>some (some (0,v))
  | some false=>match ZiT es x with
   | some (some (i,v))=>some (some (i+1,v))
   | r=>r
  | none=>none
def Zkj (P:Program) (kt:TypeId):L->Bool
 | .int k _=>match P.underlying kt with
  | some (.int q)=>decide (k=q)
  | _=>false
 | .arr k n _=>match P.underlying kt with
  | some (.array m e)=>match P.underlying e,P.info? e with
   | some (.int q),some ie=>decide (k=q/\n=m/\ie.size=1)
   | _,_=>false
  | _=>false
 | _=>false
def Ztf (s:S) (oe:List L):T->Option (List (L×L)×List Prop)
 | .ms n=>match s.si[n]? with
  | some (some (.mp es))=>some (es,[])
  | _=>none
 | .mm (.mem r off ep)=>if ep=s.ep then match ZgQ s oe r with
   | some (c,ps)=>match ZgL c off with
    | some (.mp es)=>some (es,ps)
    | _=>none
   | none=>none
  else none
 | _=>none
def lookC (s:S) (oe:List L) (tm:T):Option (List (L×L)×List Prop):=match tm with
 | .l (.mz es)=>some (es,[])
 | _=>Ztf s oe tm
def Zmw (s:S) (oe:List L) (es':List (L×L)):T->Option S
 | .ms n=>some (s.setEnt n (.mp es'))
 | .mm (.mem r off ep)=>match ZgQ s oe r with
   | some (c,_)=>(ZqW c off (.mp es')).map fun x=>s.setRoot r x.2
   | none=>none
 | _=>none
def mapTs (P:Program) (t:TypeId):Option (TypeId×TypeId):=
 match P.underlying t with
 | some (.map k e)=>some (k,e)
 | _=>none
def zeroL (P:Program) (e:TypeId):Option L:=
 match P.info? e with
 | some i=>match i.zero with
  | some v=>ZuW v
  | none=>none
 | none=>none
def Zre (s:S) (o:Oper):Option S:=
 match o.dst,o.op with
 | some d,.makeMap _ none=>if TV.mens d s.sl then none else some ((s.setEnt d (.mp [])).put (some d) (.one (.ms d)))
 | _,_=>none
def Zuf (P:Program) (s:S) (d:D) (o:Oper):Option (TV×List Prop):=
 match o.op with
 | .lookup t x i ok=>match mapTs P t,ev s x,(ev s i).bind keyL with
  | some (kt,et),some (.one tm),some key=>match lookC s d.oc tm,zeroL P et with
   | some (es,ps),some z=>if Zkj P kt key=true/\Zfa P et=some false then
     (match d.yes,d.oe with
     | true,[v]=>if v.single then some (if ok then .tup [.one (.l v),.one (.l (.bool true))] else .one (.l v),(∃j,ZiT es key=some (some (j,v)))::ps) else none
     | false,_=>some (if ok then .tup [.one (.l z),.one (.l (.bool false))] else .one (.l z),(ZiT es key=some none)::ps)
     | _,_=>none)
    else none
   | _,_=>none
  | _,_,_=>none
 | _=>none
def updOp (P:Program) (s:S) (d:D) (o:Oper):Option (S×List Prop):=
 match o.dst,o.op with
 | none,.mapUpdate t x i y=>match mapTs P t,ev s x,(ev s i).bind keyL,(ev s y).bind Zow with
  | some (kt,et),some (.one tm),some key,some v=>match Ztf s d.oc tm with
   | some (es,ps)=>if Zkj P kt key=true/\v.single=true then
     (match d.yes with
     | true=>(Zmw s d.oc (es.set d.m (key,v)) tm).map fun s'=>(s',(∃u,ZiT es key=some (some (d.m,u)))::ps)
     | false=>(Zmw s d.oc (es ++ [(key,v)]) tm).map fun s'=>(s',(ZiT es key=some none)::ps))
    else none
   | none=>none
  | _,_,_,_=>none
 | _,_=>none
def delOp (P:Program) (s:S) (d:D) (o:Oper):Option (S×List Prop):=none
section
variable {P:Program} {g g':G} {s:S} {w w':World}
def ZnQ {tv:TV} {key:L} {v:Value} (h:keyL tv=some key) (hv:ZdM g s w v tv):Zpg v key:=by
 unfold keyL at h;split at h<;>simp only [zA,reduceCtorEq] at h<;>subst h
 ·exact hv.2.int_eq
 obtain ⟨vs,rfl,h1⟩:=hv;rw [TsR] at h1;obtain ⟨h1,rest,h2,h3⟩:=h1;rw [TsR] at h3;subst h3;refine ⟨h1,?_⟩
 congr 1
 exact qG (aR h2)
def ZmB {kt:TypeId} {key:L} {v:Value} (ht:Zkj P kt key=true) (hk:Zpg v key) (e:Bool) (w:World):(Instr.checkKey e 10000 kt v).run P w = .ok () w:=by
 cases key with
 | int k n=>
  simp only [Zkj] at ht;split at ht<;>try (cases ht;done)
  rename_i q hu;simp only [decide_eq_true_eq] at ht;subst ht;simp only [Zpg] at hk;subst hk;exact MapKept.run_checkKey hu (by simp [MapKept.IsKey]) e 9999
 | arr k n xs=>
  simp only [Zkj] at ht;split at ht<;>try (cases ht;done)
  rename_i m el hu;split at ht<;>try (cases ht;done)
  rename_i q ie hue hie;simp only [decide_eq_true_eq] at ht;obtain ⟨rfl,rfl,h1⟩:=ht;obtain ⟨hn,rfl⟩:=hk;have hag : ∀w,(isAgg el).run P w = .ok false w:=fun w=>Zgk (b:=false) (by simp [Zfa,hue]);have key : ∀(d:Nat) (is:List Nat),(∀j∈is,j<n)->(forIn (m:=Sem) is PUnit.unit (fun i _=>do
    let n <- sizeOf el;let __do_lift <- part el (xs.map (Value.int k)).toArray (i*n)
    (fun a=>ForInStep.yield PUnit.unit) <$> Instr.checkKey e (d+1) el __do_lift)).run P w = .ok PUnit.unit w:=by
   intro d is his
   induction is with
   | nil=>simp
   | cons j is ih=>
    have hj:=his j (wP ..);have hp:(part el (xs.map (Value.int k)).toArray (j*ie.size)).run P w = .ok (.int k (xs.getD j 0)) w:=by
     have:((xs.map (Value.int k)).toArray)[j*1]? = some (.int k (xs.getD j 0)):=by simp [zF,hn,hj]
     simp [part,hag,h1,zF,hn,hj]
    have hc:(Instr.checkKey e (d+1) el (.int k (xs.getD j 0))).run P w = .ok () w:=MapKept.run_checkKey hue (by simp [MapKept.IsKey]) e d;simp only [List.forIn_cons,Sem.run_bind,Zeb hie,hp,Result.andThen_ok,Sem.run_map,hc,Sem.run_pure];exact ih (fun j hj=>his j (yN _ hj))
  rw [show (10000:Nat)=9998+1+1 from rfl];unfold Instr.checkKey;simp only [Sem.run_bind,run_underlying hu,Result.andThen_ok];have:=key 9998 (uW n) (fun j hj=>by simpa using hj);simp only [Std.Legacy.Range.forIn_eq_forIn_range',Std.Legacy.Range.size,Nat.sub_zero,Nat.add_one_sub_one,Nat.div_one,List.range_eq_range'] at this |-;simp at this |-;rw [this];rfl
 | _=>simp [Zkj] at ht
def key_eq {kt:TypeId} {x y:L} {r:Bool} {u v:Value} (ht:Zkj P kt x=true) (hx:Zpg u x) (hy:Zpg v y) (h:ZoG x y=some r) :
  (∀kd,P.underlying kt=some kd->(∃k n,x = .int k n)->Instr.sameNow kd u v=some r)/\((∃k n xs,x = .arr k n xs)->∀w,(Op.equal kt u v).run P w = .ok r w):=by
 unfold ZoG at h;split at h
 ·split at h<;>simp only [zA,reduceCtorEq] at h;rename_i hk;subst hk;subst h;simp only [Zpg] at hx hy;subst hx;subst hy;refine ⟨fun kd hkd _=>?_,fun ⟨_,_,_,h⟩=>by cases h⟩;simp only [Zkj,hkd] at ht;split at ht<;>try (cases ht;done)
  rename_i q hq;cases hq;simp [Instr.sameNow]
 ·split at h<;>simp only [zA,reduceCtorEq] at h;rename_i k n xs k' n' ys hk;obtain ⟨rfl,rfl⟩:=hk;subst h;refine ⟨fun kd hkd ⟨_,_,h⟩=>(by cases h),fun _ w=>?_⟩;let g:G:=⟨fun _=>0,0,fun _=>0,fun _=>none,fun _=>0,fun _=>undef⟩
  obtain ⟨hn,rfl⟩:=hx;obtain ⟨hn',rfl⟩:=hy;simp only [Zkj] at ht;split at ht<;>try (cases ht;done)
  rename_i m el hu;split at ht<;>try (cases ht;done)
  rename_i q ie hue hie;simp only [decide_eq_true_eq] at ht;obtain ⟨rfl,rfl,h1⟩:=ht;have hc : ∀(zs:List Int),zs.length=n->CR g w none (Value.agg (zs.map (Value.int k)).toArray).cells.toList [.arr k n zs]:=fun zs hz=>by
   have:=CR.arr (g:=g) (w:=w) none k n zs [] [] hz (.nil _);simpa [Value.cells] using this
  have hf : ∀(zs:List Int),Zsx P kt (Value.agg (zs.map (Value.int k)).toArray):=fun zs=>⟨fun _=>⟨_,rfl⟩,fun e=>by simp [Zfa,hu] at e⟩
  have he:eqL P 2 kt [.arr k n xs] [.arr k n ys]=some (xs==ys):=by simp [eqL,hu,hue,hie,h1]
  exact ZmJ he (hc xs hn) (hc ys hn') (hf xs) (hf ys) 9998 w
 cases h
def Zqh {kt:TypeId} {x:L} {u:Value} (ht:Zkj P kt x=true) (hx:Zpg u x) : ∀{es:List (L×L)} {en:List MapEntry} {r:Option (Nat×L)},MR g w en es->ZiT es x=some r->∀(j:Nat),
   ∃a,(∀kd,P.underlying kt=some kd->(∃k n,x = .int k n)->Instr.findNow kd u en j=some a)/\((∃k n xs,x = .arr k n xs)->∀w,(Instr.findAsking kt u en j).run P w = .ok a w) /\
   (r=none->a=none)/\∀i v,r=some (i,v)->∃e k,a=some (j+i,e.val)/\en[i]? = some e/\es[i]? = some (k,v)/\LR g w none e.val v/\e.val.oneCell'=true/\Zpg e.key k/\ZoG x k=some true
 | [],en,r,h,hf,j=>by
  cases h;simp only [ZiT,zA] at hf;subst hf;exact ⟨none,fun _ _ _=>rfl,fun _ _=>by simp [Instr.findAsking],fun _=>rfl,fun _ _ h=>by cases h⟩
 | (k,v)::es,en,r,h,hf,j=>by
  cases h with
  | cons e ens _ _ _ hk hv h1 hr=>
   simp only [ZiT] at hf;split at hf
   ·rename_i hke;simp only [zA] at hf;subst hf;obtain ⟨k1,k2⟩:=key_eq ht hx hk hke;refine ⟨some (j,e.val),fun kd hkd hi=>by simp [Instr.findNow,k1 kd hkd hi],fun ha w=>by simp [Instr.findAsking,k2 ha w],fun h=>(by cases h),fun i v' h=>?_⟩;simp only [zA,zE] at h;obtain ⟨rfl,rfl⟩:=h;exact ⟨e,k,rfl,rfl,rfl,hv,h1,hk,hke⟩
   ·rename_i hke;obtain ⟨k1,k2⟩:=key_eq ht hx hk hke;cases hf':ZiT es x with
    | none=>rw [hf'] at hf;cases hf
    | some r'=>
     obtain ⟨a,q1,q2,q3,q4⟩:=Zqh ht hx hr hf' (j+1);refine ⟨a,fun kd hkd hi=>by simp [Instr.findNow,k1 kd hkd hi,q1 kd hkd hi],fun ha w=>by simp [Instr.findAsking,k2 ha w,q2 ha w],fun hn=>?_,fun i v' hr'=>?_⟩
     ·subst hn;cases r' with
      | none=>exact q3 rfl
      | some p=>rw [hf'] at hf;simp at hf
     subst hr';cases r' with
     | none=>rw [hf'] at hf;simp at hf
     | some p=>
      obtain ⟨i',v''⟩:=p;rw [hf'] at hf;simp only [zA,zE] at hf;obtain ⟨rfl,rfl⟩:=hf;obtain ⟨e',k',m1,m2,m3,m4⟩:=q4 i' v'' rfl;exact ⟨e',k',by rw [m1,(aF:j+1+i'=j+(i'+1))],by simpa using m2,by simpa using m3,m4⟩
   cases hf
def ZlM {kt:TypeId} {x:L} {u:Value} (ht:Zkj P kt x=true) (hx:Zpg u x) : ∀{en:List MapEntry} {es:List (L×L)} {r:Option (Nat×L)},MR g w en es->ZiT es x=some r ->
  ∃a,(∀w,(Instr.findKey kt u en).run P w = .ok a w)/\(r=none->a=none)/\∀i v,r=some (i,v)->∃e k,a=some (i,e.val)/\en[i]? = some e/\es[i]? = some (k,v)/\LR g w none e.val v/\e.val.oneCell'=true/\Zpg e.key k/\ZoG x k=some true:=by
 intro en es r hm hf;obtain ⟨a,q1,q2,q3,q4⟩:=Zqh ht hx hm hf 0;refine ⟨a,fun w=>?_,q3,fun i v h=>by obtain ⟨e,k,m⟩:=q4 i v h;exact ⟨e,k,by simpa using m⟩⟩;cases x with
 | int k n=>
  simp only [Zkj] at ht;split at ht<;>try (cases ht;done)
  rename_i q hu;exact MapKept.run_findKey hu (q1 _ hu ⟨k,n,rfl⟩)
 | arr k n xs=>
  have hw:(match P.underlying kt with | some (.array _ _) | some (.struct _)=>true | _=>false)=true:=by
   simp only [Zkj] at ht;split at ht<;>try (cases ht;done)
   rename_i hu;rw [hu]
  rw [run_findKey_eq w hw];exact q2 ⟨k,n,xs,rfl⟩ w
 | _=>simp [Zkj] at ht
def ZsP (hm:ZdK g s w) {oe:List L} {tm:T} {es:List (L×L)} {ps:List Prop} {v:Value} (h:Ztf s oe tm=some (es,ps)) (hp:Zce ps) (hv:TR g s w v tm) : ∃t,Zvv g w t v es:=by
 cases tm with
 | ms n=>
  simp only [Ztf] at h;split at h<;>simp only [zA,zE,reduceCtorEq] at h;rename_i h1;obtain ⟨rfl,rfl⟩:=h;have:=hv.2 _ h1;subst this;exact ⟨_,hm.site n _ h1⟩
 | mm src=>
  cases src with
  | row n ver=>simp [Ztf] at h
  | mem r off ep=>
   simp only [Ztf] at h;split at h<;>try (cases h;done)
   rename_i hep;split at h<;>try (cases h;done)
   rename_i c ps' hc;split at h<;>simp only [zA,zE,reduceCtorEq] at h;rename_i hseg;obtain ⟨rfl,rfl⟩:=h;obtain ⟨h1,h2,t,h3⟩:=Zeg hm hc hp;obtain ⟨vs,h4,h5⟩:=h3.cell;obtain ⟨u,h6,h7,h8⟩:=h4.at1 hseg rfl;simp only [bump,yE] at h8;have:=hv.2.2 u ⟨hep,h2,by rw [h5];exact h6⟩;subst this;exact ⟨_,Zvo.1 h8⟩
 | _=>simp [Ztf] at h
def Zrg (hm:ZdK g s w) {oe:List L} {tm:T} {es:List (L×L)} {ps:List Prop} {v:Value} (h:lookC s oe tm=some (es,ps)) (hp:Zce ps) (hv:TR g s w v tm) : ∃b cl en,v = .map (some b)/\w.heap[b]? = some (.map en cl)/\MR g w en.toList es:=by
 unfold lookC at h;split at h
 ·simp only [zA,zE] at h;obtain ⟨rfl,rfl⟩:=h;cases hv with
  | mz _ b en _ hZ hb he=>
   unfold ZiB at hb;split at hb<;>simp only [zA,reduceCtorEq] at hb;subst hb;rename_i hb;exact ⟨b,_,_,rfl,hb,he⟩
 obtain ⟨t,b,cl,en,h1,_,h2,h3⟩:=ZsP hm h hp hv;exact ⟨b,cl,en,h1,h2,h3⟩
def ZdB.look {o:Oper} {d:D} {tv:TV} {ps:List Prop} (h:Zuf P s d o=some (tv,ps)) (hp:Zce ps):ZdB P o [] s (s.put o.dst tv):=by
 refine .value fun g w a hs=>?_;unfold Zuf at h;split at h<;>try (cases h;done)
 rename_i t x i ok ho;split at h<;>try (cases h;done)
 rename_i kt et tm key ht hx hi;split at h<;>try (cases h;done)
 rename_i es ps' z hc hz;split at h<;>try (cases h;done)
 rename_i hh;obtain ⟨hkt,hag⟩:=hh;obtain ⟨ti,hi1,hi2⟩:=yD.1 hi;have hkey:=ZnQ hi2 (ZbN hs hi1);have hty:P.underlying t=some (.map kt et):=by
  unfold mapTs at ht;split at ht<;>simp only [zA,zE,reduceCtorEq] at ht;rename_i hu;obtain ⟨rfl,rfl⟩:=ht;exact hu
 have hzero : ∃zv,(zeroValue et).run P w = .ok zv w/\LR g w none zv z/\zv.oneCell'=true:=by
  unfold zeroL at hz;split at hz<;>try (cases hz;done)
  rename_i zi hzi;split at hz<;>try (cases hz;done)
  rename_i zv hzv;obtain ⟨z1,z2,z3⟩:=ZjK (g:=g) (w:=w) hz;exact ⟨zv,by simp [zeroValue,typeInfo,hzi,hzv],z1,z2⟩
 have hps:Zce ps':=by
  split at h
  ·split at h<;>simp only [zA,zE,reduceCtorEq] at h;obtain ⟨_,rfl⟩:=h;rw [Zce.cons] at hp;exact hp.2
  ·simp only [zA,zE] at h;obtain ⟨_,rfl⟩:=h;rw [Zce.cons] at hp;exact hp.2
  cases h
 obtain ⟨b,cl,en,hxv,hb,hM⟩:=Zrg hs.mem hc hps (ZbN hs hx).2;have run0 : ∀{a':Option (Nat×Value)},(∀w,(Instr.findKey kt (a.eval i) en.toList).run P w = .ok a' w)->∀{v:Value} {okb:Bool},((∃j,a'=some (j,v))/\okb=true\/a'=none/\okb=false/\(zeroValue et).run P w = .ok v w) ->
   (execOp a.eval o).run P w = .ok (.value (if ok then .tuple #[v,.bool okb] else v)) w:=by
  intro a' hf v okb hcase;have hck:=ZmB (e:=en.isEmpty) hkt hkey w;rcases hcase with ⟨⟨j,rfl⟩,rfl⟩ | ⟨rfl,rfl,hzv⟩
  ·simp only [execOp,ho,Instr.lookup,hxv,Sem.run_bind,run_underlying hty,Result.andThen_ok,MapKept.run_getObj_map hb,hck,hf w,Sem.run_pure]
  simp only [execOp,ho,Instr.lookup,hxv,Sem.run_bind,run_underlying hty,Result.andThen_ok,MapKept.run_getObj_map hb,hck,hf w,Sem.run_pure,hzv]
 split at h
 ·rename_i v hwant hoe;split at h<;>simp only [zA,zE,reduceCtorEq] at h;obtain ⟨rfl,rfl⟩:=h;rw [Zce.cons] at hp;obtain ⟨⟨j,hj⟩,_⟩:=hp;obtain ⟨a',f1,_,f3⟩:=ZlM hkt hkey hM hj;obtain ⟨e,k,rfl,_,_,hv,h1,_⟩:=f3 j v rfl;refine ⟨_,run0 f1 (.inl ⟨⟨j,rfl⟩,rfl⟩),?_⟩;cases ok
  ·exact ⟨h1,hv⟩
  exact ⟨_,rfl,_,_,rfl,⟨h1,hv⟩,_,_,rfl,⟨rfl,.bool _ _⟩,rfl⟩
 ·simp only [zA,zE] at h;obtain ⟨rfl,rfl⟩:=h;rw [Zce.cons] at hp;obtain ⟨a',f1,f2,_⟩:=ZlM hkt hkey hM hp.1;obtain ⟨zv,z1,z2,z3⟩:=hzero;refine ⟨_,run0 f1 (.inr ⟨f2 rfl,rfl,z1⟩),?_⟩;cases ok
  ·exact ⟨z3,z2⟩
  exact ⟨_,rfl,_,_,rfl,⟨z3,z2⟩,_,_,rfl,⟨rfl,.bool _ _⟩,rfl⟩
 cases h
def ZdB.mkMap {o:Oper} {s':S} (h:Zre s o=some s'):ZdB P o o.dst.toList s s'/\(∃tv,s'.sl=(s.put o.dst tv).sl)/\o.dst.toList.all (fun n=>!TV.mens n s.sl)=true:=by
 unfold Zre at h;split at h<;>try (cases h;done)
 rename_i d t hd ho;split at h<;>simp only [zA,reduceCtorEq] at h;rename_i hmen;subst h;rw [hd];refine ⟨fun g w a hs K Q hK=>?_,⟨.one (.ms d),rfl⟩,by simpa using hmen⟩;unfold Oper.wp;have hrun:(execOp a.eval o).run P w = .ok (.value (.map (some w.heap.size))) (w.alloc (.map #[] 0)):=by
  simp [execOp,ho,Instr.makeMap]
 rw [hrun];have hz:=hs.mem.z;have hmp:Zvv (g.new w (.rowS d) d (.map (some w.heap.size))) (w.alloc (.map #[] 0)) (.rowS d) (.map (some w.heap.size)) []:=
  ⟨w.heap.size,0,#[],rfl,⟨Zbq _ _ _,hz _ (zH _)⟩,heap_alloc_new w _,.nil⟩
 have hm:ZdK (g.new w (.rowS d) d (.map (some w.heap.size))) ((s.setEnt d (.mp [])).put (some d) (.one (.ms d))) (w.alloc (.map #[] 0)):=by
  refine ZlH hs.mem (ent:=.mp []) rfl rfl ?_;simp only [Zgf];rw [show (g.new w (.rowS d) d (.map (some w.heap.size))).hd d=_ from Zbq _ _ _];exact hmp
 have k:=Zkh (s':=((s.setEnt d (.mp [])).put (some d) (.one (.ms d)))) (ob:=.map #[] 0) (t:=.rowS d) (d:=d) (hv:=.map (some w.heap.size)) (ent:=.mp []) hs.mem rfl rfl;have k':ZbA (· ∈ (some d).toList) s ((s.setEnt d (.mp [])).put (some d) (.one (.ms d))) g (g.new w (.rowS d) d (.map (some w.heap.size))) w (w.alloc (.map #[] 0)):=by simpa using k
 refine hK _ _ _ (Zoy hz _ (.rowS d) d _) k' ?_;refine hs.next k' (fun n hn=>by simp at hn;subst hn;simpa using hmen) hm (by simp [S.put,S.setEnt]) (dst:=o.dst) (tv:=.one (.ms d)) (by rw [hd];rfl) (fun _=>?_);refine ⟨rfl,⟨_,rfl⟩,fun es he=>?_⟩;exact (Zbq _ _ _).symm
def ZpV (hm:ZdK g s w) {t:Ow} {b cl cl':Nat} {en en':Array MapEntry} (hb:w.heap[b]? = some (.map en cl)) (ho':g.ow b=some t/\g.Z b=0) :
  Zno g g w { w with heap:=w.heap.setIfInBounds b (.map en' cl')} t:=by
 obtain ⟨h1,h2⟩:=MapKept.heap_set (o':=.map en' cl') hb;have ho:=ho'.1;have hcell : ∀b' o,World.cell? { w with heap:=w.heap.setIfInBounds b (.map en' cl')} (ad b' o)=w.cell? (ad b' o):=fun b' o=>by
  by_cases e:b'=b
  ·subst e;simp only [World.cell?,h1,hb]
  simp only [World.cell?,h2 b' e]
 refine ⟨⟨rfl,rfl,rfl,rfl,rfl⟩,⟨fun _ _=>rfl,zH _,fun _=>zH _,fun b' o _=>hcell b' o,fun b' hb'=>ZeE (h2 b' (fun e=>by subst e;have:=ho'.2;omega))⟩,⟨rfl,rfl,rfl⟩,by simp,fun b' hb'=>⟨h2 b' (fun e=>by subst e;exact hb' ho),rfl,rfl⟩,hm.z,fun b' o hv _ h=>by rwa [hcell] at h⟩
def ZpW (hm:ZdK g s w) {oe:List L} {tm:T} {es es':List (L×L)} {ps:List Prop} {v:Value} {s':S} (h:Ztf s oe tm=some (es,ps)) (hp:Zce ps) (hv:TR g s w v tm) (hset:Zmw s oe es' tm=some s') :
  ∃b cl en,v = .map (some b)/\w.heap[b]? = some (.map en cl)/\MR g w en.toList es/\s'.sl=s.sl/\s'.si.length=s.si.length /\
   ∀(en':Array MapEntry) (cl':Nat),(∀w',ZcK g g w w'->MR g w' en'.toList es') ->
    Mod g g w { w with heap:=w.heap.setIfInBounds b (.map en' cl')}/\ZdK g s' { w with heap:=w.heap.setIfInBounds b (.map en' cl')}/\ZbA (· ∈ []) s s' g g w { w with heap:=w.heap.setIfInBounds b (.map en' cl')}:=by
 cases tm with
 | ms n=>
  simp only [Ztf] at h;split at h<;>simp only [zA,zE,reduceCtorEq] at h;rename_i h1;obtain ⟨rfl,rfl⟩:=h;simp only [Zmw,zA] at hset;subst hset;have:=hv.2 _ h1;subst this;obtain ⟨b,cl,en,k1,k2,k3,k4⟩:=hm.site n _ h1;refine ⟨b,cl,en,k1,k3,k4,rfl,by simp [S.setEnt],fun en' cl' hM=>?_⟩;have hi:=ZpV hm (en':=en') (cl':=cl') k3 k2;refine ZlZ hm h1 (.inr ⟨_,_,rfl,rfl⟩) hi fun _=>?_;exact ⟨b,cl',en',k1,k2,(MapKept.heap_set k3).1,hM _ hi.K⟩
 | mm src=>
  cases src with
  | row n ver=>simp [Ztf] at h
  | mem r off ep=>
   simp only [Ztf] at h;split at h<;>try (cases h;done)
   rename_i hep;split at h<;>try (cases h;done)
   rename_i c ps' hc;split at h<;>simp only [zA,zE,reduceCtorEq] at h;rename_i hseg;obtain ⟨rfl,rfl⟩:=h;simp only [Zmw,hc] at hset;obtain ⟨⟨l,c'⟩,hput,rfl⟩:=zI.1 hset;obtain ⟨h1,h2,t,h3⟩:=Zeg hm hc hp;obtain ⟨vs,h4,h5⟩:=h3.cell;obtain ⟨u,h6,h7,h8⟩:=h4.at1 hseg rfl;simp only [bump,yE] at h8;have hcell:w.cell? (ad (g.rb r) off)=some u:=by rw [h5];exact h6
   have:=hv.2.2 u ⟨hep,h2,hcell⟩;subst this;obtain ⟨b,cl,en,k1,k2,k3,k4⟩:=Zvo.1 h8;refine ⟨b,cl,en,k1,k3,k4,(ZdO _ _ _).1,(ZdO _ _ _).2,fun en' cl' hM=>?_⟩;have hi:=ZpV hm (en':=en') (cl':=cl') k3 k2;refine Zqr hm hc hp hput hi fun v' hv' _ _=>?_;rw [hcell] at hv';cases hv';exact Zvo.2 ⟨b,cl',en',k1,k2,(MapKept.heap_set k3).1,hM _ hi.K⟩
 | _=>simp [Ztf] at h
def MR.push : ∀{en:List MapEntry} {es:List (L×L)},MR g w en es->∀{e:MapEntry} {k v:L},Zpg e.key k->LR g w none e.val v->e.val.oneCell'=true->MR g w (en ++ [e]) (es ++ [(k,v)])
 | _,_,.nil,e,k,v,h1,h2,h3=>.cons e [] k v [] h1 h2 h3 .nil
 | _,_,.cons e0 ens k0 v0 es hk hv h1 hr,e,k,v,k1,k2,k3=>.cons e0 _ k0 v0 _ hk hv h1 (MR.push hr k1 k2 k3)
def MR.set : ∀{en:List MapEntry} {es:List (L×L)},MR g w en es->∀{i:Nat} {e:MapEntry} {k v:L},Zpg e.key k->LR g w none e.val v->e.val.oneCell'=true->MR g w (en.set i e) (es.set i (k,v))
 | _,_,.nil,_,_,_,_,_,_,_=>.nil
 | _,_,.cons e0 ens k0 v0 es hk hv h1 hr,0,e,k,v,k1,k2,k3=>.cons e _ k v _ k1 k2 k3 hr
 | _,_,.cons e0 ens k0 v0 es hk hv h1 hr,i+1,e,k,v,k1,k2,k3=>.cons e0 _ k0 v0 _ hk hv h1 (MR.set hr k1 k2 k3)
def Zuh {x k:L} {u v:Value} (hx:Zpg u x) (hk:Zpg v k) (h:ZoG x k=some true) (w:World):v=u/\(Instr.keyThatStays v u).run P w = .ok u w:=by
 have e:v=u:=by
  unfold ZoG at h;split at h
  ·split at h<;>simp only [zA,beq_iff_eq,reduceCtorEq] at h;rename_i hk';subst hk';subst h;simp only [Zpg] at hx hk;rw [hx,hk]
  ·split at h<;>simp only [zA,beq_iff_eq,reduceCtorEq] at h;rename_i hk';obtain ⟨rfl,rfl⟩:=hk';subst h;rw [hx.2,hk.2]
  cases h
 subst e;refine ⟨rfl,?_⟩;have:Instr.sameBits 10000 v v=true:=by
  unfold ZoG at h;split at h
  ·simp only [Zpg] at hx;subst hx;simp [Instr.sameBits]
  ·rename_i kk n xs k' n' ys;obtain ⟨_,rfl⟩:=hx;have : ∀(zs:List Int) (f:Nat),((zs.map (Value.int kk)).zip (zs.map (Value.int kk))).all (fun (x,y)=>Instr.sameBits (f+1) x y)=true:=by
    intro zs f
    induction zs with
    | nil=>rfl
    | cons z zs ih=>simp only [xF,List.zip_cons_cons,yQ,ih,Bool.and_true];simp [Instr.sameBits]
   have h9:=this xs 9998;rw [show (10000:Nat)=9999+1 from rfl];simp only [Instr.sameBits,beq_self_eq_true,wT];exact h9
  cases h
 unfold Instr.keyThatStays;rw [this];simp
def ZsN {α:Type} {l:List α} {f:α->α} {i:Nat} {e:α} (h:l[i]? = some e):l.modify i f=l.set i (f e):=by
 apply vD;intro j;simp only [List.getElem?_modify,List.getElem?_set];by_cases hj:i=j
 ·subst hj;obtain ⟨this,rfl⟩:=zZ.1 h;simp [this]
 simp [hj]
def ZdB.upd {o:Oper} {d:D} {s':S} {ps:List Prop} (h:updOp P s d o=some (s',ps)) (hp:Zce ps):ZdB P o [] s s'/\∃tv,s'.sl=(s.put o.dst tv).sl:=by
 unfold updOp at h;split at h<;>try (cases h;done)
 rename_i t x i y hd ho;split at h<;>try (cases h;done)
 rename_i kt et tm key v ht hx hi hy;split at h<;>try (cases h;done)
 rename_i es ps' hc;split at h<;>try (cases h;done)
 rename_i hh;obtain ⟨hkt,hvs⟩:=hh;obtain ⟨ti,hi1,hi2⟩:=yD.1 hi;obtain ⟨tv,hy1,hy2⟩:=yD.1 hy;have hty:P.underlying t=some (.map kt et):=by
  unfold mapTs at ht;split at ht<;>simp only [zA,zE,reduceCtorEq] at ht;rename_i hu;obtain ⟨rfl,rfl⟩:=ht;exact hu
 have key : ∀(es':List (L×L)),Zmw s d.oc es' tm=some s'->Zce ps'->(∀(g:G) (w:World) (a:Act) (b cl:Nat) (en:Array MapEntry),Sat g s w a.tmps->w.heap[b]? = some (.map en cl)->MR g w en.toList es ->
   Zpg (a.eval i) key->LR g w none (a.eval y) v->(a.eval y).oneCell'=true->∃(en':Array MapEntry) (cl':Nat),(Instr.mapUpdate t (.map (some b)) (a.eval i) (a.eval y)).run P w = .ok () { w with heap:=w.heap.setIfInBounds b (.map en' cl')}/\∀w',ZcK g g w w'->MR g w' en'.toList es') ->
   ZdB P o [] s s'/\∃tv,s'.sl=(s.put o.dst tv).sl:=by
  intro es' hset hps hrun;have hsl:s'.sl=s.sl:=by
   unfold Zmw at hset;split at hset
   ·simp only [zA] at hset;subst hset;rfl
   ·split at hset<;>try (cases hset;done)
    obtain ⟨_,_,rfl⟩:=zI.1 hset;exact (ZdO _ _ _).1
   cases hset
  refine ⟨fun g w a hs K Q hK=>?_,⟨.u,by rw [hd];exact hsl⟩⟩;obtain ⟨b,cl,en,hxv,hb,hM,_,hsil,hgo⟩:=ZpW hs.mem hc hps (ZbN hs hx).2 hset;have hyv:=ZbN hs hy1;rw [ZhT hy2] at hyv;obtain ⟨en',cl',hr,hM'⟩:=hrun g w a b cl en hs hb hM (ZnQ hi2 (ZbN hs hi1)) hyv.2 hyv.1;obtain ⟨k1,k2,k3⟩:=hgo en' cl' hM';unfold Oper.wp;have hexec:(execOp a.eval o).run P w = .ok .skip { w with heap:=w.heap.setIfInBounds b (.map en' cl')}:=by
   simp only [execOp,ho,hxv,Sem.run_bind,hr,Result.andThen_ok,Sem.run_pure]
  rw [hexec];exact hK g _ undef k1 k3 (hs.next k3 (fun _ h=>by cases h) k2 hsil (dst:=o.dst) (tv:=.u) (by rw [hd];exact hsl) (by rw [hd];simp))
 split at h
 ·obtain ⟨s1,hset,h2⟩:=zI.1 h;simp only [zE] at h2;obtain ⟨rfl,rfl⟩:=h2;rw [Zce.cons] at hp;obtain ⟨⟨u,hf⟩,hps⟩:=hp;refine key _ hset hps fun g w a b cl en hs hb hM hkey hv h1=>?_;obtain ⟨a',f1,_,f3⟩:=ZlM hkt hkey hM hf;obtain ⟨e,k,rfl,q1,q2,_,_,q5,q6⟩:=f3 _ _ rfl;obtain ⟨q7,q8⟩:=Zuh (P:=P) hkey q5 q6 w;refine ⟨en.modify d.m fun e=>{ e with key:=a.eval i,val:=a.eval y},cl,?_,fun w' K=>?_⟩
  ·have q1':en[d.m]? = some e:=by simpa using q1
   have hk':(((en[d.m]?).map (·.key)).getD (a.eval i))=e.key:=by rw [q1'];rfl
   simp only [Instr.mapUpdate,Sem.run_bind,run_underlying hty,Result.andThen_ok,MapKept.run_getObj_map hb,ZmB hkt hkey false w,f1 w,hk',q8,MapKept.run_setObj_map _ hb]
  have he:(en.modify d.m fun e=>{ e with key:=a.eval i,val:=a.eval y}).toList=en.toList.set d.m { e with key:=a.eval i,val:=a.eval y}:=by
   rw [Array.toList_modify,ZsN q1]
  rw [he];exact MR.set (hM.keep K) hkey (LR.keep K hv) h1
 obtain ⟨s1,hset,h2⟩:=zI.1 h;simp only [zE] at h2;obtain ⟨rfl,rfl⟩:=h2;rw [Zce.cons] at hp;refine key _ hset hp.2 fun g w a b cl en hs hb hM hkey hv h1=>?_;obtain ⟨a',f1,f2,_⟩:=ZlM hkt hkey hM hp.1;have:=f2 rfl;subst this;refine ⟨en.push { key:=a.eval i,val:=a.eval y,born:=cl},cl+1,?_,fun w' K=>?_⟩
 ·simp only [Instr.mapUpdate,Sem.run_bind,run_underlying hty,Result.andThen_ok,MapKept.run_getObj_map hb,ZmB hkt hkey false w,f1 w,MapKept.run_setObj_map _ hb]
 rw [Array.toList_push];exact MR.push (hM.keep K) hkey (LR.keep K hv) h1
def ZdB.del {o:Oper} {d:D} {s':S} {ps:List Prop} (h:delOp P s d o=some (s',ps)) (hp:Zce ps):ZdB P o [] s s'/\∃tv,s'.sl=(s.put o.dst tv).sl:=by unfold Dn.delOp at h;cases h
end
end Go.Dn
namespace Go.Dn
variable [Globs]
section
variable {P:Program} {g g':G} {s:S} {w w':World}
def Zqp (hm:ZdK g s w) {m:List (Nat×Nat)} (hmv : ∀q∈m,∃ent,s.si[q.1]? = some (some ent)/\Zpd ent) :
  Mod g (g.retag w.heap.size 0 m) w w/\ZdK (g.retag w.heap.size 0 m) (s.drop m) w/\ZbA (· ∈ []) s (s.drop m) g (g.retag w.heap.size 0 m) w w/\ZcK g (g.retag w.heap.size 0 m) w w:=by
 have K:ZcK g (g.retag w.heap.size 0 m) w w:=⟨fun _ _=>rfl,zH _,fun _=>zH _,fun _ _ _=>rfl,fun _ _=>rfl⟩
 have how : ∀b',(∀q∈m,g.ow b'≠some (.rowS q.1))->(g.retag w.heap.size 0 m).ow b'=g.ow b':=fun b' h=>ZnC h;have hS : ∀b',(∀q∈m,g.ow b'≠some (.rowS q.1))->Zhw g (g.retag w.heap.size 0 m) w w b':=fun b' h=>⟨rfl,how b' h,rfl⟩
 refine ⟨⟨K,rfl,rfl,rfl,zH _,fun b hb=>?_,fun b hb h1 h2=>?_,fun i h1 h2=>absurd h2 (by show ¬ i<g.nob;omega)⟩,⟨hm.stl,fun i c h hne=>?_,fun i hi=>?_,fun n ent h=>?_,fun b t h=>?_,hm.z,hm.gl.keep K⟩,⟨K,fun n _ h=>?_,fun n ver _ h=>?_,fun n _ h=>?_,fun _ _ _ _ _ _ _ _ _ h=>.inl h,zH _⟩,K⟩
 ·by_cases hq : ∀q∈m,g.ow b≠some (.rowS q.1)
  ·exact .inl (hS b hq)
  simp only [ne_eq,Classical.not_forall,Classical.not_not] at hq;obtain ⟨q,hq1,hq2⟩:=hq;right;rw [hq2];simp
 ·by_cases hq : ∀q∈m,g.ow b≠some (.rowS q.1)
  ·rw [how b hq] at h1 h2;exact ⟨h1,h2⟩
  simp only [ne_eq,Classical.not_forall,Classical.not_not] at hq;obtain ⟨q,hq1,hq2⟩:=hq;rw [hq2];simp
 ·have h2:=hm.obj i c h hne;exact h2.keep K (hS _ (fun q _ e=>by rw [h2.1] at e;cases e)) (fun b' o hb'=>hS _ (fun q _ e=>by rw [hb'] at e;cases e))
 ·have h1:=hm.objB i hi;show (g.retag w.heap.size 0 m).ow (g.ob i)=_\/(g.retag w.heap.size 0 m).ow (g.ob i)=_;rw [how _ (fun q _ e=>by rcases h1 with h | h<;>(rw [h] at e;cases e))];exact h1
 ·obtain ⟨h1,h2⟩:=Zjr h;have h3:=hm.site n ent h1;cases ent with
  | cells cc=>
   simp only [Zgf] at h3 |-;exact h3.keep K (hS _ (fun q _ e=>by rw [h3.1] at e;cases e)) (fun b' o hb'=>hS _ (fun q _ e=>by rw [hb'] at e;cases e))
  | row ver ee sz xs=>
   simp only [Zgf] at h3 |-;exact h3.keep K (fun b hb'=>hS _ (fun q hq e'=>by rw [hb'] at e';cases e';exact h2 q hq rfl))
  | mp es=>
   simp only [Zgf] at h3 |-;exact h3.keep K (fun b hb'=>hS _ (fun q hq e'=>by rw [hb'] at e';cases e';exact h2 q hq rfl))
 ·by_cases hq : ∀q∈m,g.ow b≠some (.rowS q.1)
  ·rw [how b hq] at h;exact hm.own b t h
  simp only [ne_eq,Classical.not_forall,Classical.not_not] at hq;obtain ⟨q,hq1,hq2⟩:=hq;exact hm.own b _ hq2
 ·obtain ⟨c,h⟩:=h;exact ⟨⟨c,(Zjr h).1⟩,rfl⟩
 ·obtain ⟨e,sz,xs,h⟩:=h;exact .inl ⟨⟨e,sz,xs,(Zjr h).1⟩,rfl⟩
 obtain ⟨es,h⟩:=h;exact ⟨⟨es,(Zjr h).1⟩,rfl⟩
def G.newob (g:G) (w:World):G:={ g with ow:=ZgJ g.ow w.heap.size (some (.obj g.nob)),ob:=ZgJ g.ob g.nob w.heap.size,nob:=g.nob+1}
def ZsK (hm:ZdK g s w) {c:Array Value} {E:TypeId} {ls:List L} (hc:CR g w (some (w.heap.size,0)) c.toList ls) :
  Mod g (g.newob w) w (w.alloc (.cells c E))/\ZdK (g.newob w) { s with st:=s.st ++ [ls]} (w.alloc (.cells c E))/\ZbA (· ∈ []) s { s with st:=s.st ++ [ls]} g (g.newob w) w (w.alloc (.cells c E)):=by
 have hob : ∀i,i<g.nob->(g.newob w).ob i=g.ob i:=fun i hi=>ZcZ _ _ aF;have same : ∀b,b<w.heap.size->Zhw g (g.newob w) w (w.alloc (.cells c E)) b:=fun b hb=>⟨Zev w _ hb,ZcZ _ _ aF,rfl⟩
 have K:ZcK g (g.newob w) w (w.alloc (.cells c E)):=by
  have hlt : ∀b,0<g.Z b->b<w.heap.size:=fun b h=>by
   rcases zX b w.heap.size with h' | h'
   ·exact h'
   rw [hm.z b h'] at h;omega
  exact ⟨hob,Nat.le_succ _,fun _=>zH _,fun b p h=>Zdr (Zev w _ (hlt b aF)),fun b h=>ZeE (Zev w _ (hlt b h))⟩
 have hown : ∀b t,g.ow b=some t->b<w.heap.size:=hm.own;refine ⟨⟨K,rfl,rfl,rfl,by simp,fun b hb=>.inl (same b hb),fun b hb h1 h2=>by rw [(same b hb).2.1] at h1 h2;exact ⟨h1,h2⟩,fun i h1 h2=>?_⟩,⟨?_,fun i cc h hne=>?_,fun i hi=>?_,fun n ent h=>?_,fun b t h=>?_,fun b hb=>?_,hm.gl.keep K⟩,⟨K,fun n _ h=>⟨h,rfl⟩,fun n ver _ h=>.inl ⟨h,rfl⟩,fun n _ h=>⟨h,rfl⟩,fun _ r hg hi hr _ _ off hv h=>?_,zH _⟩⟩
 ·have:i=g.nob:=by have:i<g.nob+1:=h2;omega
  subst this;rw [show (g.newob w).ob g.nob=w.heap.size from Zbq _ _ _];exact zH _
 ·simp only [zU,yX];rw [hm.stl];rfl
 ·by_cases e:i<s.st.length
  ·rw [zS e] at h;have hi:i<g.nob:=by rw [<-hm.stl];exact e
   have h1:=hm.obj i cc h hne;rw [hob i hi];exact h1.keep K (same _ (hown _ _ h1.1)) (fun b' o hb=>same _ (hown _ _ hb))
  rw [yA aF] at h;have hi0:i-s.st.length=0:=by
   rcases Nat.eq_zero_or_pos (i-s.st.length) with h0 | h0
   ·exact h0
   rw [zM (by simp only [yX];omega)] at h;cases h
  rw [hi0] at h;simp only [yJ,zA] at h;subst h;have:i=g.nob:=by have:=hm.stl;omega
  subst this;rw [show (g.newob w).ob g.nob=w.heap.size from Zbq _ _ _];refine ⟨Zbq _ _ _,hm.z _ (zH _),c,E,heap_alloc_new w _,hc.keepO K fun b' o hb=>same _ (hown _ _ hb)⟩
 ·by_cases e:i<g.nob
  ·rw [hob i e];have h1:=hm.objB i e;have hlt:g.ob i<w.heap.size:=by rcases h1 with h | h<;>exact hown _ _ h
   rw [(same _ hlt).2.1];exact h1
  have:i=g.nob:=by have:i<g.nob+1:=hi;omega
  subst this;left;rw [show (g.newob w).ob g.nob=w.heap.size from Zbq _ _ _];exact Zbq _ _ _
 ·have h3:=hm.site n ent h;cases ent with
  | cells cc=>exact Znq.keep K h3 (same _ (hown _ _ h3.1)) (fun b' o hb=>same _ (hown _ _ hb))
  | row ver ee sz xs=>exact ZgO.keep K h3 (fun b hb=>same _ (hown _ _ hb))
  | mp es=>exact Zvv.keep K h3 (fun b hb=>same _ (hown _ _ hb))
 ·simp only [World.size_alloc];by_cases e:b=w.heap.size
  ·omega
  have:(g.newob w).ow b=g.ow b:=ZcZ _ _ e;rw [this] at h;have:=hown b t h;omega
 ·simp only [World.size_alloc] at hb;exact hm.z b aF
 left;have hlt:g.rb r<w.heap.size:=by
  cases r with
  | site n=>obtain ⟨cc,h1⟩:=hr;exact hown _ _ (hm.site n _ h1).1
  | obj i=>rcases hm.objB i hi with h | h<;>exact hown _ _ h
  | glob k=>exact absurd rfl (hg k)
 rwa [Zdr (Zev w _ hlt)] at h
def newLs (P:Program) (s:S) (d:D) (o:Oper):Option (List L×List (Nat×Nat)×List Prop):=
 match o.op with
 | .alloc t=>match P.info? t,ZqD P 40 t with
  | some i,some ls=>match i.zero with
   | some z=>if Zmv (slz (fun i=>if d.ns.contains i then 1 else if d.mv.contains i then 2 else 0) 0 ls) z.cells.toList then some (slz (fun i=>if d.ns.contains i then 1 else if d.mv.contains i then 2 else 0) 0 ls,[],[]) else none
   | none=>none
  | _,_=>none
 | .box _ x=>match (ev s x).bind tvT with
  | some ts=>Zns s d.oe d.mv d.wm 0 ts
  | none=>none
 | _=>none
def newOp (P:Program) (s:S) (d:D) (o:Oper):Option (List Nat×S×List Prop):=
 match o.dst,newLs P s d o with
 | some dd,some (ls,m,ps)=>if ZsJ (m.map (·.1))=true/\(m.all fun q=>decide (q.1≠dd))=true then
   (if d.m=1 then some ([],{ (s.drop m) with st:=s.st ++ [ls]}.put (some dd) (.one (.l (.ptr (some s.st.length)))),ps)
   else if TV.mens dd s.sl then none else some ([dd],((s.drop m).setEnt dd (.cells ls)).put (some dd) (.one (.adr (.site dd) 0)),ps))
  else none
 | _,_=>none
def Zmt {a:Act} {d:D} {o:Oper} {ls:List L} {m:List (Nat×Nat)} {ps:List Prop} (h:newLs P s d o=some (ls,m,ps)) (hp:Zce ps) (hnd:ZsJ (m.map (·.1))=true) (hs:Sat g s w a.tmps) :
  (∀q∈m,∃ent,s.si[q.1]? = some (some ent)/\Zpd ent)/\∃(c:Array Value) (E:TypeId),(execOp a.eval o).run P w = .ok (.value (.pointer (some ⟨w.heap.size,0,none⟩))) (w.alloc (.cells c E)) /\
   CR (g.retag w.heap.size 0 m) w (some (w.heap.size,0)) c.toList ls:=by
 unfold newLs at h;split at h<;>try (cases h;done)
 ·rename_i t ho;split at h<;>try (cases h;done)
  rename_i i ls' hi hl;split at h<;>try (cases h;done)
  rename_i z hz;split at h<;>simp only [zA,zE,reduceCtorEq] at h;rename_i hmat;obtain ⟨rfl,rfl,rfl⟩:=h;exact ⟨fun q hq=>(by cases hq),z.cells,t,by simp [execOp,ho,Instr.alloc,zeroValue,typeInfo,hi,hz,Go.newVar,Go.newRow],ZhB hmat⟩
 rename_i t x ho;split at h<;>try (cases h;done)
 rename_i ts hx;obtain ⟨tv,h1,h2⟩:=yD.1 hx;have hts:=ZjP h2 (ZbN hs h1);refine ⟨Zgx h,(a.eval x).cells,t,by simp [execOp,ho,Instr.box,Go.newVar,Go.newRow],?_⟩;have:=ZfM (b:=w.heap.size) (off:=0) (w':=w) hs.mem (g':=g.retag w.heap.size 0 m) ⟨fun _ _=>rfl,zH _,fun _=>zH _,fun _ _ _=>rfl,fun _ _=>rfl⟩ rfl h hp hts (ZiR hnd) (fun _ _ _ _=>rfl);simpa using this
def ZdB.new {o:Oper} {d:D} {X:List Nat} {s':S} {ps:List Prop} (h:newOp P s d o=some (X,s',ps)) (hp:Zce ps):ZdB P o X s s'/\(∃tv,s'.sl=(s.put o.dst tv).sl)/\X.all (fun n=>!TV.mens n s.sl)=true:=by
 unfold newOp at h;split at h<;>try (cases h;done)
 rename_i dd ls m ps' hd hls;split at h<;>try (cases h;done)
 rename_i hh;obtain ⟨hnd,hmd⟩:=hh;have drops:(s.drop m).sl=s.sl/\(s.drop m).si.length=s.si.length:=⟨rfl,Zsj _ _⟩
 split at h
 ·simp only [zA,zE] at h;obtain ⟨rfl,rfl,rfl⟩:=h;rw [hd];refine ⟨fun g w a hs K Q hK=>?_,⟨.one (.l (.ptr (some s.st.length))),rfl⟩,rfl⟩;obtain ⟨hmv,c,E,hrun,hc⟩:=Zmt hls hp hnd hs;unfold Oper.wp;rw [hrun];obtain ⟨k1,k2,k3,k4⟩:=Zqp hs.mem hmv;obtain ⟨j1,j2,j3⟩:=ZsK k2 (E:=E) hc;have hsk0:=k3.trans j3;have hsk:ZbA (· ∈ []) s ({ (s.drop m) with st:=s.st ++ [ls]}.put (some dd) (.one (.l (.ptr (some s.st.length))))) g ((g.retag w.heap.size 0 m).newob w) w (w.alloc (.cells c E)):=
   ⟨hsk0.keep,hsk0.cells,hsk0.row,hsk0.mp,hsk0.mem,hsk0.ep⟩
  refine hK _ _ _ (k1.trans j1) hsk ?_;refine hs.next hsk (fun _ h=>by cases h) (dst:=o.dst) (tv:=.one (.l (.ptr (some s.st.length)))) ?_ (by simp [S.put,drops.2]) (by rw [hd];rfl) (fun _=>⟨rfl,?_⟩)
  ·exact ⟨j2.stl,j2.obj,j2.objB,fun n ent h=>(by have:=j2.site n ent h;cases ent<;>exact this),j2.own,j2.z,j2.gl⟩
  have hnob:s.st.length=g.nob:=hs.mem.stl;have:(Value.pointer (some ⟨w.heap.size,0,none⟩))=Value.pointer (some ⟨((g.retag w.heap.size 0 m).newob w).ob s.st.length,0,none⟩):=by
   rw [hnob,show ((g.retag w.heap.size 0 m).newob w).ob g.nob=w.heap.size from Zbq _ _ _]
  show LR _ _ _ _ _;rw [this];exact .ref _ _ (by rw [hnob];exact Nat.lt_succ_self _)
 split at h<;>simp only [zA,zE,reduceCtorEq] at h;rename_i hmen;obtain ⟨rfl,rfl,rfl⟩:=h;rw [hd];refine ⟨fun g w a hs K Q hK=>?_,⟨.one (.adr (.site dd) 0),rfl⟩,by simpa using hmen⟩;obtain ⟨hmv,c,E,hrun,hc⟩:=Zmt hls hp hnd hs;unfold Oper.wp;rw [hrun];obtain ⟨k1,k2,k3,k4⟩:=Zqp hs.mem hmv;have hz:=k2.z;obtain ⟨g0,hg0⟩ : ∃g0,g0=g.retag w.heap.size 0 m:=⟨_,rfl⟩
 rw [<-hg0] at k1 k2 k3 k4 hz hc;have KK:=ZhU (g:=g0) (w:=w) hz (.cells c E) (.site dd) dd undef;have hno : ∀b' o,g0.ow b'=some (.rowM w.heap.size o)->Zhw g0 (g0.new w (.site dd) dd undef) w (w.alloc (.cells c E)) b':=fun b' o hb=>Zgm _ _ _ _ _ _ (k2.own _ _ hb);have hm:ZdK (g0.new w (.site dd) dd undef) (((s.drop m).setEnt dd (.cells ls)).put (some dd) (.one (.adr (.site dd) 0))) (w.alloc (.cells c E)):=by
  refine ZlH k2 (ent:=.cells ls) rfl rfl ?_;refine ⟨?_,?_,c,E,?_,?_⟩
  ·show ZgJ g0.ow _ _ (ZgJ g0.sb _ _ _)=_;rw [Zbq,Zbq]
  ·show g0.Z (ZgJ g0.sb _ _ _)=0;rw [Zbq];exact hz _ (zH _)
  ·show (w.alloc _).heap[ZgJ g0.sb _ _ _]? = _;rw [Zbq];exact heap_alloc_new w _
  show CR _ _ (some (ZgJ g0.sb _ _ _,0)) _ _;rw [Zbq];exact hc.keepO KK hno
 have k:ZbA (· ∈ [dd]) (s.drop m) (((s.drop m).setEnt dd (.cells ls)).put (some dd) (.one (.adr (.site dd) 0))) g0 (g0.new w (.site dd) dd undef) w (w.alloc (.cells c E)):=Zkh k2 rfl rfl;have k3':ZbA (· ∈ [dd]) s (s.drop m) g g0 w w:=⟨k3.keep,fun n _=>k3.cells n aG,fun n ver _=>k3.row n ver aG,fun n _=>k3.mp n aG,fun he r hg hi hr hr' _=>k3.mem he r hg hi hr hr' (fun _ _=>by simp),k3.ep⟩
 have kk:=k3'.trans k;refine hK _ _ _ (k1.trans (Zoy hz (.cells c E) (.site dd) dd undef)) kk ?_;refine hs.next kk (fun n hn=>by simp at hn;subst hn;simpa using hmen) hm (by simp [S.put,S.setEnt,drops.2]) (dst:=o.dst) (tv:=.one (.adr (.site dd) 0)) (by rw [hd];rfl) (fun _=>?_);refine ⟨rfl,⟨_,rfl⟩,trivial,fun _=>?_⟩;show _=Value.pointer (some (ad (ZgJ g0.sb _ _ _) 0));rw [Zbq]
end
end Go.Dn
namespace Go.Dn
variable [Globs]
def Zll (s:S) (oc:List L) (sz:Nat) (xs':List (List L)):Src->Option S
 | .row n ver=>some (s.setEnt n (.row ver true sz xs'))
 | .mem r off ep=>match ZgQ s oc r with
  | some (c,_)=>(ZqW c off (.own true sz xs')).map fun x=>s.setRoot r x.2
  | none=>none
def esOp (P:Program) (s:S) (d:D) (o:Oper):Option (S×List Prop):=
 match o.dst,o.op with
 | none,.store t x y=>match ev s x,(ev s y).bind tvT,P.info? t with
  | some (.one (.eadr src sz j off)),some ts,some i=>match Ziw s d.oc src,Zns s [] [] 0 0 ts with
   | some (true,sz',xs,ps),some (ls,[],qs)=>if sz'=sz/\sizes ls=i.size then
     (match d.yes with
     | true=>if off=0/\i.size=sz then (Zll s d.oc sz (xs.set j ls) src).map fun s'=>(s',qs++ps) else none
     | false=>match ZfU d.oe off i.size ls with
      | some x'=>if sizes d.oe=sz then (Zll s d.oc sz (xs.set j x') src).map fun s'=>(s',(xs[j]? = some d.oe)::(qs++ps)) else none
      | none=>none)
    else none
   | _,_=>none
  | _,_,_=>none
 | _,_=>none
section
variable {P:Program} {g g':G} {s:S} {w w':World}
def Zjj (hm:ZdK g s w) {oe:List L} {mv:List Nat} {md:Nat} : ∀{ts:List T} {pos:Nat} {ls:List L} {ps:List Prop} {vs:List Value},Zns s oe mv md pos ts=some (ls,[],ps)->Zce ps->TsR g s w vs ts->CR g w none vs ls
 | [],pos,ls,ps,vs,h,hp,ht=>by
  simp only [Zns,zA,zE] at h;obtain ⟨rfl,_,_⟩:=h;rw [TsR] at ht;subst ht;exact .nil _
 | t::ts,pos,ls,ps,vs,h,hp,ht=>by
  obtain ⟨us,rest,rfl,hu,h2,h3⟩:=ht.inv;rcases Zob h with ⟨x,ls',rfl,h4,rfl⟩ | ⟨i,ls',rfl,h4,rfl⟩ | ⟨n,ver,sz,lo,len,e,xs,qs,ls',m',ps',rfl,hr,h4,he,_,hm',_⟩ | ⟨src,sz,lo,len,xs,qs,ls',ps',rfl,hr,h4,rfl,rfl⟩ | ⟨n,es,ls',m',rfl,hn,h4,_,hm'⟩
  ·have h5:=Zhp (ls:=[x]) (p:=none) (by simp [tLs]) h2;exact h5.join (by simpa [Dn.bump] using Zjj hm h4 hp h3)
  ·rw [TsR] at h2
   ·obtain ⟨v,r0,rfl,hc,⟨_,hi,hv⟩,h0⟩:=h2;rw [TsR] at h0;subst h0;have:=hv trivial;subst this;exact CR.join (.one _ _ _ _ _ (.ref _ _ hi) rfl (.nil _)) (by simpa [Dn.bump] using Zjj hm h4 hp h3)
   ·intro _ _ _ e;cases e
   intro _ _ e;cases e
  ·cases hm'
  ·rw [Zce.append,Zce.append] at hp;obtain ⟨⟨hp1,hp2⟩,hp3⟩:=hp;rw [TsR] at h2
   ·obtain ⟨v,r0,rfl,hc,hv,h0⟩:=h2;rw [TsR] at h0;subst h0;obtain ⟨hv0,t0,k1,k2,_⟩:=Zfs hm hr hp2;obtain ⟨w1,w2,_⟩:=ZhJ hp1;have hsl:=k2.sl (hv.2.2 _ k1) w2;refine CR.join (.one _ _ _ _ _ ?_ hc (.nil _)) (by simpa [Dn.bump] using Zjj hm h4 hp3 h3);rw [w1];exact hsl
   ·intro _ _ _ e;cases e
   intro _ _ e;cases e
  cases hm'
def ER.set (K:ZcK g g' w w') : ∀{xs:List (List L)} {b o sz j:Nat} {x':List L} {vs':List Value},ER g w b o sz xs->j<xs.length ->
  (∀p,(p<o+j*sz\/o+j*sz+sz<=p)->w'.cell? (ad b p)=w.cell? (ad b p))->vs'.length=sz->(∀i v,vs'[i]? = some v->w'.cell? (ad b (o+j*sz+i))=some v)->CR g' w' none vs' x' ->
  ER g' w' b o sz (xs.set j x')
 | [],b,o,sz,j,x',vs',h,hj,_,_,_,_=>by simp at hj
 | x::xs,b,o,sz,j,x',vs',h,hj,hsame,hl,hc,hcr=>by
  cases h with
  | cons _ _ _ vs _ _ hn hcell hx hr=>
   cases j with
   | zero=>
    simp only [Nat.zero_mul,vC] at hsame hc;exact .cons _ _ _ vs' _ _ hl hc hcr (hr.keep' K fun p h1 h2=>hsame p (.inr aF))
   | succ j=>
    have e:(j+1)*sz=sz+j*sz:=by rw [wG];omega
    rw [e] at hsame hc;refine .cons _ _ _ vs _ _ hn (fun i v hi=>?_) (hx.keep K) (ER.set K hr (aR hj) (fun p hp=>hsame p aF) hl (fun i v hi=>by rw [(aF:o+sz+j*sz+i=o+(sz+j*sz)+i)];exact hc i v hi) hcr);have hlt:i<vs.length:=by
     rcases zX i vs.length with h | h
     ·exact h
     rw [zM h] at hi;cases hi
    rw [hsame (o+i) (.inl aF)];exact hcell i v hi
def Zme (hm:ZdK g s w) {t:Ow} {b:Nat} {cur cs:Array Value} {E:TypeId} (hb:w.heap[b]? = some (.cells cur E (0,0))) (ho:g.ow b=some t) (hZ:g.Z b=0):Zno g g w (w.setRow b cs) t:=by
 have hoth : ∀b',b'≠b->(w.setRow b cs).heap[b']? = w.heap[b']? := fun b' h=>setRow_other w _ _ _ h;refine ⟨⟨rfl,rfl,rfl,rfl,rfl⟩,⟨fun _ _=>rfl,zH _,fun _=>zH _,fun b' o h=>?_,fun b' h=>ZeE (hoth b' (fun e=>by subst e;omega))⟩,⟨rfl,rfl,rfl⟩,by simp,fun b' hb'=>⟨hoth b' (fun e=>by subst e;exact hb' ho),rfl,rfl⟩,hm.z,fun b' o hv h1 h2=>?_⟩
 ·by_cases e:b'=b
  ·subst e;omega
  exact Zdr (hoth b' e)
 rwa [Zdr (hoth b' (fun e=>by subst e;exact h1 ho))] at h2
def Zpz (hm:ZdK g s w) {oc:List L} {src:Src} {sz:Nat} {xs xs':List (List L)} {ps:List Prop} {s':S} (hr:Ziw s oc src=some (true,sz,xs,ps)) (hp:Zce ps) (hset:Zll s oc sz xs' src=some s') :
  ∃hv t,Hd g s w src hv/\ZgO g w t hv true sz xs/\s'.sl=s.sl/\s'.si.length=s.si.length/\t ≠ .foreign /\
   ∀w',Zno g g w w' t->ZgO g w' t hv true sz xs'->Mod g g w w'/\ZdK g s' w'/\ZbA (· ∈ []) s s' g g w w':=by
 cases src with
 | row n ver=>
  simp only [Ziw] at hr;split at hr<;>try (cases hr;done)
  rename_i ver' e' sz' xs0 h1;split at hr<;>simp only [zA,zE,reduceCtorEq] at hr;rename_i hv;subst hv;obtain ⟨rfl,rfl,rfl,rfl⟩:=hr;simp only [Zll,zA] at hset;subst hset;refine ⟨g.hd n,.rowS n,⟨⟨_,_,_,h1⟩,rfl⟩,hm.site n _ h1,rfl,by simp [S.setEnt],by simp,fun w' hi hrow=>?_⟩;exact ZlZ hm h1 (.inl ⟨_,_,_,_,_,_,rfl,rfl⟩) hi fun _=>hrow
 | mem r off ep=>
  simp only [Ziw] at hr;split at hr<;>try (cases hr;done)
  rename_i hep;split at hr<;>try (cases hr;done)
  rename_i c ps' hc;split at hr<;>simp only [zA,zE,reduceCtorEq] at hr;rename_i e' sz' xs0 hseg;obtain ⟨rfl,rfl,rfl,rfl⟩:=hr;simp only [Zll,hc] at hset;obtain ⟨⟨l,c'⟩,hput,rfl⟩:=zI.1 hset;obtain ⟨h1,h2,t,h3⟩:=Zeg hm hc hp;obtain ⟨vs,h4,h5⟩:=h3.cell;obtain ⟨v,h6,h7,h8⟩:=h4.at1 hseg rfl;simp only [bump,yE] at h8;have hcell:w.cell? (ad (g.rb r) off)=some v:=by rw [h5];exact h6
  refine ⟨v,_,⟨hep,h2,hcell⟩,Zlw.1 h8,(ZdO _ _ _).1,(ZdO _ _ _).2,by simp,fun w' hi hrow=>?_⟩;refine Zqr hm hc hp hput hi fun v' hv' _ _=>?_;rw [hcell] at hv';cases hv';exact Zlw.2 hrow
def ZdB.es {o:Oper} {d:D} {s':S} {ps:List Prop} (h:esOp P s d o=some (s',ps)) (hp:Zce ps):ZdB P o [] s s'/\∃tv,s'.sl=(s.put o.dst tv).sl:=by
 unfold esOp at h;split at h<;>try (cases h;done)
 rename_i t x y hd ho;split at h<;>try (cases h;done)
 rename_i src sz j off ts i hx hy hi;split at h<;>try (cases h;done)
 rename_i sz' xs ps0 ls qs hr hst;split at h<;>try (cases h;done)
 rename_i hh;obtain ⟨rfl,hls⟩:=hh;obtain ⟨tv,hy1,hy2⟩:=yD.1 hy;have key : ∀(x':List L),Zll s d.oc sz' (xs.set j x') src=some s'->Zce ps0->Zce qs ->
   (∀(g:G) (w:World) (vs us:List Value),us.length=i.size->CR g w none us ls->(∀oe,xs[j]? = some oe->CR g w none vs oe)->vs.length=sz'->off+i.size<=sz'/\CR g w none (vs.take off++us++vs.drop (off+i.size)) x') ->
   ZdB P o [] s s'/\∃tv,s'.sl=(s.put o.dst tv).sl:=by
  intro x' hset hps hqs hel;have hsl:s'.sl=s.sl:=by
   cases src with
   | row n ver=>simp only [Zll,zA] at hset;subst hset;rfl
   | mem r off' ep=>
    simp only [Zll] at hset;split at hset<;>try (cases hset;done)
    obtain ⟨_,_,rfl⟩:=zI.1 hset;exact (ZdO _ _ _).1
  refine ⟨fun g w a hs K Q hK=>?_,⟨.u,by rw [hd];exact hsl⟩⟩;obtain ⟨hv,ow,k1,k2,_,hsil,hfor,hgo⟩:=Zpz hs.mem hr hps hset;obtain ⟨_,_,_,hx2⟩:=ZbN hs hx;obtain ⟨b,ob,n,c,rfl,hjn,hax⟩:=hx2 hv k1;have hts:=ZjP hy2 (ZbN hs hy1);have hcr:=Zjj hs.mem hst hqs hts;rcases k2 with ⟨h0,_⟩ | ⟨_,_,h0,_⟩ | ⟨b',off',cap,cur,E,h0,q2,q3,q4,q5,q6,q7⟩
  ·cases h0
  ·cases h0;omega
  simp only [Value.slice.injEq,zA,Addr.mk.injEq] at h0;obtain ⟨⟨rfl,rfl,-⟩,rfl,rfl⟩:=h0;rw [aD rfl] at q6;obtain ⟨oe,hoe⟩ : ∃oe,xs[j]? = some oe:=⟨_,zQ hjn⟩
  obtain ⟨vs,m1,m2,m3⟩:=q7.get hoe;have hlen:(a.eval y).cells.toList.length=i.size:=by rw [hcr.size];exact hls
  have hlen':(a.eval y).cells.size=i.size:=by simpa using hlen
  have hone : ∀u∈(a.eval y).cells.toList,u.oneCell'=true:=hcr.cells1;have hmul:(j+1)*sz'<=c*sz':=wX _ aF;rw [wG,Nat.one_mul] at hmul;have hel0:=hel g w vs _ hlen hcr (fun oe' h=>by rw [hoe] at h;cases h;exact m3) m1;have hrun:=run_storeCells_at P b (ob+j*sz'+off) E (a.eval y).cells.toList 0 cur w q4 aF hone;simp only [vC] at hrun;obtain ⟨cs,hcs⟩ : ∃cs,cs=(cur.toList.take (ob+j*sz'+off)++(a.eval y).cells.toList++cur.toList.drop (ob+j*sz'+off+(a.eval y).cells.toList.length)):=⟨_,rfl⟩
  rw [<-hcs] at hrun;have hi':=Zme hs.mem (cs:=cs.toArray) q4 q3 q6;have hnew:(w.setRow b cs.toArray).heap[b]? = some (.cells cs.toArray E (0,0)):=setRow_heap w _ cur _ E _ q4;have hcsl:cs.length=cur.size:=by subst hcs;simp;omega
  have hcell : ∀p,(w.setRow b cs.toArray).cell? (ad b p)=cs[p]? := fun p=>by simp [World.cell?,hnew]
  have hcold : ∀p,w.cell? (ad b p)=cur.toList[p]? := fun p=>by simp [World.cell?,q4]
  have hcsame : ∀p,(p<ob+j*sz'+off\/ob+j*sz'+off+i.size<=p)->cs[p]? = cur.toList[p]? := fun p hp=>by
   subst hcs;rcases hp with hp | hp
   ·rw [yH,zS aH,yT,aD hp]
   rw [yA aH];simp only [zU,wB,xG,hlen]
   congr 1
   have:ob+j*sz'+off<=cur.toList.length:=by simp;omega
   omega
  have hcnew : ∀p,p<i.size->cs[ob+j*sz'+off+p]? = (a.eval y).cells.toList[p]? := fun p hp=>by
   subst hcs;have e1:(cur.toList.take (ob+j*sz'+off)).length=ob+j*sz'+off:=by simp;omega
   rw [yH,yA aF,zS aF,e1]
   congr 1;omega
  have hER:ER g (w.setRow b cs.toArray) b ob sz' (xs.set j x'):=by
   have hel1:=hel g (w.setRow b cs.toArray) vs _ hlen (hcr.keep hi'.K) (fun oe' h=>by rw [hoe] at h;cases h;exact m3.keep hi'.K) m1;refine ER.set hi'.K q7 hjn (fun p hp=>?_) (vs':=vs.take off++(a.eval y).cells.toList++vs.drop (off+i.size)) aH (fun p v hv=>?_) hel1.2
   ·rw [hcell,hcold];exact hcsame p aF
   rw [hcell];by_cases h1:p<off
   ·rw [yH,zS aH,yT,aD h1] at hv;rw [hcsame _ (.inl aF),<-hcold];exact m2 p v hv
   by_cases h2:p<off+i.size
   ·rw [yH,yA aH,zS aH] at hv;have e1:(vs.take off).length=off:=by simp;omega
    rw [e1] at hv;have:=hcnew (p-off) aF;rw [(aF:ob+j*sz'+off+(p-off)=ob+j*sz'+p)] at this;rw [this];exact hv
   rw [yA aH] at hv;have e1:(vs.take off++(a.eval y).cells.toList).length=off+i.size:=by simp;omega
   rw [e1,xG,(aF:off+i.size+(p-(off+i.size))=p)] at hv;rw [hcsame _ (.inr aF),<-hcold];exact m2 p v hv
  have hrow:ZgO g (w.setRow b cs.toArray) ow (.slice (some (ad b ob)) xs.length c) true sz' (xs.set j x'):=by
   refine .inr (.inr ⟨b,ob,c,cs.toArray,E,by simp,by simpa using q2,q3,hnew,by simp;omega,by rw [aD rfl];exact q6,hER⟩)
  obtain ⟨k5,k6,k7⟩:=hgo _ hi' hrow;have hexec:(execOp a.eval o).run P w = .ok .skip (w.setRow b cs.toArray):=by
   have h1:(storeVar t (ad b (ob+j*sz'+off)) (a.eval y)).run P w = .ok () (w.setRow b cs.toArray):=by
    unfold storeVar;rw [Sem.run_bind,Zeb hi];have hne : ¬ ((a.eval y).cells.size≠i.size):=by simpa using hlen
    simp only [Result.andThen_ok,Sem.run_ite,aE hne];exact hrun
   simp [execOp,ho,hax,Instr.storeAt,Instr.sureAddr,h1]
  unfold Oper.wp;rw [hexec];exact hK g _ undef k5 k7 (hs.next k7 (fun _ h=>by cases h) k6 hsil (dst:=o.dst) (tv:=.u) (by rw [hd];exact hsl) (by rw [hd];simp))
 split at h
 ·split at h<;>try (cases h;done)
  rename_i hh;obtain ⟨rfl,hsz⟩:=hh;obtain ⟨s1,hset,h2⟩:=zI.1 h;simp only [zE] at h2;obtain ⟨rfl,rfl⟩:=h2;rw [Zce.append] at hp;refine key ls hset hp.2 hp.1 fun g w vs us hu hc _ hvs=>⟨aF,?_⟩
  rw [uD,List.nil_append,yE,List.drop_eq_nil_of_le aF,List.append_nil];exact hc
 split at h<;>try (cases h;done)
 rename_i x' hrep;split at h<;>try (cases h;done)
 rename_i hoe;obtain ⟨s1,hset,h2⟩:=zI.1 h;simp only [zE] at h2;obtain ⟨rfl,rfl⟩:=h2;rw [Zce.cons,Zce.append] at hp;refine key x' hset hp.2.2 hp.2.1 fun g w vs us hu hc hold hvs=>?_;have:=(hold _ hp.1).repl hrep (by simpa [Dn.bump] using hc) hu;exact ⟨aF,this.2⟩
end
end Go.Dn
namespace Go.Dn
variable [Globs]
def isEadr (s:S) (x:Operand):Bool:=
 match ev s x with
 | some (.one (.eadr _ _ _ _))=>true
 | _=>false
def isSlice (s:S) (x:Operand):Bool:=
 match ev s x with
 | some (.one (.h _ _ _ _))=>true
 | some (.one (.l (.sl _ _)))=>true
 | _=>false
def isNum (s:S) (x:Operand):Bool:=
 match ev s x with
 | some (.one (.l (.int _ _)))=>true
 | some (.one (.l (.str _)))=>true
 | _=>false
def isStrT (P:Program) (t:TypeId):Bool:=
 match P.underlying t with
 | some .string=>true
 | _=>false
def stepC (P:Program):Zjg:=fun s o d=>
 match o.op with
 | .load _ _=>(ldOp P s d.oc d.oe o).map fun r=>([],s.put o.dst r.1,r.2)
 | .store _ x _=>if isEadr s x then (esOp P s d o).map fun r=>([],r.1,r.2) else (stOp P s d.oc d.oe d.mv d.wm o).map fun r=>([],r.1,r.2)
 | .alloc _=>newOp P s d o
 | .box _ _=>newOp P s d o
 | .pick _ _ _=>(ZtO s o d).map fun r=>([],s.put o.dst r.1,r.2)
 | .buildSlice _ _ _=>(bsOp P s o).map fun r=>(o.dst.toList,r,[])
 | .build _ _=>(Zro P s d o).map fun r=>([],s.put o.dst r.1,r.2)
 | .slice _ x _ _ _=>if isSlice s x then (slOp P s o d).map fun r=>([],s.put o.dst r.1,r.2) else (aslOp P s o).map fun r=>([],s.put o.dst r.1,r.2)
 | .makeMap _ _=>(Zre s o).map fun r=>(o.dst.toList,r,[])
 | .lookup _ _ _ _=>(Zuf P s d o).map fun r=>([],s.put o.dst r.1,r.2)
 | .mapUpdate _ _ _ _=>(updOp P s d o).map fun r=>([],r.1,r.2)
 | .convert _ t _=>if isStrT P t then (ZuN P s d o).map fun r=>([],s.put o.dst r.1,r.2) else (pv P s o).map fun r=>([],s.put o.dst r.1,r.2)
 | .index _ _ _=>(idxOp P s o).map fun r=>([],s.put o.dst r.1,r.2)
 | .binOp op _ x _ _=>if (op == .eql||op == .neq) && !isNum s x then (eqOp P s o).map fun r=>([],s.put o.dst r,[]) else (pv P s o).map fun r=>([],s.put o.dst r.1,r.2)
 | .assign _=>if d.m=1 then ZtV P s o else (pv P s o).map fun r=>([],s.put o.dst r.1,r.2)
 | .call { callee:=.builtin .append,.. }=>Zvj P s o d
 | .call { callee:=.builtin .delete,.. }=>(delOp P s d o).map fun r=>([],r.1,r.2)
 | .call { callee:=.value (.func _),.. }=>Zqt P s o d
 | _=>(pv P s o).map fun r=>([],s.put o.dst r.1,r.2)
def stepC_ok (P:Program):Zgs P (stepC P):=by
 intro s o d X s' ps h hp;have put : ∀{α:Type} {x:Option α} {f:α->TV} {g:α->List Prop},(∀r,x=some r->Zce (g r)->ZdB P o [] s (s.put o.dst (f r)))->x.map (fun r=>(([]:List Nat),s.put o.dst (f r),g r))=some (X,s',ps) ->
   ZdB P o X s s'/\(∃tv,s'.sl=(s.put o.dst tv).sl)/\X.all (fun n=>!TV.mens n s.sl)=true:=by
  intro α x f g hok hx;obtain ⟨r,h1,h2⟩:=zI.1 hx;simp only [zE] at h2;obtain ⟨rfl,rfl,rfl⟩:=h2;exact ⟨hok r h1 hp,⟨_,rfl⟩,rfl⟩
 have two : ∀{x:Option (S×List Prop)},(∀s' ps,x=some (s',ps)->Zce ps->ZdB P o [] s s'/\∃tv,s'.sl=(s.put o.dst tv).sl)->x.map (fun r=>(([]:List Nat),r.1,r.2))=some (X,s',ps) ->
   ZdB P o X s s'/\(∃tv,s'.sl=(s.put o.dst tv).sl)/\X.all (fun n=>!TV.mens n s.sl)=true:=by
  intro x hok hx;obtain ⟨r,h1,h2⟩:=zI.1 hx;simp only [zE] at h2;obtain ⟨rfl,rfl,rfl⟩:=h2;obtain ⟨k1,k2⟩:=hok _ _ h1 hp;exact ⟨k1,k2,rfl⟩
 have pvc:(pv P s o).map (fun r=>(([]:List Nat),s.put o.dst r.1,r.2))=some (X,s',ps)->ZdB P o X s s'/\(∃tv,s'.sl=(s.put o.dst tv).sl)/\X.all (fun n=>!TV.mens n s.sl)=true:=
  put (f:=tX) (g:=tY) fun r hr hq=>.pv hr hq
 unfold stepC at h;split at h
 ·exact put (f:=tX) (g:=tY) (fun r hr hq=>.ld hr hq) h
 ·split at h
  ·exact two (fun s' ps hr hq=>ZdB.es hr hq) h
  exact two (fun s' ps hr hq=>⟨.store hr hq,stOp_sl hr⟩) h
 ·exact ZdB.new h hp
 ·exact ZdB.new h hp
 ·exact put (f:=tX) (g:=tY) (fun r hr hq=>.pick hr hq) h
 ·obtain ⟨r,h1,h2⟩:=zI.1 h;simp only [zE] at h2;obtain ⟨rfl,rfl,rfl⟩:=h2;obtain ⟨dd,hd,h3⟩:=ZdB.bs h1;obtain ⟨h4,h5⟩:=bsOp_sl h1;exact ⟨by rw [hd];exact h3,h4,h5⟩
 ·exact put (f:=tX) (g:=tY) (fun r hr hq=>.build (ps:=r.2) hr) h
 ·split at h
  ·exact put (f:=tX) (g:=tY) (fun r hr hq=>.slice hr hq) h
  exact put (f:=tX) (g:=tY) (fun r hr hq=>.asl hr hq) h
 ·obtain ⟨r,h1,h2⟩:=zI.1 h;simp only [zE] at h2;obtain ⟨rfl,rfl,rfl⟩:=h2;exact ZdB.mkMap h1
 ·exact put (f:=tX) (g:=tY) (fun r hr hq=>.look hr hq) h
 ·exact two (fun s' ps hr hq=>ZdB.upd hr hq) h
 ·split at h
  ·exact put (f:=tX) (g:=tY) (fun r hr hq=>.conv hr hq) h
  exact pvc h
 ·exact put (f:=tX) (g:=tY) (fun r hr hq=>.idx hr hq) h
 ·split at h
  ·exact put (f:=id) (g:=fun _=>[]) (fun r hr hq=>.eq hr) h
  exact pvc h
 ·split at h
  ·exact ⟨.nil h,(Zox h).1,(Zox h).2⟩
  exact pvc h
 ·exact ⟨.append h hp,(Zpb h).1,(Zpb h).2⟩
 ·exact two (fun s' ps hr hq=>ZdB.del hr hq) h
 ·exact ⟨.call h hp,(Zqs h).1,(Zqs h).2⟩
 exact pvc h
def Ztq (P:Program):Zjg:=fun s o d=>stepC P (s.freeze d.fz) o d
def stepF_ok (P:Program):Zgs P (Ztq P):=by
 intro s o d X s' ps h hp;obtain ⟨h1,⟨tv,h2⟩,h3⟩:=stepC_ok P _ o d X s' ps h hp;have e:=Zqg d.fz s;refine ⟨h1.freeze,⟨tv,?_⟩,by rwa [e] at h3⟩;rw [h2];cases o.dst<;>simp [S.put,e]
inductive Cmp where
 | t (v:TV)
 | m (si:List (Option Ent)) (st:List (List L)) (ep:Nat)
structure DR where
 ds:List (Nat×D)
 hv:Nat
 Hs:List Nat
 dh:List (Nat×Nat×D):=[]
def dAt2 (r:DR) (i H:Nat):D:=
 match r.dh.find? fun x=>x.1==i&&x.2.1==H with
 | some x=>x.2.2
 | none=>dAt r.ds i
def Zss:List Oper->List Nat->List Nat
 | [],acc=>acc
 | o::os,acc=>Zss os (acc ++ [o.after.toList.foldl (fun s e=>if Region.binds .any e then (s ||| 2^e.on) ||| acc.getD e.on 0 else s) 0])
def atF (f:Nat->TV->TV->TV):List (Option Nat)->List TV->Nat->Nat->TV->TV
 | some d::ds,t::ts,j,n,b=>if d=n then f j t b else atF f ds ts (j+1) n b
 | none::ds,_::ts,j,n,b=>atF f ds ts (j+1) n b
 | _,_,_,_,b=>b
def slF (f:Nat->TV->TV->TV) (dsts:List (Option Nat)) (tvs:List TV):Nat->List TV->List TV
 | _,[]=>[]
 | k,b::bs=>atF f dsts tvs 0 k b::slF f dsts tvs (k+1) bs
def slM (M:Nat->Bool):Nat->TV->TV->TV:=fun j t b=>if M j then t else b
def slP (an:List Nat) (i:Nat):Nat->TV->TV->TV:=fun j t b=>if (an.getD i 0).testBit j then t else if j=i\/(an.getD j 0).testBit i=true then b else .u
structure DC where
 base:List TV
 dsts:List (Option Nat)
 tvs:List TV
 an:List Nat
 ops:List Oper
 r:DR
def DC.poor (c:DC) (i:Nat) (m:S):S:={ sl:=slF (slP c.an i) c.dsts c.tvs 0 c.base,si:=m.si,st:=m.st,ep:=m.ep}
def Zpq (step:Zjg) (c:DC):List Nat->List (Nat×S)->List (Nat×S)
 | [],tab=>tab
 | H::Hs,tab=>match tab.lookup (H-2^H.log2) with
  | some m=>match c.ops[H.log2]? with
   | some o=>match grd c.dsts (c.poor H.log2 m) o (dAt2 c.r H.log2 (H-2^H.log2)).want with
    | some (true,_)=>match step (c.poor H.log2 m) o (dAt2 c.r H.log2 (H-2^H.log2)) with
     | some (_,s',_)=>Zpq step c Hs (tab ++ [(H,{ sl:=[],si:=s'.si,st:=s'.st,ep:=s'.ep})])
     | none=>Zpq step c Hs tab
    | _=>Zpq step c Hs tab
   | none=>Zpq step c Hs tab
  | none=>Zpq step c Hs tab
def fits (c:DC) (i H:Nat):Bool:=
 !H.testBit i&&((c.an.getD i 0 &&& c.r.hv) &&& H==(c.an.getD i 0 &&& c.r.hv))&&((uW c.ops.length).all fun j=>!(H.testBit j&&(c.an.getD j 0).testBit i))
def menO (an:List Nat) (i n:Nat):Nat->List TV->Bool
 | _,[]=>true
 | j,t::ts=>(decide (j=i)||(an.getD j 0).testBit i || !t.men n)&&menO an i n (j+1) ts
def chk1 (step:Zjg) (c:DC) (tab:List (Nat×S)) (i:Nat) (o:Oper) (H:Nat) (m:S):Option (List Prop×List (Cmp×Cmp)):=
 match grd c.dsts (c.poor i m) o (dAt2 c.r i H).want with
 | some (true,qs)=>match step (c.poor i m) o (dAt2 c.r i H) with
  | some (X,s',ps)=>match (if c.r.hv.testBit i then tab.lookup (H ||| 2^i) else some m) with
   | some m'=>if X.all (fun n=>!TV.mens n c.base&&menO c.an i n 0 c.tvs) then
     some (qs++ps,(match o.dst with
      | some d=>[(.t (s'.sl.getD d .u),.t (c.tvs.getD i .u))]
      | none=>[]) ++ [(.m s'.si s'.st s'.ep,.m m'.si m'.st m'.ep)]) else none
   | none=>none
  | none=>none
 | some (false,qs)=>if c.r.hv.testBit i then none else some (qs,[(.t (.tup []),.t (c.tvs.getD i .u))])
 | none=>none
def chkH (step:Zjg) (c:DC) (tab:List (Nat×S)) (i:Nat) (o:Oper):List (Nat×S)->Option (List Prop×List (Cmp×Cmp))
 | []=>some ([],[])
 | (H,m)::r=>if fits c i H then
   match chk1 step c tab i o H m,chkH step c tab i o r with
   | some (ps,es),some (qs,fs)=>some (ps++qs,es++fs)
   | _,_=>none
  else chkH step c tab i o r
def Zsn (step:Zjg) (c:DC) (tab:List (Nat×S)):Nat->List Oper->Option (List Prop×List (Cmp×Cmp))
 | _,[]=>some ([],[])
 | i,o::os=>match chkH step c tab i o tab,Zsn step c tab (i+1) os with
  | some (ps,es),some (qs,fs)=>some (ps++qs,es++fs)
  | _,_=>none
def Zkg:List (Option Nat)->Bool
 | []=>true
 | some d::ds=>!ds.contains (some d)&&Zkg ds
 | none::ds=>Zkg ds
def Zja:Nat->List Oper->Bool
 | _,[]=>true
 | i,o::os=>(o.after.toList.all fun e=>!Region.binds .any e||decide (e.on<i))&&Zja (i+1) os
def ZoT (step:Zjg) (ops:List Oper) (s:S) (r:DR):Option (S×List Prop×List (Cmp×Cmp)):=
 match ZgX step (ops.map (·.dst)) ops 0 s r.ds with
 | some (sF,_)=>
  let c:DC:={ base:=s.sl,dsts:=ops.map (·.dst),tvs:=(ops.map (·.dst)).map fun d=>match d with | some n=>sF.sl.getD n .u | none=>.u,an:=Zss ops [],ops:=ops,r:=r}
  let tab:=Zpq step c r.Hs [(0,s)]
  if Zkg c.dsts&&Zja 0 ops&&((uW r.hv.log2.succ).all fun j=>!r.hv.testBit j||decide (j<ops.length)) then
   match Zsn step c tab 0 ops,tab.lookup r.hv with
   | some (ps,es),some m=>some ({ sl:=slF (slM fun _=>true) c.dsts c.tvs 0 s.sl,si:=m.si,st:=m.st,ep:=m.ep},ps,es)
   | _,_=>none
  else none
 | none=>none
section
variable {P:Program} {g g':G} {s:S} {w w':World}
def ZhZ : ∀{dsts:List (Option Nat)} {tvs:List TV} {k n:Nat} {b:TV},(∃j t,dsts[j]? = some (some n)/\tvs[j]? = some t/\∀f,atF f dsts tvs k n b=f (k+j) t b) \/
  ((∀f,atF f dsts tvs k n b=b)/\∀j,j<tvs.length->dsts[j]? ≠ some (some n))
 | [],tvs,k,n,b=>.inr ⟨fun f=>by simp [atF],fun j _ h=>by simp at h⟩
 | d::ds,[],k,n,b=>.inr ⟨fun f=>by cases d<;>simp [atF],fun j h=>by simp at h⟩
 | some d::ds,t::ts,k,n,b=>by
  by_cases e:d=n
  ·subst e;exact .inl ⟨0,t,rfl,rfl,fun f=>by simp [atF]⟩
  rcases ZhZ (dsts:=ds) (tvs:=ts) (k:=k+1) (n:=n) (b:=b) with ⟨j,t',h1,h2,h3⟩ | ⟨h1,h2⟩
  ·exact .inl ⟨j+1,t',by simpa using h1,by simpa using h2,fun f=>by simp only [atF,aE e];rw [h3];congr 1;omega⟩
  refine .inr ⟨fun f=>by simp only [atF,aE e];exact h1 f,fun j hj h=>?_⟩;cases j with
  | zero=>simp at h;exact e h
  | succ j=>exact h2 j (aR hj) (aR h)
 | none::ds,t::ts,k,n,b=>by
  rcases ZhZ (dsts:=ds) (tvs:=ts) (k:=k+1) (n:=n) (b:=b) with ⟨j,t',h1,h2,h3⟩ | ⟨h1,h2⟩
  ·exact .inl ⟨j+1,t',by simpa using h1,by simpa using h2,fun f=>by simp only [atF];rw [h3];congr 1;omega⟩
  refine .inr ⟨fun f=>by simp only [atF];exact h1 f,fun j hj h=>?_⟩;cases j with
  | zero=>simp at h
  | succ j=>exact h2 j (aR hj) (aR h)
def ZiF {f:Nat->TV->TV->TV} {dsts:List (Option Nat)} {tvs:List TV} : ∀{base:List TV} {k n:Nat},(slF f dsts tvs k base)[n]? = (base[n]?).map fun b=>atF f dsts tvs 0 (k+n) b
 | [],k,n=>by simp [slF]
 | b::bs,k,0=>by simp [slF]
 | b::bs,k,n+1=>by
  simp only [slF,List.getElem?_cons_succ];have:=ZiF (f:=f) (dsts:=dsts) (tvs:=tvs) (base:=bs) (k:=k+1) (n:=n);rw [this,(aF:k+1+n=k+(n+1))]
def ZkG {f:Nat->TV->TV->TV} {dsts:List (Option Nat)} {tvs:List TV} : ∀{base:List TV} {k:Nat},(slF f dsts tvs k base).length=base.length
 | [],_=>rfl
 | _::_,_=>by simp [slF,ZkG]
def ZnN : ∀{ds:List (Option Nat)},Zkg ds=true->∀{i j n:Nat},ds[i]? = some (some n)->ds[j]? = some (some n)->i=j
 | [],_,i,j,n,h1,_=>by simp at h1
 | d::ds,h,i,j,n,h1,h2=>by
  have htl:Zkg ds=true:=by
   cases d with
   | none=>exact h
   | some d=>simp only [Zkg,zV] at h;exact h.2
  have hno : ∀k,d=some n->ds[k]? ≠ some (some n):=fun k hd hk=>by
   subst hd;simp only [Zkg,zV,vR] at h;have:ds.contains (some n)=true:=by rw [List.contains_iff_mem];exact List.mem_of_getElem? hk
   rw [this] at h;exact absurd h.1 aG
  cases i with
  | zero=>
   cases j with
   | zero=>rfl
   | succ j=>simp at h1 h2;exact absurd h2 (hno j h1)
  | succ i=>
   cases j with
   | zero=>simp at h1 h2;exact absurd h1 (hno i h2)
   | succ j=>exact congrArg Nat.succ (ZnN htl (n:=n) (aR h1) (aR h2))
def Zsf {acc:List Nat} {k:Nat} : ∀{l:List Edge} {s0:Nat},(l.foldl (fun s e=>if Region.binds .any e then (s ||| 2^e.on) ||| acc.getD e.on 0 else s) s0).testBit k=true ->
  s0.testBit k=true\/∃e∈l,Region.binds .any e=true/\(k=e.on\/(acc.getD e.on 0).testBit k=true)
 | [],s0,h=>.inl h
 | e::l,s0,h=>by
  rw [List.foldl_cons] at h;rcases Zsf h with h | ⟨e',h1,h2⟩
  ·split at h
   ·rename_i hb;simp only [Nat.testBit_or,Bool.or_eq_true] at h;rcases h with (h | h) | h
    ·exact .inl h
    ·rw [Nat.testBit_two_pow] at h;exact .inr ⟨e,wP ..,hb,.inl (by simpa using (of_decide_eq_true h).symm)⟩
    exact .inr ⟨e,wP ..,hb,.inr h⟩
   exact .inl h
  exact .inr ⟨e',yN _ h1,h2⟩
def Zqw : ∀{ops:List Oper} {acc:List Nat},(∀k,k<acc.length->(Zss ops acc).getD k 0=acc.getD k 0)/\∀{j:Nat} {o:Oper},ops[j]? = some o->(∀e∈o.after.toList,Region.binds .any e=true->e.on<acc.length+j) ->
  ∀{k:Nat},((Zss ops acc).getD (acc.length+j) 0).testBit k=true->∃e∈o.after.toList,Region.binds .any e=true/\(k=e.on\/((Zss ops acc).getD e.on 0).testBit k=true)
 | [],acc=>⟨fun k hk=>rfl,fun h=>by simp at h⟩
 | o::os,acc=>by
  obtain ⟨h1,h2⟩:=Zqw (ops:=os) (acc:=acc ++ [o.after.toList.foldl (fun s e=>if Region.binds .any e then (s ||| 2^e.on) ||| acc.getD e.on 0 else s) 0]);have h1' : ∀k,k<acc.length->(Zss (o::os) acc).getD k 0=acc.getD k 0:=fun k hk=>by
   simp only [Zss];rw [h1 k aH];simp [zF,zS hk]
  refine ⟨h1',fun {j o'} ho' he {k} hk=>?_⟩;cases j with
  | zero=>
   simp only [yJ,zA] at ho';subst ho';have e1:(Zss (o::os) acc).getD (acc.length+0) 0=o.after.toList.foldl (fun s e=>if Region.binds .any e then (s ||| 2^e.on) ||| acc.getD e.on 0 else s) 0:=by
    simp only [Zss,vC];rw [h1 acc.length aG];simp [zF]
   rw [e1] at hk;rcases Zsf hk with h | ⟨e,h3,h4,h5⟩
   ·simp at h
   refine ⟨e,h3,h4,h5.imp id fun h=>?_⟩;rw [h1' e.on (by simpa using he e h3 h4)];exact h
  | succ j=>
   simp only [Zss] at hk |-;exact h2 (aR ho') (fun e h3 h4=>by have:=he e h3 h4;simp;omega) (by simpa [(aF:acc.length+(j+1)=acc.length+1+j)] using hk)
def Zhs : ∀{ops:List Oper} {i j:Nat} {o:Oper},Zja i ops=true->ops[j]? = some o->∀e∈o.after.toList,Region.binds .any e=true->e.on<i+j
 | [],i,j,o,_,h=>by simp at h
 | o0::os,i,j,o,hk,h=>by
  simp only [Zja,zV,xM] at hk;intro e he hb;cases j with
  | zero=>
   simp only [yJ,zA] at h;subst h;have:=hk.1 e he;simpa [hb] using this
  | succ j=>have:=Zhs hk.2 (aR h) e he hb;omega
def Zst {ops:List Oper} {M:Nat->Bool} (hk:Zja 0 ops=true) (hM : ∀j o,ops[j]? = some o->M j=true->∀e∈o.after.toList,Region.binds .any e=true->M e.on=true) :
  ∀(j:Nat) {o:Oper},ops[j]? = some o->(∀e∈o.after.toList,Region.binds .any e=true->M e.on=true)->∀{k:Nat},((Zss ops []).getD j 0).testBit k=true->M k=true:=by
 intro j
 induction j using Nat.strongRecOn with
 | ind j ih=>
  intro o ho he k hb;obtain ⟨e,h1,h2,h3⟩:=(Zqw (ops:=ops) (acc:=[])).2 (j:=j) ho (fun e h1 h2=>by simpa using Zhs hk ho e h1 h2) (k:=k) (aR hb);have hlt:e.on<j:=by simpa using Zhs hk ho e h1 h2
  rcases h3 with rfl | h3
  ·exact he e h1 h2
  have hj:j<ops.length:=by
   rcases zX j ops.length with h | h
   ·exact h
   rw [zM h] at ho;cases ho
  have ho':ops[e.on]? = some ops[e.on]:=zQ aF;exact ih e.on hlt ho' (hM e.on _ ho' (he e h1 h2)) h3
def ZoV {step:Zjg} {c:DC} {tab:List (Nat×S)} {i:Nat} {o:Oper} : ∀{l:List (Nat×S)} {ps:List Prop} {es:List (Cmp×Cmp)},chkH step c tab i o l=some (ps,es)->Zce ps->(∀q∈es,q.1=q.2) ->
  ∀H m,(H,m)∈l->fits c i H=true->∃ps' es',chk1 step c tab i o H m=some (ps',es')/\Zce ps'/\∀q∈es',q.1=q.2
 | [],ps,es,h,hp,he,H,m,hm,_=>by cases hm
 | (H0,m0)::l,ps,es,h,hp,he,H,m,hm,hf=>by
  simp only [chkH] at h;split at h
  ·split at h<;>simp only [zA,zE,reduceCtorEq] at h;rename_i ps1 es1 qs1 fs1 h1 h2;obtain ⟨rfl,rfl⟩:=h;rw [Zce.append] at hp;rcases xL.1 hm with e | hm
   ·cases e;exact ⟨_,_,h1,hp.1,fun q hq=>he q (List.mem_append_left _ hq)⟩
   exact ZoV h2 hp.2 (fun q hq=>he q (sL _ hq)) H m hm hf
  rename_i hnf;rcases xL.1 hm with e | hm
  ·cases e;exact absurd hf hnf
  exact ZoV h hp he H m hm hf
def ZnU {step:Zjg} {c:DC} {tab:List (Nat×S)} : ∀{l:List Oper} {k:Nat} {ps:List Prop} {es:List (Cmp×Cmp)},Zsn step c tab k l=some (ps,es)->Zce ps->(∀q∈es,q.1=q.2) ->
  ∀i o,l[i]? = some o->∀H m,(H,m)∈tab->fits c (k+i) H=true->∃ps' es',chk1 step c tab (k+i) o H m=some (ps',es')/\Zce ps'/\∀q∈es',q.1=q.2
 | [],k,ps,es,h,hp,he,i,o,hi,_,_,_,_=>by simp at hi
 | o0::l,k,ps,es,h,hp,he,i,o,hi,H,m,hm,hf=>by
  simp only [Zsn] at h;split at h<;>simp only [zA,zE,reduceCtorEq] at h;rename_i ps1 es1 qs1 fs1 h1 h2;obtain ⟨rfl,rfl⟩:=h;rw [Zce.append] at hp;cases i with
  | zero=>
   simp only [yJ,zA] at hi;subst hi;exact ZoV h1 hp.1 (fun q hq=>he q (List.mem_append_left _ hq)) H m hm hf
  | succ i=>
   have:=ZnU h2 hp.2 (fun q hq=>he q (sL _ hq)) i o (aR hi) H m hm (by rwa [(aF:k+1+i=k+(i+1))]);rwa [(aF:k+1+i=k+(i+1))] at this
def ZnP {H:Nat} {m:S} : ∀{tab:List (Nat×S)},tab.lookup H=some m->(H,m)∈tab
 | [],h=>by cases h
 | (H0,m0)::tab,h=>by
  simp only [List.lookup] at h;split at h
  ·rename_i e;cases h;have:H=H0:=by simpa using e
   subst this;exact wP ..
  exact yN _ (ZnP h)
def ZrS {an:List Nat} {i n:Nat} : ∀{tvs:List TV} {k j:Nat} {t:TV},menO an i n k tvs=true->tvs[j]? = some t->k+j≠i->(an.getD (k+j) 0).testBit i=false->t.men n=false
 | [],k,j,t,_,h,_,_=>by simp at h
 | t0::ts,k,j,t,hk,h,h1,h2=>by
  simp only [menO,zV] at hk;cases j with
  | zero=>
   simp only [yJ,zA] at h;subst h;have h1':k≠i:=by simpa using h1
   have h2':(an.getD k 0).testBit i=false:=by simpa using h2
   have:=hk.1;simp only [h1',h2',decide_false,Bool.false_or,vR] at this;exact this
  | succ j=>exact ZrS hk.2 (aR h) aF (by rwa [(aF:k+1+j=k+(j+1))])
def ZoB {n:Nat} : ∀{l:List TV} {j:Nat} {t:TV},TV.mens n l=false->l[j]? = some t->t.men n=false
 | [],j,t,_,h=>by simp at h
 | t0::l,j,t,hk,h=>by
  simp only [TV.mens,Bool.or_eq_false_iff] at hk;cases j with
  | zero=>simp only [yJ,zA] at h;subst h;exact hk.1
  | succ j=>exact ZoB hk.2 (aR h)
def ZdK.cast {s s':S} (h:ZdK g s w) (h1:s'.si=s.si) (h2:s'.st=s.st):ZdK g s' w:=
 ⟨by rw [h2];exact h.stl,fun i c hi hne=>h.obj i c (by rwa [h2] at hi) hne,h.objB,fun n ent hn=>(by have:=h.site n ent (by rwa [h1] at hn);cases ent<;>exact this),h.own,h.z,h.gl⟩
def ZbA.cast {X:Nat->Prop} {s s' t t':S} (h:ZbA X s s' g g' w w') (h1:t.si=s.si) (h2:t.ep=s.ep) (h3:t'.si=s'.si) (h4:t'.ep=s'.ep):ZbA X t t' g g' w w':=by
 have ok : ∀r,Zfq t r↔Zfq s r:=fun r=>by cases r<;>simp [Zfq,h1]
 have ok' : ∀r,Zfq t' r↔Zfq s' r:=fun r=>by cases r<;>simp [Zfq,h3]
 exact ⟨h.keep,fun n hn hh=>by rw [h3] at hh;rw [h1];exact h.cells n hn hh,fun n v hn hh=>by rw [h3] at hh;rw [h1];exact h.row n v hn hh,fun n hn hh=>by rw [h3] at hh;rw [h1];exact h.mp n hn hh,
  fun he r hg hi hr hr'=>h.mem (by rw [<-h2,<-h4];exact he) r hg hi ((ok r).1 hr) ((ok' r).1 hr'),by rw [h2,h4];exact h.ep⟩
def ZdM.cast {s s':S} {v:Value} {tv:TV} (h:ZdM g s w v tv) (h1:s'.si=s.si) (h2:s'.ep=s.ep):ZdM g s' w v tv:=
 ZdM.keep (X:=fun _=>False) (ZbA.refl h1 h2) (fun _ h=>h.elim) h
def ZpK {a:Act} {dst:Option Nat} {v:Value} {n:Nat} (h:dst≠some n):(a.put dst v).tmps.getD n undef=a.tmps.getD n undef:=by
 cases dst with
 | none=>rfl
 | some d=>
  have:d≠n:=fun e=>h (by rw [e]);simp [Act.put,xW,xZ this]
structure Mid (P:Program) (c:DC) (tab:List (Nat×S)) (ops:Array Oper) (g0:G) (w0:World) (a0:Act) (listed:Array Bool) (g:G) (w:World) (a:Act):Prop where
 size:listed.size=ops.size
 down : ∀j o,ops[j]? = some o->listed.getD j false=true->∀e∈o.after.toList,Region.binds .any e=true->listed.getD e.on false=true
 mem : ∃H m,tab.lookup H=some m/\(∀h,H.testBit h=true↔c.r.hv.testBit h=true/\listed.getD h false=true) /\
  Sat g { sl:=slF (slM fun j=>listed.getD j false) c.dsts c.tvs 0 c.base,si:=m.si,st:=m.st,ep:=m.ep} w a.tmps
 mod:Mod g0 g w0 w
 defers:a.defers=a0.defers
def Mid.step {step:Zjg} (hok:Zgs P step) {c:DC} {tab:List (Nat×S)} {ops:Array Oper} {g0:G} {w0:World} {a0:Act} {listed:Array Bool} {a:Act} (hM:Mid P c tab ops g0 w0 a0 listed g w a)
  (hops:c.ops=ops.toList) (hd:c.dsts=ops.toList.map (·.dst)) (han:c.an=Zss ops.toList []) (htv:c.tvs.length=ops.size) (hnd:Zkg c.dsts=true) (hed:Zja 0 ops.toList=true)
  (hchk : ∀i o,ops[i]? = some o->∀H m,(H,m)∈tab->fits c i H=true->∃ps' es',chk1 step c tab i o H m=some (ps',es')/\Zce ps'/\∀q∈es',q.1=q.2)
  {i:Nat} {o:Oper} (ho:ops[i]? = some o) (hi:listed.getD i true=false) (hpre : ∀e∈o.after.toList,Region.binds .any e=true->listed.getD e.on false=true)
  {Q:Exit->Act->World->Prop} {K:Act->World->Prop} (hK : ∀g' w' a',Mid P c tab ops g0 w0 a0 (listed.setIfInBounds i true) g' w' a'->K a' w'):wpOp P ops Q i K a w:=by
 obtain ⟨H,m,htab,hH,hs⟩:=hM.mem;have hilt:i<ops.size:=(Array.getElem?_eq_some_iff.1 ho).1;have hil:i<listed.size:=by rw [hM.size];exact hilt
 have hi':listed.getD i false=false:=by simp [uM,hil] at hi |-;exact hi
 have ho':ops.toList[i]? = some o:=by simpa using ho
 have hanc : ∀j,listed.getD j false=true->∀k,(c.an.getD j 0).testBit k=true->listed.getD k false=true:=fun j hj k hk=>by
  have hjl:j<ops.size:=by
   rcases zX j listed.size with h | h
   ·rwa [hM.size] at h
   simp [uM,Nat.not_lt.2 h] at hj
  rw [han] at hk;exact Zst (M:=fun j=>listed.getD j false) hed (fun j o h1 h2=>hM.down j o (aR h1) h2) j (o:=ops[j]) (by simp [hjl]) (hM.down j _ (by simp [hjl]) hj) hk
 have hanci : ∀k,(c.an.getD i 0).testBit k=true->listed.getD k false=true:=fun k hk=>by
  rw [han] at hk;exact Zst (M:=fun j=>listed.getD j false) hed (fun j o h1 h2=>hM.down j o (aR h1) h2) i ho' hpre hk
 have hHi:H.testBit i=false:=by
  cases hb:H.testBit i with
  | false=>rfl
  | true=>have:=((hH i).1 hb).2;rw [hi'] at this;cases this
 have hfit:fits c i H=true:=by
  simp only [fits,hHi,Bool.not_false,wT,zV,beq_iff_eq,xM,uN,vR];refine ⟨?_,fun j _=>?_⟩
  ·apply Nat.eq_of_testBit_eq;intro k;simp only [Nat.testBit_and];cases hk:(c.an.getD i 0).testBit k with
   | false=>simp
   | true=>
    cases hv:c.r.hv.testBit k with
    | false=>simp
    | true=>simp [(hH k).2 ⟨hv,hanci k hk⟩]
  cases hj:H.testBit j with
  | false=>simp
  | true=>
   cases hk:(c.an.getD j 0).testBit i with
   | false=>simp
   | true=>have:=hanc j ((hH j).1 hj).2 i hk;rw [hi'] at this;cases this
 obtain ⟨ps',es',hc1,hps,hes⟩:=hchk i o ho H m (ZnP htab) hfit;have hpoor:Sat g (c.poor i m) w a.tmps:=by
  have hb:(slF (slP c.an i) c.dsts c.tvs 0 c.base).length=c.base.length:=ZkG;have hb':(slF (slM fun j=>listed.getD j false) c.dsts c.tvs 0 c.base).length=c.base.length:=ZkG;refine ⟨?_,?_,fun n tv h=>?_,hs.mem.cast rfl rfl⟩
  ·have:=hs.len;simp only [DC.poor] at *;rw [hb];rwa [hb'] at this
  ·have:=hs.lensi;simp only [DC.poor] at *;rw [hb];rwa [hb'] at this
  have h1:(slF (slP c.an i) c.dsts c.tvs 0 c.base)[n]? = some tv:=h;rw [ZiF] at h1;obtain ⟨b,hb0,hb1⟩:=zI.1 h1;have hM1 : ∀f,(slF f c.dsts c.tvs 0 c.base)[n]? = some (atF f c.dsts c.tvs 0 (0+n) b):=fun f=>by rw [ZiF,hb0];rfl
  have hold:=hs.slot n _ (hM1 _);rcases ZhZ (dsts:=c.dsts) (tvs:=c.tvs) (k:=0) (n:=0+n) (b:=b) with ⟨j,t,h2,h3,h4⟩ | ⟨h2,_⟩
  ·rw [h4] at hb1 hold;simp only [yE] at hb1 hold;subst hb1;simp only [slP,slM] at hold |-;by_cases e1:(c.an.getD i 0).testBit j=true
   ·rw [aD e1];rw [aD (hanci j e1)] at hold;exact ZdM.cast hold rfl rfl
   rw [aE e1];by_cases e2:j=i\/(c.an.getD j 0).testBit i=true
   ·rw [aD e2];have:listed.getD j false≠true:=by
     rcases e2 with rfl | e2
     ·rw [hi'];simp
     intro hj;have:=hanc j hj i e2;rw [hi'] at this;cases this
    rw [aE this] at hold;exact ZdM.cast hold rfl rfl
   rw [aE e2];exact trivial
  rw [h2] at hb1 hold;subst hb1;exact ZdM.cast hold rfl rfl
 have fin : ∀(g':G) (w':World) (v:Value) (m':S) (H':Nat) (X:List Nat),tab.lookup H'=some m'->(∀h,H'.testBit h=true↔c.r.hv.testBit h=true/\(listed.setIfInBounds i true).getD h false=true) ->
   Mod g g' w w'->ZdK g' m' w'->ZbA (· ∈ X) (c.poor i m) m' g g' w w'->(∀n∈X,TV.mens n c.base=false/\menO c.an i n 0 c.tvs=true)->(a.put o.dst v).tmps.size=a.tmps.size->m'.si.length=m.si.length ->
   (∀d,o.dst=some d->d<c.base.length->ZdM g' m' w' ((a.put o.dst v).tmps.getD d undef) (c.tvs.getD i .u))->K (a.put o.dst v) w':=by
  intro g' w' v m' H' X htab' hH' hMod hm' hsk hX hsz hsil hval;have hget : ∀k,(listed.setIfInBounds i true).getD k false=if k=i then true else listed.getD k false:=fun k=>by
   by_cases e:k=i
   ·subst e;simp [uM,hil]
   rw [aE e];simp only [xW,xZ (fun e'=>e e'.symm)]
  refine hK g' w' _ ⟨by simp [hM.size],fun j o' hj hl e he hb=>?_,⟨H',m',htab',hH',?_⟩,hM.mod.trans hMod,?_⟩
  ·rw [hget] at hl |-;by_cases e1:e.on=i
   ·rw [aD e1]
   rw [aE e1];by_cases e2:j=i
   ·subst e2;rw [ho] at hj;cases hj;exact hpre e he hb
   rw [aE e2] at hl;exact hM.down j o' hj hl e he hb
  ·have hb' : ∀f,(slF f c.dsts c.tvs 0 c.base).length=c.base.length:=fun f=>ZkG;refine ⟨?_,?_,fun n tv h=>?_,hm'.cast rfl rfl⟩
   ·have:=hs.len;simp only at *;rw [hb'] at this |-;rw [hsz];exact this
   ·have:=hs.lensi;simp only at *;rw [hb'] at this |-;rw [hsil];exact this
   have h1:(slF (slM fun j=>(listed.setIfInBounds i true).getD j false) c.dsts c.tvs 0 c.base)[n]? = some tv:=h;rw [ZiF] at h1;obtain ⟨b,hb0,hb1⟩:=zI.1 h1;have hM1 : ∀f,(slF f c.dsts c.tvs 0 c.base)[n]? = some (atF f c.dsts c.tvs 0 (0+n) b):=fun f=>by rw [ZiF,hb0];rfl
   have hold:=hs.slot n _ (hM1 _);have hnl:n<c.base.length:=(zZ.1 hb0).1;have kk : ∀{t:TV},(∀x∈X,t.men x=false)->ZdM g { sl:=slF (slM fun j=>listed.getD j false) c.dsts c.tvs 0 c.base,si:=m.si,st:=m.st,ep:=m.ep} w (a.tmps.getD n undef) t ->
     ZdM g' { sl:=slF (slM fun j=>(listed.setIfInBounds i true).getD j false) c.dsts c.tvs 0 c.base,si:=m'.si,st:=m'.st,ep:=m'.ep} w' (a.tmps.getD n undef) t:=fun hX' ht=>
    ZdM.keep (ZbA.cast (t:={ sl:=slF (slM fun j=>listed.getD j false) c.dsts c.tvs 0 c.base,si:=m.si,st:=m.st,ep:=m.ep}) (t':={ sl:=slF (slM fun j=>(listed.setIfInBounds i true).getD j false) c.dsts c.tvs 0 c.base,si:=m'.si,st:=m'.st,ep:=m'.ep}) hsk rfl rfl rfl rfl) hX' ht
   rcases ZhZ (dsts:=c.dsts) (tvs:=c.tvs) (k:=0) (n:=0+n) (b:=b) with ⟨j,t,h2,h3,h4⟩ | ⟨h2,h3⟩
   ·rw [h4] at hb1 hold;simp only [yE,slM] at hb1 hold h2;by_cases e1:j=i
    ·subst e1;rw [hget,aD rfl,aD rfl] at hb1;subst hb1;have hdst:o.dst=some n:=by
      rw [hd,yR,ho'] at h2;simpa using h2
     have:=hval n hdst hnl;rw [zF,h3] at this;exact ZdM.cast this rfl rfl
    have hdst:o.dst≠some n:=fun e=>by
     have h5:c.dsts[i]? = some (some n):=by rw [hd,yR,ho'];simp [e]
     exact e1 (ZnN hnd h2 h5)
    rw [ZpK hdst];rw [hget,aE e1] at hb1;rw [hb1] at hold;refine kk (fun x hx=>?_) hold;by_cases hl:listed.getD j false=true
    ·rw [aD hl] at hb1;subst hb1;refine ZrS (hX x hx).2 h3 (aR e1) ?_;rw [yE];cases hk:(c.an.getD j 0).testBit i with
     | false=>rfl
     | true=>have:=hanc j hl i hk;rw [hi'] at this;cases this
    rw [aE hl] at hb1;subst hb1;exact ZoB (hX x hx).1 hb0
   rw [h2] at hb1 hold;subst hb1;have hdst:o.dst≠some n:=fun e=>h3 i (by rw [htv];exact hilt) (by rw [hd,yR,ho'];simp [e]);rw [ZpK hdst];exact kk (fun x hx=>ZoB (hX x hx).1 hb0) hold
  rw [<-hM.defers];cases o.dst<;>rfl
 have putSize : ∀v,(a.put o.dst v).tmps.size=a.tmps.size:=fun v=>by cases o.dst<;>simp [Act.put]
 have hsame : ∀h,h≠i->(listed.setIfInBounds i true).getD h false=listed.getD h false:=fun h e=>by
  simp only [xW,xZ (fun e'=>e e'.symm)]
 have hself:(listed.setIfInBounds i true).getD i false=true:=by simp [uM,hil]
 unfold wpOp;rw [ho];simp only;unfold chk1 at hc1;split at hc1<;>try (cases hc1;done)
 ·rename_i qs hg;split at hc1<;>try (cases hc1;done)
  rename_i X s' ps1 hst;split at hc1<;>try (cases hc1;done)
  rename_i m' hm';split at hc1<;>simp only [zA,zE,reduceCtorEq] at hc1;rename_i hX;obtain ⟨rfl,rfl⟩:=hc1;rw [Zce.append] at hps;have hcmp:s'.si=m'.si/\s'.st=m'.st/\s'.ep=m'.ep:=by
   have:=hes (.m s'.si s'.st s'.ep,.m m'.si m'.st m'.ep) aG;simpa using this
  rw [hd] at hg;rw [aD (Zhr hpoor hg hps.1)];left;obtain ⟨hop,⟨tv,hsl⟩,_⟩:=hok _ _ _ _ _ _ hst hps.2;refine hop g w a hpoor K Q fun g' w' v k1 k2 k3=>?_;obtain ⟨H',htab',hH'⟩ : ∃H',tab.lookup H'=some m'/\∀h,H'.testBit h=true↔c.r.hv.testBit h=true/\(listed.setIfInBounds i true).getD h false=true:=by
   split at hm'
   ·rename_i hb;refine ⟨_,hm',fun h=>?_⟩;rw [Nat.testBit_or,Nat.testBit_two_pow];by_cases e:h=i
    ·subst e;simp [hb,hself]
    rw [hsame h e];have:decide (i=h)=false:=by simpa using fun e'=>e e'.symm
    rw [this,Bool.or_false];exact hH h
   rename_i hb;cases hm';refine ⟨H,htab,fun h=>?_⟩;by_cases e:h=i
   ·subst e;rw [hH];simp [hb]
   rw [hsame h e];exact hH h
  refine fin g' w' v m' H' X htab' hH' k1 (k3.mem.cast hcmp.1.symm hcmp.2.1.symm) (ZbA.cast k2 rfl rfl hcmp.1.symm hcmp.2.2.symm) (fun n hn=>?_) (putSize v) ?_ (fun d hdd hdl=>?_)
  ·have:=xM.1 hX n hn;simpa using this
  ·have h1:=k3.lensi;have h2:=k3.len;have h3:=hs.lensi;have h4:=hs.len;rw [putSize] at h2;rw [<-hcmp.1,h1,<-h2,h4];exact h3.symm
  have hlen:(c.poor i m).sl.length=c.base.length:=ZkG;have hget:s'.sl[d]? = some tv:=by
   rw [hsl,hdd];simp only [S.put];rw [zP (by rw [hlen];exact hdl)]
  have hq:=hes (.t (s'.sl.getD d .u),.t (c.tvs.getD i .u)) (by rw [hdd];simp);simp only [Cmp.t.injEq] at hq;have:=k3.slot d tv hget;rw [<-hq,zF,hget];exact ZdM.cast this hcmp.1.symm hcmp.2.2.symm
 rename_i qs hg;split at hc1<;>simp only [zA,zE,reduceCtorEq] at hc1;rename_i hb;obtain ⟨rfl,rfl⟩:=hc1;rw [hd] at hg;rw [aE (by rw [Zhr hpoor hg hps];decide)];have hq:=hes (.t (.tup []),.t (c.tvs.getD i .u)) aG;simp only [Cmp.t.injEq] at hq;refine fin g w undef m H [] htab (fun h=>?_) (.refl g w) (hs.mem.cast rfl rfl) (ZbA.refl rfl rfl) (fun n hn=>by cases hn) (putSize undef) rfl (fun d hdd hdl=>?_)
 ·by_cases e:h=i
  ·subst e;rw [hH];simp [hb]
  rw [hsame h e];exact hH h
 rw [<-hq];have hlt:d<a.tmps.size:=by
  have h4:=hs.len;have h5:(slF (slM fun j=>listed.getD j false) c.dsts c.tvs 0 c.base).length=c.base.length:=ZkG;simp only at h4;rw [h4,h5];exact hdl
 rw [hdd];simp only [Act.put];rw [show (a.tmps.setIfInBounds d undef).getD d undef=undef by simp [uM,hlt]];exact ⟨#[],rfl,rfl⟩
end
end Go.Dn
namespace Go.Dn
variable [Globs]
section
variable {P:Program} {g g':G} {s:S} {w w':World}
def unl (listed:Array Bool) (n:Nat):Nat:=((uW n).filter fun i=>!listed.getD i true).length
def unl_set {listed:Array Bool} {n i:Nat} (hs:listed.size=n) (hi:listed.getD i true=false):unl (listed.setIfInBounds i true) n+1=unl listed n:=by
 have hil:i<n:=by
  rcases zX i listed.size with h | h
  ·omega
  simp [uM,Nat.not_lt.2 h] at hi
 have hget : ∀k,(listed.setIfInBounds i true).getD k true=if k=i then true else listed.getD k true:=fun k=>by
  by_cases e:k=i
  ·subst e;have:k<listed.size:=by omega
   simp [uM,this]
  rw [aE e];simp only [xW,xZ (fun e'=>e e'.symm)]
 unfold unl;have gen : ∀(l:List Nat),l.Nodup->i∈l->(l.filter fun k=>!(listed.setIfInBounds i true).getD k true).length+1=(l.filter fun k=>!listed.getD k true).length:=by
  intro l
  induction l with
  | nil=>intro _ h;cases h
  | cons x l ih=>
   intro hn hm;rw [List.nodup_cons] at hn;by_cases e:x=i
   ·subst e;have:(l.filter fun k=>!(listed.setIfInBounds x true).getD k true)=l.filter fun k=>!listed.getD k true:=by
     apply List.filter_congr;intro k hk;rw [hget,aE (fun e=>hn.1 (by rw [<-e];exact hk))]
    rw [uG (by rw [hget,aD rfl];simp),uZ (by rw [hi];rfl),this];rfl
   have hm':i∈l:=by
    rcases xL.1 hm with h | h
    ·exact absurd h.symm e
    exact h
   have:=ih hn.2 hm';have ex:(listed.setIfInBounds i true).getD x true=listed.getD x true:=by rw [hget,aE e]
   cases hx:listed.getD x true with
   | true=>rw [uG (by rw [ex,hx];simp),uG (by rw [hx];simp)];exact this
   | false=>rw [uZ (by rw [ex,hx];rfl),uZ (by rw [hx];rfl),wO,wO];omega
 exact gen _ List.nodup_range (aR hil)
def ZsE {ops:Array Oper} {listed:Array Bool} (hs:listed.size=ops.size) (hed:Zja 0 ops.toList=true) : ∀i,i<ops.size->listed.getD i true=false->Region.ready .any ops listed ≠ []:=by
 intro i
 induction i using Nat.strongRecOn with
 | ind i ih=>
  intro hi hl hnil;by_cases h : ∀e∈(ops[i]).after.toList,Region.binds .any e=true->listed.getD e.on true=true
  ·have:i∈Region.ready .any ops listed:=by
    simp only [Region.ready,List.mem_filter,uN,hi,true_and,zV,vR];refine ⟨hl,?_⟩;simp only [hi,getElem?_pos,yS,Option.getD_some];rw [tZ];intro e he;cases hb:Region.binds .any e with
    | false=>simp
    | true=>
     have h1:=h e (aR he) hb;have h2:=Zhs (j:=i) hed (o:=ops[i]) (by simp [hi]) e (aR he) hb;have h3:e.on<listed.size:=aF
     simp [uM,h3] at h1 |-;exact h1
   rw [hnil] at this;cases this
  simp only [Classical.not_forall,Bool.not_eq_true] at h;obtain ⟨e,he,hb,h1⟩:=h;have h2:=Zhs (j:=i) hed (o:=ops[i]) (by simp [hi]) e he hb;exact ih e.on aF aF h1 hnil
def draw_go {step:Zjg} (hok:Zgs P step) {c:DC} {tab:List (Nat×S)} {ops:Array Oper} {g0:G} {w0:World} {a0:Act} {m:S}
  (hops:c.ops=ops.toList) (hd:c.dsts=ops.toList.map (·.dst)) (han:c.an=Zss ops.toList []) (htv:c.tvs.length=ops.size) (hnd:Zkg c.dsts=true) (hed:Zja 0 ops.toList=true)
  (hchk : ∀i o,ops[i]? = some o->∀H m,(H,m)∈tab->fits c i H=true->∃ps' es',chk1 step c tab i o H m=some (ps',es')/\Zce ps'/\∀q∈es',q.1=q.2)
  (hv : ∀j,c.r.hv.testBit j=true->j<ops.size) (hlk:tab.lookup c.r.hv=some m) {Q:Exit->Act->World->Prop}
  (hQ : ∀g' w' a',Mod g0 g' w0 w'->Sat g' { sl:=slF (slM fun _=>true) c.dsts c.tvs 0 c.base,si:=m.si,st:=m.st,ep:=m.ep} w' a'.tmps->a'.defers=a0.defers->Q .normal a' w') :
  ∀(f:Nat) {listed:Array Bool} {g:G} {w:World} {a:Act},unl listed ops.size=f->Mid P c tab ops g0 w0 a0 listed g w a->wpAny P .any ops Q f listed a w:=by
 have done : ∀{listed:Array Bool} {g:G} {w:World} {a:Act},(∀i,i<ops.size->listed.getD i true=true)->Mid P c tab ops g0 w0 a0 listed g w a->Q .normal a w:=by
  intro listed g w a hall hM;obtain ⟨H,m',htab,hH,hs⟩:=hM.mem;have hall' : ∀i,i<ops.size->listed.getD i false=true:=fun i hi=>by
   have:=hall i hi;have h3:i<listed.size:=by rw [hM.size];exact hi
   simp [uM,h3] at this |-;exact this
  have hHv:H=c.r.hv:=by
   apply Nat.eq_of_testBit_eq;intro k;cases h1:c.r.hv.testBit k with
   | true=>exact (hH k).2 ⟨h1,hall' k (hv k h1)⟩
   | false=>
    cases h2:H.testBit k with
    | false=>rfl
    | true=>have:=((hH k).1 h2).1;rw [h1] at this;cases this
  subst hHv;rw [hlk] at htab;cases htab;refine hQ g w a hM.mod ?_ hM.defers;have e:slF (slM fun _=>true) c.dsts c.tvs 0 c.base=slF (slM fun j=>listed.getD j false) c.dsts c.tvs 0 c.base:=by
   apply vD;intro n;rw [ZiF,ZiF];cases hb:c.base[n]? with
   | none=>rfl
   | some b=>
    simp only [yS,zA];rcases ZhZ (dsts:=c.dsts) (tvs:=c.tvs) (k:=0) (n:=0+n) (b:=b) with ⟨j,t,h2,h3,h4⟩ | ⟨h2,_⟩
    ·have hj:j<ops.size:=by rw [<-htv];exact (zZ.1 h3).1
     rw [h4,h4];simp only [slM,yE,hall' j hj]
    rw [h2,h2]
  rw [e];exact hs
 intro f
 induction f with
 | zero=>
  intro listed g w a hf hM;have hall : ∀i,i<ops.size->listed.getD i true=true:=by
   intro i hi;unfold unl at hf;rw [List.length_eq_zero_iff,qI] at hf;simpa using hf i (aR hi)
  refine ⟨?_,done hall hM⟩;simp only [Region.ready,qI,uN,zV,not_and];intro i hi hl;simp [hall i hi] at hl
 | succ f ih=>
  intro listed g w a hf hM;refine ⟨fun hnil=>done (fun i hi=>?_) hM,fun i hi=>?_⟩
  ·cases h:listed.getD i true with
   | true=>rfl
   | false=>exact absurd hnil (ZsE hM.size hed i hi h)
  simp only [Region.ready,List.mem_filter,uN,zV,vR] at hi;obtain ⟨hlt,hl,hpre⟩:=hi;simp only [hlt,getElem?_pos,yS,Option.getD_some] at hpre;rw [tZ] at hpre;refine hM.step hok hops hd han htv hnd hed hchk (o:=ops[i]) (by simp [hlt]) hl (fun e he hb=>?_) fun g' w' a' hM'=>ih ?_ hM'
  ·have:=hpre e (aR he);simpa [hb] using this
  have:=unl_set hM.size hl;omega
def Sat.drew {a:Array Value} (hs:Sat g s w a):Mod g g w { w with drawn:=w.drawn+1}/\Sat g s { w with drawn:=w.drawn+1} a:=by
 have K:ZcK g g w { w with drawn:=w.drawn+1}:=⟨fun _ _=>rfl,zH _,fun _=>zH _,fun _ _ _=>rfl,fun _ _=>rfl⟩
 have same : ∀b,Zhw g g w { w with drawn:=w.drawn+1} b:=fun _=>⟨rfl,rfl,rfl⟩
 have k:ZbA (fun _=>False) s s g g w { w with drawn:=w.drawn+1}:=⟨K,fun n _ h=>⟨h,rfl⟩,fun n v _ h=>.inl ⟨h,rfl⟩,fun n _ h=>⟨h,rfl⟩,fun _ _ _ _ _ _ _ _ _ h=>.inl h,zH _⟩
 refine ⟨⟨K,rfl,rfl,rfl,zH _,fun b _=>.inl (same b),fun _ _ h1 h2=>⟨h1,h2⟩,fun i h1 h2=>aF⟩,hs.len,hs.lensi,fun n tv h=>ZdM.keep k (fun _ h=>h.elim) (hs.slot n tv h),?_⟩;refine ⟨hs.mem.stl,fun i c h hne=>(hs.mem.obj i c h hne).keep K (same _) (fun b' _ _=>same b'),hs.mem.objB,fun n ent h=>?_,hs.mem.own,hs.mem.z,hs.mem.gl.keep K⟩;have h3:=hs.mem.site n ent h;cases ent with
 | cells cc=>exact Znq.keep K h3 (same _) (fun b' _ _=>same b')
 | row ver ee sz xs=>exact ZgO.keep K h3 (fun b _=>same b)
 | mp es=>exact Zvv.keep K h3 (fun b _=>same b)
def ZhK {step:Zjg} {c:DC} : ∀{Hs:List Nat} {tab:List (Nat×S)} {H:Nat} {m:S},tab.lookup H=some m->(Zpq step c Hs tab).lookup H=some m
 | [],tab,H,m,h=>h
 | H0::Hs,tab,H,m,h=>by
  have app : ∀x,(tab ++ [x]).lookup H=some m:=fun x=>by
   induction tab with
   | nil=>cases h
   | cons y tab ih=>
    obtain ⟨a,b⟩:=y;simp only [List.cons_append,List.lookup] at h |-;split at h<;>rename_i e
    ·exact h
    exact ih h
  unfold Zpq;split
  ·split
   ·split
    ·split
     ·exact ZhK (app _)
     exact ZhK h
    exact ZhK h
   exact ZhK h
  exact ZhK h
def ZsY {step:Zjg} (hok:Zgs P step) (hfol:P.follows .mixedOrders=true) {id:Nat} {ops:Array Oper} {s':S} {r:DR} {ps:List Prop} {es:List (Cmp×Cmp)} (h:ZoT step ops.toList s r=some (s',ps,es)) (hp:Zce ps)
  (he : ∀q∈es,q.1=q.2) {a:Act} (hs:Sat g s w a.tmps) {Q:Exit->Act->World->Prop} (hQ : ∀g' w' a',Mod g g' w w'->Sat g' s' w' a'.tmps->a'.defers=a.defers->Q .normal a' w'):(Code.region id ops true).wp P Q a w:=by
 unfold ZoT at h;split at h<;>try (cases h;done)
 rename_i sF _ hrun;simp only at h;split at h<;>try (cases h;done)
 rename_i hh;simp only [zV] at hh;obtain ⟨⟨hnd,hed⟩,hv⟩:=hh;split at h<;>simp only [zA,zE,reduceCtorEq] at h;rename_i ps1 es1 m hchk hlk;obtain ⟨rfl,rfl,rfl⟩:=h;refine wp_region_any hfol ?_;obtain ⟨k1,k2⟩:=Sat.drew hs;refine draw_go hok (c:={ base:=s.sl,dsts:=ops.toList.map (·.dst),tvs:=(ops.toList.map (·.dst)).map fun d=>match d with | some n=>sF.sl.getD n .u | none=>.u,an:=Zss ops.toList [],ops:=ops.toList,r:=r}) (g0:=g) (w0:=w) (a0:=a) rfl rfl rfl aG hnd hed (fun i o ho H m' hm hf=>?_) (fun j hj=>?_) hlk hQ ops.size (listed:=vX ops.size false) (g:=g) ?_ ?_
 ·have:=ZnU hchk hp he i o (aR ho) H m' hm (by rwa [yE]);rwa [yE] at this
 ·have h1:=xM.1 hv j (by
   rw [uN];have:2^j<=r.hv:=Nat.ge_two_pow_of_testBit hj;have h0:r.hv≠0:=fun e=>by rw [e] at hj;simp at hj
   have:=(Nat.le_log2 h0).2 this;exact Nat.lt_succ_of_le this)
  simp only [hj,pM,Bool.false_or,decide_eq_true_eq] at h1;simpa using h1
 ·unfold unl;have:((uW ops.size).filter fun i=>!(vX ops.size false).getD i true)=uW ops.size:=by
   rw [List.filter_eq_self];intro i hi;simp only [uN] at hi;simp [uM,hi]
  rw [this,List.length_range]
 have hf : ∀j,(vX ops.size false).getD j false=false:=fun j=>by
  simp only [xW,Array.getElem?_replicate];split<;>rfl
 refine ⟨by simp,fun j o _ hl=>(by rw [hf] at hl;cases hl),⟨0,s,ZhK (by simp [List.lookup]),fun h=>by rw [hf];simp,?_⟩,k1,rfl⟩;have e:slF (slM fun j=>(vX ops.size false).getD j false) (ops.toList.map (·.dst)) ((ops.toList.map (·.dst)).map fun d=>match d with | some n=>sF.sl.getD n .u | none=>.u) 0 s.sl=s.sl:=by
  apply vD;intro n;rw [ZiF];cases hb:s.sl[n]? with
  | none=>rfl
  | some b=>
   simp only [yS,zA];rcases ZhZ (dsts:=ops.toList.map (·.dst)) (tvs:=(ops.toList.map (·.dst)).map fun d=>match d with | some n=>sF.sl.getD n .u | none=>.u) (k:=0) (n:=0+n) (b:=b) with ⟨j,t,h2,h3,h4⟩ | ⟨h2,_⟩
   ·rw [h4];simp only [slM,hf];rfl
   rw [h2]
 simp only at k2 |-;rw [e];exact k2
end
inductive PE where
 | r (ds:List (Nat×D))
 | d (r:DR)
 | c (b:Bool)
def goD (step:Zjg):Nat->List K->E->S->List PE->Option (List K×E×S×List Prop×List (Cmp×Cmp))
 | 0,_,_,_,_=>none
 | n+1,ks,e,s,ds=>match ks with
  | []=>match ds with
   | []=>some ([],e,s,[],[])
   | _::_=>none
  | .h J::ks=>match e with
   | .n=>match ds with
    | []=>some (.h J::ks,.n,s,[],[])
    | _::_=>none
   | .x id=>goD step n ks (.x id) s ds
   | .ret=>goD step n ks .ret s ds
  | .b id::ks=>match e with
   | .n=>goD step n ks .n s ds
   | .x id'=>if id'=id then goD step n ks .n s ds else goD step n ks (.x id') s ds
   | .ret=>goD step n ks .ret s ds
  | .c x::ks=>match e with
   | .x id=>goD step n ks (.x id) s ds
   | .ret=>goD step n ks .ret s ds
   | .n=>match x with
    | .skip=>goD step n ks .n s ds
    | .seq x y=>goD step n (.c x :: .c y::ks) .n s ds
    | .block id x=>goD step n (.c x :: .b id::ks) .n s ds
    | .exit id=>goD step n ks (.x id) s ds
    | .ret=>goD step n ks .ret s ds
    | .cond t x y=>match ds with
     | .c b::ds=>match ev s t with
      | some (.one (.l (.bool v)))=>match goD step n (.c (if b then x else y)::ks) .n s ds with
       | some (ks',e',s',ps,es)=>some (ks',e',s',(v=b)::ps,es)
       | none=>none
      | _=>none
     | []=>some (.c (.cond t x y)::ks,.n,s,[],[])
     | _=>none
    | .region _ ops dr=>match ds with
     | .r d::ds=>if dr then none else match ZgX step (ops.toList.map (·.dst)) ops.toList 0 s d with
      | some (s',ps)=>match goD step n ks .n s' ds with
       | some (ks',e',s'',qs,es)=>some (ks',e',s'',ps++qs,es)
       | none=>none
      | none=>none
     | .d r::ds=>if dr then match ZoT step ops.toList s r with
      | some (s',ps,es)=>match goD step n ks .n s' ds with
       | some (ks',e',s'',qs,fs)=>some (ks',e',s'',ps++qs,es++fs)
       | none=>none
      | none=>none
      else none
     | _=>none
    | .loop x=>match ds with
     | []=>some (.c (.loop x)::ks,.n,s,[],[])
     | _::_=>none
    | _=>none
end Go.Dn
