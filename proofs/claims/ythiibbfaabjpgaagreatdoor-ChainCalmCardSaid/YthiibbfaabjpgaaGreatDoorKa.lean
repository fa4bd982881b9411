import Derived.WalkKit
import Derived.LoopN
import Derived.Laws.Sem
theorem aD{c:Prop}{h:Decidable c}(hc:c){α:Sort _}{t e:α}:ite c t e=t:=if_pos hc
theorem aE{c:Prop}{h:Decidable c}(hnc:¬c){α:Sort _}{t e:α}:ite c t e=e:=if_neg hnc
theorem aF{p:Prop}(h:p:=by omega):p:=h
theorem aG{p:Prop}(h:p:=by simp):p:=h
theorem aH{p:Prop}(h:p:=by simp;omega):p:=h
theorem aP{p:Prop}(h:p:=by simp<;>omega):p:=h
theorem aQ{p:Prop}(h:p:=by kernel_rfl):p:=h
theorem aR{p q:Prop}(h:q)(e:q->p:=by intro x;simpa using x):p:=e h
set_option linter.all false
open Array renaming replicate->vX
open Bool renaming or_eq_false_iff->vF,false_eq_true->yP,and_eq_true->zV
open List renaming getElem?_eq_none->zM,append_assoc->yH,length_append->zU,drop_append->sM,drop_eq_nil_of_le->vK,take_append->qB,take_of_length_le->zW,getElem?_take->yT,getElem?_drop->xG,getD->zF,getElem?_cons_zero->yJ,getElem?_cons_succ->wV,getElem?_append_right->yA,map_cons->xF,map_nil->uR,getElem?_set_self->zP,getElem?_set_ne->zO,replicate->zB,mem_cons->xL,mem_append->xA,mem_map->uJ,mem_cons_self->wP,mem_cons_of_mem->yN,all_cons->yQ,set_append_right->qU,length_singleton->yX,length_cons->wO,getElem?_map->yR,length_replicate->uA,getElem?_replicate->wA
open List.cons renaming injEq->yW
open Nat renaming le_refl->zH,lt_of_lt_of_le->yK,le_trans->xQ,lt_or_ge->zX,add_mul->wG,add_comm->qE,add_assoc->xK,zero_le->xD,add_zero->vC,zero_add->yE
open Option renaming map_eq_some_iff->zI,bind_eq_some_iff->yD
open Option.some renaming injEq->zA
open Prod.mk renaming injEq->zE
namespace Go.Dn
inductive L where
  | int (k:IntKind) (n:Int)
  | bool (b:Bool)
  | str (s:ByteArray)
  | arr (k:IntKind) (n:Nat) (xs:List Int)
  | brr (n:Nat) (xs:List Bool)
  | sl (sz:Nat) (xs:List (List L))
  | own (e:Bool) (sz:Nat) (xs:List (List L))
  | ptr (o:Option Nat)
  | mp (es:List (L×L))
  | gone
  | fn (f n:Nat) (cs:List L)
  | bx (n:Nat) (ls:List L)
  | mz (es:List (L×L))
  | yl (l:Nat)
  deriving Inhabited
def L.size:L->Nat
  | .arr _ n _=>n
  | .brr n _=>n
  | _=>1
class Globs where
  gc:Nat->Option (List L)
inductive Ow where
  | obj (i:Nat)
  | site (s:Nat)
  | rowM (b o:Nat)
  | rowS (s:Nat)
  | foreign
  deriving DecidableEq
structure G where
  ob:Nat->Nat
  nob:Nat
  Z:Nat->Nat
  ow:Nat->Option Ow
  sb:Nat->Nat
  hd:Nat->Value
abbrev ad (b o:Nat):Addr:=⟨b,o,none⟩
def bump:Option (Nat×Nat)->Nat->Option (Nat×Nat)
  | some (b,o),n=>some (b,o+n)
  | none,_=>none
def ZiB (w:World) (b:Nat):Option (Array MapEntry):=match w.heap[b]? with
  | some (.map en _)=>some en
  | _=>none
def Zpg (v:Value):L->Prop
  | .int k n=>v = .int k n
  | .arr k n xs=>xs.length=n/\v = .agg (xs.map (Value.int k)).toArray
  | _=>False
mutual
inductive LR (g:G) (w:World):Option (Nat×Nat)->Value->L->Prop where
  | int (p:Option (Nat×Nat)) (k:IntKind) (n:Int):LR g w p (.int k n) (.int k n)
  | bool (p:Option (Nat×Nat)) (b:Bool):LR g w p (.bool b) (.bool b)
  | str (p:Option (Nat×Nat)) (s:ByteArray):LR g w p (.string s) (.str s)
  | nilp (p:Option (Nat×Nat)):LR g w p (.pointer none) (.ptr none)
  | ref (p:Option (Nat×Nat)) (i:Nat) (h:i<g.nob):LR g w p (.pointer (some ⟨g.ob i,0,none⟩)) (.ptr (some i))
  | slnil (p:Option (Nat×Nat)) (sz:Nat):LR g w p (.slice none 0 0) (.sl sz [])
  | slz (p:Option (Nat×Nat)) (sz:Nat) (a:Addr):LR g w p (.slice (some a) 0 0) (.sl sz [])
  | sl (p:Option (Nat×Nat)) (b off len cap sz:Nat) (xs:List (List L)) (hl:xs.length=len) (hc:len<=cap) (hZ:off+len*sz<=g.Z b)
      (he:ER g w b off sz xs):LR g w p (.slice (some ⟨b,off,none⟩) len cap) (.sl sz xs)
  | ownnil (p:Option (Nat×Nat)) (e:Bool) (sz:Nat):LR g w p (.slice none 0 0) (.own e sz [])
  | ownz (p:Option (Nat×Nat)) (e:Bool) (sz b o:Nat):LR g w p (.slice (some ⟨b,o,none⟩) 0 0) (.own e sz [])
  | own (p:Nat×Nat) (b off len cap sz:Nat) (e:Bool) (xs:List (List L)) (a:Array Value) (E:TypeId) (hl:xs.length=len) (hc:len<=cap)
      (ho:g.ow b=some (.rowM p.1 p.2)) (hb:w.heap[b]? = some (.cells a E (0,0))) (hs:off+cap*sz<=a.size)
      (hZ:g.Z b=if e then 0 else off+len*sz)
      (he:ER g w b off sz xs):LR g w (some p) (.slice (some ⟨b,off,none⟩) len cap) (.own e sz xs)
  | mp (p:Nat×Nat) (b cl:Nat) (en:Array MapEntry) (es:List (L×L)) (ho:g.ow b=some (.rowM p.1 p.2)/\g.Z b=0) (hb:w.heap[b]? = some (.map en cl))
      (he:MR g w en.toList es):LR g w (some p) (.map (some b)) (.mp es)
  | gone (p:Option (Nat×Nat)) (v:Value):LR g w p v .gone
  | fn (p:Option (Nat×Nat)) (f n:Nat) (vs:List Value) (cs:List L) (hc:CR g w none vs cs):LR g w p (.func (.func f) (vs.take n).toArray (vs.drop n).toArray) (.fn f n cs)
  | bx (p:Option (Nat×Nat)) (n b o:Nat) (ls:List L) (vs:List Value) (hn:vs.length=n) (hZ:o+n<=g.Z b) (hc : ∀j v,vs[j]? = some v->w.cell? (ad b (o+j))=some v) (hx:CR g w none vs ls) :
      LR g w p (.pointer (some ⟨b,o,none⟩)) (.bx n ls)
  | mz (p:Option (Nat×Nat)) (b:Nat) (en:Array MapEntry) (es:List (L×L)) (hZ:0<g.Z b) (hb:ZiB w b=some en) (he:MR g w en.toList es):LR g w p (.map (some b)) (.mz es)
  | yl (p:Option (Nat×Nat)) (l:Nat):LR g w p (.func (.yield l) #[] #[]) (.yl l)
inductive CR (g:G) (w:World):Option (Nat×Nat)->List Value->List L->Prop where
  | nil (p:Option (Nat×Nat)):CR g w p [] []
  | one (p:Option (Nat×Nat)) (v:Value) (vs:List Value) (l:L) (ls:List L) (hv:LR g w p v l) (h1:v.oneCell'=true) (hr:CR g w (bump p 1) vs ls):CR g w p (v::vs) (l::ls)
  | arr (p:Option (Nat×Nat)) (k:IntKind) (n:Nat) (xs:List Int) (vs:List Value) (ls:List L) (hn:xs.length=n)
      (hr:CR g w (bump p n) vs ls):CR g w p (xs.map (Value.int k)++vs) (.arr k n xs::ls)
  | brr (p:Option (Nat×Nat)) (n:Nat) (xs:List Bool) (vs:List Value) (ls:List L) (hn:xs.length=n)
      (hr:CR g w (bump p n) vs ls):CR g w p (xs.map Value.bool++vs) (.brr n xs::ls)
inductive ER (g:G) (w:World):Nat->Nat->Nat->List (List L)->Prop where
  | nil (b off sz:Nat):ER g w b off sz []
  | cons (b off sz:Nat) (vs:List Value) (x:List L) (xs:List (List L)) (hn:vs.length=sz) (hc : ∀j v,vs[j]? = some v->w.cell? (ad b (off+j))=some v)
      (hx:CR g w none vs x) (hr:ER g w b (off+sz) sz xs):ER g w b off sz (x::xs)
inductive MR (g:G) (w:World):List MapEntry->List (L×L)->Prop where
  | nil:MR g w [] []
  | cons (e:MapEntry) (ens:List MapEntry) (k v:L) (es:List (L×L)) (hk:Zpg e.key k) (hv:LR g w none e.val v) (h1:e.val.oneCell'=true)
      (hr:MR g w ens es):MR g w (e::ens) ((k,v)::es)
end
structure ZcK (g g':G) (w w':World):Prop where
  ob : ∀i,i<g.nob->g'.ob i=g.ob i
  nob:g.nob<=g'.nob
  Z : ∀b,g.Z b<=g'.Z b
  cell : ∀b o,o<g.Z b->w'.cell? (ad b o)=w.cell? (ad b o)
  mp : ∀b,0<g.Z b->ZiB w' b=ZiB w b
def ZcK.refl (g:G) (w:World):ZcK g g w w:=⟨fun _ _=>rfl,zH _,fun _=>zH _,fun _ _ _=>rfl,fun _ _=>rfl⟩
def ZcK.trans {g g' g'':G} {w w' w'':World} (h:ZcK g g' w w') (k:ZcK g' g'' w' w''):ZcK g g'' w w'':=
  ⟨fun i hi=>(k.ob i (yK hi h.nob)).trans (h.ob i hi),xQ h.nob k.nob,fun b=>xQ (h.Z b) (k.Z b),
   fun b o ho=>(k.cell b o (yK ho (h.Z b))).trans (h.cell b o ho),fun b hb=>(k.mp b (yK hb (h.Z b))).trans (h.mp b hb)⟩
def ZmE {α:Type} {l:List α} {j:Nat} {v:α} (h:l[j]? = some v):j<l.length:=by
  rcases zX j l.length with h' | h'
  · exact h'
  rw [zM h'] at h;cases h
mutual
def LR.keep {g g':G} {w w':World} (K:ZcK g g' w w') : ∀{v:Value} {l:L},LR g w none v l->LR g' w' none v l
  | _,_,.int _ _ _=>.int _ _ _
  | _,_,.bool _ _=>.bool _ _
  | _,_,.str _ _=>.str _ _
  | _,_,.nilp _=>.nilp _
  | _,_,.ref _ i h=>by rw [<-K.ob i h];exact .ref _ i (yK h K.nob)
  | _,_,.slnil _ _=>.slnil _ _
  | _,_,.slz _ _ _=>.slz _ _ _
  | _,_,.sl _ b off len cap sz xs hl hc hZ he=>.sl _ b off len cap sz xs hl hc (xQ hZ (K.Z b)) (ER.keep' K he (fun o _ h2=>K.cell b o (by rw [hl] at h2;omega)))
  | _,_,.ownnil _ _ _=>.ownnil _ _ _
  | _,_,.ownz _ _ _ _ _=>.ownz _ _ _ _ _
  | _,_,.gone _ _=>.gone _ _
  | _,_,.fn _ f n vs cs hc=>.fn _ f n vs cs (CR.keep K hc)
  | _,_,.bx _ n b o ls vs hn hZ hc hx=>.bx _ n b o ls vs hn (xQ hZ (K.Z b)) (fun j v hj=>(K.cell b (o+j) (by have:=ZmE hj;omega)).trans (hc j v hj)) (CR.keep K hx)
  | _,_,.mz _ b en es hZ hb he=>.mz _ b en es (yK hZ (K.Z b)) ((K.mp b hZ).trans hb) (MR.keep K he)
  | _,_,.yl _ l=>.yl _ l
def CR.keep {g g':G} {w w':World} (K:ZcK g g' w w') : ∀{vs:List Value} {ls:List L},CR g w none vs ls->CR g' w' none vs ls
  | _,_,.nil _=>.nil _
  | _,_,.one _ v vs l ls hv h1 hr=>.one _ v vs l ls (LR.keep K hv) h1 (CR.keep K hr)
  | _,_,.arr _ k n xs vs ls hn hr=>.arr _ k n xs vs ls hn (CR.keep K hr)
  | _,_,.brr _ n xs vs ls hn hr=>.brr _ n xs vs ls hn (CR.keep K hr)
def ER.keep' {g g':G} {w w':World} (K:ZcK g g' w w') : ∀{b off sz:Nat} {xs:List (List L)},ER g w b off sz xs ->
    (∀o,off<=o->o<off+xs.length*sz->w'.cell? (ad b o)=w.cell? (ad b o))->ER g' w' b off sz xs
  | _,_,_,_,.nil _ _ _,_=>.nil _ _ _
  | _,_,_,_,.cons b off sz vs x xs hn hc hx hr,hZ=>by
    have e:(x::xs).length*sz=sz+xs.length*sz:=by simp [wG,qE]
    rw [e] at hZ;refine .cons b off sz vs x xs hn (fun j v hj=>?_) (CR.keep K hx) (ER.keep' K hr (fun o h1 h2=>hZ o aF aF));have hlt:j<vs.length:=by
      rcases zX j vs.length with h | h
      · exact h
      simp [zM h] at hj
    rw [hZ (off+j) aF aF];exact hc j v hj
def MR.keep {g g':G} {w w':World} (K:ZcK g g' w w') : ∀{en:List MapEntry} {es:List (L×L)},MR g w en es->MR g' w' en es
  | _,_,.nil=>.nil
  | _,_,.cons e ens k v es hk hv h1 hr=>.cons e ens k v es hk (LR.keep K hv) h1 (MR.keep K hr)
end
def ER.keep {g g':G} {w w':World} (K:ZcK g g' w w') {b off sz:Nat} {xs:List (List L)} (h:ER g w b off sz xs) (hZ:off+xs.length*sz<=g.Z b):ER g' w' b off sz xs:=
  h.keep' K fun o _ h2=>K.cell b o aF
def Zdr {w w':World} {b o:Nat} (h:w'.heap[b]? = w.heap[b]?):w'.cell? (ad b o)=w.cell? (ad b o):=by simp [World.cell?,h]
def ZeE {w w':World} {b:Nat} (h:w'.heap[b]? = w.heap[b]?):ZiB w' b=ZiB w b:=by simp [ZiB,h]
def ZgA {w:World} {b:Nat} {a:Array Value} {E:TypeId} {q:Nat×Nat} (h:w.heap[b]? = some (.cells a E q)):ZiB w b=none:=by simp [ZiB,h]
def Zhw (g g':G) (w w':World) (b:Nat):Prop:=w'.heap[b]? = w.heap[b]? /\ g'.ow b=g.ow b/\g'.Z b=g.Z b
def LR.keepO {g g':G} {w w':World} (K:ZcK g g' w w') {p:Nat×Nat} (hS : ∀b,g.ow b=some (.rowM p.1 p.2)->Zhw g g' w w' b) {v:Value} {l:L}
    (h:LR g w (some p) v l):LR g' w' (some p) v l:=by
  cases h with
  | int _ k n=>exact .int _ _ _
  | bool _ b=>exact .bool _ _
  | str _ s=>exact .str _ _
  | nilp=>exact .nilp _
  | ref _ i h=>rw [<-K.ob i h];exact .ref _ i (yK h K.nob)
  | slnil=>exact .slnil _ _
  | slz=>exact .slz _ _ _
  | sl _ b off len cap sz xs hl hc hZ he=>exact .sl _ b off len cap sz xs hl hc (xQ hZ (K.Z b)) (he.keep K (by rw [hl];exact hZ))
  | ownnil _ e sz=>exact .ownnil _ _ _
  | ownz _ e sz b o=>exact .ownz _ _ _ _ _
  | own _ b off len cap sz e xs a E hl hc ho hb hs hZ he=>
    obtain ⟨h1,h2,h3⟩:=hS b ho;exact .own _ b off len cap sz e xs a E hl hc (by rw [h2];exact ho) (by rw [h1];exact hb) hs (by rw [h3];exact hZ) (he.keep' K fun o _ _=>Zdr h1)
  | mp _ b cl en es ho hb he=>
    obtain ⟨h1,h2,h3⟩:=hS b ho.1;exact .mp _ b cl en es (by rw [h2,h3];exact ho) (by rw [h1];exact hb) (he.keep K)
  | gone _ v=>exact .gone _ _
  | fn _ f n vs cs hc=>exact .fn _ f n vs cs (CR.keep K hc)
  | bx _ n b o ls vs hn hZ hc hx=>exact .bx _ n b o ls vs hn (xQ hZ (K.Z b)) (fun j v hj=>(K.cell b (o+j) (by have:=ZmE hj;omega)).trans (hc j v hj)) (CR.keep K hx)
  | mz _ b en es hZ hb he=>exact .mz _ b en es (yK hZ (K.Z b)) ((K.mp b hZ).trans hb) (he.keep K)
  | yl _ l=>exact .yl _ l
def CR.keepO {g g':G} {w w':World} (K:ZcK g g' w w') {b:Nat} (hS : ∀b' o,g.ow b'=some (.rowM b o)->Zhw g g' w w' b') :
    ∀{o:Nat} {vs:List Value} {ls:List L},CR g w (some (b,o)) vs ls->CR g' w' (some (b,o)) vs ls
  | _,_,_,.nil _=>.nil _
  | _,_,_,.one _ v vs l ls hv h1 hr=>.one _ v vs l ls (LR.keepO K (fun b' h=>hS b' _ h) hv) h1 (CR.keepO K hS (o:=_+1) hr)
  | _,_,_,.arr _ k n xs vs ls hn hr=>.arr _ k n xs vs ls hn (CR.keepO K hS (o:=_+n) hr)
  | _,_,_,.brr _ n xs vs ls hn hr=>.brr _ n xs vs ls hn (CR.keepO K hS (o:=_+n) hr)
inductive Root where
  | site (s:Nat)
  | obj (i:Nat)
  | glob (k:Nat)
  deriving DecidableEq
inductive Src where
  | row (s ver:Nat)
  | mem (r:Root) (off ep:Nat)
  deriving DecidableEq
inductive T where
  | l (x:L)
  | adr (r:Root) (off:Nat)
  | aadr (r:Root) (off n i:Nat)
  | asl (r:Root) (off n lo len:Nat)
  | h (s:Src) (sz lo len:Nat)
  | eadr (s:Src) (sz i off:Nat)
  | fadr (sz:Nat) (xs:List (List L)) (i off:Nat)
  | ms (n:Nat)
  | mm (s:Src)
inductive TV where
  | u
  | one (t:T)
  | agg (ts:List T)
  | tup (vs:List TV)
inductive Ent where
  | cells (c:List L)
  | row (ver:Nat) (e:Bool) (sz:Nat) (xs:List (List L))
  | mp (es:List (L×L))
structure S where
  sl:List TV
  si:List (Option Ent)
  st:List (List L)
  ep:Nat
def G.rb (g:G):Root->Nat
  | .site s=>g.sb s
  | .obj i=>g.ob i
  | .glob k=>k
def Root.men (s:Nat):Root->Bool
  | .site s'=>s'==s
  | _=>false
def Src.men (s:Nat):Src->Bool
  | .row s' _=>s'==s
  | .mem r _ _=>r.men s
def T.men (s:Nat):T->Bool
  | .l _=>false
  | .adr r _=>r.men s
  | .aadr r _ _ _=>r.men s
  | .asl r _ _ _ _=>r.men s
  | .h r _ _ _=>r.men s
  | .eadr r _ _ _=>r.men s
  | .fadr _ _ _ _=>false
  | .ms n=>n==s
  | .mm r=>r.men s
mutual
def TV.men (s:Nat):TV->Bool
  | .u=>false
  | .one t=>t.men s
  | .agg ts=>ts.any (T.men s)
  | .tup vs=>TV.mens s vs
def TV.mens (s:Nat):List TV->Bool
  | []=>false
  | v::vs=>v.men s||TV.mens s vs
end
def isSl:Value->Bool
  | .slice _ _ _=>true
  | .map _=>true
  | _=>false
section
variable (g:G) (s:S) (w:World)
def Zfq:Root->Prop
  | .site n=>∃c,s.si[n]? = some (some (.cells c))
  | _=>True
def ZhF:Root->Prop
  | .obj i=>i<g.nob
  | _=>True
def Znn:Src->Prop
  | .row n ver=>∀ver' e sz xs,s.si[n]? = some (some (.row ver' e sz xs))->ver<=ver'
  | .mem r _ ep=>ZhF g r/\ep<=s.ep/\∀k,r ≠ .glob k
def Hd:Src->Value->Prop
  | .row n ver,hv=>(∃e sz xs,s.si[n]? = some (some (.row ver e sz xs)))/\hv=g.hd n
  | .mem r off ep,hv=>ep=s.ep/\Zfq s r/\w.cell? (ad (g.rb r) off)=some hv
def Win (sz lo len:Nat) (hv v:Value):Prop:=
  (hv = .slice none 0 0/\lo=0/\len=0/\v = .slice none 0 0) \/
  ∃b o n c o',hv = .slice (some (ad b o)) n c/\(lo+len<=n/\n<=c)/\v = .slice (some (ad b o')) len (c-lo)/\(lo<c->o'=o+lo*sz)/\(lo=0->o'=o)
def TR (v:Value):T->Prop
  | .l x=>LR g w none v x
  | .adr r off=>(∃q,v = .pointer (some q))/\ZhF g r/\(Zfq s r->v = .pointer (some (ad (g.rb r) off)))
  | .aadr r off n i=>(∃q,v = .pointer (some q))/\ZhF g r/\(Zfq s r->i<n/\v = .pointer (some (ad (g.rb r) (off+i))))
  | .asl r off n lo len=>(∃q c,v = .slice q len c/\(len=0\/q.isSome=true))/\ZhF g r/\(Zfq s r->lo+len<=n/\∃o',v = .slice (some (ad (g.rb r) o')) len (n-lo)/\(lo<n->o'=off+lo))
  | .h src sz lo len=>(∃q c,v = .slice q len c/\(len=0\/q.isSome=true))/\Znn g s src/\∀hv,Hd g s w src hv->Win sz lo len hv v
  | .eadr src sz i off=>(∃q,v = .pointer (some q))/\Znn g s src/\∀hv,Hd g s w src hv->∃b o n c,hv = .slice (some (ad b o)) n c/\i<n/\v = .pointer (some (ad b (o+i*sz+off)))
  | .fadr sz xs i off=>∃b o,ER g w b o sz xs/\o+xs.length*sz<=g.Z b/\i<xs.length/\v = .pointer (some (ad b (o+i*sz+off)))
  | .ms n=>(∃q,v = .map q)/\∀es,s.si[n]? = some (some (.mp es))->v=g.hd n
  | .mm src=>(∃q,v = .map q)/\Znn g s src/\∀hv,Hd g s w src hv->v=hv
def TsR:List Value->List T->Prop
  | vs,[]=>vs = []
  | vs,.l (.arr k n xs)::ts=>xs.length=n/\∃rest,vs=xs.map (Value.int k)++rest/\TsR rest ts
  | vs,.l (.brr n xs)::ts=>xs.length=n/\∃rest,vs=xs.map Value.bool++rest/\TsR rest ts
  | vs,t::ts=>∃v rest,vs=v::rest/\v.oneCell'=true/\TR g s w v t/\TsR rest ts
mutual
def ZdM:Value->TV->Prop
  | _,.u=>True
  | v,.one t=>v.oneCell'=true/\TR g s w v t
  | v,.agg ts=>∃vs:Array Value,v = .agg vs/\TsR g s w vs.toList ts
  | v,.tup tvs=>∃vs:Array Value,v = .tuple vs/\ZfK vs.toList tvs
def ZfK:List Value->List TV->Prop
  | vs,[]=>vs = []
  | vs,tv::tvs=>∃v rest,vs=v::rest/\ZdM v tv/\ZfK rest tvs
end
def Znq (b:Nat) (t:Ow) (c:List L):Prop:=
  g.ow b=some t/\g.Z b=0/\∃(a:Array Value) (E:TypeId),w.heap[b]? = some (.cells a E (0,0))/\CR g w (some (b,0)) a.toList c
def ZgO (t:Ow) (hv:Value) (e:Bool) (sz:Nat) (xs:List (List L)):Prop:=
  (hv = .slice none 0 0/\xs = [])\/(∃b o,hv = .slice (some (ad b o)) 0 0/\xs = []) \/
  ∃b off cap a E,hv = .slice (some (ad b off)) xs.length cap/\xs.length<=cap/\g.ow b=some t/\w.heap[b]? = some (.cells a E (0,0)) /\
    off+cap*sz<=a.size/\(g.Z b=if e then 0 else off+xs.length*sz)/\ER g w b off sz xs
def Zvv (t:Ow) (hv:Value) (es:List (L×L)):Prop:=
  ∃b cl en,hv = .map (some b)/\(g.ow b=some t/\g.Z b=0)/\w.heap[b]? = some (.map en cl)/\MR g w en.toList es
def Zgf (n:Nat):Ent->Prop
  | .cells c=>Znq g w (g.sb n) (.site n) c
  | .row _ e sz xs=>ZgO g w (.rowS n) (g.hd n) e sz xs
  | .mp es=>Zvv g w (.rowS n) (g.hd n) es
def GlR [Globs]:Prop:=∀k c,Globs.gc k=some c->∃sz,ER g w k 0 sz [c]/\sz<=g.Z k
variable [Globs]
structure ZdK:Prop where
  stl:s.st.length=g.nob
  obj : ∀i c,s.st[i]? = some c->c ≠ []->Znq g w (g.ob i) (.obj i) c
  objB : ∀i,i<g.nob->g.ow (g.ob i)=some (.obj i)\/g.ow (g.ob i)=some .foreign
  site : ∀n ent,s.si[n]? = some (some ent)->Zgf g w n ent
  own : ∀b t,g.ow b=some t->b<w.heap.size
  z : ∀b,w.heap.size<=b->g.Z b=0
  gl:GlR g w
structure Sat (tmps:Array Value):Prop where
  len:tmps.size=s.sl.length
  lensi:s.si.length=s.sl.length
  slot : ∀n tv,s.sl[n]? = some tv->ZdM g s w (tmps.getD n undef) tv
  mem:ZdK g s w
end
def Zlw {g:G} {w:World} {p:Nat×Nat} {v:Value} {e:Bool} {sz:Nat} {xs:List (List L)} :
    LR g w (some p) v (.own e sz xs)↔ZgO g w (.rowM p.1 p.2) v e sz xs:=by
  constructor
  · intro h
    cases h with
    | ownnil=>exact .inl ⟨rfl,rfl⟩
    | ownz _ _ _ b o=>exact .inr (.inl ⟨b,o,rfl,rfl⟩)
    | own _ b off len cap _ _ _ a E hl hc ho hb hs hZ he=>subst hl;exact .inr (.inr ⟨b,off,cap,a,E,rfl,hc,ho,hb,hs,hZ,he⟩)
  rintro (⟨rfl,rfl⟩ | ⟨b,o,rfl,rfl⟩ | ⟨b,off,cap,a,E,rfl,hc,ho,hb,hs,hZ,he⟩)
  · exact .ownnil _ _ _
  · exact .ownz _ _ _ _ _
  exact .own _ b off _ cap sz e xs a E rfl hc ho hb hs hZ he
def Zvo {g:G} {w:World} {p:Nat×Nat} {v:Value} {es:List (L×L)} :
    LR g w (some p) v (.mp es)↔Zvv g w (.rowM p.1 p.2) v es:=by
  constructor
  · intro h
    cases h with
    | mp _ b cl en _ ho hb he=>exact ⟨b,cl,en,rfl,ho,hb,he⟩
  rintro ⟨b,cl,en,rfl,ho,hb,he⟩;exact .mp _ b cl en es ho hb he
structure Mod (g g':G) (w w':World):Prop where
  keep:ZcK g g' w w'
  os:w'.os=w.os
  tape:w'.tape=w.tape
  output:w'.output=w.output
  size:w.heap.size<=w'.heap.size
  same : ∀b,b<w.heap.size->Zhw g g' w w' b\/(g.ow b≠none/\g.ow b≠some .foreign)
  own : ∀b,b<w.heap.size->g'.ow b≠none->g'.ow b≠some .foreign->g.ow b≠none/\g.ow b≠some .foreign
  newob : ∀i,g.nob<=i->i<g'.nob->w.heap.size<=g'.ob i
def Mod.refl (g:G) (w:World):Mod g g w w:=⟨.refl g w,rfl,rfl,rfl,zH _,fun _ _=>.inl ⟨rfl,rfl,rfl⟩,fun _ _ h h'=>⟨h,h'⟩,fun _ h h'=>aF⟩
def Mod.trans {g g' g'':G} {w w' w'':World} (h:Mod g g' w w') (k:Mod g' g'' w' w''):Mod g g'' w w'':=by
  refine ⟨h.keep.trans k.keep,k.os.trans h.os,k.tape.trans h.tape,k.output.trans h.output,xQ h.size k.size,fun b hb=>?_,fun b hb h1 h2=>?_,fun i h1 h2=>?_⟩
  · rcases h.same b hb with h1 | h1
    · rcases k.same b (yK hb h.size) with h2 | h2
      · exact .inl ⟨h2.1.trans h1.1,h2.2.1.trans h1.2.1,h2.2.2.trans h1.2.2⟩
      rw [h1.2.1] at h2;exact .inr h2
    exact .inr h1
  · obtain ⟨h3,h4⟩:=k.own b (yK hb h.size) h1 h2
    exact h.own b hb h3 h4
  by_cases e:i<g'.nob
  · rw [k.keep.ob i e];exact h.newob i h1 e
  exact xQ h.size (k.newob i aF h2)
section
variable {g g':G} {w w':World}
def Znq.keep (K:ZcK g g' w w') {b:Nat} {t:Ow} {c:List L} (h:Znq g w b t c) (hb:Zhw g g' w w' b) (hr : ∀b' o,g.ow b'=some (.rowM b o)->Zhw g g' w w' b'):Znq g' w' b t c:=by
  obtain ⟨h1,h2,a,E,h3,h4⟩:=h;exact ⟨hb.2.1.trans h1,hb.2.2.trans h2,a,E,hb.1.trans h3,h4.keepO K hr⟩
def ZgO.keep (K:ZcK g g' w w') {t:Ow} {hv:Value} {e:Bool} {sz:Nat} {xs:List (List L)} (h:ZgO g w t hv e sz xs) (hr : ∀b,g.ow b=some t->Zhw g g' w w' b):ZgO g' w' t hv e sz xs:=by
  rcases h with h | h | ⟨b,off,cap,a,E,h1,h2,h3,h4,h5,h6,h7⟩
  · exact .inl h
  · exact .inr (.inl h)
  obtain ⟨k1,k2,k3⟩:=hr b h3;exact .inr<|.inr ⟨b,off,cap,a,E,h1,h2,k2.trans h3,k1.trans h4,h5,k3.trans h6,h7.keep' K fun o _ _=>Zdr k1⟩
def Zvv.keep (K:ZcK g g' w w') {t:Ow} {hv:Value} {es:List (L×L)} (h:Zvv g w t hv es) (hr : ∀b,g.ow b=some t->Zhw g g' w w' b):Zvv g' w' t hv es:=by
  obtain ⟨b,cl,en,h1,h2,h3,h4⟩:=h;obtain ⟨k1,k2,k3⟩:=hr b h2.1;exact ⟨b,cl,en,h1,⟨k2.trans h2.1,k3.trans h2.2⟩,k1.trans h3,h4.keep K⟩
def GlR.keep [Globs] (K:ZcK g g' w w') (h:GlR g w):GlR g' w':=fun k c hk=>by
  obtain ⟨sz,h1,h2⟩:=h k c hk;exact ⟨sz,h1.keep K (aR h2),xQ h2 (K.Z k)⟩
structure ZbA (X:Nat->Prop) (s s':S) (g g':G) (w w':World):Prop where
  keep:ZcK g g' w w'
  cells : ∀n,¬ X n->(∃c,s'.si[n]? = some (some (.cells c)))->(∃c,s.si[n]? = some (some (.cells c)))/\g'.sb n=g.sb n
  row : ∀n ver,¬ X n->(∃e sz xs,s'.si[n]? = some (some (.row ver e sz xs))) ->
    ((∃e sz xs,s.si[n]? = some (some (.row ver e sz xs)))/\g'.hd n=g.hd n)\/∃ver0 e sz xs,s.si[n]? = some (some (.row ver0 e sz xs))/\ver0<ver
  mp : ∀n,¬ X n->(∃es,s'.si[n]? = some (some (.mp es)))->(∃es,s.si[n]? = some (some (.mp es)))/\g'.hd n=g.hd n
  mem:s'.ep=s.ep->∀r,(∀k,r ≠ .glob k)->ZhF g r->Zfq s r->Zfq s' r->(∀n,r = .site n->¬ X n)->∀off hv,w'.cell? (ad (g.rb r) off)=some hv ->
    w.cell? (ad (g.rb r) off)=some hv\/∃hv',w.cell? (ad (g.rb r) off)=some hv'/\isSl hv'=false
  ep:s.ep<=s'.ep
variable {X:Nat->Prop} {s s':S}
def ZhF.keep (k:ZcK g g' w w') {r:Root} (h:ZhF g r):ZhF g' r/\∀i,r = .obj i->g'.ob i=g.ob i:=by
  cases r with
  | obj i=>exact ⟨yK h k.nob,fun j e=>by cases e;exact k.ob i h⟩
  | _=>exact ⟨trivial,fun _ e=>by cases e⟩
def ZbA.root (k:ZbA X s s' g g' w w') {r:Root} (hX : ∀n,X n->r.men n=false) (hi:ZhF g r) (h:Zfq s' r):Zfq s r/\g'.rb r=g.rb r:=by
  cases r with
  | site n=>
    have : ¬ X n:=fun hx=>by have:=hX n hx;simp [Root.men] at this
    exact k.cells n this h
  | obj i=>exact ⟨trivial,k.keep.ob i hi⟩
  | glob j=>exact ⟨trivial,rfl⟩
def ZbA.nX {r:Root} (hX : ∀n,X n->r.men n=false) : ∀n,r = .site n->¬ X n:=fun n e hx=>by
  subst e;have:=hX n hx;simp [Root.men] at this
def ZbA.hd (k:ZbA X s s' g g' w w') {src:Src} (hX : ∀n,X n->src.men n=false) (hi:Znn g s src) :
    Znn g' s' src/\∀hv,Hd g' s' w' src hv->Hd g s w src hv\/∃hv',Hd g s w src hv'/\isSl hv'=false:=by
  cases src with
  | row n ver=>
    have hn : ¬ X n:=fun hx=>by have:=hX n hx;simp [Src.men] at this
    refine ⟨fun ver' e sz xs h=>?_,fun hv h=>?_⟩
    · rcases k.row n ver' hn ⟨e,sz,xs,h⟩ with ⟨⟨e1,sz1,xs1,h1⟩,_⟩ | ⟨v0,e1,sz1,xs1,h1,h2⟩
      · exact hi _ _ _ _ h1
      exact xQ (hi _ _ _ _ h1) (Nat.le_of_lt h2)
    obtain ⟨h1,rfl⟩:=h;rcases k.row n ver hn h1 with ⟨h2,h3⟩ | ⟨v0,e1,sz1,xs1,h2,h3⟩
    · exact .inl ⟨h2,h3⟩
    exact absurd (hi _ _ _ _ h2) aF
  | mem r off ep=>
    have hX' : ∀n,X n->r.men n=false:=hX;obtain ⟨hr,he,hg⟩:=hi;refine ⟨⟨(hr.keep k.keep).1,xQ he k.ep,hg⟩,fun hv h=>?_⟩;obtain ⟨h1,h2,h3⟩:=h;obtain ⟨h4,h5⟩:=k.root hX' hr h2;have hep:s'.ep=s.ep:=by have:=k.ep;omega
    rw [h5] at h3;rcases k.mem hep r hg hr h4 h2 (ZbA.nX hX') off hv h3 with h6 | ⟨hv',h6,h7⟩
    · exact .inl ⟨aF,h4,h6⟩
    exact .inr ⟨hv',⟨aF,h4,h6⟩,h7⟩
def ZbA.trans {s'':S} {g'':G} {w'':World} (k:ZbA X s s' g g' w w') (j:ZbA X s' s'' g' g'' w' w''):ZbA X s s'' g g'' w w'':=by
  refine ⟨k.keep.trans j.keep,fun n hn h=>?_,fun n ver hn h=>?_,fun n hn h=>?_,fun he r hg hi hr hr'' hX off hv h=>?_,xQ k.ep j.ep⟩
  · obtain ⟨h1,h2⟩:=j.cells n hn h
    obtain ⟨h3,h4⟩:=k.cells n hn h1;exact ⟨h3,h2.trans h4⟩
  · rcases j.row n ver hn h with ⟨h1,h2⟩ | ⟨v0,e,sz,xs,h1,h2⟩
    · rcases k.row n ver hn h1 with ⟨h3,h4⟩ | h3
      · exact .inl ⟨h3,h2.trans h4⟩
      exact .inr h3
    rcases k.row n v0 hn ⟨e,sz,xs,h1⟩ with ⟨⟨e',sz',xs',h3⟩,h4⟩ | ⟨v1,e',sz',xs',h3,h4⟩
    · exact .inr ⟨v0,_,_,_,h3,h2⟩
    exact .inr ⟨v1,_,_,_,h3,aF⟩
  · obtain ⟨h1,h2⟩:=j.mp n hn h
    obtain ⟨h3,h4⟩:=k.mp n hn h1;exact ⟨h3,h2.trans h4⟩
  have he1:s'.ep=s.ep:=by have:=k.ep;have:=j.ep;omega
  have he2:s''.ep=s'.ep:=aF
  have hr':Zfq s' r/\g'.rb r=g.rb r:=by
    cases r with
    | site n=>
      obtain ⟨c,hc⟩:=hr'';have h1:=(j.cells n (hX n rfl) ⟨c,hc⟩).1;exact ⟨h1,(k.cells n (hX n rfl) h1).2⟩
    | obj i=>exact ⟨trivial,k.keep.ob i hi⟩
    | glob q=>exact absurd rfl (hg q)
  have hb:=hr'.2;rcases j.mem he2 r hg (hi.keep k.keep).1 hr'.1 hr'' hX off hv (by rwa [show g'.rb r=g.rb r from hb]) with h1 | ⟨hv',h1,h2⟩
  · rw [hb] at h1
    exact k.mem he1 r hg hi hr hr'.1 hX off hv h1
  rw [hb] at h1;rcases k.mem he1 r hg hi hr hr'.1 hX off hv' h1 with h3 | ⟨hv'',h3,h4⟩
  · exact .inr ⟨hv',h3,h2⟩
  exact .inr ⟨hv'',h3,h4⟩
def TR.keep (k:ZbA X s s' g g' w w') {v:Value} {t:T} (hX : ∀n,X n->t.men n=false) (h:TR g s w v t):TR g' s' w' v t:=by
  cases t with
  | l x=>exact LR.keep k.keep h
  | adr r off=>exact ⟨h.1,(h.2.1.keep k.keep).1,fun h2=>by obtain ⟨h3,h4⟩:=k.root hX h.2.1 h2;rw [h4];exact h.2.2 h3⟩
  | aadr r off n i=>exact ⟨h.1,(h.2.1.keep k.keep).1,fun h2=>by obtain ⟨h3,h4⟩:=k.root hX h.2.1 h2;rw [h4];exact h.2.2 h3⟩
  | asl r off n lo len=>exact ⟨h.1,(h.2.1.keep k.keep).1,fun h2=>by obtain ⟨h3,h4⟩:=k.root hX h.2.1 h2;rw [h4];exact h.2.2 h3⟩
  | h src sz lo len=>
    obtain ⟨h1,h2⟩:=k.hd hX h.2.1;refine ⟨h.1,h1,fun hv hh=>?_⟩;rcases h2 hv hh with h3 | ⟨hv',h3,h4⟩
    · exact h.2.2 hv h3
    rcases h.2.2 hv' h3 with ⟨rfl,_⟩ | ⟨b,o,n,c,o',rfl,_⟩<;>simp [isSl] at h4
  | ms n=>
    refine ⟨h.1,fun es he=>?_⟩;have hn : ¬ X n:=fun hx=>by have:=hX n hx;simp [T.men] at this
    obtain ⟨⟨es0,h1⟩,h2⟩:=k.mp n hn ⟨es,he⟩;rw [h2];exact h.2 es0 h1
  | mm src=>
    obtain ⟨h1,h2⟩:=k.hd hX h.2.1;refine ⟨h.1,h1,fun hv hh=>?_⟩;rcases h2 hv hh with h3 | ⟨hv',h3,h4⟩
    · exact h.2.2 hv h3
    obtain ⟨q,hq⟩:=h.1;have:=h.2.2 hv' h3;rw [<-this,hq] at h4;simp [isSl] at h4
  | eadr src sz i off=>
    obtain ⟨h1,h2⟩:=k.hd hX h.2.1;refine ⟨h.1,h1,fun hv hh=>?_⟩;rcases h2 hv hh with h3 | ⟨hv',h3,h4⟩
    · exact h.2.2 hv h3
    obtain ⟨b,o,n,c,rfl,_⟩:=h.2.2 hv' h3;simp [isSl] at h4
  | fadr sz xs i off=>
    obtain ⟨b,o,h1,h2,h3,h4⟩:=h;exact ⟨b,o,h1.keep k.keep h2,xQ h2 (k.keep.Z b),h3,h4⟩
def TsR.keep (k:ZbA X s s' g g' w w') : ∀{ts:List T} {vs:List Value},(∀n,X n->ts.any (T.men n)=false)->TsR g s w vs ts->TsR g' s' w' vs ts
  | [],_,_,h=>h
  | t::ts,vs,hX,h=>by
    have h1 : ∀n,X n->t.men n=false:=fun n hn=>by have:=hX n hn;simp only [List.any_cons,vF] at this;exact this.1
    have h2 : ∀n,X n->ts.any (T.men n)=false:=fun n hn=>by have:=hX n hn;simp only [List.any_cons,vF] at this;exact this.2
    unfold TsR at h |-;split at h<;>rename_i heq
    · simp at heq
    · simp only [yW] at heq;obtain ⟨rfl,rfl⟩:=heq
      obtain ⟨hn,rest,rfl,hr⟩:=h;exact ⟨hn,rest,rfl,TsR.keep k h2 hr⟩
    · simp only [yW] at heq;obtain ⟨rfl,rfl⟩:=heq
      obtain ⟨hn,rest,rfl,hr⟩:=h;exact ⟨hn,rest,rfl,TsR.keep k h2 hr⟩
    simp only [yW] at heq;obtain ⟨rfl,rfl⟩:=heq;obtain ⟨v,rest,rfl,hc,ht,hr⟩:=h;exact ⟨v,rest,rfl,hc,TR.keep k h1 ht,TsR.keep k h2 hr⟩
mutual
def ZdM.keep (k:ZbA X s s' g g' w w') : ∀{tv:TV} {v:Value},(∀n,X n->tv.men n=false)->ZdM g s w v tv->ZdM g' s' w' v tv
  | .u,_,_,_=>trivial
  | .one _,_,hX,h=>⟨h.1,TR.keep k hX h.2⟩
  | .agg _,_,hX,h=>by obtain ⟨vs,rfl,h⟩:=h;exact ⟨vs,rfl,TsR.keep k hX h⟩
  | .tup _,_,hX,h=>by obtain ⟨vs,rfl,h⟩:=h;exact ⟨vs,rfl,ZfK.keep k hX h⟩
def ZfK.keep (k:ZbA X s s' g g' w w') : ∀{tvs:List TV} {vs:List Value},(∀n,X n->TV.mens n tvs=false)->ZfK g s w vs tvs->ZfK g' s' w' vs tvs
  | [],_,_,h=>h
  | tv::tvs,_,hX,h=>by
    obtain ⟨v,rest,rfl,h1,h2⟩:=h;refine ⟨v,rest,rfl,ZdM.keep k (fun n hn=>?_) h1,ZfK.keep k (fun n hn=>?_) h2⟩
    · have:=hX n hn;simp only [TV.mens,vF] at this;exact this.1
    have:=hX n hn;simp only [TV.mens,vF] at this;exact this.2
end
end
end Go.Dn
namespace Go.Dn
variable [Globs]
def L.single:L->Bool
  | .arr _ _ _=>false
  | .brr _ _=>false
  | _=>true
def ZgL:List L->Nat->Option L
  | [],_=>none
  | l::ls,o=>if o=0 then some l else if l.size<=o then ZgL ls (o-l.size) else none
def Zgn:List L->Nat->Option (List L)
  | c,0=>some c
  | [],_+1=>none
  | l::ls,o+1=>if l.size<=o+1 then Zgn ls (o+1-l.size) else none
def Zho:List L->Nat->Option (List L)
  | _,0=>some []
  | [],_+1=>none
  | l::ls,n+1=>if l.size<=n+1 then (Zho ls (n+1-l.size)).map (l :: ·) else none
def ZfU:List L->Nat->Nat->List L->Option (List L)
  | c,0,n,ys=>(Zgn c n).map (ys ++ ·)
  | [],_+1,_,_=>none
  | l::ls,o+1,n,ys=>if l.size<=o+1 then (ZfU ls (o+1-l.size) n ys).map (l :: ·) else none
def sizes:List L->Nat
  | []=>0
  | l::ls=>l.size+sizes ls
section
variable {g:G} {w:World}
def LR.noArr {p:Option (Nat×Nat)} {v:Value} {k:IntKind} {n:Nat} {xs:List Int} (h:LR g w p v (.arr k n xs)):False:=by cases h
def LR.noBrr {p:Option (Nat×Nat)} {v:Value} {n:Nat} {xs:List Bool} (h:LR g w p v (.brr n xs)):False:=by cases h
def ZhX (p:Option (Nat×Nat)) (m n:Nat):bump (bump p m) n=bump p (m+n):=by
  cases p<;>simp [bump,xK]
def Zky (p:Option (Nat×Nat)):bump p 0=p:=by cases p<;>simp [bump]
def CR.size : ∀{p:Option (Nat×Nat)} {vs:List Value} {c:List L},CR g w p vs c->vs.length=sizes c
  | _,_,_,.nil _=>rfl
  | _,_,_,.one _ v vs l ls hv _ hr=>by
    have:=hr.size;have h1:l.size=1:=by cases hv<;>rfl
    simp [sizes,h1,this,qE]
  | _,_,_,.arr _ k n xs vs ls hn hr=>by have:=hr.size;simp [sizes,L.size,this,hn]
  | _,_,_,.brr _ n xs vs ls hn hr=>by have:=hr.size;simp [sizes,L.size,this,hn]
def CR.inv {p:Option (Nat×Nat)} {vs:List Value} {l:L} {ls:List L} (h:CR g w p vs (l::ls)) :
    ∃us rest,vs=us++rest/\us.length=l.size/\CR g w p us [l]/\CR g w (bump p l.size) rest ls:=by
  cases h with
  | one _ v vs _ _ hv h1 hr=>
    have e:l.size=1:=by cases hv<;>rfl
    exact ⟨[v],vs,rfl,by simp [e],.one _ _ _ _ _ hv h1 (.nil _),by rw [e];exact hr⟩
  | arr _ k n xs vs _ hn hr=>exact ⟨xs.map (Value.int k),vs,rfl,by simp [L.size,hn],by simpa using CR.arr p k n xs [] [] hn (.nil _),hr⟩
  | brr _ n xs vs _ hn hr=>exact ⟨xs.map Value.bool,vs,rfl,by simp [L.size,hn],by simpa using CR.brr p n xs [] [] hn (.nil _),hr⟩
def CR.join {p:Option (Nat×Nat)} {us:List Value} {l:L} (h:CR g w p us [l]) {rest:List Value} {ls:List L} (hr:CR g w (bump p l.size) rest ls):CR g w p (us++rest) (l::ls):=by
  cases h with
  | one _ v vs _ _ hv h1 h0=>
    cases h0;have e:l.size=1:=by cases hv<;>rfl
    rw [e] at hr;exact .one _ _ _ _ _ hv h1 hr
  | arr _ k n xs vs _ hn h0=>cases h0;simpa using CR.arr p k n xs rest ls hn hr
  | brr _ n xs vs _ hn h0=>cases h0;simpa using CR.brr p n xs rest ls hn hr
def CR.append : ∀{p:Option (Nat×Nat)} {us:List Value} {xs:List L},CR g w p us xs->∀{vs:List Value} {ys:List L},CR g w (bump p us.length) vs ys->CR g w p (us++vs) (xs++ys)
  | p,_,_,.nil _,vs,ys,h=>by simpa [Zky] using h
  | p,_,_,.one _ v us l ls hv h1 hr,vs,ys,h=>by
    refine .one _ _ _ _ _ hv h1 (hr.append ?_);rw [ZhX];simpa [qE] using h
  | p,_,_,.arr _ k n xs us ls hn hr,vs,ys,h=>by
    rw [yH];refine .arr _ _ _ _ _ _ hn (hr.append ?_);rw [ZhX];simpa [hn] using h
  | p,_,_,.brr _ n xs us ls hn hr,vs,ys,h=>by
    rw [yH];refine .brr _ _ _ _ _ hn (hr.append ?_);rw [ZhX];simpa [hn] using h
def CR.drop : ∀{c:List L} {p:Option (Nat×Nat)} {vs:List Value} {o:Nat} {d:List L},CR g w p vs c->Zgn c o=some d ->
    o<=vs.length/\CR g w (bump p o) (vs.drop o) d
  | c,p,vs,0,d,h,hd=>by simp only [Zgn,zA] at hd;subst hd;exact ⟨xD _,by simpa [Zky] using h⟩
  | [],p,vs,o+1,d,h,hd=>by simp [Zgn] at hd
  | l::ls,p,vs,o+1,d,h,hd=>by
    simp only [Zgn] at hd;split at hd
    · rename_i hle
      obtain ⟨us,rest,rfl,hu,h1,h2⟩:=h.inv;obtain ⟨h3,h4⟩:=CR.drop h2 hd;refine ⟨by simp only [zU];omega,?_⟩;rw [ZhX,(aF:l.size+(o+1-l.size)=o+1)] at h4;rw [sM,vK aF,hu];simpa using h4
    cases hd
def CR.take : ∀{c:List L} {p:Option (Nat×Nat)} {vs:List Value} {n:Nat} {d:List L},CR g w p vs c->Zho c n=some d ->
    n<=vs.length/\CR g w p (vs.take n) d
  | c,p,vs,0,d,h,hd=>by simp only [Zho,zA] at hd;subst hd;exact ⟨xD _,by simpa using CR.nil p⟩
  | [],p,vs,n+1,d,h,hd=>by simp [Zho] at hd
  | l::ls,p,vs,n+1,d,h,hd=>by
    simp only [Zho] at hd;split at hd
    · rename_i hle
      obtain ⟨us,rest,rfl,hu,h1,h2⟩:=h.inv;obtain ⟨d',hd',rfl⟩:=zI.1 hd;obtain ⟨h3,h4⟩:=CR.take h2 hd';refine ⟨by simp only [zU];omega,?_⟩;rw [qB,zW aF,hu];exact h1.join h4
    cases hd
def CR.at : ∀{c:List L} {p:Option (Nat×Nat)} {vs:List Value} {o:Nat} {l:L},CR g w p vs c->ZgL c o=some l ->
    ∃us,(vs.drop o).take l.size=us/\us.length=l.size/\CR g w (bump p o) us [l]
  | [],p,vs,o,l,h,hd=>by simp [ZgL] at hd
  | x::ls,p,vs,o,l,h,hd=>by
    obtain ⟨us,rest,rfl,hu,h1,h2⟩:=h.inv;simp only [ZgL] at hd;split at hd
    · subst_vars;cases hd
      exact ⟨us,by simp [<-hu],hu,by simpa [Zky] using h1⟩
    split at hd
    · rename_i hle
      obtain ⟨us',h3,h4,h5⟩:=CR.at h2 hd;rw [ZhX,(aF:x.size+(o-x.size)=o)] at h5;refine ⟨us',?_,h4,h5⟩;rw [sM,vK aF,hu];simpa using h3
    cases hd
def CR.at1 {c:List L} {p:Option (Nat×Nat)} {vs:List Value} {o:Nat} {l:L} (h:CR g w p vs c) (hd:ZgL c o=some l) (h1:l.single=true) :
    ∃v,vs[o]? = some v/\v.oneCell'=true/\LR g w (bump p o) v l:=by
  obtain ⟨us,h2,h3,h4⟩:=h.at hd;cases h4 with
  | one _ v vs' _ _ hv hc hr=>
    cases hr;refine ⟨v,?_,hc,hv⟩;have:((vs.drop o).take l.size)[0]? = some v:=by rw [h2];rfl
    simp only [yT,xG] at this;split at this
    · simpa using this
    cases this
  | arr=>simp [L.single] at h1
  | brr=>simp [L.single] at h1
def CR.atArr {c:List L} {p:Option (Nat×Nat)} {vs:List Value} {o:Nat} {k:IntKind} {n:Nat} {xs:List Int} (h:CR g w p vs c) (hd:ZgL c o=some (.arr k n xs)) :
    xs.length=n/\∀i,i<n->vs[o+i]? = some (.int k (xs.getD i 0)):=by
  obtain ⟨us,h2,h3,h4⟩:=h.at hd;simp only [L.size] at h2 h3;cases h4 with
  | one _ v vs' _ _ hv hc hr=>exact hv.noArr.elim
  | arr _ _ _ _ vs' _ hn hr=>
    cases hr;refine ⟨hn,fun i hi=>?_⟩;have:((vs.drop o).take n)[i]? = some (.int k (xs.getD i 0)):=by
      rw [h2];have hi':i<xs.length:=aF
      simp [hi',zF]
    simp only [yT,xG] at this;rwa [aD hi] at this
def CR.atBrr {c:List L} {p:Option (Nat×Nat)} {vs:List Value} {o:Nat} {n:Nat} {xs:List Bool} (h:CR g w p vs c) (hd:ZgL c o=some (.brr n xs)) :
    xs.length=n/\∀i,i<n->vs[o+i]? = some (.bool (xs.getD i false)):=by
  obtain ⟨us,h2,h3,h4⟩:=h.at hd;simp only [L.size] at h2 h3;cases h4 with
  | one _ v vs' _ _ hv hc hr=>exact hv.noBrr.elim
  | brr _ _ _ vs' _ hn hr=>
    cases hr;refine ⟨hn,fun i hi=>?_⟩;have:((vs.drop o).take n)[i]? = some (.bool (xs.getD i false)):=by
      rw [h2];have hi':i<xs.length:=aF
      simp [hi',zF]
    simp only [yT,xG] at this;rwa [aD hi] at this
def ER.get : ∀{xs:List (List L)} {b off sz:Nat} {i:Nat} {x:List L},ER g w b off sz xs->xs[i]? = some x ->
    ∃vs:List Value,vs.length=sz/\(∀j v,vs[j]? = some v->w.cell? (ad b (off+i*sz+j))=some v)/\CR g w none vs x
  | _,_,_,_,_,_,.nil _ _ _,h=>by simp at h
  | _,_,_,_,0,_,.cons b off sz vs x xs hn hc hx hr,h=>by
    simp only [yJ,zA] at h;subst h;exact ⟨vs,hn,by simpa using hc,hx⟩
  | _,_,_,_,i+1,_,.cons b off sz vs x xs hn hc hx hr,h=>by
    simp only [wV] at h;obtain ⟨us,h1,h2,h3⟩:=ER.get hr h;refine ⟨us,h1,fun j v hj=>?_,h3⟩;have:=h2 j v hj;rwa [show off+sz+i*sz+j=off+(i+1)*sz+j by rw [wG];omega] at this
def ER.append : ∀{xs ys:List (List L)} {b off sz:Nat},ER g w b off sz xs->ER g w b (off+xs.length*sz) sz ys->ER g w b off sz (xs++ys)
  | _,_,_,_,_,.nil _ _ _,h=>by simpa using h
  | _,_,_,_,_,.cons b off sz vs x xs hn hc hx hr,h=>by
    refine .cons _ _ _ vs _ _ hn hc hx (hr.append ?_);have e:off+(x::xs).length*sz=off+sz+xs.length*sz:=by simp [wG];omega
    rwa [e] at h
def ER.dropN : ∀(n:Nat) {xs:List (List L)} {b off sz:Nat},ER g w b off sz xs->n<=xs.length->ER g w b (off+n*sz) sz (xs.drop n)
  | 0,_,_,_,_,h,_=>by simpa using h
  | n+1,_,_,_,_,.nil _ _ _,h=>by simp at h
  | n+1,_,_,_,_,.cons b off sz vs x xs hn hc hx hr,h=>by
    have:=ER.dropN n hr (aR h);rw [show off+sz+n*sz=off+(n+1)*sz by rw [wG];omega] at this;simpa using this
def ER.takeN : ∀(n:Nat) {xs:List (List L)} {b off sz:Nat},ER g w b off sz xs->ER g w b off sz (xs.take n)
  | 0,_,_,_,_,_=>by simpa using ER.nil _ _ _
  | n+1,_,_,_,_,.nil _ _ _=>by simpa using ER.nil _ _ _
  | n+1,_,_,_,_,.cons b off sz vs x xs hn hc hx hr=>by simpa using ER.cons b off sz vs x _ hn hc hx (ER.takeN n hr)
end
end Go.Dn
namespace Go.Dn
variable [Globs]
def Zce:List Prop->Prop
  | []=>True
  | [p]=>p
  | p::q::ps=>p/\Zce (q::ps)
def Zce.cons {p:Prop} {ps:List Prop}:Zce (p::ps)↔p/\Zce ps:=by
  cases ps<;>simp [Zce]
def Zce.append : ∀{ps qs:List Prop},Zce (ps++qs)↔Zce ps/\Zce qs
  | [],qs=>by simp [Zce]
  | p::ps,qs=>by rw [List.cons_append,Zce.cons,Zce.cons,Zce.append,and_assoc]
def ZuW:Value->Option L
  | .int k n=>some (.int k n)
  | .bool b=>some (.bool b)
  | .string s=>some (.str s)
  | .pointer none=>some (.ptr none)
  | .slice none 0 0=>some (.sl 0 [])
  | _=>none
def ZmQ:List Value->Option (List T)
  | []=>some []
  | v::vs=>match ZuW v,ZmQ vs with
    | some l,some ls=>some (.l l::ls)
    | _,_=>none
def cTV:Value->Option TV
  | .agg vs=>(ZmQ vs.toList).map .agg
  | v=>(ZuW v).map fun l=>.one (.l l)
def ev (s:S):Operand->Option TV
  | .tmp t=>s.sl[t]?
  | .const v=>cTV v
  | .global k=>some (.one (.adr (.glob k) 0))
  | .func _=>none
section
variable {g:G} {s:S} {w:World}
def ZjK {v:Value} {l:L} (h:ZuW v=some l):LR g w none v l/\v.oneCell'=true/\l.single=true:=by
  unfold ZuW at h;split at h<;>simp only [zA,reduceCtorEq] at h<;>subst h
  · exact ⟨.int _ _ _,rfl,rfl⟩
  · exact ⟨.bool _ _,rfl,rfl⟩
  · exact ⟨.str _ _,rfl,rfl⟩
  · exact ⟨.nilp _,rfl,rfl⟩
  exact ⟨.slnil _ _,rfl,rfl⟩
def Zia {v:Value} {vs:List Value} {t:T} {ts:List T} (ht : ∀l,t = .l l->l.single=true) :
    TsR g s w (v::vs) (t::ts)↔v.oneCell'=true/\TR g s w v t/\TsR g s w vs ts:=by
  rw [TsR]
  · constructor
    · rintro ⟨v',rest,h,h1,h2,h3⟩
      simp only [yW] at h;obtain ⟨rfl,rfl⟩:=h;exact ⟨h1,h2,h3⟩
    rintro ⟨h1,h2,h3⟩;exact ⟨v,vs,rfl,h1,h2,h3⟩
  · intro k n xs e;subst e;simpa [L.single] using ht _ rfl
  intro n xs e;subst e;simpa [L.single] using ht _ rfl
def Zkv : ∀{vs:List Value} {ts:List T},ZmQ vs=some ts->TsR g s w vs ts
  | [],ts,h=>by simp only [ZmQ,zA] at h;subst h;rfl
  | v::vs,ts,h=>by
    simp only [ZmQ] at h;split at h
    · rename_i l ls h1 h2
      simp only [zA] at h;subst h;obtain ⟨k1,k2,k3⟩:=ZjK (g:=g) (w:=w) h1;rw [Zia (fun l' e=>by cases e;exact k3)];exact ⟨k2,k1,Zkv h2⟩
    cases h
def ZuR {v:Value} {tv:TV} (h:cTV v=some tv):ZdM g s w v tv:=by
  unfold cTV at h;split at h
  · obtain ⟨ts,h1,rfl⟩:=zI.1 h
    exact ⟨_,rfl,Zkv h1⟩
  obtain ⟨l,h1,rfl⟩:=zI.1 h;obtain ⟨k1,k2,_⟩:=ZjK (g:=g) (w:=w) h1;exact ⟨k2,k1⟩
def ZbN {a:Act} (hs:Sat g s w a.tmps) {x:Operand} {tv:TV} (h:ev s x=some tv):ZdM g s w (a.eval x) tv:=by
  cases x with
  | tmp t=>exact hs.slot t tv h
  | const v=>exact ZuR h
  | global k=>
    simp only [ev,zA] at h;subst h;exact ⟨rfl,⟨_,rfl⟩,trivial,fun _=>rfl⟩
  | func f=>cases h
end
def PV (P:Program) (o:Oper) (s:S) (tv:TV) (ps:List Prop):Prop:=
  ∀(g:G) (w:World) (a:Act),Sat g s w a.tmps->Zce ps->∃v,(execOp a.eval o).run P w = .ok (.value v) w/\ZdM g s w v tv
def ZaI (op:BinOp) (k:IntKind) (x y:Int):Int:=
  let a:=BitVec.ofInt k.bits x;let b:=BitVec.ofInt k.bits y
  k.wrap (match op with
    | .and=>(a &&& b)
    | .or=>(a ||| b)
    | .xor=>(a ^^^ b)
    | _=>(a &&& ~~~b)).toNat
def ZbP (k:IntKind) (x y:Int):Int:=k.wrap (x*2^min y.toNat k.bits)
def Zbx (k:IntKind) (x y:Int):Int:=x.fdiv (2^min y.toNat k.bits)
def lbin (op:BinOp):L->L->Option (L×List Prop)
  | .int k x,.int k' y=>
    match op with
    | .shl=>some (.int k (ZbP k x y),[0<=y])
    | .shr=>some (.int k (Zbx k x y),[0<=y])
    | op=>
      if k=k' then
        match op with
        | .add=>some (.int k (k.wrap (x+y)),[])
        | .sub=>some (.int k (k.wrap (x-y)),[])
        | .mul=>some (.int k (k.wrap (x*y)),[])
        | .quo=>some (.int k (k.wrap (x.tdiv y)),[y≠0])
        | .rem=>some (.int k (x.tmod y),[y≠0])
        | .and=>some (.int k (ZaI .and k x y),[])
        | .or=>some (.int k (ZaI .or k x y),[])
        | .xor=>some (.int k (ZaI .xor k x y),[])
        | .andNot=>some (.int k (ZaI .andNot k x y),[])
        | .eql=>some (.bool (x==y),[])
        | .neq=>some (.bool (x != y),[])
        | .lss=>some (.bool (x<y),[])
        | .leq=>some (.bool (x<=y),[])
        | .gtr=>some (.bool (x>y),[])
        | .geq=>some (.bool (x>=y),[])
        | _=>none
      else none
  | .str x,.str y=>
    match op with
    | .add=>some (.str (x++y),[x.size+y.size<=9223372036854775807])
    | .eql=>some (.bool (x.toList==y.toList),[])
    | .neq=>some (.bool (!(x.toList==y.toList)),[])
    | _=>none
  | _,_=>none
def ZsS {P:Program} {g:G} {w:World} {op:BinOp} {t:TypeId} {x y r:L} {ps:List Prop} {u v:Value} (h:lbin op x y=some (r,ps)) (hp:Zce ps)
    (hx:LR g w none u x) (hy:LR g w none v y) (X Y:Operand) : ∃z,(do eqGuard op t X Y u v;binOp op t u v:Sem Value).run P w = .ok z w/\LR g w none z r/\z.oneCell'=true:=by
  have hg : ∀(a b:Value),(∀c,a ≠ .agg c)->a ≠ .nilIface->(eqGuard op t X Y a b).run P w = .ok () w:=by
    intro a b h1 h2;unfold eqGuard;cases a<;>first | (exfalso;exact h2 rfl) | (exfalso;exact h1 _ rfl) | (cases op<;>rfl)
  cases hx<;>cases hy<;>simp only [lbin,reduceCtorEq] at h
  · rename_i k n k' n'
    rw [Sem.run_bind,hg _ _ aG aG];simp only [Result.andThen_ok];cases op<;>simp only at h<;>(try split at h)<;>(try simp only [reduceCtorEq,zA,zE] at h)<;>(try (obtain ⟨rfl,rfl⟩:=h))<;>(try subst_vars)<;>
      simp only [Zce] at hp<;>
      first
        | (refine ⟨_,?_,.int _ _ _,rfl⟩
           simp [binOp,Op.intArith,Op.intDiv,Op.intBits,Op.shift,ZaI,ZbP,Zbx,hp,Int.not_lt.2 hp])
        | (refine ⟨_,?_,.int _ _ _,rfl⟩
           simp [binOp,Op.intArith,Op.intDiv,Op.intBits,Op.shift,ZaI,ZbP,Zbx,hp])
        | (refine ⟨_,?_,.bool _ _,rfl⟩
           simp [binOp,Op.intCmp])
        | exact absurd h aG
  rename_i a b;rw [Sem.run_bind,hg _ _ aG aG];simp only [Result.andThen_ok];cases op<;>simp only [reduceCtorEq,zA,zE] at h<;>obtain ⟨rfl,rfl⟩:=h<;>simp only [Zce] at hp
  · refine ⟨_,?_,.str _ _,rfl⟩
    have : ¬ ((9223372036854775807:Int)<(a.size:Int)+(b.size:Int)):=aF
    simp [binOp,Op.stringOp,IntKind.max,IntKind.signed,IntKind.bits,this]
  · exact ⟨_,by simp [binOp,Op.stringOp],.bool _ _,rfl⟩
  exact ⟨_,by simp [binOp,Op.stringOp],.bool _ _,rfl⟩
end Go.Dn
namespace Go.Dn
variable [Globs]
def Zhu (b o n:Nat):(ad b o).add n=ad b (o+n):=by
  unfold Addr.add;split
  · subst_vars;rfl
  rfl
def Zeb {P:Program} {t:TypeId} {i:TypeInfo} (h:P.info? t=some i) (w:World):(sizeOf t).run P w = .ok i.size w:=by
  simp [sizeOf,typeInfo,h]
def ZoN (P:Program) (t:TypeId) (f:Nat):Option Nat:=
  match P.underlying t with
  | some (.struct fs)=>match fs[f]? with
    | some fd=>match P.info? fd.type with
      | some i=>if i.size=0 then none else some fd.offset
      | none=>none
    | none=>none
  | _=>none
def Zta (P:Program) (t:TypeId):Option (Nat×Nat):=
  match P.underlying t with
  | some (.array n e)=>match P.info? e with
    | some i=>some (n,i.size)
    | none=>none
  | _=>none
def slOf (P:Program) (t:TypeId):Option Nat:=
  match P.underlying t with
  | some (.slice e)=>match P.info? e with
    | some i=>some i.size
    | none=>none
  | _=>none
def nilOk:TV->Option TV
  | .one (.l (.ptr none))=>none
  | .one (.l (.ptr (some i)))=>some (.one (.l (.ptr (some i))))
  | .one (.adr r o)=>some (.one (.adr r o))
  | .one (.aadr r o n i)=>some (.one (.aadr r o n i))
  | .one (.eadr r z i o)=>some (.one (.eadr r z i o))
  | .one (.fadr z x i o)=>some (.one (.fadr z x i o))
  | .one (.l (.bx n ls))=>some (.one (.l (.bx n ls)))
  | _=>none
def fieldAt (off:Nat):TV->Option TV
  | .one (.l (.ptr (some i)))=>some (.one (.adr (.obj i) off))
  | .one (.adr r o)=>some (.one (.adr r (o+off)))
  | .one (.eadr r z i o)=>some (.one (.eadr r z i (o+off)))
  | .one (.fadr z x i o)=>some (.one (.fadr z x i (o+off)))
  | .one (.l (.bx n ls))=>some (.one (.fadr n [ls] 0 off))
  | _=>none
def indexAt (P:Program) (t:TypeId) (x:TV) (n:Int):Option (TV×List Prop):=
  match x with
  | .one (.adr r o)=>match Zta P t with
    | some (len,1)=>if 1<len then some (.one (.aadr r o len n.toNat),[0<=n,n<len]) else none
    | _=>none
  | .one (.l (.ptr (some i)))=>match Zta P t with
    | some (len,1)=>if 1<len then some (.one (.aadr (.obj i) 0 len n.toNat),[0<=n,n<len]) else none
    | _=>none
  | .one (.h src sz lo len)=>if slOf P t=some sz then some (.one (.eadr src sz (lo+n.toNat) 0),[0<=n,n<len]) else none
  | .one (.l (.sl sz xs))=>if slOf P t=some sz then some (.one (.fadr sz xs n.toNat 0),[0<=n,n<xs.length]) else none
  | .one (.asl r o m lo len)=>if slOf P t=some 1 then some (.one (.aadr r o m (lo+n.toNat)),[0<=n,n<len]) else none
  | _=>none
def lenTV (P:Program) (t:TypeId):TV->Option L
  | .one (.h _ _ _ len)=>match P.underlying t with
    | some (.slice _)=>some (.int .i64 len)
    | _=>none
  | .one (.l (.sl _ xs))=>match P.underlying t with
    | some (.slice _)=>some (.int .i64 xs.length)
    | _=>none
  | .one (.asl _ _ _ _ len)=>match P.underlying t with
    | some (.slice _)=>some (.int .i64 len)
    | _=>none
  | .one (.l (.str b))=>match P.underlying t with
    | some .string=>some (.int .i64 b.size)
    | _=>none
  | _=>match P.underlying t with
    | some (.array n _)=>some (.int .i64 n)
    | _=>none
def maxL:L->L->Option L
  | .int k x,.int k' y=>some (.int k (if y>x then y else x))
  | _,_=>none
def minL:L->L->Option L
  | .int k x,.int k' y=>some (.int k (if y<x then y else x))
  | _,_=>none
def unL:UnOp->L->Option L
  | .not,.bool b=>some (.bool !b)
  | .neg,.int k n=>some (.int k (k.wrap (0-n)))
  | .xor,.int k n=>some (.int k (ZaI .xor k (if k.signed then -1 else k.max) n))
  | _,_=>none
section
variable {P:Program} {g:G} {s:S} {w:World}
def Zrd {v:Value} {tv tv':TV} (h:nilOk tv=some tv') (hv:ZdM g s w v tv):(∃a,v = .pointer (some a))/\ZdM g s w v tv':=by
  unfold nilOk at h;split at h<;>simp only [zA,reduceCtorEq] at h<;>subst h
  · obtain ⟨h1,h2⟩:=hv;refine ⟨?_,h1,h2⟩;cases h2;exact ⟨_,rfl⟩
  · exact ⟨hv.2.1,hv⟩
  · exact ⟨hv.2.1,hv⟩
  · exact ⟨hv.2.1,hv⟩
  · obtain ⟨h1,b,o,h2,h3,h4,rfl⟩:=hv;exact ⟨⟨_,rfl⟩,h1,b,o,h2,h3,h4,rfl⟩
  obtain ⟨h1,h2⟩:=hv;refine ⟨?_,h1,h2⟩;cases h2;exact ⟨_,rfl⟩
def ZoO {t f:Nat} {off:Nat} {v:Value} {tv tv':TV} (ho:ZoN P t f=some off) (h:fieldAt off tv=some tv') (hv:ZdM g s w v tv) :
    ∃u,(Instr.fieldAt t v f).run P w = .ok u w/\ZdM g s w u tv':=by
  unfold ZoN at ho;split at ho<;>try cases ho
  rename_i fs hu;split at ho<;>try cases ho
  rename_i fd hf;split at ho<;>try cases ho
  rename_i i hi;split at ho<;>try cases ho
  rename_i hz;have hz' : ¬ (i.size=0):=hz;have key : ∀q:Addr,(Instr.fieldAt t (.pointer (some q)) f).run P w = .ok (.pointer (some (q.add fd.offset))) w:=by
    intro q;have hq:(fieldPlace q fd).run P w = .ok (q.add fd.offset) w:=by
      unfold fieldPlace;rw [Sem.run_bind,Zeb hi];simp [hz']
    unfold Instr.fieldAt;rw [Sem.run_bind,run_underlying hu];simp only [Result.andThen_ok,hf,Instr.sureAddr,Sem.run_bind,Sem.run_pure,hq]
  unfold fieldAt at h;split at h<;>simp only [zA,reduceCtorEq] at h<;>subst h
  · obtain ⟨h1,h2⟩:=hv
    cases h2 with
    | ref _ _ hj=>
      refine ⟨_,key _,rfl,⟨_,rfl⟩,hj,fun _=>?_⟩;rw [show ∀b,(⟨b,0,none⟩:Addr)=ad b 0 from fun _=>rfl,Zhu];simp [G.rb]
  · obtain ⟨h1,⟨q,rfl⟩,h2,h3⟩:=hv
    refine ⟨_,key q,rfl,⟨_,rfl⟩,h2,fun hr=>?_⟩;have:=h3 hr;simp only [Value.pointer.injEq,zA] at this;rw [this,Zhu]
  · obtain ⟨h1,⟨q,rfl⟩,h2,h3⟩:=hv
    refine ⟨_,key q,rfl,⟨_,rfl⟩,h2,fun hh hd=>?_⟩;obtain ⟨b,o,n,c,e1,e2,e3⟩:=h3 hh hd;simp only [Value.pointer.injEq,zA] at e3;exact ⟨b,o,n,c,e1,e2,by rw [e3,Zhu,xK]⟩
  · obtain ⟨h1,b,o,h2,h3,h4,rfl⟩:=hv
    exact ⟨_,key _,rfl,b,o,h2,h3,h4,by rw [Zhu,xK]⟩
  obtain ⟨h1,h2⟩:=hv;cases h2 with
  | bx _ _ b o _ vs hn hZ hc hx=>
    refine ⟨_,key _,rfl,b,o,.cons b o _ vs _ [] hn hc hx (.nil _ _ _),by simpa using hZ,by simp,?_⟩;rw [show (⟨b,o,none⟩:Addr)=ad b o from rfl,Zhu];simp
def Zlk {t:TypeId} {len sz:Nat} (h:Zta P t=some (len,sz)) (k:IntKind) (n:Int) (q:Addr) (h0:0<=n) (h1:n<len) :
    (Instr.indexAt t (.pointer (some q)) (.int k n)).run P w = .ok (.pointer (some (q.add (n.toNat*sz)))) w:=by
  unfold Zta at h;split at h<;>try cases h
  rename_i n' e hu;split at h<;>try cases h
  rename_i i hi;have hs:(sizeOf e).run P w = .ok i.size w:=Zeb hi w;unfold Instr.indexAt;simp [asIntOf,run_underlying hu,Instr.sureAddr,h0,h1,hs]
def Zjz {t:TypeId} {sz:Nat} (h:slOf P t=some sz) (k:IntKind) (n:Int) (q:Addr) (len cap:Nat) (h0:0<=n) (h1:n<len) :
    (Instr.indexAt t (.slice (some q) len cap) (.int k n)).run P w = .ok (.pointer (some (q.add (n.toNat*sz)))) w:=by
  unfold slOf at h;split at h<;>try cases h
  rename_i e hu;split at h<;>try cases h
  rename_i i hi;have hs:(sizeOf e).run P w = .ok i.size w:=Zeb hi w;unfold Instr.indexAt;simp [asIntOf,run_underlying hu,h0,h1,hs]
def ZoI {t:TypeId} {v:Value} {tv tv':TV} {k:IntKind} {n:Int} {ps:List Prop} (h:indexAt P t tv n=some (tv',ps)) (hp:Zce ps) (hv:ZdM g s w v tv) :
    ∃u,(Instr.indexAt t v (.int k n)).run P w = .ok u w/\ZdM g s w u tv':=by
  unfold indexAt at h;split at h
  · rename_i r o
    split at h<;>try cases h
    rename_i len ha;split at h<;>simp only [zA,zE,reduceCtorEq] at h;rename_i hlen;obtain ⟨rfl,rfl⟩:=h;simp only [Zce] at hp;obtain ⟨h0,h1⟩:=hp;obtain ⟨h2,⟨q,rfl⟩,h3,h4⟩:=hv;refine ⟨_,Zlk ha k n q h0 h1,rfl,⟨_,rfl⟩,h3,fun hr=>?_⟩;have:=h4 hr;simp only [Value.pointer.injEq,zA] at this;rw [this,Zhu,Nat.mul_one];exact ⟨aF,rfl⟩
  · rename_i i
    split at h<;>try cases h
    rename_i len ha;split at h<;>simp only [zA,zE,reduceCtorEq] at h;rename_i hlen;obtain ⟨rfl,rfl⟩:=h;simp only [Zce] at hp;obtain ⟨h0,h1⟩:=hp;obtain ⟨h2,h3⟩:=hv;cases h3 with
    | ref _ j hj=>
      refine ⟨_,Zlk ha k n _ h0 h1,rfl,⟨_,rfl⟩,hj,fun _=>?_⟩;rw [show (⟨g.ob i,0,none⟩:Addr)=ad (g.ob i) 0 from rfl,Zhu,Nat.mul_one];exact ⟨aF,by simp [G.rb]⟩
  · rename_i src sz lo len
    split at h<;>simp only [zA,zE,reduceCtorEq] at h;rename_i hs;obtain ⟨rfl,rfl⟩:=h;simp only [Zce] at hp;obtain ⟨h0,h1⟩:=hp;obtain ⟨h2,⟨q,c,rfl,hq⟩,h3,h4⟩:=hv;cases q with
    | none=>simp at hq;omega
    | some q=>
      refine ⟨_,Zjz hs k n q len c h0 h1,rfl,⟨_,rfl⟩,h3,fun hv hh=>?_⟩;rcases h4 hv hh with ⟨_,_,rfl,_⟩ | ⟨b,o,m,c',o',e1,e2,e3,e4,e5⟩
      · simp at h1;omega
      simp only [Value.slice.injEq,zA] at e3;obtain ⟨rfl,-,rfl⟩:=e3;refine ⟨b,o,m,c',e1,aF,?_⟩;rw [Zhu,e4 aF,vC,wG,xK]
  · rename_i sz xs
    split at h<;>simp only [zA,zE,reduceCtorEq] at h;rename_i hs;obtain ⟨rfl,rfl⟩:=h;simp only [Zce] at hp;obtain ⟨h0,h1⟩:=hp;obtain ⟨h2,h3⟩:=hv;cases h3 with
    | slnil=>simp at h1;omega
    | slz=>simp at h1;omega
    | sl _ b off len cap _ _ hl hc hZ he=>
      subst hl;refine ⟨_,Zjz hs k n _ _ cap h0 h1,rfl,b,off,he,hZ,aF,?_⟩;rw [show (⟨b,off,none⟩:Addr)=ad b off from rfl,Zhu];simp
  · rename_i r o m lo len
    split at h<;>simp only [zA,zE,reduceCtorEq] at h;rename_i hs;obtain ⟨rfl,rfl⟩:=h;simp only [Zce] at hp;obtain ⟨h0,h1⟩:=hp;obtain ⟨h2,⟨q,c,rfl,hq⟩,h3,h4⟩:=hv;cases q with
    | none=>simp at hq;omega
    | some q=>
      refine ⟨_,Zjz hs k n q len c h0 h1,rfl,⟨_,rfl⟩,h3,fun hr=>?_⟩;obtain ⟨e1,o',e2,e3⟩:=h4 hr;simp only [Value.slice.injEq,zA] at e2;obtain ⟨rfl,-,rfl⟩:=e2;refine ⟨aF,?_⟩;rw [Zhu,e3 aF,Nat.mul_one,xK]
  cases h
end
end Go.Dn
namespace Go.Dn
variable [Globs]
def Zow:TV->Option L
  | .one (.l x)=>some x
  | _=>none
def T.size:T->Nat
  | .l x=>x.size
  | _=>1
def ZqJ:List T->Nat->Option (List T)
  | c,0=>some c
  | [],_+1=>none
  | l::ls,o+1=>if l.size<=o+1 then ZqJ ls (o+1-l.size) else none
def ZqI:List T->Nat->Option (List T)
  | _,0=>some []
  | [],_+1=>none
  | l::ls,n+1=>if l.size<=n+1 then (ZqI ls (n+1-l.size)).map (l :: ·) else none
def tAt:List T->Nat->Option T
  | [],_=>none
  | l::ls,o=>if o=0 then some l else if l.size<=o then tAt ls (o-l.size) else none
def T.single:T->Bool
  | .l x=>x.single
  | _=>true
def Zfa (P:Program) (t:TypeId):Option Bool:=
  match P.underlying t with
  | some (.struct _)=>some true
  | some (.array _ _)=>some true
  | some _=>some false
  | none=>none
def Zrm (P:Program) (t f:Nat) (ts:List T):Option TV:=
  match P.underlying t with
  | some (.struct fs)=>match fs[f]? with
    | some fd=>match Zfa P fd.type with
      | some true=>match P.info? fd.type with
        | some i=>match ZqJ ts fd.offset with
          | some d=>(ZqI d i.size).map .agg
          | none=>none
        | none=>none
      | some false=>match tAt ts fd.offset with
        | some x=>if x.single then some (.one x) else none
        | none=>none
      | none=>none
    | none=>none
  | _=>none
def pickTV (a b:Operand) (x:Bool) (s:S):Option TV:=
  match b with
  | .const (.bool false)=>match (ev s a).bind Zow with
    | some (.bool y)=>some (.one (.l (.bool (x&&y))))
    | _=>if x then none else some (.one (.l (.bool false)))
  | _=>match a with
    | .const (.bool true)=>match (ev s b).bind Zow with
      | some (.bool y)=>some (.one (.l (.bool (x||y))))
      | _=>if x then some (.one (.l (.bool true))) else none
    | _=>none
section
variable {P:Program} {g:G} {s:S} {w:World}
def LR.int_eq {p:Option (Nat×Nat)} {v:Value} {k:IntKind} {n:Int} (h:LR g w p v (.int k n)):v = .int k n:=by cases h;rfl
def LR.bool_eq {p:Option (Nat×Nat)} {v:Value} {b:Bool} (h:LR g w p v (.bool b)):v = .bool b:=by cases h;rfl
def LR.str_eq {p:Option (Nat×Nat)} {v:Value} {b:ByteArray} (h:LR g w p v (.str b)):v = .string b:=by cases h;rfl
def ZhT {tv:TV} {x:L} (h:Zow tv=some x):tv = .one (.l x):=by
  unfold Zow at h;split at h<;>simp_all
def TsR.len : ∀{ts:List T} {vs:List Value},TsR g s w vs ts->vs.length=(ts.map T.size).sum
  | [],vs,h=>by rw [TsR] at h;subst h;rfl
  | t::ts,vs,h=>by
    unfold TsR at h;split at h<;>rename_i heq
    · simp at heq
    · simp only [yW] at heq;obtain ⟨rfl,rfl⟩:=heq
      obtain ⟨hn,rest,rfl,hr⟩:=h;simp [T.size,L.size,hn,TsR.len hr]
    · simp only [yW] at heq;obtain ⟨rfl,rfl⟩:=heq
      obtain ⟨hn,rest,rfl,hr⟩:=h;simp [T.size,L.size,hn,TsR.len hr]
    rename_i h1 h2;simp only [yW] at heq;obtain ⟨rfl,rfl⟩:=heq;obtain ⟨v,rest,rfl,hc,ht,hr⟩:=h;have e:T.size t=1:=by
      cases t with
      | l x=>cases x with
        | arr k n xs=>exact absurd rfl (h1 k n xs)
        | brr n xs=>exact absurd rfl (h2 n xs)
        | _=>rfl
      | _=>rfl
    simp [e,TsR.len hr,qE]
def TsR.inv {t:T} {ts:List T} {vs:List Value} (h:TsR g s w vs (t::ts)) : ∃us rest,vs=us++rest/\us.length=t.size/\TsR g s w us [t]/\TsR g s w rest ts:=by
  unfold TsR at h;split at h<;>rename_i heq
  · simp at heq
  · simp only [yW] at heq;obtain ⟨rfl,rfl⟩:=heq
    obtain ⟨hn,rest,rfl,hr⟩:=h;refine ⟨_,rest,rfl,by simp [T.size,L.size,hn],?_,hr⟩;rw [TsR];exact ⟨hn,[],by simp,by rw [TsR]⟩
  · simp only [yW] at heq;obtain ⟨rfl,rfl⟩:=heq
    obtain ⟨hn,rest,rfl,hr⟩:=h;refine ⟨_,rest,rfl,by simp [T.size,L.size,hn],?_,hr⟩;rw [TsR];exact ⟨hn,[],by simp,by rw [TsR]⟩
  rename_i h1 h2;simp only [yW] at heq;obtain ⟨rfl,rfl⟩:=heq;obtain ⟨v,rest,rfl,hc,ht,hr⟩:=h;have e:T.size t=1:=by
    cases t with
    | l x=>cases x with
      | arr k n xs=>exact absurd rfl (h1 k n xs)
      | brr n xs=>exact absurd rfl (h2 n xs)
      | _=>rfl
    | _=>rfl
  refine ⟨[v],rest,rfl,by simp [e],?_,hr⟩;rw [TsR]
  · exact ⟨v,[],rfl,hc,ht,by rw [TsR]⟩
  · exact h1
  exact h2
def TsR.join {t:T} {ts:List T} {us rest:List Value} (h:TsR g s w us [t]) (hr:TsR g s w rest ts):TsR g s w (us++rest) (t::ts):=by
  unfold TsR at h;split at h<;>rename_i heq
  · simp at heq
  · simp only [yW] at heq;obtain ⟨rfl,rfl⟩:=heq
    obtain ⟨hn,r0,rfl,h0⟩:=h;rw [TsR] at h0;subst h0;rw [TsR];exact ⟨hn,rest,by simp,hr⟩
  · simp only [yW] at heq;obtain ⟨rfl,rfl⟩:=heq
    obtain ⟨hn,r0,rfl,h0⟩:=h;rw [TsR] at h0;subst h0;rw [TsR];exact ⟨hn,rest,by simp,hr⟩
  rename_i h1 h2;simp only [yW] at heq;obtain ⟨rfl,rfl⟩:=heq;obtain ⟨v,r0,rfl,hc,ht,h0⟩:=h;rw [TsR] at h0;subst h0;rw [TsR]
  · exact ⟨v,rest,rfl,hc,ht,hr⟩
  · exact h1
  exact h2
def TsR.append : ∀{ts us:List T} {vs ws:List Value},TsR g s w vs ts->TsR g s w ws us->TsR g s w (vs++ws) (ts++us)
  | [],us,vs,ws,h,h'=>by rw [TsR] at h;subst h;simpa using h'
  | t::ts,us,vs,ws,h,h'=>by
    obtain ⟨a,b,rfl,_,h1,h2⟩:=h.inv;rw [yH,List.cons_append];exact h1.join (h2.append h')
def TsR.drop : ∀{ts:List T} {vs:List Value} {o:Nat} {d:List T},TsR g s w vs ts->ZqJ ts o=some d->o<=vs.length/\TsR g s w (vs.drop o) d
  | ts,vs,0,d,h,hd=>by simp only [ZqJ,zA] at hd;subst hd;exact ⟨xD _,by simpa using h⟩
  | [],vs,o+1,d,h,hd=>by simp [ZqJ] at hd
  | l::ls,vs,o+1,d,h,hd=>by
    simp only [ZqJ] at hd;split at hd
    · rename_i hle
      obtain ⟨us,rest,rfl,hu,h1,h2⟩:=h.inv;obtain ⟨h3,h4⟩:=TsR.drop h2 hd;refine ⟨by simp only [zU];omega,?_⟩;rw [sM,vK aF,hu];simpa using h4
    cases hd
def TsR.take : ∀{ts:List T} {vs:List Value} {n:Nat} {d:List T},TsR g s w vs ts->ZqI ts n=some d->n<=vs.length/\TsR g s w (vs.take n) d
  | ts,vs,0,d,h,hd=>by simp only [ZqI,zA] at hd;subst hd;exact ⟨xD _,by rw [TsR];simp⟩
  | [],vs,n+1,d,h,hd=>by simp [ZqI] at hd
  | l::ls,vs,n+1,d,h,hd=>by
    simp only [ZqI] at hd;split at hd
    · rename_i hle
      obtain ⟨us,rest,rfl,hu,h1,h2⟩:=h.inv;obtain ⟨d',hd',rfl⟩:=zI.1 hd;obtain ⟨h3,h4⟩:=TsR.take h2 hd';refine ⟨by simp only [zU];omega,?_⟩;rw [qB,zW aF,hu];exact h1.join h4
    cases hd
def T.single_not {t:T} (h:t.single=true) : ∀l,t = .l l->l.single=true:=by rintro l rfl;exact h
def T.size_single {t:T} (h:t.single=true):t.size=1:=by
  cases t with
  | l x=>cases x<;>first | rfl | simp [T.single,L.single] at h
  | _=>rfl
def TsR.at : ∀{ts:List T} {vs:List Value} {o:Nat} {t:T},TsR g s w vs ts->tAt ts o=some t->t.single=true->∃v,vs[o]? = some v/\v.oneCell'=true/\TR g s w v t
  | [],vs,o,t,h,hd,h1=>by simp [tAt] at hd
  | x::xs,vs,o,t,h,hd,h1=>by
    obtain ⟨us,rest,rfl,hu,h2,h3⟩:=h.inv;simp only [tAt] at hd;split at hd
    · subst_vars;cases hd
      rw [T.size_single h1] at hu
      match us,hu with
      | [v],_=>
        rw [Zia (T.single_not h1)] at h2;exact ⟨v,rfl,h2.1,h2.2.1⟩
    split at hd
    · rename_i ho hle
      obtain ⟨v,h4,h5,h6⟩:=TsR.at h3 hd h1;refine ⟨v,?_,h5,h6⟩;rw [yA aF,hu];exact h4
    cases hd
def Zgk {t:TypeId} {b:Bool} (h:Zfa P t=some b):(isAgg t).run P w = .ok b w:=by
  unfold Zfa at h;unfold isAgg;split at h<;>simp only [zA,reduceCtorEq] at h<;>subst h<;>rename_i hu<;>rw [Sem.run_bind,run_underlying hu]<;>try rfl
  rename_i d h1 h2;simp only [Result.andThen_ok]
  first
    | rfl
    | (split
       · exact absurd rfl (h1 _)
       · exact absurd rfl (h2 _ _)
       rfl)
def ZoM {t f:Nat} {ts:List T} {tv:TV} {v:Value} (h:Zrm P t f ts=some tv) (hv:ZdM g s w v (.agg ts)) :
    ∃u,(Instr.field t v f).run P w = .ok u w/\ZdM g s w u tv:=by
  obtain ⟨vs,rfl,hv⟩:=hv;unfold Zrm at h;split at h<;>try cases h
  rename_i fs hu;split at h<;>try cases h
  rename_i fd hf;unfold Instr.field;rw [Sem.run_bind,run_underlying hu];simp only [Result.andThen_ok,hf,asAgg,Sem.run_bind,Sem.run_pure,part];split at h<;>try cases h
  · rename_i ha
    split at h<;>try cases h
    rename_i i hi;split at h<;>try cases h
    rename_i d hd;obtain ⟨d',hd',rfl⟩:=zI.1 h;obtain ⟨h1,h2⟩:=hv.drop hd;obtain ⟨h3,h4⟩:=h2.take hd';refine ⟨.agg (vs.extract fd.offset (fd.offset+i.size)),?_,⟨_,rfl,?_⟩⟩
    · rw [Zgk ha];simp [Zeb hi]
    have e:(vs.extract fd.offset (fd.offset+i.size)).toList=(vs.toList.drop fd.offset).take i.size:=by
      rw [Array.toList_extract,List.extract_eq_take_drop];congr 1;omega
    rw [e];exact h4
  rename_i ha;split at h<;>try cases h
  rename_i x hx;split at h<;>simp only [zA,reduceCtorEq] at h;rename_i hs;subst h;obtain ⟨u,h1,h2,h3⟩:=hv.at hx hs;refine ⟨u,?_,h2,h3⟩;rw [Zgk ha];have:vs[fd.offset]? = some u:=by simpa using h1
  simp [this]
def Zrh {t rt:TypeId} {tv:TV} {l:L} {v:Value} (h:lenTV P t tv=some l) (hv:ZdM g s w v tv) :
    ∃u,(Builtin.len_ #[t] rt #[v]).run P w = .ok u w/\LR g w none u l/\u.oneCell'=true:=by
  unfold lenTV at h;split at h
  · split at h<;>simp only [zA,reduceCtorEq] at h
    rename_i e hu;subst h;obtain ⟨_,⟨q,c,rfl,_⟩,_⟩:=hv;exact ⟨_,by simp [Builtin.len_,run_underlying hu,goInt],.int _ _ _,rfl⟩
  · split at h<;>simp only [zA,reduceCtorEq] at h
    rename_i e hu;subst h;obtain ⟨_,h2⟩:=hv;cases h2 with
    | slnil=>exact ⟨_,by simp [Builtin.len_,run_underlying hu,goInt],.int _ _ _,rfl⟩
    | slz=>exact ⟨_,by simp [Builtin.len_,run_underlying hu,goInt],.int _ _ _,rfl⟩
    | sl _ b off len cap _ _ hl hc hZ he=>subst hl;exact ⟨_,by simp [Builtin.len_,run_underlying hu,goInt],.int _ _ _,rfl⟩
  · split at h<;>simp only [zA,reduceCtorEq] at h
    rename_i e hu;subst h;obtain ⟨_,⟨q,c,rfl,_⟩,_⟩:=hv;exact ⟨_,by simp [Builtin.len_,run_underlying hu,goInt],.int _ _ _,rfl⟩
  · split at h<;>simp only [zA,reduceCtorEq] at h
    rename_i hu;subst h;obtain ⟨_,h2⟩:=hv;cases h2;exact ⟨_,by simp [Builtin.len_,run_underlying hu,goInt],.int _ _ _,rfl⟩
  split at h<;>simp only [zA,reduceCtorEq] at h;rename_i n e hu;subst h;refine ⟨.int .i64 n,?_,.int _ _ _,rfl⟩;simp [Builtin.len_,run_underlying hu,goInt]
def Ztl {op:UnOp} {x l:L} {v:Value} (h:unL op x=some l) (hv:LR g w none v x) : ∃u,(Op.unary op v).run P w = .ok u w/\LR g w none u l/\u.oneCell'=true:=by
  unfold unL at h;split at h<;>simp only [zA,reduceCtorEq] at h<;>subst h<;>cases hv
  · exact ⟨_,rfl,.bool _ _,rfl⟩
  · exact ⟨_,rfl,.int _ _ _,rfl⟩
  refine ⟨_,?_,.int _ _ _,rfl⟩;simp [Op.unary,Op.intBits,ZaI]
end
def pv (P:Program) (s:S) (o:Oper):Option (TV×List Prop):=
  match o.op with
  | .move x | .assign x=>(ev s x).map (·,[])
  | .pick c a b=>match (ev s c).bind Zow with
    | some (.bool x)=>(pickTV a b x s).map (·,[])
    | _=>none
  | .nilCheck x=>((ev s x).bind nilOk).map (·,[])
  | .fieldAddr t x f=>match ZoN P t f with
    | some off=>((ev s x).bind (fieldAt off)).map (·,[])
    | none=>none
  | .field t x f=>match ev s x with
    | some (.agg ts)=>(Zrm P t f ts).map (·,[])
    | _=>none
  | .indexAddr t x i=>match ev s x,(ev s i).bind Zow with
    | some tv,some (.int _ n)=>indexAt P t tv n
    | _,_=>none
  | .binOp op _ x y _=>match (ev s x).bind Zow,(ev s y).bind Zow with
    | some a,some b=>(lbin op a b).map fun r=>(.one (.l r.1),r.2)
    | _,_=>none
  | .unOp op _ x=>match (ev s x).bind Zow with
    | some a=>(unL op a).map fun r=>(.one (.l r),[])
    | none=>none
  | .convert u t x=>match P.underlying u,P.underlying t,(ev s x).bind Zow with
    | some _,some (.int k),some (.int _ n)=>some (.one (.l (.int k (k.wrap n))),[])
    | _,_,_=>none
  | .extract x i=>match ev s x with
    | some (.tup vs)=>(vs[i]?).map (·,[])
    | _=>none
  | .call { callee:=.builtin .len,args:=⟨[x]⟩,argTypes:=⟨[t]⟩}=>((ev s x).bind (lenTV P t)).map fun l=>(.one (.l l),[])
  | .call { callee:=.builtin .max,args:=⟨[x,y]⟩,.. }=>match (ev s x).bind Zow,(ev s y).bind Zow with
    | some a,some b=>(maxL a b).map fun l=>(.one (.l l),[])
    | _,_=>none
  | .call { callee:=.builtin .min,args:=⟨[x,y]⟩,.. }=>match (ev s x).bind Zow,(ev s y).bind Zow with
    | some a,some b=>(minL a b).map fun l=>(.one (.l l),[])
    | _,_=>none
  | _=>none
def ZfK.get {g:G} {s:S} {w:World} : ∀{tvs:List TV} {vs:List Value} {i:Nat} {tv:TV},ZfK g s w vs tvs->tvs[i]? = some tv->∃v,vs[i]? = some v/\ZdM g s w v tv
  | [],_,_,_,_,h=>by simp at h
  | x::xs,vs,0,tv,h,hi=>by
    obtain ⟨v,rest,rfl,h1,h2⟩:=h;simp only [yJ,zA] at hi;subst hi;exact ⟨v,rfl,h1⟩
  | x::xs,vs,i+1,tv,h,hi=>by
    obtain ⟨v,rest,rfl,h1,h2⟩:=h;obtain ⟨u,h3,h4⟩:=ZfK.get h2 (aR hi);exact ⟨u,by simpa using h3,h4⟩
def pv_sound {P:Program} {s:S} {o:Oper} {tv:TV} {ps:List Prop} (h:pv P s o=some (tv,ps)):PV P o s tv ps:=by
  intro g w a hs hp;obtain ⟨dst,op,type,pos,after,guard⟩:=o;have E : ∀{x:Operand} {t:TV},ev s x=some t->ZdM g s w (a.eval x) t:=fun h=>ZbN hs h;have E1 : ∀{x:Operand} {l:L},(ev s x).bind Zow=some l->LR g w none (a.eval x) l/\(a.eval x).oneCell'=true:=by
    intro x l h;obtain ⟨t,h1,h2⟩:=yD.1 h;have:=ZhT h2;subst this;exact ⟨(E h1).2,(E h1).1⟩
  unfold pv at h;simp only at h;split at h
  · obtain ⟨t,h1,h2⟩:=zI.1 h;simp only [zE] at h2;obtain ⟨rfl,rfl⟩:=h2
    exact ⟨_,rfl,E h1⟩
  · obtain ⟨t,h1,h2⟩:=zI.1 h;simp only [zE] at h2;obtain ⟨rfl,rfl⟩:=h2
    exact ⟨_,rfl,E h1⟩
  · rename_i c x y
    split at h<;>try cases h
    rename_i b hb;obtain ⟨t,h1,h2⟩:=zI.1 h;simp only [zE] at h2;obtain ⟨rfl,rfl⟩:=h2;obtain ⟨h3,_⟩:=E1 hb;have hc:a.eval c = .bool b:=h3.bool_eq;refine ⟨if b then a.eval x else a.eval y,by simp [execOp,asBool,hc],?_⟩;unfold pickTV at h1;split at h1
    · split at h1
      · rename_i z hz
        simp only [zA] at h1;subst h1;obtain ⟨h4,h5⟩:=E1 hz;cases b
        · exact ⟨rfl,.bool _ _⟩
        simp only [Bool.true_and,if_true];exact ⟨h5,h4⟩
      cases b<;>simp only [if_true,if_false,reduceCtorEq,yP,zA] at h1;subst h1;exact ⟨rfl,.bool _ _⟩
    split at h1<;>try cases h1
    split at h1
    · rename_i z hz
      simp only [zA] at h1;subst h1;obtain ⟨h4,h5⟩:=E1 hz;cases b
      · simp only [Bool.false_or,yP,if_false];exact ⟨h5,h4⟩
      exact ⟨rfl,.bool _ _⟩
    cases b<;>simp only [if_true,if_false,reduceCtorEq,yP,zA] at h1;subst h1;exact ⟨rfl,.bool _ _⟩
  · obtain ⟨t,h1,h2⟩:=zI.1 h;simp only [zE] at h2;obtain ⟨rfl,rfl⟩:=h2
    obtain ⟨t0,h3,h4⟩:=yD.1 h1;obtain ⟨⟨q,hq⟩,h5⟩:=Zrd h4 (E h3);refine ⟨_,?_,h5⟩;simp [execOp,hq]
  · split at h<;>try cases h
    rename_i off ho;obtain ⟨t,h1,h2⟩:=zI.1 h;simp only [zE] at h2;obtain ⟨rfl,rfl⟩:=h2;obtain ⟨t0,h3,h4⟩:=yD.1 h1;obtain ⟨u,h5,h6⟩:=ZoO ho h4 (E h3);exact ⟨u,by simp [execOp,h5],h6⟩
  · split at h<;>try cases h
    rename_i ts hts;obtain ⟨t,h1,h2⟩:=zI.1 h;simp only [zE] at h2;obtain ⟨rfl,rfl⟩:=h2;obtain ⟨u,h5,h6⟩:=ZoM h1 (E hts);exact ⟨u,by simp [execOp,h5],h6⟩
  · rename_i t x i
    split at h<;>try cases h
    rename_i tv0 k n hx hn;obtain ⟨h3,_⟩:=E1 hn;have hc:a.eval i = .int k n:=h3.int_eq;obtain ⟨u,h5,h6⟩:=ZoI (k:=k) h hp (E hx);exact ⟨u,by simp [execOp,hc,h5],h6⟩
  · rename_i op t x y _
    split at h<;>try cases h
    rename_i l m hx hy;obtain ⟨r,h1,h2⟩:=zI.1 h;simp only [zE] at h2;obtain ⟨rfl,rfl⟩:=h2;obtain ⟨z,h3,h4,h5⟩:=ZsS (P:=P) (t:=t) (X:=x) (Y:=y) (show lbin op l m=some (r.1,r.2) from h1) hp (E1 hx).1 (E1 hy).1;exact ⟨z,by simp only [execOp,Sem.run_bind,h3,Result.andThen_ok,Sem.run_pure],h5,h4⟩
  · rename_i op t x
    split at h<;>try cases h
    rename_i l hx;obtain ⟨r,h1,h2⟩:=zI.1 h;simp only [zE] at h2;obtain ⟨rfl,rfl⟩:=h2;obtain ⟨z,h3,h4,h5⟩:=Ztl (P:=P) h1 (E1 hx).1;exact ⟨z,by simp [execOp,h3],h5,h4⟩
  · rename_i sty t x
    split at h<;>simp only [zA,zE,reduceCtorEq] at h;rename_i d k k' n hu' hu hx;obtain ⟨rfl,rfl⟩:=h;obtain ⟨h3,_⟩:=E1 hx;have hc:a.eval x = .int k' n:=h3.int_eq;refine ⟨.int k (k.wrap n),?_,rfl,.int _ _ _⟩;simp only [execOp,hc,convert,Sem.run_bind,run_underlying hu',run_underlying hu,Result.andThen_ok];cases d<;>simp [Conv.intToInt]
  · rename_i x i
    split at h<;>try cases h
    rename_i vs hx;obtain ⟨t,h1,h2⟩:=zI.1 h;simp only [zE] at h2;obtain ⟨rfl,rfl⟩:=h2;obtain ⟨us,h3,h4⟩:=E hx;obtain ⟨u,h5,h6⟩:=h4.get h1;refine ⟨u,?_,h6⟩;have h7:us[i]? = some u:=by simpa using h5
    simp [execOp,h3,Instr.extract,h7]
  · obtain ⟨t,h1,h2⟩:=zI.1 h;simp only [zE] at h2;obtain ⟨rfl,rfl⟩:=h2
    obtain ⟨t0,h3,h4⟩:=yD.1 h1;obtain ⟨u,h5,h6,h7⟩:=Zrh (rt:=type) h4 (E h3);refine ⟨u,?_,h7,h6⟩;simp [execOp,resolve,invoke,builtin,h5]
  · split at h<;>try cases h
    rename_i l m hx hy;obtain ⟨r,h1,h2⟩:=zI.1 h;simp only [zE] at h2;obtain ⟨rfl,rfl⟩:=h2;unfold maxL at h1;split at h1<;>simp only [zA,reduceCtorEq] at h1;subst h1;obtain ⟨h3,_⟩:=E1 hx;obtain ⟨h4,_⟩:=E1 hy;refine ⟨_,?_,rfl,.int _ _ _⟩;simp only [execOp,resolve,invoke,builtin,Sem.run_bind,Sem.run_pure,Result.andThen_ok,List.map_toArray,xF,uR,h3.int_eq,h4.int_eq,run_max_int2]
  · split at h<;>try cases h
    rename_i l m hx hy;obtain ⟨r,h1,h2⟩:=zI.1 h;simp only [zE] at h2;obtain ⟨rfl,rfl⟩:=h2;unfold minL at h1;split at h1<;>simp only [zA,reduceCtorEq] at h1;subst h1;obtain ⟨h3,_⟩:=E1 hx;obtain ⟨h4,_⟩:=E1 hy;refine ⟨_,?_,rfl,.int _ _ _⟩;simp only [execOp,resolve,invoke,builtin,Sem.run_bind,Sem.run_pure,Result.andThen_ok,List.map_toArray,xF,uR,h3.int_eq,h4.int_eq,run_min_int2]
  cases h
end Go.Dn
namespace Go.Dn
variable [Globs]
def ZgQ (s:S) (oc:List L):Root->Option (List L×List Prop)
  | .site n=>match s.si[n]? with
    | some (some (.cells c))=>some (c,[])
    | _=>none
  | .obj i=>match oc with
    | []=>none
    | _::_=>some (oc,[s.st[i]? = some oc])
  | .glob _=>none
def ZjM (s:S) (oc:List L):Src->Option (Nat×List (List L)×List Prop)
  | .row n ver=>match s.si[n]? with
    | some (some (.row ver' _ sz xs))=>if ver=ver' then some (sz,xs,[]) else none
    | _=>none
  | .mem r off ep=>if ep=s.ep then match ZgQ s oc r with
      | some (c,ps)=>match ZgL c off with
        | some (.own _ sz xs)=>some (sz,xs,ps)
        | _=>none
      | none=>none
    else none
def Zmx (r:Root) (off ep:Nat):L->Option TV
  | .own _ sz xs=>some (.one (.h (.mem r off ep) sz 0 xs.length))
  | .mp _=>some (.one (.mm (.mem r off ep)))
  | .gone=>none
  | .arr _ _ _=>none
  | .brr _ _=>none
  | x=>some (.one (.l x))
def ZiU:L->Option TV
  | .own _ _ _=>none
  | .mp _=>none
  | .gone=>none
  | .arr _ _ _=>none
  | .brr _ _=>none
  | x=>some (.one (.l x))
def ZsR:List L->Option (List T)
  | []=>some []
  | .own true _ _::_=>none
  | .mp _::_=>none
  | .gone::_=>none
  | .own false sz xs::ls=>(ZsR ls).map (.l (.sl sz xs) :: ·)
  | x::ls=>(ZsR ls).map (.l x :: ·)
def Zki (agg:Bool) (n:Nat) (c:List L) (off:Nat) (cell:L->Option TV):Option TV:=
  if agg then match Zgn c off with
    | some d=>match Zho d n with
      | some ls=>(ZsR ls).map .agg
      | none=>none
    | none=>none
  else (ZgL c off).bind cell
def ld (P:Program) (s:S) (t:TypeId) (oc oe:List L) (tv:TV):Option (TV×List Prop):=
  match Zfa P t,P.info? t with
  | some ag,some i=>
    match tv with
    | .one (.adr (.glob k) off)=>match Globs.gc k with
      | some c=>(Zki ag i.size c off ZiU).map (·,[])
      | none=>none
    | .one (.aadr (.glob k) off n j)=>if ag then none else match Globs.gc k with
      | some c=>match ZgL c off with
        | some (.arr k m xs)=>if m=n then some (.one (.l (.int k (xs.getD j 0))),[]) else none
        | _=>none
      | none=>none
    | .one (.adr r off)=>match ZgQ s oc r with
      | some (c,ps)=>(Zki ag i.size c off (Zmx r off s.ep)).map (·,ps)
      | none=>none
    | .one (.l (.ptr (some j)))=>match ZgQ s oc (.obj j) with
      | some (c,ps)=>(Zki ag i.size c 0 (Zmx (.obj j) 0 s.ep)).map (·,ps)
      | none=>none
    | .one (.aadr r off n j)=>if ag then none else match ZgQ s oc r with
      | some (c,ps)=>match ZgL c off with
        | some (.arr k m xs)=>if m=n then some (.one (.l (.int k (xs.getD j 0))),ps) else none
        | some (.brr m xs)=>if m=n then some (.one (.l (.bool (xs.getD j false))),ps) else none
        | _=>none
      | none=>none
    | .one (.eadr src sz j off)=>match ZjM s oc src with
      | some (sz',xs,ps)=>if sz=sz' then (Zki ag i.size oe off ZiU).map (·,(xs[j]? = some oe)::ps) else none
      | none=>none
    | .one (.fadr _ xs j off)=>(Zki ag i.size oe off ZiU).map (·,[xs[j]? = some oe])
    | _=>none
  | _,_=>none
section
variable {P:Program} {g:G} {s:S} {w:World}
def LR.out {p:Option (Nat×Nat)} {v:Value} {x:L} (h:LR g w p v x) (hx : ∀e sz xs,x ≠ .own e sz xs) (hm : ∀es,x ≠ .mp es):LR g w none v x:=by
  cases h with
  | int=>exact .int _ _ _
  | bool=>exact .bool _ _
  | str=>exact .str _ _
  | nilp=>exact .nilp _
  | ref _ i h=>exact .ref _ i h
  | slnil=>exact .slnil _ _
  | slz=>exact .slz _ _ _
  | sl _ b off len cap sz xs hl hc hZ he=>exact .sl _ b off len cap sz xs hl hc hZ he
  | ownnil=>exact absurd rfl (hx _ _ _)
  | ownz=>exact absurd rfl (hx _ _ _)
  | own=>exact absurd rfl (hx _ _ _)
  | mp=>exact absurd rfl (hm _)
  | gone=>exact .gone _ _
  | fn _ f n vs cs hc=>exact .fn _ f n vs cs hc
  | bx _ n b o ls vs hn hZ hc hcr=>exact .bx _ n b o ls vs hn hZ hc hcr
  | mz _ b en es hZ hb he=>exact .mz _ b en es hZ hb he
  | yl _ l=>exact .yl _ l
def LR.outA {p:Option (Nat×Nat)} {v:Value} {sz:Nat} {xs:List (List L)} (h:LR g w p v (.own false sz xs)):LR g w none v (.sl sz xs):=by
  cases h with
  | ownnil=>exact .slnil _ _
  | ownz=>exact .slz _ _ _
  | own _ b off len cap _ _ _ a E hl hc ho hb hs hZ he=>exact .sl _ b off len cap sz xs hl hc (by simp at hZ;omega) he
def Zeg (hm:ZdK g s w) {oc c:List L} {ps:List Prop} {r:Root} (h:ZgQ s oc r=some (c,ps)) (hp:Zce ps) :
    ZhF g r/\Zfq s r/\∃t,Znq g w (g.rb r) t c:=by
  cases r with
  | site n=>
    simp only [ZgQ] at h;split at h<;>simp only [zA,zE,reduceCtorEq] at h;obtain ⟨rfl,rfl⟩:=h;rename_i h1;exact ⟨trivial,⟨_,h1⟩,_,hm.site n _ h1⟩
  | obj i=>
    simp only [ZgQ] at h;split at h<;>simp only [zA,zE,reduceCtorEq] at h;obtain ⟨rfl,rfl⟩:=h;simp only [Zce] at hp;have h1:i<s.st.length:=by
      rcases zX i s.st.length with h | h
      · exact h
      simp [zM h] at hp
    exact ⟨by have:=hm.stl;simp only [ZhF];omega,trivial,_,hm.obj i _ hp aG⟩
  | glob k=>cases h
def Znq.cell {b:Nat} {t:Ow} {c:List L} (h:Znq g w b t c) : ∃vs:List Value,CR g w (some (b,0)) vs c/\∀o,w.cell? (ad b o)=vs[o]? := by
  obtain ⟨_,_,a,E,h1,h2⟩:=h;refine ⟨a.toList,h2,fun o=>?_⟩;simp [World.cell?,h1]
def ZkJ (hm:ZdK g s w) {oc:List L} {sz:Nat} {xs:List (List L)} {ps:List Prop} {src:Src} (h:ZjM s oc src=some (sz,xs,ps)) (hp:Zce ps) :
    ∃hv t e,Hd g s w src hv/\ZgO g w t hv e sz xs:=by
  cases src with
  | row n ver=>
    simp only [ZjM] at h;split at h<;>try cases h
    rename_i ver' e sz' xs' h1;split at h<;>simp only [zA,zE,reduceCtorEq] at h;obtain ⟨rfl,rfl,rfl⟩:=h;rename_i hv;subst hv;exact ⟨_,_,e,⟨⟨_,_,_,h1⟩,rfl⟩,hm.site n _ h1⟩
  | mem r off ep=>
    simp only [ZjM] at h;split at h<;>try cases h
    rename_i hep;split at h<;>try cases h
    rename_i c ps' hc;split at h<;>simp only [zA,zE,reduceCtorEq] at h;rename_i e sz' xs' hseg;obtain ⟨rfl,rfl,rfl⟩:=h;obtain ⟨h1,h2,t,h3⟩:=Zeg hm hc hp;obtain ⟨vs,h4,h5⟩:=h3.cell;obtain ⟨v,h6,h7,h8⟩:=h4.at1 hseg rfl;simp only [bump,yE] at h8;exact ⟨v,_,e,⟨hep,h2,by rw [h5];exact h6⟩,Zlw.1 h8⟩
def ZjF : ∀{ls:List L} {p:Option (Nat×Nat)} {vs:List Value} {ts:List T},ZsR ls=some ts->CR g w p vs ls->TsR g s w vs ts
  | [],p,vs,ts,h,hc=>by simp only [ZsR,zA] at h;subst h;cases hc;rw [TsR]
  | x::ls,p,vs,ts,h,hc=>by
    obtain ⟨us,rest,rfl,hu,h1,h2⟩:=hc.inv;unfold ZsR at h;split at h<;>try cases h
    · rename_i heq;cases heq
    · rename_i sz xs _ heq
      simp only [yW] at heq;obtain ⟨rfl,rfl⟩:=heq;obtain ⟨ts',h3,rfl⟩:=zI.1 h;refine TsR.join ?_ (ZjF h3 h2);cases h1 with
      | one _ v _ _ _ hv h1' hr=>
        cases hr;rw [Zia (by rintro _ ⟨⟩;rfl)];exact ⟨h1',hv.outA,by rw [TsR]⟩
    rename_i x' ls' k1 k2 k3 k4 heq;simp only [yW] at heq;obtain ⟨rfl,rfl⟩:=heq;obtain ⟨ts',h3,rfl⟩:=zI.1 h;refine TsR.join ?_ (ZjF h3 h2);cases h1 with
    | one _ v _ _ _ hv h1' hr=>
      cases hr;have hs:x.single=true:=by cases hv<;>rfl
      rw [Zia (by rintro _ ⟨⟩;exact hs)];refine ⟨h1',hv.out ?_ (fun es he=>by subst he;exact k2 _ rfl),by rw [TsR]⟩;intro e sz xs he;subst he;cases e
      · exact k4 _ _ rfl
      exact k1 _ _ rfl
    | arr _ k n xs _ _ hn hr=>cases hr;rw [TsR];exact ⟨hn,[],rfl,by rw [TsR]⟩
    | brr _ n xs _ _ hn hr=>cases hr;rw [TsR];exact ⟨hn,[],rfl,by rw [TsR]⟩
def ZgM {t:TypeId} {i:TypeInfo} {ag:Bool} (ha:Zfa P t=some ag) (hi:P.info? t=some i) {c:List L} {off:Nat} {cell:L->Option TV} {tv:TV}
    (h:Zki ag i.size c off cell=some tv) {p:Option (Nat×Nat)} {vs:List Value} (hc:CR g w p vs c) {b o:Nat} (hcell : ∀j v,vs[j]? = some v->w.cell? (ad b (o+j))=some v)
    (hone : ∀x tv v,cell x=some tv->LR g w (bump p off) v x->v.oneCell'=true->vs[off]? = some v->ZdM g s w v tv) (hns : ∀x tv,cell x=some tv->x.single=true) :
    ∃v,(loadVar t (ad b (o+off))).run P w = .ok v w/\ZdM g s w v tv:=by
  unfold Zki at h;unfold loadVar;rw [Sem.run_bind,Zgk ha];simp only [Result.andThen_ok];cases ag with
  | true=>
    simp only [if_true] at h |-;split at h<;>try cases h
    rename_i d hd;split at h<;>try cases h
    rename_i ls hls;obtain ⟨ts,hts,rfl⟩:=zI.1 h;obtain ⟨h1,h2⟩:=hc.drop hd;obtain ⟨h3,h4⟩:=h2.take hls;have hl:((vs.drop off).take i.size).length=i.size:=by simp at h3 |-;omega
    have hr:=run_loadCells_list (P:=P) w (ad b (o+off)) ((vs.drop off).take i.size) (fun j v hj=>by
      rw [Zhu];simp only [yT,xG] at hj;split at hj
      · have:=hcell (off+j) v hj;rwa [<-xK] at this
      cases hj)
    rw [hl] at hr;refine ⟨.agg ((vs.drop off).take i.size).toArray,?_,⟨_,rfl,by simpa using ZjF hts h4⟩⟩;rw [Sem.run_bind,Zeb hi];simp only [Result.andThen_ok,Sem.run_bind,hr,Sem.run_pure]
  | false=>
    simp only [yP,if_false] at h |-;obtain ⟨x,h1,h2⟩:=yD.1 h;obtain ⟨v,h3,h4,h5⟩:=hc.at1 h1 (hns x tv h2);refine ⟨v,?_,hone x tv v h2 h5 h4 h3⟩;have:=hcell off v h3;simp [this]
def Zhc {x:L} {tv:TV} {p:Option (Nat×Nat)} {v:Value} (h:ZiU x=some tv) (hv:LR g w p v x) (h1:v.oneCell'=true):ZdM g s w v tv:=by
  unfold ZiU at h;split at h<;>simp only [zA,reduceCtorEq] at h;rename_i k1 k2 k3 k4 k5;subst h;exact ⟨h1,hv.out k1 k2⟩
def ZgI {x:L} {tv:TV} (h:ZiU x=some tv):x.single=true:=by
  unfold ZiU at h;cases x<;>first | rfl | simp at h
def ZpY {x:L} {tv:TV} {b off:Nat} {v:Value} {r:Root} (h:Zmx r off s.ep x=some tv) (hv:LR g w (some (b,off)) v x) (h1:v.oneCell'=true)
    (hb:b=g.rb r) (hi:ZhF g r) (hg : ∀k,r ≠ .glob k) (hcell:w.cell? (ad (g.rb r) off)=some v):ZdM g s w v tv:=by
  unfold Zmx at h;split at h<;>simp only [zA,reduceCtorEq] at h<;>subst h
  · refine ⟨h1,?_,⟨hi,zH _,hg⟩,?_⟩
    · cases hv with
      | ownnil=>exact ⟨none,0,rfl,.inl rfl⟩
      | ownz=>exact ⟨_,0,rfl,.inl rfl⟩
      | own _ b off len cap sz e xs a E hl hc ho hb hs hZ he=>subst hl;exact ⟨_,cap,rfl,.inr rfl⟩
    rintro hv' ⟨_,_,h2⟩;rw [hcell] at h2;cases h2;cases hv with
    | ownnil=>exact .inl ⟨rfl,rfl,rfl,rfl⟩
    | ownz _ _ _ b o=>exact .inr ⟨b,o,0,0,o,rfl,⟨by simp,zH _⟩,by simp,fun h=>aF,fun _=>rfl⟩
    | own _ b off len cap sz e xs a E hl hc ho hb hs hZ he=>
      subst hl;exact .inr ⟨b,off,_,cap,off,rfl,⟨aF,hc⟩,by simp,fun _=>by simp,fun _=>rfl⟩
  · obtain ⟨b',cl,en,rfl,_⟩:=Zvo.1 hv
    refine ⟨h1,⟨_,rfl⟩,⟨hi,zH _,hg⟩,?_⟩;rintro hv' ⟨_,_,h2⟩;rw [hcell] at h2;cases h2;rfl
  rename_i k1 k2 k3 k4 k5;exact ⟨h1,hv.out k1 k2⟩
def ZoE {r:Root} {off ep:Nat} {x:L} {tv:TV} (h:Zmx r off ep x=some tv):x.single=true:=by
  unfold Zmx at h;cases x<;>first | rfl | simp at h
def ZrX (hm:ZdK g s w) {t:TypeId} {oc oe:List L} {tv r:TV} {ps:List Prop} {v:Value} (h:ld P s t oc oe tv=some (r,ps)) (hp:Zce ps) (hv:ZdM g s w v tv) :
    ∃u,(Instr.loadAt t v).run P w = .ok u w/\ZdM g s w u r:=by
  unfold ld at h;split at h<;>try cases h
  rename_i ag i ha hi;unfold Instr.loadAt;have key : ∀(r0:Root) (off:Nat) (c:List L) (ps':List Prop) (q:Addr),ZgQ s oc r0=some (c,ps')->Zce ps'->v = .pointer (some q)->(Zfq s r0->v = .pointer (some (ad (g.rb r0) off))) ->
      Zki ag i.size c off (Zmx r0 off s.ep)=some r->∃u,(do loadVar t (<-Instr.sureAddr v):Sem Value).run P w = .ok u w/\ZdM g s w u r:=by
    intro r0 off c ps' q h1 h2 hq h3 h4;obtain ⟨k1,k2,t',k3⟩:=Zeg hm h1 h2;obtain ⟨vs,k4,k5⟩:=k3.cell;obtain ⟨u,k6,k7⟩:=ZgM (s:=s) ha hi h4 k4 (b:=g.rb r0) (o:=0) (fun j v hj=>by rw [yE,k5];exact hj)
      (fun x tv v e1 e2 e3 e4=>ZpY e1 (by simpa [bump] using e2) e3 rfl k1 (fun k hk=>by subst hk;cases h1) (by rw [k5];exact e4)) (fun x tv e=>ZoE e)
    rw [yE] at k6;refine ⟨u,?_,k7⟩;rw [h3 k2];simp [Instr.sureAddr,k6]
  have glob : ∀k c,Globs.gc k=some c->∃vs:List Value,(∀j v,vs[j]? = some v->w.cell? (ad k (0+j))=some v)/\CR g w none vs c:=fun k c hk=>by
    obtain ⟨sz,k1,_⟩:=hm.gl k c hk;obtain ⟨vs,_,m2,m3⟩:=k1.get (i:=0) rfl;exact ⟨vs,by simpa using m2,m3⟩
  split at h
  · rename_i k off
    split at h<;>try cases h
    rename_i c hk;obtain ⟨r',h1,h2⟩:=zI.1 h;simp only [zE] at h2;obtain ⟨rfl,rfl⟩:=h2;obtain ⟨vs,m2,m3⟩:=glob k c hk;obtain ⟨u,m4,m5⟩:=ZgM (s:=s) ha hi h1 m3 (b:=k) (o:=0) m2 (fun x tv v e1 e2 e3 e4=>Zhc e1 e2 e3) (fun x tv e=>ZgI e);obtain ⟨_,_,_,h3⟩:=hv;rw [yE] at m4;exact ⟨u,by rw [h3 trivial];simp [Instr.sureAddr,G.rb,m4],m5⟩
  · rename_i k off n j
    split at h<;>try cases h
    rename_i hag;have hag':ag=false:=by cases ag<;>simp_all
    subst hag';split at h<;>try cases h
    rename_i c hk;split at h<;>try cases h
    rename_i kk m xs hseg;split at h<;>simp only [zA,zE,reduceCtorEq] at h;rename_i hmn;subst hmn;obtain ⟨rfl,rfl⟩:=h;obtain ⟨vs,m2,m3⟩:=glob k c hk;obtain ⟨k6,k7⟩:=m3.atArr hseg;obtain ⟨_,_,_,h3⟩:=hv;obtain ⟨h4,h5⟩:=h3 trivial;have h6:=m2 _ _ (k7 j h4);rw [yE] at h6;refine ⟨.int kk (xs.getD j 0),?_,rfl,.int _ _ _⟩;rw [h5];simp [Instr.sureAddr,loadVar,Zgk ha,G.rb,h6]
  · rename_i r0 off _
    split at h<;>try cases h
    rename_i c ps' hc;obtain ⟨r',h1,h2⟩:=zI.1 h;simp only [zE] at h2;obtain ⟨rfl,rfl⟩:=h2;obtain ⟨_,⟨q,hq⟩,_,h3⟩:=hv;exact key r0 off c ps' q hc hp hq h3 h1
  · rename_i j
    split at h<;>try cases h
    rename_i c ps' hc;obtain ⟨r',h1,h2⟩:=zI.1 h;simp only [zE] at h2;obtain ⟨rfl,rfl⟩:=h2;obtain ⟨_,h3⟩:=hv;cases h3;exact key (.obj j) 0 c _ _ hc hp rfl (fun _=>rfl) h1
  · rename_i r0 off n j _
    split at h<;>try cases h
    rename_i hag;have hag':ag=false:=by cases ag<;>simp_all
    subst hag';split at h<;>try cases h
    rename_i c ps' hc;obtain ⟨_,⟨q,hq⟩,_,h3⟩:=hv;have fin : ∀u,w.cell? (ad (g.rb r0) (off+j))=some u->(v = .pointer (some (ad (g.rb r0) (off+j))))->(do loadVar t (<-Instr.sureAddr v):Sem Value).run P w = .ok u w:=by
      intro u h1 h2;rw [h2];simp [Instr.sureAddr,loadVar,Zgk ha,h1]
    split at h<;>try cases h
    · rename_i k m xs hseg
      split at h<;>simp only [zA,zE,reduceCtorEq] at h;rename_i hmn;subst hmn;obtain ⟨rfl,rfl⟩:=h;obtain ⟨k1,k2,t',k3⟩:=Zeg hm hc hp;obtain ⟨vs,k4,k5⟩:=k3.cell;obtain ⟨k6,k7⟩:=k4.atArr hseg;obtain ⟨h4,h5⟩:=h3 k2;exact ⟨_,fin _ (by rw [k5];exact k7 j h4) h5,rfl,.int _ _ _⟩
    rename_i m xs hseg;split at h<;>simp only [zA,zE,reduceCtorEq] at h;rename_i hmn;subst hmn;obtain ⟨rfl,rfl⟩:=h;obtain ⟨k1,k2,t',k3⟩:=Zeg hm hc hp;obtain ⟨vs,k4,k5⟩:=k3.cell;obtain ⟨k6,k7⟩:=k4.atBrr hseg;obtain ⟨h4,h5⟩:=h3 k2;exact ⟨_,fin _ (by rw [k5];exact k7 j h4) h5,rfl,.bool _ _⟩
  · rename_i src sz j off
    split at h<;>try cases h
    rename_i sz' xs ps' hr;split at h<;>try cases h
    rename_i hz;subst hz;obtain ⟨r',h1,h2⟩:=zI.1 h;simp only [zE] at h2;obtain ⟨rfl,rfl⟩:=h2;rw [Zce.cons] at hp;obtain ⟨hv',t',e,k1,k2⟩:=ZkJ hm hr hp.2;obtain ⟨_,_,_,h3⟩:=hv;obtain ⟨b,o,n,c,k3,k4,k5⟩:=h3 hv' k1;subst k3;subst k5;rcases k2 with ⟨k2,_⟩ | ⟨_,_,k2,_⟩ | ⟨b',off',cap,a,E,k2,k6,k7,k8,k9,k10,k11⟩
    · cases k2
    · cases k2;omega
    simp only [Value.slice.injEq,zA,Addr.mk.injEq] at k2;obtain ⟨⟨rfl,rfl,-⟩,rfl,rfl⟩:=k2;obtain ⟨vs,m1,m2,m3⟩:=k11.get hp.1;obtain ⟨u,m4,m5⟩:=ZgM (s:=s) ha hi h1 m3 (b:=b) (o:=o+j*sz) m2 (fun x tv v e1 e2 e3 e4=>Zhc e1 e2 e3) (fun x tv e=>ZgI e);exact ⟨u,by simp [Instr.sureAddr,m4],m5⟩
  · rename_i sz xs j off
    obtain ⟨r',h1,h2⟩:=zI.1 h;simp only [zE] at h2;obtain ⟨rfl,rfl⟩:=h2;simp only [Zce] at hp;obtain ⟨_,b,o,h3,h4,h5,rfl⟩:=hv;obtain ⟨vs,m1,m2,m3⟩:=h3.get hp;obtain ⟨u,m4,m5⟩:=ZgM (s:=s) ha hi h1 m3 (b:=b) (o:=o+j*sz) m2 (fun x tv v e1 e2 e3 e4=>Zhc e1 e2 e3) (fun x tv e=>ZgI e);exact ⟨u,by simp [Instr.sureAddr,m4],m5⟩
  cases h
end
end Go.Dn
namespace Go.Dn
variable [Globs]
def S.put (s:S) (dst:Option Nat) (tv:TV):S:=
  match dst with
  | some d=>{ s with sl:=s.sl.set d tv}
  | none=>s
def ZdB (P:Program) (o:Oper) (X:List Nat) (s s':S):Prop:=
  ∀(g:G) (w:World) (a:Act),Sat g s w a.tmps->∀(K:Act->World->Prop) (Q:Exit->Act->World->Prop),
    (∀g' w' v,Mod g g' w w'->ZbA (· ∈ X) s s' g g' w w'->Sat g' s' w' (a.put o.dst v).tmps->K (a.put o.dst v) w')->o.wp P a w K Q
def ZbA.refl {X:Nat->Prop} {s s':S} {g:G} {w:World} (h1:s'.si=s.si) (h2:s'.ep=s.ep):ZbA X s s' g g w w:=
  ⟨.refl g w,fun n _ h=>by rw [h1] at h;exact ⟨h,rfl⟩,fun n ver _ h=>by rw [h1] at h;exact .inl ⟨h,rfl⟩,fun n _ h=>by rw [h1] at h;exact ⟨h,rfl⟩,fun _ _ _ _ _ _ _ _ _ h=>.inl h,aF⟩
def Sat.next {X:Nat->Prop} {g g':G} {s s':S} {w w':World} {a:Act} (hs:Sat g s w a.tmps) (k:ZbA X s s' g g' w w') (hX : ∀n,X n->TV.mens n s.sl=false)
    (hm:ZdK g' s' w') (hsi:s'.si.length=s.si.length) {dst:Option Nat} {tv:TV} {v:Value} (hsl:s'.sl=(s.put dst tv).sl) (hv:dst.isSome=true->ZdM g' s' w' v tv) :
    Sat g' s' w' (a.put dst v).tmps:=by
  have old : ∀n tv,s.sl[n]? = some tv->ZdM g' s' w' (a.tmps.getD n undef) tv:=fun n tv h=>by
    refine ZdM.keep k (fun m hm=>?_) (hs.slot n tv h);have:=hX m hm;have gen : ∀(l:List TV) (n:Nat),l[n]? = some tv->TV.mens m l=false->tv.men m=false:=by
      intro l
      induction l with
      | nil=>intro n h;simp at h
      | cons x l ih=>
        intro n h hm;simp only [TV.mens,vF] at hm;cases n with
        | zero=>simp only [yJ,zA] at h;subst h;exact hm.1
        | succ n=>exact ih n (aR h) hm.2
    exact gen _ n h this
  cases dst with
  | none=>
    simp only [S.put] at hsl;exact ⟨by rw [hsl];exact hs.len,by rw [hsl,hsi];exact hs.lensi,fun n tv h=>by rw [hsl] at h;exact old n tv h,hm⟩
  | some d=>
    simp only [S.put] at hsl;refine ⟨by rw [hsl];simp [Act.put,hs.len],by rw [hsl,hsi];simpa using hs.lensi,fun n tv' h=>?_,hm⟩;rw [hsl] at h;by_cases e:d=n
    · subst e
      have hd:d<s.sl.length:=by
        rcases zX d s.sl.length with h' | h'
        · exact h'
        rw [zM (aR h')] at h;cases h
      rw [zP hd] at h;cases h;have:d<a.tmps.size:=by rw [hs.len];exact hd
      simpa [Act.put,this] using hv rfl
    rw [zO e] at h;have:=old n tv' h;simpa [Act.put,Array.getElem?_setIfInBounds_ne e] using this
def ZdB.value {P:Program} {o:Oper} {s:S} {tv:TV} (h : ∀(g:G) (w:World) (a:Act),Sat g s w a.tmps->∃v,(execOp a.eval o).run P w = .ok (.value v) w/\ZdM g s w v tv) :
    ZdB P o [] s (s.put o.dst tv):=by
  intro g w a hs K Q hK;obtain ⟨v,h1,h2⟩:=h g w a hs;unfold Oper.wp;rw [h1];have e1:(s.put o.dst tv).si=s.si:=by cases o.dst<;>rfl
  have e2:(s.put o.dst tv).ep=s.ep:=by cases o.dst<;>rfl
  have e3:(s.put o.dst tv).st=s.st:=by cases o.dst<;>rfl
  have k:ZbA (· ∈ []) s (s.put o.dst tv) g g w w:=.refl e1 e2;have no : ∀n,n∈([]:List Nat)->∀(b:Bool),b=false:=fun n h=>by cases h
  refine hK g w v (.refl g w) k (hs.next k (fun n h=>no n h _) ?_ (by rw [e1]) rfl (fun _=>ZdM.keep k (fun n h=>no n h _) h2));exact ⟨by rw [e3];exact hs.mem.stl,fun i c h=>hs.mem.obj i c (by rwa [e3] at h),hs.mem.objB,fun n ent h=>by
    have:=hs.mem.site n ent (by rwa [e1] at h);cases ent<;>exact this,hs.mem.own,hs.mem.z,hs.mem.gl⟩
def ZdB.pv {P:Program} {s:S} {o:Oper} {tv:TV} {ps:List Prop} (h:pv P s o=some (tv,ps)) (hp:Zce ps):ZdB P o [] s (s.put o.dst tv):=
  .value fun g w a hs=>pv_sound h g w a hs hp
def ldOp (P:Program) (s:S) (oc oe:List L) (o:Oper):Option (TV×List Prop):=
  match o.op with
  | .load t x=>match ev s x with
    | some tv=>ld P s t oc oe tv
    | none=>none
  | _=>none
def ZdB.ld {P:Program} {s:S} {o:Oper} {oc oe:List L} {tv:TV} {ps:List Prop} (h:ldOp P s oc oe o=some (tv,ps)) (hp:Zce ps):ZdB P o [] s (s.put o.dst tv):=by
  refine .value fun g w a hs=>?_;unfold ldOp at h;split at h<;>try cases h
  rename_i t x ho;split at h<;>try cases h
  rename_i tv0 hx;obtain ⟨u,h1,h2⟩:=ZrX hs.mem h hp (ZbN hs hx);exact ⟨u,by simp [execOp,ho,h1],h2⟩
def ZgJ {β:Type} (f:Nat->β) (n:Nat) (b:β):Nat->β:=fun x=>if x=n then b else f x
def Zbq {β:Type} (f:Nat->β) (n:Nat) (b:β):ZgJ f n b n=b:=by simp [ZgJ]
def ZcZ {β:Type} (f:Nat->β) {n m:Nat} (b:β) (h:m≠n):ZgJ f n b m=f m:=by simp [ZgJ,h]
def G.new (g:G) (w:World) (t:Ow) (d:Nat) (hv:Value):G:=
  { g with ow:=ZgJ g.ow w.heap.size (some t),sb:=ZgJ g.sb d w.heap.size,hd:=ZgJ g.hd d hv}
section
variable {g:G} {s s':S} {w:World}
def Zev (w:World) (o:Obj) {b:Nat} (h:b<w.heap.size):(w.alloc o).heap[b]? = w.heap[b]? := Go.RowKit.Below.heap_alloc w o b h
def Zgm (g:G) (w:World) (o:Obj) (t:Ow) (d:Nat) (hv:Value) {b:Nat} (h:b<w.heap.size):Zhw g (g.new w t d hv) w (w.alloc o) b:=
  ⟨Zev w o h,ZcZ _ _ aF,rfl⟩
def ZhU (hz : ∀b,w.heap.size<=b->g.Z b=0) (o:Obj) (t:Ow) (d:Nat) (hv:Value):ZcK g (g.new w t d hv) w (w.alloc o):=
  ⟨fun _ _=>rfl,zH _,fun _=>zH _,fun b p h=>by
    have:b<w.heap.size:=by
      rcases zX b w.heap.size with h' | h'
      · exact h'
      rw [hz b h'] at h;omega
    exact Zdr (Zev w o this),fun b h=>by
    have:b<w.heap.size:=by
      rcases zX b w.heap.size with h' | h'
      · exact h'
      rw [hz b h'] at h;omega
    exact ZeE (Zev w o this)⟩
def Zoy (hz : ∀b,w.heap.size<=b->g.Z b=0) (o:Obj) (t:Ow) (d:Nat) (hv:Value):Mod g (g.new w t d hv) w (w.alloc o):=
  ⟨ZhU hz o t d hv,rfl,rfl,rfl,by simp,fun b hb=>.inl (Zgm g w o t d hv hb),fun b hb h1 h2=>by
    rw [(Zgm g w o t d hv hb).2.1] at h1 h2;exact ⟨h1,h2⟩,fun i h1 h2=>absurd h2 (by show ¬ i<g.nob;omega)⟩
def ZlH (hm:ZdK g s w) {ob:Obj} {t:Ow} {d:Nat} {hv:Value} {ent:Ent} (hsi:s'.si=s.si.set d (some ent)) (hst:s'.st=s.st)
    (hent:Zgf (g.new w t d hv) (w.alloc ob) d ent):ZdK (g.new w t d hv) s' (w.alloc ob):=by
  have K:=ZhU (g:=g) (w:=w) hm.z ob t d hv;refine ⟨by rw [hst];exact hm.stl,fun i cc h hne=>?_,fun i hi=>?_,fun n en h=>?_,fun b t' h=>?_,fun b hb=>?_,hm.gl.keep K⟩
  · rw [hst] at h
    have h1:=hm.obj i cc h hne;exact h1.keep K (Zgm _ _ _ _ _ _ (hm.own _ _ h1.1)) (fun b' o hb=>Zgm _ _ _ _ _ _ (hm.own _ _ hb))
  · have h1:=hm.objB i hi
    have hlt:g.ob i<w.heap.size:=by rcases h1 with h | h<;>exact hm.own _ _ h
    show (g.new w t d hv).ow (g.ob i)=_\/(g.new w t d hv).ow (g.ob i)=_;rw [(Zgm g w ob t d hv hlt).2.1];exact h1
  · by_cases e:d=n
    · subst e
      have hd:d<s.si.length:=by
        rcases zX d s.si.length with h' | h'
        · exact h'
        rw [hsi,zM (aR h')] at h;cases h
      rw [hsi,zP hd] at h;cases h;exact hent
    rw [hsi,zO e] at h;have h1:=hm.site n en h;cases en with
    | cells cc=>
      have:(g.new w t d hv).sb n=g.sb n:=ZcZ _ _ (fun e'=>e e'.symm);simp only [Zgf] at h1 |-;rw [this];exact h1.keep K (Zgm _ _ _ _ _ _ (hm.own _ _ h1.1)) (fun b' o hb=>Zgm _ _ _ _ _ _ (hm.own _ _ hb))
    | row ver ee sz xs=>
      have:(g.new w t d hv).hd n=g.hd n:=ZcZ _ _ (fun e'=>e e'.symm);simp only [Zgf] at h1 |-;rw [this];exact h1.keep K (fun b hb=>Zgm _ _ _ _ _ _ (hm.own _ _ hb))
    | mp es=>
      have:(g.new w t d hv).hd n=g.hd n:=ZcZ _ _ (fun e'=>e e'.symm);simp only [Zgf] at h1 |-;rw [this];exact h1.keep K (fun b hb=>Zgm _ _ _ _ _ _ (hm.own _ _ hb))
  · simp only [World.size_alloc]
    by_cases e:b=w.heap.size
    · omega
    have:(g.new w t d hv).ow b=g.ow b:=ZcZ _ _ e;rw [this] at h;have:=hm.own b t' h;omega
  simp only [World.size_alloc] at hb;exact hm.z b aF
def Zkh (hm:ZdK g s w) {ob:Obj} {t:Ow} {d:Nat} {hv:Value} {ent:Ent} (hsi:s'.si=s.si.set d (some ent)) (hep:s'.ep=s.ep) :
    ZbA (· ∈ [d]) s s' g (g.new w t d hv) w (w.alloc ob):=by
  have K:=ZhU (g:=g) (w:=w) hm.z ob t d hv;refine ⟨K,fun n hn h=>?_,fun n ver hn h=>?_,fun n hn h=>?_,fun _ r hg hi hr _ hn off hv' h=>?_,aF⟩
  · rw [hsi,zO (fun e=>hn (by simp [e]))] at h
    exact ⟨h,ZcZ _ _ (fun e=>hn (by simp [e]))⟩
  · rw [hsi,zO (fun e=>hn (by simp [e]))] at h
    exact .inl ⟨h,ZcZ _ _ (fun e=>hn (by simp [e]))⟩
  · rw [hsi,zO (fun e=>hn (by simp [e]))] at h
    exact ⟨h,ZcZ _ _ (fun e=>hn (by simp [e]))⟩
  left;by_cases hlt:g.rb r<w.heap.size
  · rwa [Zdr (Zev w _ hlt)] at h
  ·
    exfalso;cases r with
    | site n=>
      obtain ⟨cc,h1⟩:=hr;exact hlt (hm.own _ _ (hm.site n _ h1).1)
    | obj i=>
      rcases hm.objB i hi with h | h<;>exact hlt (hm.own _ _ h)
    | glob k=>exact hg k rfl
end
end Go.Dn
namespace Go.Dn
variable [Globs]
def ZhL (k:IntKind):List Int->List Value->Option (List Value)
  | [],vs=>some vs
  | x::xs,.int k' n::vs=>if k'=k/\n=x then ZhL k xs vs else none
  | _::_,_=>none
def Zhg:List Bool->List Value->Option (List Value)
  | [],vs=>some vs
  | x::xs,.bool b::vs=>if b=x then Zhg xs vs else none
  | _::_,_=>none
def Zud:L->Value->Bool
  | .int k n,.int k' m=>decide (k'=k/\m=n)
  | .bool b,.bool c=>decide (c=b)
  | .str x,.string y=>decide (y=x)
  | .ptr none,.pointer none=>true
  | .own _ _ [],.slice none 0 0=>true
  | .sl _ [],.slice none 0 0=>true
  | .gone,v=>v.oneCell'
  | _,_=>false
def slz (f:Nat->Nat):Nat->List L->List L
  | _,[]=>[]
  | i,.own e sz xs::ls=>(if f i=1 then .sl sz xs else if f i=2 then .own false sz xs else .own e sz xs)::slz f (i+1) ls
  | i,x::ls=>x::slz f (i+1) ls
def Zmv:List L->List Value->Bool
  | [],[]=>true
  | .arr k n xs::ls,vs=>decide (xs.length=n)&&(match ZhL k xs vs with
    | some rest=>Zmv ls rest
    | none=>false)
  | .brr n xs::ls,vs=>decide (xs.length=n)&&(match Zhg xs vs with
    | some rest=>Zmv ls rest
    | none=>false)
  | l::ls,v::vs=>Zud l v&&Zmv ls vs
  | _,_=>false
mutual
def ZqD (P:Program):Nat->TypeId->Option (List L)
  | 0,_=>none
  | f+1,t=>match P.underlying t with
    | some .bool=>some [.bool false]
    | some (.int k)=>some [.int k 0]
    | some .string=>some [.str ByteArray.empty]
    | some (.pointer _)=>some [.ptr none]
    | some (.slice e)=>match P.info? e with
      | some i=>some [.own true i.size []]
      | none=>none
    | some (.array n e)=>match P.underlying e with
      | some (.int k)=>some [.arr k n (zB n 0)]
      | some .bool=>some [.brr n (zB n false)]
      | _=>none
    | some (.struct fs)=>Zru P f (fs.toList.map (·.type))
    | some _=>some [.gone]
    | none=>none
def Zru (P:Program):Nat->List TypeId->Option (List L)
  | _,[]=>some []
  | 0,_::_=>none
  | f+1,t::ts=>match ZqD P f t,Zru P f ts with
    | some a,some b=>some (a++b)
    | _,_=>none
end
def tLs:List T->Option (List L)
  | []=>some []
  | .l x::ts=>(tLs ts).map (x :: ·)
  | _::_=>none
def tvL:TV->Option (List L)
  | .one (.l x)=>if x.single then some [x] else none
  | .agg ts=>tLs ts
  | _=>none
def S.setEnt (s:S) (d:Nat) (e:Ent):S:={ s with si:=s.si.set d (some e)}
section
variable {P:Program} {g:G} {s:S} {w:World}
def LR.in (p:Nat×Nat) {v:Value} {x:L} (h:LR g w none v x):LR g w (some p) v x:=by
  cases h with
  | int=>exact .int _ _ _
  | bool=>exact .bool _ _
  | str=>exact .str _ _
  | nilp=>exact .nilp _
  | ref _ i h=>exact .ref _ i h
  | slnil=>exact .slnil _ _
  | slz=>exact .slz _ _ _
  | ownnil=>exact .ownnil _ _ _
  | ownz=>exact .ownz _ _ _ _ _
  | sl _ b off len cap sz xs hl hc hZ he=>exact .sl _ b off len cap sz xs hl hc hZ he
  | gone=>exact .gone _ _
  | fn _ f n vs cs hc=>exact .fn _ f n vs cs hc
  | bx _ n b o ls vs hn hZ hc hcr=>exact .bx _ n b o ls vs hn hZ hc hcr
  | mz _ b en es hZ hb he=>exact .mz _ b en es hZ hb he
  | yl _ l=>exact .yl _ l
def Zhq {k:IntKind} : ∀{xs:List Int} {vs rest:List Value},ZhL k xs vs=some rest->vs=xs.map (Value.int k)++rest
  | [],vs,rest,h=>by simp only [ZhL,zA] at h;subst h;rfl
  | x::xs,vs,rest,h=>by
    unfold ZhL at h;split at h
    · rename_i heq;cases heq
    · rename_i x' xs' k' n vs' heq
      simp only [yW] at heq;obtain ⟨rfl,rfl⟩:=heq;split at h
      · rename_i hh;obtain ⟨rfl,rfl⟩:=hh
        rw [Zhq h];rfl
      cases h
    cases h
def ZgP : ∀{xs:List Bool} {vs rest:List Value},Zhg xs vs=some rest->vs=xs.map Value.bool++rest
  | [],vs,rest,h=>by simp only [Zhg,zA] at h;subst h;rfl
  | x::xs,vs,rest,h=>by
    unfold Zhg at h;split at h
    · rename_i heq;cases heq
    · rename_i x' xs' n vs' heq
      simp only [yW] at heq;obtain ⟨rfl,rfl⟩:=heq;split at h
      · rename_i hh;subst hh
        rw [ZgP h];rfl
      cases h
    cases h
def ZpU {p:Nat×Nat} {l:L} {v:Value} (h:Zud l v=true):LR g w (some p) v l/\v.oneCell'=true:=by
  unfold Zud at h;split at h
  · simp only [decide_eq_true_eq] at h;obtain ⟨rfl,rfl⟩:=h;exact ⟨.int _ _ _,rfl⟩
  · simp only [decide_eq_true_eq] at h;subst h;exact ⟨.bool _ _,rfl⟩
  · simp only [decide_eq_true_eq] at h;subst h;exact ⟨.str _ _,rfl⟩
  · exact ⟨.nilp _,rfl⟩
  · exact ⟨.ownnil _ _ _,rfl⟩
  · exact ⟨.slnil _ _,rfl⟩
  · exact ⟨.gone _ _,h⟩
  cases h
def ZhB : ∀{ls:List L} {b o:Nat} {vs:List Value},Zmv ls vs=true->CR g w (some (b,o)) vs ls
  | [],b,o,vs,h=>by
    unfold Zmv at h;split at h<;>first | exact .nil _ | (rename_i heq;cases heq) | cases h
  | l::ls,b,o,vs,h=>by
    unfold Zmv at h;split at h
    · rename_i heq;cases heq
    · rename_i k n xs ls' heq
      simp only [yW] at heq;obtain ⟨rfl,rfl⟩:=heq;simp only [zV,decide_eq_true_eq] at h;obtain ⟨h1,h2⟩:=h;split at h2
      · rename_i rest hr
        rw [Zhq hr];exact .arr _ _ _ _ _ _ h1 (ZhB (o:=o+n) h2)
      cases h2
    · rename_i n xs ls' heq
      simp only [yW] at heq;obtain ⟨rfl,rfl⟩:=heq;simp only [zV,decide_eq_true_eq] at h;obtain ⟨h1,h2⟩:=h;split at h2
      · rename_i rest hr
        rw [ZgP hr];exact .brr _ _ _ _ _ h1 (ZhB (o:=o+n) h2)
      cases h2
    · rename_i l' ls' v vs' k1 k2 heq
      simp only [yW] at heq;obtain ⟨rfl,rfl⟩:=heq;simp only [zV] at h;obtain ⟨h1,h2⟩:=ZpU (g:=g) (w:=w) (p:=(b,o)) h.1;exact .one _ _ _ _ _ h1 h2 (ZhB (o:=o+1) h.2)
    cases h
def Zhp : ∀{ts:List T} {ls:List L} {p:Option (Nat×Nat)} {vs:List Value},tLs ts=some ls->TsR g s w vs ts->CR g w p vs ls
  | [],ls,p,vs,h,ht=>by
    simp only [tLs,zA] at h;subst h;rw [TsR] at ht;subst ht;exact .nil _
  | t::ts,ls,p,vs,h,ht=>by
    unfold tLs at h;split at h
    · rename_i heq;cases heq
    · rename_i x ts' heq
      simp only [yW] at heq;obtain ⟨rfl,rfl⟩:=heq;obtain ⟨ls',h1,rfl⟩:=zI.1 h;obtain ⟨us,rest,rfl,hu,h2,h3⟩:=ht.inv;refine CR.join ?_ (Zhp h1 h3);unfold TsR at h2;split at h2<;>rename_i heq
      · cases heq
      · simp only [yW,T.l.injEq] at heq;obtain ⟨rfl,rfl⟩:=heq
        obtain ⟨hn,r0,rfl,h0⟩:=h2;rw [TsR] at h0;subst h0;exact .arr _ _ _ _ _ _ hn (.nil _)
      · simp only [yW,T.l.injEq] at heq;obtain ⟨rfl,rfl⟩:=heq
        obtain ⟨hn,r0,rfl,h0⟩:=h2;rw [TsR] at h0;subst h0;exact .brr _ _ _ _ _ hn (.nil _)
      simp only [yW] at heq;obtain ⟨rfl,rfl⟩:=heq;obtain ⟨v,r0,rfl,hc,hv,h0⟩:=h2;rw [TsR] at h0;subst h0;refine .one _ _ _ _ _ ?_ hc (.nil _);cases p with
      | none=>exact hv
      | some p=>exact LR.in p hv
    cases h
def Zpm {tv:TV} {ls:List L} {p:Option (Nat×Nat)} {v:Value} (h:tvL tv=some ls) (hv:ZdM g s w v tv):CR g w p v.cells.toList ls:=by
  unfold tvL at h;split at h
  · split at h<;>simp only [zA,reduceCtorEq] at h
    subst h;obtain ⟨h1,h2⟩:=hv;have:v.cells.toList = [v]:=by cases v<;>first | rfl | simp [Value.oneCell'] at h1
    rw [this];refine .one _ _ _ _ _ ?_ h1 (.nil _);cases p with
    | none=>exact h2
    | some p=>exact LR.in p h2
  · obtain ⟨vs,rfl,h2⟩:=hv
    exact Zhp h h2
  cases h
end
def ZdB.newVar {P:Program} {s:S} {o:Oper} {d:Nat} {ls:List L} (hd:o.dst=some d) (hmen:TV.mens d s.sl=false)
    (h : ∀(g:G) (w:World) (a:Act),Sat g s w a.tmps->∃(c:Array Value) (E:TypeId),(execOp a.eval o).run P w = .ok (.value (.pointer (some ⟨w.heap.size,0,none⟩))) (w.alloc (.cells c E)) /\
      CR g w (some (w.heap.size,0)) c.toList ls) :
    ZdB P o [d] s ((s.setEnt d (.cells ls)).put (some d) (.one (.adr (.site d) 0))):=by
  intro g w a hs K Q hK;obtain ⟨c,E,h1,h2⟩:=h g w a hs;unfold Oper.wp;rw [h1];have hz:=hs.mem.z;have KK:=ZhU (g:=g) (w:=w) hz (.cells c E) (.site d) d undef;have hno : ∀b' o,g.ow b'=some (.rowM w.heap.size o)->Zhw g (g.new w (.site d) d undef) w (w.alloc (.cells c E)) b':=fun b' o hb=>Zgm _ _ _ _ _ _ (hs.mem.own _ _ hb);have hm:ZdK (g.new w (.site d) d undef) ((s.setEnt d (.cells ls)).put (some d) (.one (.adr (.site d) 0))) (w.alloc (.cells c E)):=by
    refine ZlH hs.mem (ent:=.cells ls) rfl rfl ?_;refine ⟨?_,?_,c,E,?_,?_⟩
    · show ZgJ g.ow _ _ (ZgJ g.sb _ _ _)=_
      rw [Zbq,Zbq]
    · show g.Z (ZgJ g.sb _ _ _)=0
      rw [Zbq];exact hz _ (zH _)
    · show (w.alloc _).heap[ZgJ g.sb _ _ _]? = _
      rw [Zbq];exact heap_alloc_new w _
    show CR _ _ (some (ZgJ g.sb _ _ _,0)) _ _;rw [Zbq];exact h2.keepO KK hno
  have k:ZbA (· ∈ [d]) s ((s.setEnt d (.cells ls)).put (some d) (.one (.adr (.site d) 0))) g (g.new w (.site d) d undef) w (w.alloc (.cells c E)):=Zkh hs.mem rfl rfl;refine hK _ _ _ (Zoy hz (.cells c E) (.site d) d undef) k ?_;refine hs.next k (fun n hn=>by simp at hn;subst hn;exact hmen) hm (by simp [S.put,S.setEnt]) (dst:=o.dst) (tv:=.one (.adr (.site d) 0)) (by rw [hd];rfl) (fun _=>?_);refine ⟨rfl,⟨_,rfl⟩,trivial,fun _=>?_⟩;show _=Value.pointer (some (ad (ZgJ g.sb _ _ _) 0));rw [Zbq]
end Go.Dn
namespace Go.Dn
variable [Globs]
def L.plain:L->Bool
  | .int _ _ | .bool _ | .str _ | .arr _ _ _ | .brr _ _ | .ptr _=>true
  | _=>false
def win (md:Nat) (xs:List (List L)) (lo len:Nat):List (List L)×List Prop:=
  match md with
  | 0=>(xs,[lo=0,len=xs.length])
  | 1=>(xs.drop lo,[lo<=xs.length,len=xs.length-lo])
  | 2=>(xs.take len,[lo=0,len<=xs.length])
  | _=>((xs.drop lo).take len,[lo+len<=xs.length])
def Ziw (s:S) (oc:List L):Src->Option (Bool×Nat×List (List L)×List Prop)
  | .row n ver=>match s.si[n]? with
    | some (some (.row ver' e sz xs))=>if ver=ver' then some (e,sz,xs,[]) else none
    | _=>none
  | .mem r off ep=>if ep=s.ep then match ZgQ s oc r with
      | some (c,ps)=>match ZgL c off with
        | some (.own e sz xs)=>some (e,sz,xs,ps)
        | _=>none
      | none=>none
    else none
def mvN (mv:List Nat):Src->Option Nat
  | .row n _=>if mv.contains n then some n else none
  | _=>none
def Zns (s:S) (oe:List L) (mv:List Nat) (md:Nat):Nat->List T->Option (List L×List (Nat×Nat)×List Prop)
  | _,[]=>some ([],[],[])
  | pos,t::ts=>match t with
    | .l x=>match Zns s oe mv md (pos+x.size) ts with
      | some (ls,m,ps)=>some (x::ls,m,ps)
      | none=>none
    | .adr (.obj i) 0=>match Zns s oe mv md (pos+1) ts with
      | some (ls,m,ps)=>some (.ptr (some i)::ls,m,ps)
      | none=>none
    | .h src sz lo len=>match Ziw s oe src,Zns s oe mv md (pos+1) ts with
      | some (e,sz',xs,qs),some (ls,m,ps)=>if sz=sz' then
          (match mvN mv src with
          | some n=>if e=true\/md<=1 then some (.own e sz (win md xs lo len).1::ls,(n,pos)::m,(win md xs lo len).2++qs++ps) else none
          | none=>if e then none else some (.sl sz (win md xs lo len).1::ls,m,(win md xs lo len).2++qs++ps))
        else none
      | _,_=>none
    | .ms n=>match s.si[n]?,Zns s oe mv md (pos+1) ts with
      | some (some (.mp es)),some (ls,m,ps)=>some (.mp es::ls,(n,pos)::m,ps)
      | _,_=>none
    | _=>none
def tvT:TV->Option (List T)
  | .one t=>if t.single then some [t] else none
  | .agg ts=>some ts
  | _=>none
def S.setRoot (s:S) (r:Root) (c:List L):S:=
  match r with
  | .site n=>s.setEnt n (.cells c)
  | .obj i=>{ s with st:=s.st.set i c}
  | .glob _=>s
def S.drop (s:S) (m:List (Nat×Nat)):S:={ s with si:=m.foldl (fun si q=>si.set q.1 none) s.si}
def S.bump (s:S) (b:Bool):S:=if b then { s with ep:=s.ep+1} else s
def reOw (b off:Nat) (m:List (Nat×Nat)):Option Ow->Option Ow
  | some (.rowS n)=>match m.lookup n with
    | some pos=>some (.rowM b (off+pos))
    | none=>some (.rowS n)
  | x=>x
def G.retag (g:G) (b off:Nat) (m:List (Nat×Nat)):G:={ g with ow:=fun b'=>reOw b off m (g.ow b')}
def ZsJ:List Nat->Bool
  | []=>true
  | n::ns=>!ns.contains n&&ZsJ ns
def ZjQ (s:S) (oc oe:List L) (mv:List Nat) (md:Nat) (r:Root) (off n:Nat) (tv:TV):Option (S×List Prop):=
  match ZgQ s oc r,tvT tv with
  | some (c,ps),some ts=>match Zns s oe mv md 0 ts,Zgn c off with
    | some (ls,m,qs),some d=>match Zho d n,ZfU c off n ls with
      | some old,some c'=>if sizes ls=n/\ZsJ (m.map (·.1))=true/\(m.all fun q=>decide (r ≠ .site q.1))=true then some (((s.setRoot r c').drop m).bump (!old.all L.plain),ps++qs) else none
      | _,_=>none
    | _,_=>none
  | _,_=>none
section
variable {P:Program} {g:G} {s:S} {w:World}
def CR.cells1 : ∀{p:Option (Nat×Nat)} {vs:List Value} {c:List L},CR g w p vs c->∀v∈vs,v.oneCell'=true
  | _,_,_,.nil _,v,h=>by cases h
  | _,_,_,.one _ u vs l ls hv h1 hr,v,h=>by
    rcases xL.1 h with rfl | h
    · exact h1
    exact hr.cells1 v h
  | _,_,_,.arr _ k n xs vs ls hn hr,v,h=>by
    rcases xA.1 h with h | h
    · obtain ⟨x,_,rfl⟩:=uJ.1 h;rfl
    exact hr.cells1 v h
  | _,_,_,.brr _ n xs vs ls hn hr,v,h=>by
    rcases xA.1 h with h | h
    · obtain ⟨x,_,rfl⟩:=uJ.1 h;rfl
    exact hr.cells1 v h
def CR.repl : ∀{c:List L} {p:Option (Nat×Nat)} {vs us:List Value} {o n:Nat} {ys c':List L},CR g w p vs c->ZfU c o n ys=some c'->CR g w (Dn.bump p o) us ys->us.length=n ->
    o+n<=vs.length/\CR g w p (vs.take o++us++vs.drop (o+n)) c'
  | c,p,vs,us,0,n,ys,c',h,hr,hu,hn=>by
    unfold ZfU at hr;obtain ⟨d,hd,rfl⟩:=zI.1 hr;obtain ⟨h1,h2⟩:=h.drop hd;refine ⟨aF,?_⟩;rw [Zky] at hu;simp only [List.take_zero,List.nil_append,yE];exact hu.append (by rw [hn];exact h2)
  | [],p,vs,us,o+1,n,ys,c',h,hr,hu,hn=>by simp [ZfU] at hr
  | l::ls,p,vs,us,o+1,n,ys,c',h,hr,hu,hn=>by
    unfold ZfU at hr;split at hr
    · rename_i hle
      obtain ⟨d,hd,rfl⟩:=zI.1 hr;obtain ⟨as,rest,rfl,ha,h1,h2⟩:=h.inv;have hu':CR g w (Dn.bump (Dn.bump p l.size) (o+1-l.size)) us ys:=by
        rw [ZhX,(aF:l.size+(o+1-l.size)=o+1)];exact hu
      obtain ⟨h3,h4⟩:=CR.repl h2 hd hu' hn;refine ⟨by simp only [zU];omega,?_⟩;rw [qB,zW aF,ha,sM,vK aF,ha,List.nil_append,yH,yH];rw [(aF:o+1+n-l.size=o+1-l.size+n)];rw [yH] at h4;exact h1.join h4
    cases hr
def ZhJ {md lo len:Nat} {xs:List (List L)} (h:Zce (win md xs lo len).2):(win md xs lo len).1=(xs.drop lo).take len/\lo+len<=xs.length/\(md<=1->lo+len=xs.length):=by
  unfold win at h |-;split at h<;>simp only [Zce] at h
  · obtain ⟨rfl,rfl⟩:=h;simp
  · obtain ⟨h1,rfl⟩:=h
    refine ⟨?_,aF,fun _=>aF⟩;simp only [];rw [zW aG]
  · obtain ⟨rfl,h1⟩:=h;exact ⟨by simp,aF,fun h=>aF⟩
  rename_i h0 h1 h2;exact ⟨rfl,h,fun h'=>by
    have:md=0\/md=1:=aF
    rcases this with e | e
    · exact absurd e (aR h0)
    exact absurd e (aR h1)⟩
def Zfs (hm:ZdK g s w) {oc:List L} {e:Bool} {sz:Nat} {xs:List (List L)} {ps:List Prop} {src:Src} (h:Ziw s oc src=some (e,sz,xs,ps)) (hp:Zce ps) :
    ∃hv t,Hd g s w src hv/\ZgO g w t hv e sz xs/\∀n ver,src = .row n ver->t = .rowS n/\hv=g.hd n:=by
  cases src with
  | row n ver=>
    simp only [Ziw] at h;split at h<;>try cases h
    rename_i ver' e' sz' xs' h1;split at h<;>simp only [zA,zE,reduceCtorEq] at h;rename_i hv;subst hv;obtain ⟨rfl,rfl,rfl,rfl⟩:=h;exact ⟨g.hd n,_,⟨⟨_,_,_,h1⟩,rfl⟩,hm.site n _ h1,fun n' v' e=>by cases e;exact ⟨rfl,rfl⟩⟩
  | mem r off ep=>
    simp only [Ziw] at h;split at h<;>try cases h
    rename_i hep;split at h<;>try cases h
    rename_i c ps' hc;split at h<;>simp only [zA,zE,reduceCtorEq] at h;rename_i e' sz' xs' hseg;obtain ⟨rfl,rfl,rfl,rfl⟩:=h;obtain ⟨h1,h2,t,h3⟩:=Zeg hm hc hp;obtain ⟨vs,h4,h5⟩:=h3.cell;obtain ⟨v,h6,h7,h8⟩:=h4.at1 hseg rfl;simp only [bump,yE] at h8;exact ⟨v,_,⟨hep,h2,by rw [h5];exact h6⟩,Zlw.1 h8,fun n ver e=>by cases e⟩
def ZgO.win {t:Ow} {hv v:Value} {e:Bool} {sz lo len:Nat} {xs:List (List L)} (h:ZgO g w t hv e sz xs) (hw:Win sz lo len hv v) (hl:lo+len<=xs.length)
    (he:e=true\/lo+len=xs.length):ZgO g w t v e sz ((xs.drop lo).take len):=by
  rcases h with ⟨rfl,rfl⟩ | ⟨b,o,rfl,rfl⟩ | ⟨b,off,cap,a,E,rfl,h2,h3,h4,h5,h6,h7⟩
  · rcases hw with ⟨_,rfl,rfl,rfl⟩ | ⟨b,o,n,c,o',h,_⟩
    · exact .inl ⟨rfl,rfl⟩
    cases h
  · rcases hw with ⟨h,_⟩ | ⟨b,o,n,c,o',h,h1,rfl,_⟩
    · cases h
    simp only [Value.slice.injEq,zA,Addr.mk.injEq] at h;obtain ⟨_,rfl,rfl⟩:=h;have:len=0:=by simp at hl;omega
    subst this;exact .inr (.inl ⟨b,o',by simp,by simp⟩)
  rcases hw with ⟨h,_⟩ | ⟨b',o,n,c,o',h,h1,rfl,k1,k2⟩
  · cases h
  simp only [Value.slice.injEq,zA,Addr.mk.injEq] at h;obtain ⟨⟨rfl,rfl,-⟩,rfl,rfl⟩:=h;by_cases hc:lo<cap
  · have:=k1 hc;subst this
    have hlen:((xs.drop lo).take len).length=len:=by simp;omega
    refine .inr (.inr ⟨b,off+lo*sz,cap-lo,a,E,by rw [hlen],by rw [hlen];omega,h3,h4,?_,?_,?_⟩)
    · have:lo*sz+(cap-lo)*sz=cap*sz:=by rw [<-wG];congr 1;omega
      omega
    · rw [h6,hlen]
      cases e with
      | true=>rfl
      | false=>
        simp only [yP,false_or,if_false] at he |-;rw [<-he,wG,xK]
    exact (h7.dropN lo aF).takeN len
  have:len=0:=aF
  subst this;refine .inr (.inl ⟨b,o',?_,by simp⟩);simp;omega
def ZgO.sl {t:Ow} {hv v:Value} {sz lo len:Nat} {xs:List (List L)} (h:ZgO g w t hv false sz xs) (hw:Win sz lo len hv v) (hl:lo+len<=xs.length) :
    LR g w none v (.sl sz ((xs.drop lo).take len)):=by
  rcases h with ⟨rfl,rfl⟩ | ⟨b,o,rfl,rfl⟩ | ⟨b,off,cap,a,E,rfl,h2,h3,h4,h5,h6,h7⟩
  · rcases hw with ⟨_,rfl,rfl,rfl⟩ | ⟨b,o,n,c,o',h,_⟩
    · exact .slnil _ _
    cases h
  · rcases hw with ⟨h,_⟩ | ⟨b,o,n,c,o',h,h1,rfl,_⟩
    · cases h
    simp only [Value.slice.injEq,zA,Addr.mk.injEq] at h;obtain ⟨_,rfl,rfl⟩:=h;have:len=0:=by simp at hl;omega
    subst this;simp only [List.drop_nil,List.take_nil,Nat.zero_sub];exact .slz _ _ _
  rcases hw with ⟨h,_⟩ | ⟨b',o,n,c,o',h,h1,rfl,k1,k2⟩
  · cases h
  simp only [Value.slice.injEq,zA,Addr.mk.injEq] at h;obtain ⟨⟨rfl,rfl,-⟩,rfl,rfl⟩:=h;have hlen:((xs.drop lo).take len).length=len:=by simp;omega
  by_cases hc:lo<cap
  · have:=k1 hc;subst this
    refine .sl _ b _ len (cap-lo) sz _ hlen aF ?_ ((h7.dropN lo aF).takeN len);simp only [yP,if_false] at h6;rw [h6];have:lo*sz+len*sz<=xs.length*sz:=by rw [<-wG];exact Nat.mul_le_mul_right _ hl
    omega
  have:len=0:=aF
  subst this;rw [(aF:cap-lo=0),List.take_zero];exact .slz _ _ _
def Zob {oe:List L} {mv:List Nat} {md:Nat} {t:T} {ts:List T} {pos:Nat} {ls:List L} {m:List (Nat×Nat)} {ps:List Prop} (h:Zns s oe mv md pos (t::ts)=some (ls,m,ps)) :
    (∃x ls',t = .l x/\Zns s oe mv md (pos+x.size) ts=some (ls',m,ps)/\ls=x::ls') \/
    (∃i ls',t = .adr (.obj i) 0/\Zns s oe mv md (pos+1) ts=some (ls',m,ps)/\ls = .ptr (some i)::ls') \/
    (∃n ver sz lo len e xs qs ls' m' ps',t = .h (.row n ver) sz lo len/\Ziw s oe (.row n ver)=some (e,sz,xs,qs)/\Zns s oe mv md (pos+1) ts=some (ls',m',ps')/\(e=true\/md<=1) /\
      ls = .own e sz (win md xs lo len).1::ls'/\m=(n,pos)::m'/\ps=(win md xs lo len).2++qs++ps') \/
    (∃src sz lo len xs qs ls' ps',t = .h src sz lo len/\Ziw s oe src=some (false,sz,xs,qs)/\Zns s oe mv md (pos+1) ts=some (ls',m,ps') /\
      ls = .sl sz (win md xs lo len).1::ls'/\ps=(win md xs lo len).2++qs++ps') \/
    (∃n es ls' m',t = .ms n/\s.si[n]? = some (some (.mp es))/\Zns s oe mv md (pos+1) ts=some (ls',m',ps)/\ls = .mp es::ls'/\m=(n,pos)::m'):=by
  unfold Zns at h;split at h
  · split at h<;>simp only [zA,zE,reduceCtorEq] at h
    rename_i h4;obtain ⟨rfl,rfl,rfl⟩:=h;exact .inl ⟨_,_,rfl,h4,rfl⟩
  · split at h<;>simp only [zA,zE,reduceCtorEq] at h
    rename_i h4;obtain ⟨rfl,rfl,rfl⟩:=h;exact .inr (.inl ⟨_,_,rfl,h4,rfl⟩)
  · rename_i src sz lo len
    split at h<;>try cases h
    rename_i e sz' xs qs ls' m' ps' hr h4;split at h<;>try cases h
    rename_i hz;subst hz;split at h
    · rename_i n hmv
      split at h<;>simp only [zA,zE,reduceCtorEq] at h;rename_i he;obtain ⟨rfl,rfl,rfl⟩:=h;unfold mvN at hmv;split at hmv<;>try cases hmv
      split at hmv<;>simp only [zA,reduceCtorEq] at hmv;subst hmv;exact .inr (.inr (.inl ⟨_,_,_,_,_,_,_,_,_,_,_,rfl,hr,h4,he,rfl,rfl,rfl⟩))
    split at h<;>simp only [zA,zE,reduceCtorEq] at h;rename_i he;simp only [Bool.not_eq_true] at he;subst he;obtain ⟨rfl,rfl,rfl⟩:=h;exact .inr (.inr (.inr (.inl ⟨_,_,_,_,_,_,_,_,rfl,hr,h4,rfl,rfl⟩)))
  · split at h<;>simp only [zA,zE,reduceCtorEq] at h
    rename_i hn h4;obtain ⟨rfl,rfl,rfl⟩:=h;exact .inr (.inr (.inr (.inr ⟨_,_,_,_,rfl,hn,h4,rfl,rfl⟩)))
  cases h
def CR.clean : ∀{vs:List Value} {ls:List L},CR g w none vs ls->∀b o,CR g w (some (b,o)) vs ls
  | _,_,.nil _,_,_=>.nil _
  | _,_,.one _ v vs l ls hv h1 hr,b,o=>.one _ _ _ _ _ (LR.in _ hv) h1 (CR.clean hr b (o+1))
  | _,_,.arr _ k n xs vs ls hn hr,b,o=>.arr _ _ _ _ _ _ hn (CR.clean hr b (o+n))
  | _,_,.brr _ n xs vs ls hn hr,b,o=>.brr _ _ _ _ _ hn (CR.clean hr b (o+n))
def ZnC {b off:Nat} {m:List (Nat×Nat)} {b':Nat} (h : ∀q∈m,g.ow b'≠some (.rowS q.1)):(g.retag b off m).ow b'=g.ow b':=by
  show reOw b off m (g.ow b')=g.ow b';unfold reOw;split
  · rename_i n hn
    split
    · rename_i pos hl
      have:(n,pos)∈m:=by
        clear h
        induction m with
        | nil=>cases hl
        | cons q m ih=>
          obtain ⟨a,c⟩:=q;simp only [List.lookup] at hl;split at hl
          · rename_i he
            have:n=a:=by simpa using he
            cases hl;subst this;exact wP ..
          exact yN _ (ih hl)
      exact absurd hn (h _ this)
    exact hn.symm
  rfl
def ZkK {b off:Nat} {m:List (Nat×Nat)}:(g.retag b off m).Z=g.Z:=rfl
def Zol {b off:Nat} {m:List (Nat×Nat)}:(g.retag b off m).ob=g.ob/\(g.retag b off m).nob=g.nob/\(g.retag b off m).sb=g.sb/\(g.retag b off m).hd=g.hd:=⟨rfl,rfl,rfl,rfl⟩
def ZfM (hm:ZdK g s w) {g':G} {w':World} (K:ZcK g g' w w') {b off:Nat} {M:List (Nat×Nat)} (hg:g'=g.retag b off M) {oe:List L} {mv:List Nat} {md:Nat} :
    ∀{ts:List T} {pos:Nat} {ls:List L} {m:List (Nat×Nat)} {ps:List Prop} {vs:List Value},Zns s oe mv md pos ts=some (ls,m,ps)->Zce ps->TsR g s w vs ts ->
      (∀q∈m,M.lookup q.1=some q.2)->(∀q∈m,∀b',g.ow b'=some (.rowS q.1)->w'.heap[b']? = w.heap[b']?)->CR g' w' (some (b,off+pos)) vs ls
  | [],pos,ls,m,ps,vs,h,hp,ht,hM,hw=>by
    simp only [Zns,zA,zE] at h;obtain ⟨rfl,_,_⟩:=h;rw [TsR] at ht;subst ht;exact .nil _
  | t::ts,pos,ls,m,ps,vs,h,hp,ht,hM,hw=>by
    obtain ⟨us,rest,rfl,hu,h2,h3⟩:=ht.inv;have noArr : ∀{t:T},(∀k n xs,t ≠ .l (.arr k n xs))->(∀n xs,t ≠ .l (.brr n xs))->TsR g s w us [t]->∃v,us = [v]/\v.oneCell'=true/\TR g s w v t:=fun h5 h6 h2=>by
      rw [TsR] at h2
      · obtain ⟨v,r0,rfl,hc,hv,h0⟩:=h2
        rw [TsR] at h0;subst h0;exact ⟨v,rfl,hc,hv⟩
      · intro _ _ _ e;exact h5 _ _ _ e
      intro _ _ e;exact h6 _ _ e
    rcases Zob h with ⟨x,ls',rfl,h4,rfl⟩ | ⟨i,ls',rfl,h4,rfl⟩ | ⟨n,ver,sz,lo,len,e,xs,qs,ls',m',ps',rfl,hr,h4,he,rfl,rfl,rfl⟩ | ⟨src,sz,lo,len,xs,qs,ls',ps',rfl,hr,h4,rfl,rfl⟩ | ⟨n,es,ls',m',rfl,hn,h4,rfl,rfl⟩
    · have h5:=Zhp (ls:=[x]) (p:=none) (by simp [tLs]) h2
      have h7:=ZfM hm K hg h4 hp h3 hM hw;refine CR.join (CR.clean (CR.keep K h5) _ _) ?_;simpa [Dn.bump,xK] using h7
    · obtain ⟨v,rfl,hc,_,hi,hv⟩:=noArr (by rintro _ _ _ ⟨⟩) (by rintro _ _ ⟨⟩) h2
      have:=hv trivial;subst this;have h7:=ZfM hm K hg h4 hp h3 hM hw;refine CR.join (.one _ _ _ _ _ ?_ rfl (.nil _)) (by simpa [Dn.bump,L.size,xK] using h7);show LR g' w' _ (.pointer (some ⟨g.ob i,0,none⟩)) _;rw [<-K.ob i hi];exact .ref _ _ (yK hi K.nob)
    · rw [Zce.append,Zce.append] at hp
      obtain ⟨⟨hp1,hp2⟩,hp3⟩:=hp;obtain ⟨v,rfl,hc,_,hi,hv⟩:=noArr (by rintro _ _ _ ⟨⟩) (by rintro _ _ ⟨⟩) h2;obtain ⟨hv0,t0,k1,k2,k3⟩:=Zfs hm hr hp2;obtain ⟨rfl,rfl⟩:=k3 _ _ rfl;obtain ⟨w1,w2,w3⟩:=ZhJ hp1;have hwin:=hv _ k1;have hrow:=k2.win hwin w2 (he.imp id w3);have h7:=ZfM hm K hg h4 hp3 h3 (fun q hq=>hM q (yN _ hq)) (fun q hq=>hw q (yN _ hq));refine CR.join (.one _ _ _ _ _ ?_ hc (.nil _)) (by simpa [Dn.bump,L.size,xK] using h7);rw [Zlw,w1];rcases hrow with h | h | ⟨b1,o1,cap,aa,E,q1,q2,q3,q4,q5,q6,q7⟩
      · exact .inl h
      · exact .inr (.inl h)
      have hww:=hw _ (wP ..) _ q3;refine .inr (.inr ⟨b1,o1,cap,aa,E,q1,q2,?_,by rw [hww];exact q4,q5,by rw [hg];exact q6,q7.keep' K fun o _ _=>Zdr hww⟩);rw [hg];show reOw b off M (g.ow b1)=_;rw [q3];simp only [reOw];rw [hM _ (wP ..)]
    · rw [Zce.append,Zce.append] at hp
      obtain ⟨⟨hp1,hp2⟩,hp3⟩:=hp;obtain ⟨v,rfl,hc,_,hi,hv⟩:=noArr (by rintro _ _ _ ⟨⟩) (by rintro _ _ ⟨⟩) h2;obtain ⟨hv0,t0,k1,k2,_⟩:=Zfs hm hr hp2;obtain ⟨w1,w2,_⟩:=ZhJ hp1;have hsl:=k2.sl (hv _ k1) w2;have h7:=ZfM hm K hg h4 hp3 h3 hM hw;refine CR.join (.one _ _ _ _ _ ?_ hc (.nil _)) (by simpa [Dn.bump,L.size,xK] using h7);rw [w1];exact LR.in _ (LR.keep K hsl)
    obtain ⟨v,rfl,hc,_,hv⟩:=noArr (by rintro _ _ _ ⟨⟩) (by rintro _ _ ⟨⟩) h2;have:=hv _ hn;subst this;obtain ⟨b1,cl,en,q1,q2,q3,q4⟩:=hm.site n _ hn;have h7:=ZfM hm K hg h4 hp h3 (fun q hq=>hM q (yN _ hq)) (fun q hq=>hw q (yN _ hq));refine CR.join (.one _ _ _ _ _ ?_ hc (.nil _)) (by simpa [Dn.bump,L.size,xK] using h7);rw [Zvo];refine ⟨b1,cl,en,q1,⟨?_,by rw [hg];exact q2.2⟩,by rw [hw _ (wP ..) _ q2.1];exact q3,q4.keep K⟩;rw [hg];show reOw b off M (g.ow b1)=_;rw [q2.1];simp only [reOw];rw [hM _ (wP ..)]
end
end Go.Dn
namespace Go.Dn
variable [Globs]
section
variable {P:Program} {g:G} {s:S} {w:World}
def CR.plainCells : ∀{p:Option (Nat×Nat)} {vs:List Value} {ls:List L},CR g w p vs ls->ls.all L.plain=true->∀v∈vs,isSl v=false
  | _,_,_,.nil _,_,v,h=>by cases h
  | _,_,_,.one _ u vs l ls hv h1 hr,hp,v,h=>by
    simp only [yQ,zV] at hp;rcases xL.1 h with rfl | h
    · cases hv<;>first | rfl | (simp [L.plain] at hp)
    exact hr.plainCells hp.2 v h
  | _,_,_,.arr _ k n xs vs ls hn hr,hp,v,h=>by
    simp only [yQ,zV] at hp;rcases xA.1 h with h | h
    · obtain ⟨x,_,rfl⟩:=uJ.1 h;rfl
    exact hr.plainCells hp.2 v h
  | _,_,_,.brr _ n xs vs ls hn hr,hp,v,h=>by
    simp only [yQ,zV] at hp;rcases xA.1 h with h | h
    · obtain ⟨x,_,rfl⟩:=uJ.1 h;rfl
    exact hr.plainCells hp.2 v h
def ZjP {tv:TV} {ts:List T} {v:Value} (h:tvT tv=some ts) (hv:ZdM g s w v tv):TsR g s w v.cells.toList ts:=by
  unfold tvT at h;split at h
  · split at h<;>simp only [zA,reduceCtorEq] at h
    rename_i ht;subst h;obtain ⟨h1,h2⟩:=hv;have:v.cells.toList = [v]:=by cases v<;>first | rfl | simp [Value.oneCell'] at h1
    rw [this,Zia (T.single_not ht)];exact ⟨h1,h2,by rw [TsR]⟩
  · simp only [zA] at h;subst h
    obtain ⟨vs,rfl,h2⟩:=hv;exact h2
  cases h
def Zfy:Root->Ow
  | .site n=>.site n
  | .obj i=>.obj i
  | .glob _=>.foreign
def ZfD (hm:ZdK g s w) {oc c:List L} {ps:List Prop} {r:Root} (h:ZgQ s oc r=some (c,ps)) (hp:Zce ps) :
    ZhF g r/\Zfq s r/\(∀k,r ≠ .glob k)/\Znq g w (g.rb r) (Zfy r) c:=by
  cases r with
  | site n=>
    simp only [ZgQ] at h;split at h<;>simp only [zA,zE,reduceCtorEq] at h;obtain ⟨rfl,rfl⟩:=h;rename_i h1;exact ⟨trivial,⟨_,h1⟩,fun k e=>(by cases e),hm.site n _ h1⟩
  | obj i=>
    simp only [ZgQ] at h;split at h<;>simp only [zA,zE,reduceCtorEq] at h;obtain ⟨rfl,rfl⟩:=h;simp only [Zce] at hp;have h1:i<s.st.length:=by
      rcases zX i s.st.length with h | h
      · exact h
      simp [zM h] at hp
    exact ⟨by have:=hm.stl;simp only [ZhF];omega,trivial,fun k e=>(by cases e),hm.obj i _ hp aG⟩
  | glob k=>cases h
def Zpd:Ent->Prop
  | .cells _=>False
  | _=>True
def Zgx {oe:List L} {mv:List Nat} {md:Nat} : ∀{ts:List T} {pos:Nat} {ls:List L} {m:List (Nat×Nat)} {ps:List Prop},Zns s oe mv md pos ts=some (ls,m,ps)->∀q∈m,∃ent,s.si[q.1]? = some (some ent)/\Zpd ent
  | [],pos,ls,m,ps,h,q,hq=>by simp only [Zns,zA,zE] at h;obtain ⟨_,rfl,_⟩:=h;cases hq
  | t::ts,pos,ls,m,ps,h,q,hq=>by
    rcases Zob h with ⟨x,ls',rfl,h4,rfl⟩ | ⟨i,ls',rfl,h4,rfl⟩ | ⟨n,ver,sz,lo,len,e,xs,qs,ls',m',ps',rfl,hr,h4,he,rfl,rfl,rfl⟩ | ⟨src,sz,lo,len,xs,qs,ls',ps',rfl,hr,h4,rfl,rfl⟩ | ⟨n,es,ls',m',rfl,hn,h4,rfl,rfl⟩
    · exact Zgx h4 q hq
    · exact Zgx h4 q hq
    · rcases xL.1 hq with rfl | hq
      · simp only [Ziw] at hr
        split at hr<;>try cases hr
        rename_i h1;exact ⟨_,h1,trivial⟩
      exact Zgx h4 q hq
    · exact Zgx h4 q hq
    rcases xL.1 hq with rfl | hq
    · exact ⟨_,hn,trivial⟩
    exact Zgx h4 q hq
def Zjr {m:List (Nat×Nat)} {n:Nat} {ent:Ent} : ∀{l:List (Option Ent)},(m.foldl (fun si q=>si.set q.1 none) l)[n]? = some (some ent)->l[n]? = some (some ent)/\∀q∈m,n≠q.1:=by
  induction m with
  | nil=>intro l h;exact ⟨h,fun q hq=>by cases hq⟩
  | cons q m ih=>
    intro l h;simp only [List.foldl_cons] at h;obtain ⟨h1,h2⟩:=ih h;by_cases e:q.1=n
    · subst e
      by_cases hlt:q.1<l.length
      · rw [zP hlt] at h1;cases h1
      rw [zM (aR hlt)] at h1;cases h1
    rw [zO e] at h1;refine ⟨h1,fun q' hq'=>?_⟩;rcases xL.1 hq' with rfl | hq'
    · exact fun e'=>e e'.symm
    exact h2 q' hq'
def Zsj (m:List (Nat×Nat)) : ∀(l:List (Option Ent)),(m.foldl (fun si q=>si.set q.1 none) l).length=l.length:=by
  induction m with
  | nil=>intro l;rfl
  | cons q m ih=>intro l;simp [ih]
def Zmh (hm:ZdK g s w) {r:Root} {c c':List L} {cur cs:Array Value} {E:TypeId} {off:Nat} {m:List (Nat×Nat)} {bp:Bool} {oc:List L} {ps:List Prop}
    (hc:ZgQ s oc r=some (c,ps)) (hp:Zce ps) (hb:w.heap[g.rb r]? = some (.cells cur E (0,0)))
    (hmv : ∀q∈m,(∃ent,s.si[q.1]? = some (some ent)/\Zpd ent)/\r ≠ .site q.1)
    (hep:bp=false->∀(o:Nat) (hv:Value),cs[o]? = some hv->cur[o]? = some hv\/∃hv',cur[o]? = some hv'/\isSl hv'=false)
    (hcr:ZcK g (g.retag (g.rb r) off m) w (w.setRow (g.rb r) cs)->(∀q∈m,∀b',g.ow b'=some (.rowS q.1)->(w.setRow (g.rb r) cs).heap[b']? = w.heap[b']?) ->
      (∀b' o,g.ow b'=some (.rowM (g.rb r) o)->Zhw g (g.retag (g.rb r) off m) w (w.setRow (g.rb r) cs) b') ->
      CR (g.retag (g.rb r) off m) (w.setRow (g.rb r) cs) (some (g.rb r,0)) cs.toList c') :
    Mod g (g.retag (g.rb r) off m) w (w.setRow (g.rb r) cs)/\ZdK (g.retag (g.rb r) off m) (((s.setRoot r c').drop m).bump bp) (w.setRow (g.rb r) cs) /\
      ZbA (· ∈ []) s (((s.setRoot r c').drop m).bump bp) g (g.retag (g.rb r) off m) w (w.setRow (g.rb r) cs):=by
  obtain ⟨hi,hok,hng,hblk⟩:=ZfD hm hc hp;obtain ⟨ht,hZ,_⟩:=hblk;have hsame : ∀b',b'≠g.rb r->(w.setRow (g.rb r) cs).heap[b']? = w.heap[b']? := fun b' h=>setRow_other w _ _ _ h;have how : ∀b',(∀q∈m,g.ow b'≠some (.rowS q.1))->(g.retag (g.rb r) off m).ow b'=g.ow b':=fun b' h=>ZnC h;obtain ⟨e1,e2,e3,e4⟩:=Zol (g:=g) (b:=g.rb r) (off:=off) (m:=m);have K:ZcK g (g.retag (g.rb r) off m) w (w.setRow (g.rb r) cs):=by
    refine ⟨fun i _=>by rw [e1],by rw [e2];exact zH _,fun b=>by rw [ZkK];exact zH _,fun b o ho=>?_,fun b ho=>?_⟩
    · have:b≠g.rb r:=fun e=>by subst e;omega
      exact Zdr (hsame b this)
    have:b≠g.rb r:=fun e=>by subst e;omega
    exact ZeE (hsame b this)
  have hS : ∀b',b'≠g.rb r->(∀q∈m,g.ow b'≠some (.rowS q.1))->Zhw g (g.retag (g.rb r) off m) w (w.setRow (g.rb r) cs) b':=fun b' h1 h2=>
    ⟨hsame b' h1,how b' h2,by rw [ZkK]⟩
  have htag : ∀b' t',g.ow b'=some t'->t'≠Zfy r->b'≠g.rb r:=fun b' t' h1 h2 e=>by subst e;rw [ht] at h1;exact h2 (by cases h1;rfl)
  have hrt : ∀b o,Ow.rowM b o≠Zfy r:=by intro b o;cases r<;>simp [Zfy]
  have hrs : ∀n,Ow.rowS n≠Zfy r:=by intro b;cases r<;>simp [Zfy]
  have hrow : ∀b' b o,g.ow b'=some (.rowM b o)->Zhw g (g.retag (g.rb r) off m) w (w.setRow (g.rb r) cs) b':=fun b' b o h=>
    hS b' (htag _ _ h (hrt _ _)) (fun q _ e=>by rw [h] at e;cases e)
  have hcr':=hcr K (fun q hq b' hb'=>hsame _ (htag _ _ hb' (hrs _))) (fun b' o h=>hrow b' _ o h);have hsz : ∀b t,g.ow b=some t->b<w.heap.size:=hm.own;have hsize:(w.setRow (g.rb r) cs).heap.size=w.heap.size:=by simp
  refine ⟨⟨K,rfl,rfl,rfl,by rw [hsize];exact zH _,fun b hb'=>?_,fun b hb' h1 h2=>?_,fun i h1 h2=>absurd h2 (by rw [e2];omega)⟩,?_,?_⟩
  · by_cases e:b=g.rb r
    · right;rw [e,ht];refine ⟨by simp,?_⟩
      cases r with
      | glob k=>exact absurd rfl (hng k)
      | _=>simp [Zfy]
    by_cases hq : ∀q∈m,g.ow b≠some (.rowS q.1)
    · exact .inl (hS b e hq)
    simp only [ne_eq,Classical.not_forall,Classical.not_not] at hq;obtain ⟨q,hq1,hq2⟩:=hq;right;rw [hq2];simp
  · by_cases hq : ∀q∈m,g.ow b≠some (.rowS q.1)
    · rw [how b hq] at h1 h2;exact ⟨h1,h2⟩
    simp only [ne_eq,Classical.not_forall,Classical.not_not] at hq;obtain ⟨q,hq1,hq2⟩:=hq;rw [hq2];simp
  ·
    have hst:(((s.setRoot r c').drop m).bump bp).st=(s.setRoot r c').st:=by cases bp<;>rfl
    have hsi:(((s.setRoot r c').drop m).bump bp).si=((s.setRoot r c').drop m).si:=by cases bp<;>rfl
    have hstl:(s.setRoot r c').st.length=s.st.length:=by cases r<;>simp [S.setRoot,S.setEnt]
    have hnew:Znq (g.retag (g.rb r) off m) (w.setRow (g.rb r) cs) (g.rb r) (Zfy r) c':=by
      refine ⟨?_,by rw [ZkK];exact hZ,cs,E,setRow_heap w _ cur _ E _ hb,hcr'⟩;rw [how _ (fun q _ e=>by rw [ht] at e;exact hrs _ (Option.some.inj e).symm)];exact ht
    refine ⟨by rw [hst,hstl,e2];exact hm.stl,fun i cc h hne=>?_,fun i hi=>?_,fun n ent h=>?_,fun b t h=>?_,fun b h=>?_,hm.gl.keep K⟩
    · rw [hst] at h
      rw [e1];by_cases e:r = .obj i
      · subst e
        have hi':i<s.st.length:=by rw [hm.stl];exact hi
        simp only [S.setRoot] at h;rw [zP hi'] at h;cases h;exact hnew
      have h':s.st[i]? = some cc:=by
        cases r with
        | obj j=>
          simp only [S.setRoot] at h;rwa [zO (fun e'=>e (by rw [e']))] at h
        | site n=>exact h
        | glob k=>exact h
      have h2:=hm.obj i cc h' hne;refine h2.keep K (hS _ (htag _ _ h2.1 ?_) (fun q _ e'=>by rw [h2.1] at e';cases e')) (fun b' o hb'=>hrow b' _ o hb');cases r<;>simp [Zfy];intro e';exact e (by rw [e'])
    · rw [e2] at hi
      rw [e1];have h1:=hm.objB i hi;rw [how _ (fun q _ e'=>by rcases h1 with h | h<;>(rw [h] at e';cases e'))];exact h1
    · rw [hsi] at h
      obtain ⟨h',hdrop⟩:=Zjr h;by_cases e:r = .site n
      · subst e
        simp only [S.setRoot,S.setEnt] at h';obtain ⟨cc,hok'⟩:=hok;have hlt:n<s.si.length:=by
          rcases zX n s.si.length with h0 | h0
          · exact h0
          rw [zM h0] at hok';cases hok'
        rw [zP hlt] at h';cases h';simp only [Zgf];rw [e3];exact hnew
      have h'':s.si[n]? = some (some ent):=by
        cases r with
        | site k=>
          simp only [S.setRoot,S.setEnt] at h';rwa [zO (fun e'=>e (by rw [e']))] at h'
        | obj j=>exact h'
        | glob k=>exact h'
      have h2:=hm.site n ent h'';cases ent with
      | cells cc=>
        simp only [Zgf] at h2 |-;rw [e3];refine h2.keep K (hS _ (htag _ _ h2.1 ?_) (fun q _ e'=>by rw [h2.1] at e';cases e')) (fun b' o hb'=>hrow b' _ o hb');cases r<;>simp [Zfy];intro e';exact e (by rw [e'])
      | row ver ee sz xs=>
        simp only [Zgf] at h2 |-;rw [e4];refine h2.keep K (fun b hb'=>hS _ (htag _ _ hb' (hrs _)) (fun q hq e'=>?_));rw [hb'] at e';cases e';exact hdrop q hq rfl
      | mp es=>
        simp only [Zgf] at h2 |-;rw [e4];refine h2.keep K (fun b hb'=>hS _ (htag _ _ hb' (hrs _)) (fun q hq e'=>?_));rw [hb'] at e';cases e';exact hdrop q hq rfl
    · rw [hsize]
      by_cases hq : ∀q∈m,g.ow b≠some (.rowS q.1)
      · rw [how b hq] at h;exact hsz b t h
      simp only [ne_eq,Classical.not_forall,Classical.not_not] at hq;obtain ⟨q,hq1,hq2⟩:=hq;exact hsz b _ hq2
    rw [hsize] at h;rw [ZkK];exact hm.z b h
  ·
    have hsi:(((s.setRoot r c').drop m).bump bp).si=((s.setRoot r c').drop m).si:=by cases bp<;>rfl
    have hep':(((s.setRoot r c').drop m).bump bp).ep=if bp then s.ep+1 else s.ep:=by cases bp<;>cases r<;>rfl
    have hsub : ∀(n:Nat) (ent:Ent),((s.setRoot r c').drop m).si[n]? = some (some ent)->(s.setRoot r c').si[n]? = some (some ent):=by
      intro n ent h;exact (Zjr h).1
    have hsub2 : ∀(n:Nat) (ent:Ent),(s.setRoot r c').si[n]? = some (some ent)->(∃c,ent = .cells c/\∃c0,s.si[n]? = some (some (.cells c0)))\/s.si[n]? = some (some ent):=by
      intro n ent h;cases r with
      | site k=>
        simp only [S.setRoot,S.setEnt] at h;by_cases e:k=n
        · subst e
          obtain ⟨cc,hok'⟩:=hok;have hlt:k<s.si.length:=by
            rcases zX k s.si.length with h0 | h0
            · exact h0
            rw [zM h0] at hok';cases hok'
          rw [zP hlt] at h;cases h;exact .inl ⟨_,rfl,_,hok'⟩
        rw [zO e] at h;exact .inr h
      | obj j=>exact .inr h
      | glob k=>exact .inr h
    refine ⟨K,fun n _ h=>?_,fun n ver _ h=>?_,fun n _ h=>?_,fun he r' hg' hi' hr' _ _ o hv h=>?_,by rw [hep'];split<;>omega⟩
    · obtain ⟨cc,h⟩:=h
      rw [hsi] at h;rcases hsub2 n _ (hsub n _ h) with ⟨_,_,c0,h1⟩ | h1
      · exact ⟨⟨c0,h1⟩,by rw [e3]⟩
      exact ⟨⟨cc,h1⟩,by rw [e3]⟩
    · obtain ⟨e,sz,xs,h⟩:=h
      rw [hsi] at h;rcases hsub2 n _ (hsub n _ h) with ⟨_,h0,_⟩ | h1
      · cases h0
      exact .inl ⟨⟨e,sz,xs,h1⟩,by rw [e4]⟩
    · obtain ⟨es,h⟩:=h
      rw [hsi] at h;rcases hsub2 n _ (hsub n _ h) with ⟨_,h0,_⟩ | h1
      · cases h0
      exact ⟨⟨es,h1⟩,by rw [e4]⟩
    have hbp:bp=false:=by
      rw [hep'] at he;cases bp
      · rfl
      simp at he
    by_cases e:g.rb r'=g.rb r
    · rw [e] at h |-
      have h1:(w.setRow (g.rb r) cs).cell? (ad (g.rb r) o)=cs[o]? := cell_setRow_same w _ _ cur cs E _ hb;have h2:w.cell? (ad (g.rb r) o)=cur[o]? := by simp [World.cell?,hb]
      rw [h1] at h;rw [h2];exact hep hbp o hv h
    left;rwa [Zdr (hsame _ e)] at h
end
end Go.Dn
namespace Go.Dn
variable [Globs]
def Znt (s:S) (oc:List L) (r:Root) (off n i:Nat) (x:L):Option (S×List Prop):=
  match ZgQ s oc r with
  | some (c,ps)=>match ZgL c off,x with
    | some (.arr k m xs),.int k' y=>if m=n/\k'=k then match ZfU c off n [.arr k n (xs.set i y)] with
        | some c'=>some (s.setRoot r c',ps)
        | none=>none
      else none
    | some (.brr m xs),.bool y=>if m=n then match ZfU c off n [.brr n (xs.set i y)] with
        | some c'=>some (s.setRoot r c',ps)
        | none=>none
      else none
    | _,_=>none
  | none=>none
def stOp (P:Program) (s:S) (oc oe:List L) (mv:List Nat) (md:Nat) (o:Oper):Option (S×List Prop):=
  match o.dst,o.op with
  | none,.store t x y=>match ev s x,ev s y,P.info? t with
    | some (.one (.adr r off)),some tv,some i=>ZjQ s oc oe mv md r off i.size tv
    | some (.one (.l (.ptr (some j)))),some tv,some i=>ZjQ s oc oe mv md (.obj j) 0 i.size tv
    | some (.one (.aadr r off n j)),some (.one (.l x)),some i=>if i.size=1 then Znt s oc r off n j x else none
    | _,_,_=>none
  | _,_=>none
section
variable {P:Program} {g:G} {s:S} {w:World}
def CR.setArr : ∀{c:List L} {p:Option (Nat×Nat)} {vs:List Value} {o:Nat} {k:IntKind} {n i:Nat} {xs:List Int} {y:Int} {c':List L},CR g w p vs c->ZgL c o=some (.arr k n xs) ->
    ZfU c o n [.arr k n (xs.set i y)]=some c'->i<n->o+i<vs.length/\CR g w p (vs.set (o+i) (.int k y)) c'
  | [],p,vs,o,k,n,i,xs,y,c',h,hs,hr,hi=>by simp [ZgL] at hs
  | l::ls,p,vs,o,k,n,i,xs,y,c',h,hs,hr,hi=>by
    obtain ⟨us,rest,rfl,hu,h1,h2⟩:=h.inv;cases o with
    | zero=>
      simp only [ZgL,if_true,zA] at hs;subst hs;have hn:xs.length=n:=by cases h1 with
        | one _ _ _ _ _ hv _ _=>exact hv.noArr.elim
        | arr _ _ _ _ _ _ hn _=>exact hn
      unfold ZfU at hr;cases n with
      | zero=>omega
      | succ n'=>
        simp only [Zgn,L.size,zH,if_true,Nat.sub_self,Option.map_some,zA] at hr;subst hr;have hus:us=xs.map (Value.int k):=by
          cases h1 with
          | one _ _ _ _ _ hv _ _=>exact hv.noArr.elim
          | arr _ _ _ _ _ _ hn h0=>cases h0;simp
        subst hus;refine ⟨by simp;omega,?_⟩;rw [yE,List.set_append_left _ _ aH];have e:(xs.map (Value.int k)).set i (.int k y)=(xs.set i y).map (Value.int k):=by rw [List.map_set]
        rw [e];refine .arr _ _ _ _ _ _ (aR hn) ?_;simpa [L.size] using h2
    | succ o'=>
      simp only [ZgL,Nat.add_eq_zero_iff,Nat.succ_ne_self,and_false,if_false,reduceCtorEq] at hs;unfold ZfU at hr;split at hs
      · rename_i hle
        rw [aD hle] at hr;obtain ⟨d,hd,rfl⟩:=zI.1 hr;obtain ⟨h3,h4⟩:=CR.setArr h2 hs hd hi;refine ⟨by simp only [zU];omega,?_⟩;rw [qU _ _ aF,hu];rw [(aF:o'+1+i-l.size=o'+1-l.size+i)];exact h1.join h4
      cases hs
def CR.setBrr : ∀{c:List L} {p:Option (Nat×Nat)} {vs:List Value} {o:Nat} {n i:Nat} {xs:List Bool} {y:Bool} {c':List L},CR g w p vs c->ZgL c o=some (.brr n xs) ->
    ZfU c o n [.brr n (xs.set i y)]=some c'->i<n->o+i<vs.length/\CR g w p (vs.set (o+i) (.bool y)) c'
  | [],p,vs,o,n,i,xs,y,c',h,hs,hr,hi=>by simp [ZgL] at hs
  | l::ls,p,vs,o,n,i,xs,y,c',h,hs,hr,hi=>by
    obtain ⟨us,rest,rfl,hu,h1,h2⟩:=h.inv;cases o with
    | zero=>
      simp only [ZgL,if_true,zA] at hs;subst hs;have hn:xs.length=n:=by cases h1 with
        | one _ _ _ _ _ hv _ _=>exact hv.noBrr.elim
        | brr _ _ _ _ _ hn _=>exact hn
      unfold ZfU at hr;cases n with
      | zero=>omega
      | succ n'=>
        simp only [Zgn,L.size,zH,if_true,Nat.sub_self,Option.map_some,zA] at hr;subst hr;have hus:us=xs.map Value.bool:=by
          cases h1 with
          | one _ _ _ _ _ hv _ _=>exact hv.noBrr.elim
          | brr _ _ _ _ _ hn h0=>cases h0;simp
        subst hus;refine ⟨by simp;omega,?_⟩;rw [yE,List.set_append_left _ _ aH];have e:(xs.map Value.bool).set i (.bool y)=(xs.set i y).map Value.bool:=by rw [List.map_set]
        rw [e];refine .brr _ _ _ _ _ (aR hn) ?_;simpa [L.size] using h2
    | succ o'=>
      simp only [ZgL,Nat.add_eq_zero_iff,Nat.succ_ne_self,and_false,if_false,reduceCtorEq] at hs;unfold ZfU at hr;split at hs
      · rename_i hle
        rw [aD hle] at hr;obtain ⟨d,hd,rfl⟩:=zI.1 hr;obtain ⟨h3,h4⟩:=CR.setBrr h2 hs hd hi;refine ⟨by simp only [zU];omega,?_⟩;rw [qU _ _ aF,hu];rw [(aF:o'+1+i-l.size=o'+1-l.size+i)];exact h1.join h4
      cases hs
def CR.seg_plain : ∀{c:List L} {p:Option (Nat×Nat)} {vs:List Value} {o n:Nat} {d old:List L},CR g w p vs c->Zgn c o=some d->Zho d n=some old->old.all L.plain=true ->
    ∀j v,o<=j->j<o+n->vs[j]? = some v->isSl v=false:=by
  intro c p vs o n d old h hd ht hp j v h1 h2 h3;obtain ⟨k1,k2⟩:=h.drop hd;obtain ⟨k3,k4⟩:=k2.take ht;refine k4.plainCells hp v (List.mem_of_getElem? (i:=j-o) ?_);rw [yT,aD aF,xG];rwa [(aF:o+(j-o)=j)]
def Znq.heap {b:Nat} {t:Ow} {c:List L} (h:Znq g w b t c) : ∃(a:Array Value) (E:TypeId),w.heap[b]? = some (.cells a E (0,0))/\CR g w (some (b,0)) a.toList c:=h.2.2
def ZsA {cur:List Value} {off:Nat} {us:List Value} (hl:off+us.length<=cur.length) (o:Nat) (hv:Value)
    (h:(cur.take off++us++cur.drop (off+us.length))[o]? = some hv):cur[o]? = some hv\/(off<=o/\o<off+us.length):=by
  by_cases h1:o<off
  · left
    rw [yH,List.getElem?_append_left aH,yT,aD h1] at h;exact h
  by_cases h2:o<off+us.length
  · exact .inr ⟨aF,h2⟩
  left;rw [yA aH] at h;simp only [zU,List.length_take,xG] at h;rwa [(aF:off+us.length+(o-(min off cur.length+us.length))=o)] at h
def ZiR : ∀{m:List (Nat×Nat)},ZsJ (m.map (·.1))=true->∀q∈m,m.lookup q.1=some q.2
  | [],_,q,hq=>by cases hq
  | (a,b)::m,h,q,hq=>by
    simp only [xF,ZsJ,zV,Bool.not_eq_true'] at h;rcases xL.1 hq with rfl | hq
    · simp [List.lookup]
    have hne:q.1≠a:=fun e=>by
      have:(m.map (·.1)).contains a=true:=by rw [List.contains_iff_mem];exact uJ.2 ⟨q,hq,e⟩
      rw [this] at h;exact absurd h.1 aG
    simp only [List.lookup];rw [show (q.1==a)=false by simpa using hne];exact ZiR h.2 q hq
def Zps (hm:ZdK g s w) {t:TypeId} {i:TypeInfo} (hi:P.info? t=some i) {oc oe:List L} {mv:List Nat} {md:Nat} {r:Root} {off:Nat} {tv:TV} {s':S} {ps:List Prop} {v:Value}
    (h:ZjQ s oc oe mv md r off i.size tv=some (s',ps)) (hp:Zce ps) (hv:ZdM g s w v tv) :
    ∃w' g',(storeVar t (ad (g.rb r) off) v).run P w = .ok () w'/\Mod g g' w w'/\ZdK g' s' w'/\ZbA (· ∈ []) s s' g g' w w':=by
  unfold ZjQ at h;split at h<;>try cases h
  rename_i c ps' ts hc hts;split at h<;>try cases h
  rename_i ls m qs d hst hd;split at h<;>try cases h
  rename_i old c' hold hrep;split at h<;>simp only [zA,zE,reduceCtorEq] at h;rename_i hsz;obtain ⟨hsz,hnd,hmne⟩:=hsz;have hlk:=ZiR hnd;obtain ⟨rfl,rfl⟩:=h;rw [Zce.append] at hp;obtain ⟨hp1,hp2⟩:=hp;have hts':=ZjP hts hv;obtain ⟨hri,hrok,hng,hblk⟩:=ZfD hm hc hp1;obtain ⟨cur,E,hb,hcr⟩:=hblk.heap;have hlen:v.cells.toList.length=i.size:=by
    have h1:=CR.size (ZfM (g':=g.retag (g.rb r) off m) (w':=w) (b:=g.rb r) (off:=off) hm
      (by obtain ⟨e1,e2,_,_⟩:=Zol (g:=g) (b:=g.rb r) (off:=off) (m:=m)
          exact ⟨fun i _=>by rw [e1],by rw [e2];exact zH _,fun b=>by rw [ZkK];exact zH _,fun _ _ _=>rfl,fun _ _=>rfl⟩) rfl hst hp2 hts' hlk (fun _ _ _ _=>rfl))
    omega
  have h1 : ∀u∈v.cells.toList,u.oneCell'=true:=by
    have h1:=CR.cells1 (ZfM (g':=g.retag (g.rb r) off m) (w':=w) (b:=g.rb r) (off:=off) hm
      (by obtain ⟨e1,e2,_,_⟩:=Zol (g:=g) (b:=g.rb r) (off:=off) (m:=m)
          exact ⟨fun i _=>by rw [e1],by rw [e2];exact zH _,fun b=>by rw [ZkK];exact zH _,fun _ _ _=>rfl,fun _ _=>rfl⟩) rfl hst hp2 hts' hlk (fun _ _ _ _=>rfl))
    exact h1
  have hfit:off+i.size<=cur.size:=by
    obtain ⟨k1,k2⟩:=hcr.drop hd;obtain ⟨k3,k4⟩:=k2.take hold;simp at k1 k3;omega
  have hrun:=run_storeCells_at P (g.rb r) off E v.cells.toList 0 cur w hb aF h1;simp only [vC] at hrun;refine ⟨_,_,?_,Zmh hm (c':=c') (cs:=(cur.toList.take off++v.cells.toList++cur.toList.drop (off+v.cells.toList.length)).toArray) (off:=off) (m:=m) (bp:=!old.all L.plain) hc hp1 hb ?_ ?_ ?_⟩
  · unfold storeVar
    rw [Sem.run_bind,Zeb hi];have hne : ¬ (v.cells.size≠i.size):=by simpa using hlen
    simp only [Result.andThen_ok,Sem.run_ite,aE hne];exact hrun
  · intro q hq
    exact ⟨Zgx hst q hq,by simpa using (List.all_eq_true.1 hmne) q hq⟩
  · intro hbp o hv' ho
    have hpl:old.all L.plain=true:=by simpa using hbp
    have ho':(cur.toList.take off++v.cells.toList++cur.toList.drop (off+v.cells.toList.length))[o]? = some hv':=by simpa using ho
    rcases ZsA (by rw [hlen];simpa using hfit) o hv' ho' with h2 | ⟨h2,h3⟩
    · left;simpa using h2
    right;have hlt:o<cur.size:=aF
    refine ⟨cur[o],by simp [hlt],hcr.seg_plain hd hold hpl o _ h2 aF (by simp [hlt])⟩
  intro K hmv hrw;have hk:=ZfM (b:=g.rb r) (off:=off) hm K rfl hst hp2 hts' hlk hmv;rw [vC] at hk;have:=(hcr.keepO K hrw).repl hrep (us:=v.cells.toList) (by simpa [Dn.bump] using hk) hlen;rw [<-hlen] at this;exact this.2
def Zpt (hm:ZdK g s w) {t:TypeId} {ti:TypeInfo} (hi:P.info? t=some ti) (h1c:ti.size=1) {oc:List L} {r:Root} {off n j:Nat} {x:L} {s':S} {ps:List Prop} {v:Value}
    (h:Znt s oc r off n j x=some (s',ps)) (hp:Zce ps) (hv:LR g w none v x) (hj:Zfq s r->j<n) :
    ∃w' g',(storeVar t (ad (g.rb r) (off+j)) v).run P w = .ok () w'/\Mod g g' w w'/\ZdK g' s' w'/\ZbA (· ∈ []) s s' g g' w w':=by
  unfold Znt at h;split at h<;>try cases h
  rename_i c ps' hc;have fin : ∀(c':List L) (hp1:Zce ps') (hone:v.oneCell'=true) (hcell:v.cells = #[v]) (hns : ∀(a:Array Value) (E:TypeId) ,w.heap[g.rb r]? = some (.cells a E (0,0))->CR g w (some (g.rb r,0)) a.toList c->∃u,a.toList[off+j]? = some u/\isSl u=false)
      (hset : ∀(g':G) (w':World) (vs:List Value),CR g' w' (some (g.rb r,0)) vs c->off+j<vs.length/\CR g' w' (some (g.rb r,0)) (vs.set (off+j) v) c'),
      ∃w' g',(storeVar t (ad (g.rb r) (off+j)) v).run P w = .ok () w'/\Mod g g' w w'/\ZdK g' (s.setRoot r c') w'/\ZbA (· ∈ []) s (s.setRoot r c') g g' w w':=by
    intro c' hp1 hone hcell hns hset;obtain ⟨hri,hrok,hng,hblk⟩:=ZfD hm hc hp1;obtain ⟨cur,E,hb,hcr⟩:=hblk.heap;obtain ⟨u,hu1,hu2⟩:=hns cur E hb hcr;obtain ⟨hlt,_⟩:=hset g w _ hcr;have hlt':off+j<cur.size:=by simpa using hlt
    have hrun:=run_storeCells_at P (g.rb r) (off+j) E [v] 0 cur w hb (by simp only [yX];omega) (aR hone);simp only [vC,yX] at hrun;have hse:cur.toList.take (off+j) ++ [v]++cur.toList.drop (off+j+1)=cur.toList.set (off+j) v:=by
      rw [List.set_eq_take_append_cons_drop,aD hlt,yH];rfl
    rw [hse] at hrun;have key:=Zmh hm (c':=c') (cs:=(cur.toList.set (off+j) v).toArray) (off:=off) (m:=[]) (bp:=false) hc hp1 hb (fun q hq=>by cases hq) (fun _ o hv' ho=>?_) (fun K _ hrw=>?_)
    · refine ⟨_,_,?_,key⟩
      unfold storeVar;rw [Sem.run_bind,Zeb hi];simp only [Result.andThen_ok,hcell,yX,List.size_toArray,wO,List.length_nil,yE,h1c,ne_eq,not_true_eq_false,Sem.run_ite,if_false];exact hrun
    · have ho':(cur.toList.set (off+j) v)[o]? = some hv':=by simpa using ho
      by_cases e:off+j=o
      · subst e
        right;exact ⟨u,by simpa using hu1,hu2⟩
      left;rw [zO e] at ho';simpa using ho'
    exact (hset _ _ _ (hcr.keepO K hrw)).2
  split at h
  · rename_i k m xs k' y hseg
    split at h<;>try cases h
    rename_i hh;obtain ⟨rfl,rfl⟩:=hh;split at h<;>simp only [zA,zE,reduceCtorEq] at h;rename_i c' hrep;obtain ⟨rfl,rfl⟩:=h;have hveq:=hv.int_eq;subst hveq;have hjn:j<m:=hj (ZfD hm hc hp).2.1;refine fin c' hp rfl rfl (fun a E _ hcr=>?_) (fun g' w' vs hcr=>hcr.setArr hseg hrep hjn);obtain ⟨_,h2⟩:=hcr.atArr hseg;exact ⟨_,h2 j hjn,rfl⟩
  · rename_i m xs y hseg
    split at h<;>try cases h
    rename_i hh;subst hh;split at h<;>simp only [zA,zE,reduceCtorEq] at h;rename_i c' hrep;obtain ⟨rfl,rfl⟩:=h;have hveq:=hv.bool_eq;subst hveq;have hjn:j<m:=hj (ZfD hm hc hp).2.1;refine fin c' hp rfl rfl (fun a E _ hcr=>?_) (fun g' w' vs hcr=>hcr.setBrr hseg hrep hjn);obtain ⟨_,h2⟩:=hcr.atBrr hseg;exact ⟨_,h2 j hjn,rfl⟩
  cases h
end
def ZdO (s:S) (r:Root) (c:List L):(s.setRoot r c).sl=s.sl/\(s.setRoot r c).si.length=s.si.length:=by cases r<;>simp [S.setRoot,S.setEnt]
def Zpw (s:S) (r:Root) (c:List L) (m:List (Nat×Nat)) (b:Bool):(((s.setRoot r c).drop m).bump b).sl=s.sl/\(((s.setRoot r c).drop m).bump b).si.length=s.si.length:=by
  have:=ZdO s r c;constructor
  · unfold S.bump;split<;>simp [S.drop,this.1]
  unfold S.bump;split<;>simp [S.drop,this.2,Zsj]
def ZdB.store {P:Program} {s s':S} {o:Oper} {oc oe:List L} {mv:List Nat} {md:Nat} {ps:List Prop} (h:stOp P s oc oe mv md o=some (s',ps)) (hp:Zce ps):ZdB P o [] s s':=by
  unfold stOp at h;split at h<;>try cases h
  rename_i t x y hd ho;intro g w a hs K Q hK;have fin : ∀w' g',(Instr.storeAt t (a.eval x) (a.eval y)).run P w = .ok () w'->Mod g g' w w'->ZdK g' s' w'->ZbA (· ∈ []) s s' g g' w w'->s'.sl=s.sl->s'.si.length=s.si.length->o.wp P a w K Q:=by
    intro w' g' h1 h2 h3 h4 h5 h6;have hr:(execOp a.eval o).run P w = .ok .skip w':=by simp [execOp,ho,h1]
    unfold Oper.wp;rw [hr];exact hK g' w' undef h2 h4 (hs.next h4 (fun _ h=>by cases h) h3 h6 (dst:=o.dst) (tv:=.u) (by rw [hd];exact h5) (by rw [hd];simp))
  have rootFin : ∀(r:Root) (off:Nat) (i:TypeInfo) (tv:TV) (q:Addr),P.info? t=some i->ZjQ s oc oe mv md r off i.size tv=some (s',ps)->ev s y=some tv->a.eval x = .pointer (some q) ->
      (Zfq s r->a.eval x = .pointer (some (ad (g.rb r) off)))->o.wp P a w K Q:=by
    intro r off i tv q hi h1 hy hq hx;have hrok:Zfq s r:=by
      unfold ZjQ at h1;split at h1<;>try cases h1
      rename_i c ps' ts hc hts;split at h1<;>try cases h1
      split at h1<;>try cases h1
      split at h1<;>simp only [zA,zE,reduceCtorEq] at h1;obtain ⟨_,rfl⟩:=h1;rw [Zce.append] at hp;exact (ZfD hs.mem hc hp.1).2.1
    obtain ⟨w',g',k1,k2,k3,k4⟩:=Zps (P:=P) hs.mem hi h1 hp (ZbN hs hy);have hsl:s'.sl=s.sl/\s'.si.length=s.si.length:=by
      unfold ZjQ at h1;split at h1<;>try cases h1
      split at h1<;>try cases h1
      split at h1<;>try cases h1
      split at h1<;>simp only [zA,zE,reduceCtorEq] at h1;obtain ⟨rfl,_⟩:=h1;exact Zpw _ _ _ _ _
    refine fin w' g' ?_ k2 k3 k4 hsl.1 hsl.2;rw [hx hrok];simp [Instr.storeAt,Instr.sureAddr,k1]
  split at h
  · rename_i r off tv i hx hy hi
    obtain ⟨_,⟨q,hq⟩,_,h2⟩:=ZbN hs hx;exact rootFin r off i tv q hi h hy hq h2
  · rename_i j tv i hx hy hi
    obtain ⟨_,h2⟩:=ZbN hs hx;generalize hax:a.eval x=ax at h2;cases h2;exact rootFin (.obj j) 0 i tv _ hi h hy hax (fun _=>by rw [hax];rfl)
  · rename_i r off n j xl i hx hy hi
    split at h<;>try cases h
    rename_i h1c;obtain ⟨_,⟨q,hq⟩,_,h2⟩:=ZbN hs hx;obtain ⟨_,hyv⟩:=ZbN hs hy;have hrok:Zfq s r/\(s'.sl=s.sl/\s'.si.length=s.si.length):=by
      unfold Znt at h;split at h<;>try cases h
      rename_i c ps' hc;split at h
      · split at h<;>try cases h
        split at h<;>simp only [zA,zE,reduceCtorEq] at h;obtain ⟨rfl,rfl⟩:=h;exact ⟨(ZfD hs.mem hc hp).2.1,ZdO _ _ _⟩
      · split at h<;>try cases h
        split at h<;>simp only [zA,zE,reduceCtorEq] at h;obtain ⟨rfl,rfl⟩:=h;exact ⟨(ZfD hs.mem hc hp).2.1,ZdO _ _ _⟩
      cases h
    obtain ⟨hjn,hax⟩:=h2 hrok.1;obtain ⟨w',g',k1,k2,k3,k4⟩:=Zpt (P:=P) hs.mem hi h1c h hp hyv (fun _=>hjn);refine fin w' g' ?_ k2 k3 k4 hrok.2.1 hrok.2.2;rw [hax];simp [Instr.storeAt,Instr.sureAddr,k1]
  cases h
end Go.Dn
namespace Go.Dn
variable [Globs]
inductive CV where
  | one (x:L)
  | agg (ls:List L)
  | row (e:Bool) (sz:Nat) (xs:List (List L))
structure D where
  oc:List L:=[]
  oe:List L:=[]
  want:Bool:=true
  yes:Bool:=true
  rs:List CV:=[]
  st:List (List L):=[]
  ns:List Nat:=[]
  m:Nat:=0
  wm:Nat:=0
  mv:List Nat:=[]
  fz:List Nat:=[]
  vz:List Nat:=[]
  vm:Nat:=0
  cv:List CV:=[]
abbrev Zjg:=S->Oper->D->Option (List Nat×S×List Prop)
def Zgs (P:Program) (step:Zjg):Prop:=∀s o d X s' ps,step s o d=some (X,s',ps)->Zce ps->ZdB P o X s s'/\(∃tv,s'.sl=(s.put o.dst tv).sl)/\X.all (fun n=>!TV.mens n s.sl)=true
def grd (dsts:List (Option Nat)) (s:S) (o:Oper) (want:Bool):Option (Bool×List Prop):=
  match o.guard with
  | none=>some (true,[])
  | some (j,b)=>match dsts[j]? with
    | some (some n)=>match s.sl[n]? with
      | some (.one (.l (.bool t)))=>some (want,[t=(if want then b else !b)])
      | some (.tup [])=>some (false,[])
      | _=>none
    | _=>none
def dAt (ds:List (Nat×D)) (i:Nat):D:=
  match ds with
  | []=>{}
  | (j,d)::r=>if j=i then d else dAt r i
def ZgX (step:Zjg) (dsts:List (Option Nat)):List Oper->Nat->S->List (Nat×D)->Option (S×List Prop)
  | [],_,s,_=>some (s,[])
  | o::rest,i,s,ds=>match grd dsts s o (dAt ds i).want with
    | some (true,qs)=>match step s o (dAt ds i) with
      | some (_,s',ps)=>match ZgX step dsts rest (i+1) s' ds with
        | some (s'',rs)=>some (s'',qs++ps++rs)
        | none=>none
      | none=>none
    | some (false,qs)=>match ZgX step dsts rest (i+1) (s.put o.dst (.tup [])) ds with
      | some (s'',rs)=>some (s'',qs++rs)
      | none=>none
    | none=>none
section
variable {P:Program} {g:G} {s:S} {w:World}
def Zhr {ops:Array Oper} {o:Oper} {a:Act} {want b:Bool} {qs:List Prop} (hs:Sat g s w a.tmps) (h:grd (ops.toList.map (·.dst)) s o want=some (b,qs)) (hq:Zce qs) :
    Region.wanted o (yielded ops a.tmps)=b:=by
  unfold grd at h;unfold Region.wanted;split at h
  · rename_i hg
    simp only [zA,zE] at h;obtain ⟨rfl,rfl⟩:=h;simp [hg]
  rename_i j b' hg;split at h<;>try cases h
  rename_i n hn;have h1:(ops[j]?).bind (·.dst)=some n:=by
    simp only [yR,Array.getElem?_toList,zI] at hn;obtain ⟨o',h2,h3⟩:=hn;rw [h2];exact h3
  have hlt : ∀{tv},s.sl[n]? = some tv->n<a.tmps.size:=by
    intro tv ht;rw [hs.len];rcases zX n s.sl.length with h' | h'
    · exact h'
    rw [zM h'] at ht;cases ht
  split at h<;>simp only [zA,zE,reduceCtorEq] at h<;>obtain ⟨rfl,rfl⟩:=h
  rotate_left
  · rename_i ht
    obtain ⟨vs,h2,h3⟩:=hs.slot n _ ht;have hlt:=hlt ht;rw [ZfK] at h3;have h4:a.tmps[n]? = some (.tuple vs):=by
      simp [Array.getD,hlt] at h2;simp [hlt,h2]
    have e:(yielded ops a.tmps j==some b')=false:=by simp [yielded,h1,h4]
    have:(match o.guard with | none=>true | some (j,want)=>yielded ops a.tmps j==some want)=false:=by rw [hg];exact e
    exact this
  rename_i t ht;simp only [Zce] at hq;have h2:=(hs.slot n _ ht).2.bool_eq;have hlt:=hlt ht;have h3:a.tmps[n]? = some (.bool t):=by
    simp [Array.getD,hlt] at h2;simp [hlt,h2]
  have e:(yielded ops a.tmps j==some b')=want:=by
    simp only [yielded,h1,Option.bind_some,h3];rw [hq];cases want<;>cases b'<;>rfl
  have:(match o.guard with | none=>true | some (j,want)=>yielded ops a.tmps j==some want)=want:=by rw [hg];exact e
  exact this
def Sat.skip {a:Act} (hs:Sat g s w a.tmps) (dst:Option Nat):Sat g (s.put dst (.tup [])) w (a.put dst undef).tmps:=by
  refine hs.next (X:=fun _=>False) (g':=g) (w':=w) (dst:=dst) (tv:=.tup []) ?_ (fun _ h=>h.elim) ?_ ?_ rfl (fun _=>⟨#[],rfl,rfl⟩)
  · exact .refl (by cases dst<;>rfl) (by cases dst<;>rfl)
  · have e1:(s.put dst (.tup [])).si=s.si:=by cases dst<;>rfl
    have e3:(s.put dst (.tup [])).st=s.st:=by cases dst<;>rfl
    exact ⟨by rw [e3];exact hs.mem.stl,fun i c h=>hs.mem.obj i c (by rwa [e3] at h),hs.mem.objB,fun n ent h=>by
      have:=hs.mem.site n ent (by rwa [e1] at h);cases ent<;>exact this,hs.mem.own,hs.mem.z,hs.mem.gl⟩
  cases dst<;>rfl
def ZiG {step:Zjg} (hok:Zgs P step) {ops:Array Oper} {Q:Exit->Act->World->Prop} : ∀{l:List Oper} {i:Nat} {g:G} {s s':S} {w:World} {a:Act} {ds:List (Nat×D)} {ps:List Prop},
    ZgX step (ops.toList.map (·.dst)) l i s ds=some (s',ps)->Zce ps->Sat g s w a.tmps ->
    (∀g' w' a',Mod g g' w w'->Sat g' s' w' a'.tmps->a'.defers=a.defers->Q .normal a' w')->wpList P ops Q l a w
  | [],i,g,s,s',w,a,ds,ps,h,hp,hs,hQ=>by
    simp only [ZgX,zA,zE] at h;obtain ⟨rfl,rfl⟩:=h;exact hQ g w a (.refl _ _) hs rfl
  | o::rest,i,g,s,s',w,a,ds,ps,h,hp,hs,hQ=>by
    unfold ZgX at h;unfold wpList;split at h<;>try cases h
    · rename_i qs hg
      split at h<;>try cases h
      rename_i X s1 ps1 h1;split at h<;>simp only [zA,zE,reduceCtorEq] at h;rename_i s2 rs h2;obtain ⟨rfl,rfl⟩:=h;rw [Zce.append,Zce.append] at hp;rw [aD (Zhr hs hg hp.1.1)];left;refine (hok _ _ _ _ _ _ h1 hp.1.2).1 g w a hs _ _ fun g' w' v hm _ hs'=>?_;exact ZiG hok h2 hp.2 hs' fun g'' w'' a'' hm' hs'' hd=>hQ g'' w'' a'' (hm.trans hm') hs'' (hd.trans (by cases o.dst<;>rfl))
    rename_i qs hg;split at h<;>simp only [zA,zE,reduceCtorEq] at h;rename_i s2 rs h2;obtain ⟨rfl,rfl⟩:=h;rw [Zce.append] at hp;rw [aE (by rw [Zhr hs hg hp.1];decide)];exact ZiG hok h2 hp.2 (hs.skip o.dst) fun g'' w'' a'' hm' hs'' hd=>hQ g'' w'' a'' hm' hs'' (hd.trans (by cases o.dst<;>rfl))
end
inductive K where
  | c (x:Code)
  | b (id:Nat)
  | h (J:Act->World->Prop)
def exK (P:Program) (R:Exit->Act->World->Prop):List K->Exit->Act->World->Prop
  | [],e,a,w=>R e a w
  | .c x::ks,.normal,a,w=>x.wp P (exK P R ks) a w
  | .c _::ks,e,a,w=>exK P R ks e a w
  | .b id::ks,.exit id',a,w=>if id'=id then exK P R ks .normal a w else exK P R ks (.exit id') a w
  | .b _::ks,e,a,w=>exK P R ks e a w
  | .h J::_,.normal,a,w=>J a w
  | .h _::ks,e,a,w=>exK P R ks e a w
section
variable {P:Program} {R:Exit->Act->World->Prop} {a:Act} {w:World}
def ZoP {x y:Code} {ks:List K} (h:exK P R (.c x :: .c y::ks) .normal a w):exK P R (.c (.seq x y)::ks) .normal a w:=by
  unfold exK at h |-;refine wp_seq (wp_mono h fun e a w he=>?_);cases e<;>(unfold exK at he;exact he)
def Zql {id:Nat} {x:Code} {ks:List K} (h:exK P R (.c x :: .b id::ks) .normal a w):exK P R (.c (.block id x)::ks) .normal a w:=by
  unfold exK at h |-;refine wp_block (wp_mono h fun e a w he=>?_);cases e<;>(unfold exK at he;exact he)
def Zsi {x:Code} {ks:List K} (n:Nat) (h:Code.rounds P x (exK P R ks) n a w):exK P R (.c (.loop x)::ks) .normal a w:=by
  unfold exK;exact wp_loop_rounds n h
def Zmg {x:Code} {ks:List K} {n:Nat} (h:exK P R (.c x :: .h (Code.rounds P x (exK P R ks) n)::ks) .normal a w):Code.rounds P x (exK P R ks) (n+1) a w:=by
  rw [rounds_succ];unfold exK at h;refine wp_mono h fun e a w he=>?_;cases e<;>(unfold exK at he;exact he)
end
inductive E where
  | n
  | x (id:Nat)
  | ret
def E.exit:E->Exit
  | .n=>.normal
  | .x id=>.exit id
  | .ret=>.ret
inductive PD where
  | r (ds:List (Nat×D))
  | c (b:Bool)
def go (step:Zjg):Nat->List K->E->S->List PD->Option (List K×E×S×List Prop)
  | 0,_,_,_,_=>none
  | n+1,ks,e,s,ds=>match ks with
    | []=>match ds with
      | []=>some ([],e,s,[])
      | _::_=>none
    | .h J::ks=>match e with
      | .n=>match ds with
        | []=>some (.h J::ks,.n,s,[])
        | _::_=>none
      | .x id=>go step n ks (.x id) s ds
      | .ret=>go step n ks .ret s ds
    | .b id::ks=>match e with
      | .n=>go step n ks .n s ds
      | .x id'=>if id'=id then go step n ks .n s ds else go step n ks (.x id') s ds
      | .ret=>go step n ks .ret s ds
    | .c x::ks=>match e with
      | .x id=>go step n ks (.x id) s ds
      | .ret=>go step n ks .ret s ds
      | .n=>match x with
        | .skip=>go step n ks .n s ds
        | .seq x y=>go step n (.c x :: .c y::ks) .n s ds
        | .block id x=>go step n (.c x :: .b id::ks) .n s ds
        | .exit id=>go step n ks (.x id) s ds
        | .ret=>go step n ks .ret s ds
        | .cond t x y=>match ds with
          | []=>none
          | .r _::_=>none
          | .c b::ds=>match ev s t with
            | some (.one (.l (.bool v)))=>match go step n (.c (if b then x else y)::ks) .n s ds with
              | some (ks',e',s',ps)=>some (ks',e',s',(v=b)::ps)
              | none=>none
            | _=>none
        | .region _ ops dr=>match ds with
          | []=>none
          | .c _::_=>none
          | .r d::ds=>if dr then none else match ZgX step (ops.toList.map (·.dst)) ops.toList 0 s d with
            | some (s',ps)=>match go step n ks .n s' ds with
              | some (ks',e',s'',qs)=>some (ks',e',s'',ps++qs)
              | none=>none
            | none=>none
        | .loop x=>match ds with
          | []=>some (.c (.loop x)::ks,.n,s,[])
          | _::_=>none
        | _=>none
end Go.Dn
namespace Go.Dn
variable [Globs]
def ZjG {α:Type} (d:α):List Nat->Nat->List α->List α
  | _,_,[]=>[]
  | [],i,_::xs=>d::ZjG d [] (i+1) xs
  | k::ks,i,x::xs=>if k=i then x::ZjG d ks (i+1) xs else d::ZjG d (k::ks) (i+1) xs
def ZiW {α:Type} (d:α) : ∀(ks:List Nat) (i:Nat) (xs:List α) (n:Nat) (y:α),(ZjG d ks i xs)[n]? = some y->y=d\/xs[n]? = some y
  | _,_,[],n,y,h=>by simp [ZjG] at h
  | [],i,x::xs,0,y,h=>by simp [ZjG] at h;exact .inl h.symm
  | [],i,x::xs,n+1,y,h=>by
    simp only [ZjG,wV] at h;simpa using ZiW d [] (i+1) xs n y h
  | k::ks,i,x::xs,0,y,h=>by
    simp only [ZjG] at h;split at h<;>simp at h
    · exact .inr (aR h)
    exact .inl h.symm
  | k::ks,i,x::xs,n+1,y,h=>by
    simp only [ZjG] at h;split at h<;>simp only [wV] at h
    · simpa using ZiW d ks (i+1) xs n y h
    simpa using ZiW d (k::ks) (i+1) xs n y h
def ZiV {α:Type} (d:α) : ∀(ks:List Nat) (i:Nat) (xs:List α),(ZjG d ks i xs).length=xs.length
  | _,_,[]=>by simp [ZjG]
  | [],i,x::xs=>by simp [ZjG,ZiV d [] (i+1) xs]
  | k::ks,i,x::xs=>by
    simp only [ZjG];split<;>simp [ZiV d ks (i+1) xs,ZiV d (k::ks) (i+1) xs]
def ZkQ (s:S):Src->Option Src
  | .row n ver=>match s.si[n]? with
    | some (some (.row v _ _ _))=>if ver=v then some (.row n 0) else none
    | _=>none
  | .mem r off ep=>if ep=s.ep then some (.mem r off 0) else none
def ZjD (s:S):T->Option T
  | .h src sz lo len=>(ZkQ s src).map fun x=>.h x sz lo len
  | .eadr src sz i off=>(ZkQ s src).map fun x=>.eadr x sz i off
  | .mm src=>(ZkQ s src).map fun x=>.mm x
  | t=>some t
def ZpR (s:S):List T->Option (List T)
  | []=>some []
  | t::ts=>match ZjD s t,ZpR s ts with
    | some t,some ts=>some (t::ts)
    | _,_=>none
def ZtT (s:S):TV->TV
  | .one t=>match ZjD s t with
    | some t=>.one t
    | none=>.u
  | .agg ts=>match ZpR s ts with
    | some ts=>.agg ts
    | none=>.u
  | _=>.u
def Zmr:Option Ent->Option Ent
  | some (.row _ e sz xs)=>some (.row 0 e sz xs)
  | x=>x
def S.norm (s:S) (ks ns:List Nat):S:=
  { sl:=(ZjG .u ks 0 s.sl).map (ZtT s),si:=(ZjG none ns 0 s.si).map Zmr,st:=s.st,ep:=0}
section
variable {g:G} {s:S} {w:World} {ks ns:List Nat}
def Zrc {n:Nat} {ent:Ent} (h:(s.norm ks ns).si[n]? = some (some ent)) : ∃ent0,s.si[n]? = some (some ent0)/\Zmr (some ent0)=some ent:=by
  simp only [S.norm,yR,zI] at h;obtain ⟨e0,h1,h2⟩:=h;rcases ZiW none ns 0 s.si n e0 h1 with rfl | h3
  · cases h2
  cases e0 with
  | none=>cases h2
  | some e0=>exact ⟨e0,h3,h2⟩
def ZnM {n:Nat} {c:List L} (h:(s.norm ks ns).si[n]? = some (some (.cells c))):s.si[n]? = some (some (.cells c)):=by
  obtain ⟨e0,h1,h2⟩:=Zrc h;cases e0<;>simp [Zmr] at h2;subst h2;exact h1
def Zil {r:Root} (h:Zfq (s.norm ks ns) r):Zfq s r:=by
  cases r with
  | site n=>obtain ⟨c,h⟩:=h;exact ⟨c,ZnM h⟩
  | _=>trivial
def ZkP {src src':Src} (h:ZkQ s src=some src') (hi:Znn g s src):Znn g (s.norm ks ns) src'/\∀hv,Hd g (s.norm ks ns) w src' hv->Hd g s w src hv:=by
  cases src with
  | row n ver=>
    simp only [ZkQ] at h;split at h<;>try cases h
    rename_i v e sz xs h1;split at h<;>simp only [zA,reduceCtorEq] at h;rename_i hv;subst hv;subst h;refine ⟨fun _ _ _ _ _=>xD _,fun hv h2=>?_⟩;exact ⟨⟨_,_,_,h1⟩,h2.2⟩
  | mem r off ep=>
    simp only [ZkQ] at h;split at h<;>simp only [zA,reduceCtorEq] at h;rename_i hep;subst h;refine ⟨⟨hi.1,xD _,hi.2.2⟩,fun hv h2=>?_⟩;exact ⟨hep,Zil h2.2.1,h2.2.2⟩
def ZrR {t t':T} {v:Value} (h:ZjD s t=some t') (ht:TR g s w v t):TR g (s.norm ks ns) w v t':=by
  cases t with
  | l x=>simp only [ZjD,zA] at h;subst h;exact ht
  | adr r off=>simp only [ZjD,zA] at h;subst h;exact ⟨ht.1,ht.2.1,fun h=>ht.2.2 (Zil h)⟩
  | aadr r off n i=>simp only [ZjD,zA] at h;subst h;exact ⟨ht.1,ht.2.1,fun h=>ht.2.2 (Zil h)⟩
  | asl r off n lo len=>simp only [ZjD,zA] at h;subst h;exact ⟨ht.1,ht.2.1,fun h=>ht.2.2 (Zil h)⟩
  | h src sz lo len=>
    simp only [ZjD,zI] at h;obtain ⟨src',h1,rfl⟩:=h;obtain ⟨h2,h3⟩:=ZkP (ks:=ks) (ns:=ns) (w:=w) h1 ht.2.1;exact ⟨ht.1,h2,fun hv hh=>ht.2.2 hv (h3 hv hh)⟩
  | eadr src sz i off=>
    simp only [ZjD,zI] at h;obtain ⟨src',h1,rfl⟩:=h;obtain ⟨h2,h3⟩:=ZkP (ks:=ks) (ns:=ns) (w:=w) h1 ht.2.1;exact ⟨ht.1,h2,fun hv hh=>ht.2.2 hv (h3 hv hh)⟩
  | fadr sz xs i off=>simp only [ZjD,zA] at h;subst h;exact ht
  | ms n=>
    simp only [ZjD,zA] at h;subst h;refine ⟨ht.1,fun es he=>?_⟩;obtain ⟨e0,h1,h2⟩:=Zrc he;cases e0<;>simp [Zmr] at h2;exact ht.2 _ h1
  | mm src=>
    simp only [ZjD,zI] at h;obtain ⟨src',h1,rfl⟩:=h;obtain ⟨h2,h3⟩:=ZkP (ks:=ks) (ns:=ns) (w:=w) h1 ht.2.1;exact ⟨ht.1,h2,fun hv hh=>ht.2.2 hv (h3 hv hh)⟩
def Zpc {t:T} {vs:List Value} (ht : ∀l,t = .l l->l.single=true):TsR g s w vs [t]↔∃v,vs = [v]/\v.oneCell'=true/\TR g s w v t:=by
  rw [TsR]
  · constructor
    · rintro ⟨v,r,rfl,h1,h2,h3⟩
      rw [TsR] at h3;subst h3;exact ⟨v,rfl,h1,h2⟩
    rintro ⟨v,rfl,h1,h2⟩;exact ⟨v,[],rfl,h1,h2,by rw [TsR]⟩
  · rintro k n xs rfl;have:=ht _ rfl;simp [L.single] at this
  rintro n xs rfl;have:=ht _ rfl;simp [L.single] at this
def ZpQ : ∀{ts ts':List T} {vs:List Value},ZpR s ts=some ts'->TsR g s w vs ts->TsR g (s.norm ks ns) w vs ts'
  | [],ts',vs,h,ht=>by simp only [ZpR,zA] at h;subst h;rw [TsR] at ht |-;exact ht
  | t::ts,ts',vs,h,ht=>by
    simp only [ZpR] at h;split at h<;>simp only [zA,reduceCtorEq] at h;rename_i t1 ts1 h1 h2;subst h;obtain ⟨us,rest,rfl,hu,h3,h4⟩:=ht.inv;refine TsR.join ?_ (ZpQ h2 h4);cases hx:t.single with
    | true=>
      rw [Zpc (T.single_not hx)] at h3;obtain ⟨v,rfl,h5,h6⟩:=h3;have hx' : ∀l,t1 = .l l->l.single=true:=by
        rintro l rfl;cases t with
        | l x=>simp only [ZjD,zA,T.l.injEq] at h1;subst h1;exact hx
        | _=>simp [ZjD] at h1
      rw [Zpc hx'];exact ⟨v,rfl,h5,ZrR h1 h6⟩
    | false=>
      cases t with
      | l x=>
        simp only [ZjD,zA] at h1;subst h1;cases x with
        | arr k n xs=>
          rw [TsR] at h3 |-;obtain ⟨hn,r,rfl,hr⟩:=h3;rw [TsR] at hr;subst hr;exact ⟨hn,[],rfl,by rw [TsR]⟩
        | brr n xs=>
          rw [TsR] at h3 |-;obtain ⟨hn,r,rfl,hr⟩:=h3;rw [TsR] at hr;subst hr;exact ⟨hn,[],rfl,by rw [TsR]⟩
        | _=>simp [T.single,L.single] at hx
      | _=>simp [T.single] at hx
def Sat.norm {t:Array Value} (hs:Sat g s w t) (ks ns:List Nat):Sat g (s.norm ks ns) w t:=by
  refine ⟨by simp [S.norm,ZiV,hs.len],by simp [S.norm,ZiV,hs.lensi],fun n tv h=>?_,⟨hs.mem.stl,hs.mem.obj,hs.mem.objB,fun n ent h=>?_,hs.mem.own,hs.mem.z,hs.mem.gl⟩⟩
  · simp only [S.norm,yR,zI] at h
    obtain ⟨tv0,h1,rfl⟩:=h;rcases ZiW .u ks 0 s.sl n tv0 h1 with rfl | h3
    · exact trivial
    have h4:=hs.slot n tv0 h3;cases tv0 with
    | u=>exact trivial
    | tup _=>exact trivial
    | one t0=>
      simp only [ZtT];split
      · rename_i t1 ht1
        exact ⟨h4.1,ZrR ht1 h4.2⟩
      exact trivial
    | agg ts=>
      simp only [ZtT];split
      · rename_i ts1 ht1
        obtain ⟨vs,h5,h6⟩:=h4;exact ⟨vs,h5,ZpQ ht1 h6⟩
      exact trivial
  obtain ⟨e0,h1,h2⟩:=Zrc h;have h3:=hs.mem.site n e0 h1;cases e0<;>simp [Zmr] at h2<;>subst h2<;>exact h3
end
end Go.Dn
namespace Go.Dn
variable [Globs]
section
variable (g:G) (w:World)
def CVR (i:Nat) (v:Value):CV->Prop
  | .one x=>v.oneCell'=true/\LR g w none v x
  | .agg ls=>∃vs:Array Value,v = .agg vs/\CR g w none vs.toList ls
  | .row e sz xs=>ZgO g w (.rowS i) v e sz xs
def Zgg:Nat->List Value->List CV->Prop
  | _,vs,[]=>vs = []
  | i,vs,c::cs=>∃v rest,vs=v::rest/\CVR g w i v c/\Zgg (i+1) rest cs
end
def ZqC:List Value->Value
  | [v]=>v
  | vs=>.tuple vs.toArray
def S.ofSt (st:List (List L)):S:=⟨[],[],st,0⟩
def ZqA (P : Program) (f : FuncId) : Prop := ∃ fn, P.funcs[f]? = some fn /\ (fn.name == "runtime.NumGoroutine") = false /\ fn.body.isNone = false
def Snd (P:Program) (f:FuncId) (args:List CV) (st:List (List L)) (rs:List CV) (st':List (List L)):Prop:=
  ZqA P f/\∀(g:G) (w:World) (vs:List Value),Zgg g w 0 vs args->ZdK g (.ofSt st) w ->
    Calls P f vs.toArray w fun e w'=>∃g' us,e = .returned (ZqC us)/\Mod g g' w w'/\ZdK g' (.ofSt st') w'/\Zgg g' w' 0 us rs
def G.out (g:G) (pu:Bool):G:=
  { g with ow:=fun b=>match g.ow b with
    | some (.obj i)=>if pu then some .foreign else some (.obj i)
    | some (.rowM b' o)=>match g.ow b' with
      | some (.obj _)=>if pu then some .foreign else some (.rowM b' o)
      | _=>some .foreign
    | some _=>some .foreign
    | none=>none}
def out_obj {g:G} {b i:Nat} (h:g.ow b=some (.obj i)):(g.out false).ow b=some (.obj i):=by simp [G.out,h]
def Zjn {g:G} {pu:Bool} {b:Nat}:(g.out pu).ow b=none↔g.ow b=none:=by
  simp only [G.out];split<;>(try split)<;>(try split)<;>simp_all
def out_eq {g:G} {pu:Bool} {b:Nat} (h:(g.out pu).ow b≠some .foreign):(g.out pu).ow b=g.ow b:=by
  revert h;simp only [G.out];split<;>(try split)<;>(try split)<;>simp_all
def Zmn {g:G} {pu:Bool} {b:Nat} (h:g.ow b=some .foreign):(g.out pu).ow b=some .foreign:=by simp [G.out,h]
def Zgt (p n:Nat):Option Ow->Option Ow
  | some (.rowS q)=>if q=p then some (.rowS n) else some .foreign
  | x=>x
def G.back (g:G) (pu:Bool) (g':G) (p n:Nat) (hv:Value):G:=
  { g' with ow:=fun b=>if (g.out pu).ow b=some .foreign then g.ow b else Zgt p n (g'.ow b),sb:=g.sb,hd:=ZgJ g.hd n hv}
def toCV (s:S) (oc:List L) (md:Nat):TV->Option (CV×List Prop)
  | .one (.adr (.obj i) 0)=>some (.one (.ptr (some i)),[])
  | .one (.l (.own _ sz []))=>some (.one (.sl sz []),[])
  | .one (.l x)=>if x.single then some (.one x,[]) else none
  | .one (.h src sz lo len)=>match Ziw s oc src with
    | some (false,sz',xs,ps)=>if sz=sz' then some (.one (.sl sz (win md xs lo len).1),(win md xs lo len).2++ps) else none
    | _=>none
  | .agg ts=>(tLs ts).map fun ls=>(.agg ls,[])
  | _=>none
def Zne (s:S) (oc:List L) (md:Nat):List Operand->Option (List CV×List Prop)
  | []=>some ([],[])
  | x::xs=>match ev s x with
    | some tv=>match toCV s oc md tv,Zne s oc md xs with
      | some (c,ps),some (cs,qs)=>some (c::cs,ps++qs)
      | _,_=>none
    | none=>none
def ZhG (n:Nat):Nat->List CV->Option (List TV×Option (Nat×Ent))
  | _,[]=>some ([],none)
  | i,c::cs=>match ZhG n (i+1) cs with
    | some (tvs,r)=>match c with
      | .one x=>some (.one (.l x)::tvs,r)
      | .agg ls=>some (.agg (ls.map .l)::tvs,r)
      | .row e sz xs=>match r with
        | none=>some (.one (.h (.row n 0) sz 0 xs.length)::tvs,some (i,.row 0 e sz xs))
        | some _=>none
    | none=>none
def ZgR:List TV->TV
  | [t]=>t
  | ts=>.tup ts
def S.setEnt? (s:S) (n:Nat) (r:Option (Nat×Ent)):S:=
  match r with
  | some (_,e)=>s.setEnt n e
  | none=>s
def Ziu (n:Nat) (r:Option (Nat×Ent)):List Nat:=if r.isSome then [n] else []
def ZdW (P:Program) (f:FuncId) (args rs:List CV):Prop:=∀st,Snd P f args st rs st
def Zqt (P:Program) (s:S) (o:Oper) (d:D):Option (List Nat×S×List Prop):=
  match o.op with
  | .call { callee:=.value (.func f),args:=⟨xs⟩,.. }=>match Zne s d.oc d.wm xs,ZhG (d.ns.headD 0) 0 d.rs with
    | some (cs,ps),some (tvs,r)=>
      if (Ziu (d.ns.headD 0) r).all (fun n=>!TV.mens n s.sl) then
        (if d.m=1 then some (Ziu (d.ns.headD 0) r,(s.setEnt? (d.ns.headD 0) r).put o.dst (ZgR tvs),ps ++ [ZdW P f cs d.rs])
        else some (Ziu (d.ns.headD 0) r,{ (s.setEnt? (d.ns.headD 0) r).put o.dst (ZgR tvs) with st:=d.st,ep:=s.ep+1},ps ++ [Snd P f cs s.st d.rs d.st]))
      else none
    | _,_=>none
  | _=>none
section
variable {P:Program} {g g':G} {s:S} {w w':World}
def CR.toTs : ∀{vs:List Value} {ls:List L},CR g w none vs ls->TsR g s w vs (ls.map .l)
  | _,_,.nil _=>by rw [uR,TsR]
  | _,_,.one _ v vs l ls hv h1 hr=>by
    have h2:TsR g s w [v] [.l l]:=by
      rw [Zpc (fun l' e=>by cases e;cases l<;>first | rfl | exact hv.noArr.elim | exact hv.noBrr.elim)];exact ⟨v,rfl,h1,hv⟩
    exact h2.join (CR.toTs hr)
  | _,_,.arr _ k n xs vs ls hn hr=>by
    rw [xF,TsR];exact ⟨hn,vs,rfl,CR.toTs hr⟩
  | _,_,.brr _ n xs vs ls hn hr=>by
    rw [xF,TsR];exact ⟨hn,vs,rfl,CR.toTs hr⟩
def ZfG (g:G) (pu:Bool) (w:World):ZcK g (g.out pu) w w:=⟨fun _ _=>rfl,zH _,fun _=>zH _,fun _ _ _=>rfl,fun _ _=>rfl⟩
def S.seen (s:S) (pu:Bool):List (List L):=if pu then zB s.st.length [] else s.st
def Zou (hm:ZdK g s w) (pu:Bool):ZdK (g.out pu) (.ofSt (s.seen pu)) w:=by
  refine ⟨?_,fun i c h hne=>?_,fun i hi=>?_,fun n ent h=>by simp [S.ofSt] at h,fun b t h=>?_,hm.z,hm.gl.keep (ZfG g pu w)⟩
  · cases pu
    · exact hm.stl
    simp only [S.ofSt,S.seen,if_true,uA];exact hm.stl
  · cases pu with
    | true=>
      simp only [S.ofSt,S.seen,if_true,wA] at h;split at h<;>simp at h;exact absurd h.symm (fun e=>hne (e ▸ rfl))
    | false=>
      have h1:=hm.obj i c h hne;obtain ⟨h2,h3,aa,E,h4,h5⟩:=h1;refine ⟨out_obj h2,h3,aa,E,h4,h5.keepO (ZfG g false w) fun b' o hb=>⟨rfl,?_,rfl⟩⟩;have h2':g.ow (g.ob i)=some (.obj i):=h2;show (g.out false).ow b'=g.ow b';simp [G.out,hb,h2']
  · show (g.out pu).ow (g.ob i)=_\/(g.out pu).ow (g.ob i)=_
    rcases hm.objB i hi with h | h
    · cases pu<;>simp [G.out,h]
    exact .inr (Zmn h)
  by_cases e:g.ow b=none
  · rw [Zjn.2 e] at h;cases h
  cases hb:g.ow b with
  | none=>exact absurd hb e
  | some t'=>exact hm.own b t' hb
def ZkD (hm:ZdK g s w) {pu:Bool} {oc:List L} {md:Nat} {tv:TV} {c:CV} {ps:List Prop} {v:Value} {i:Nat} (h:toCV s oc md tv=some (c,ps)) (hp:Zce ps) (hv:ZdM g s w v tv):CVR (g.out pu) w i v c:=by
  unfold toCV at h;split at h
  · simp only [zA,zE] at h;obtain ⟨rfl,rfl⟩:=h
    obtain ⟨h1,_,h2,h3⟩:=hv;have:=h3 trivial;subst this;exact ⟨h1,.ref _ _ h2⟩
  · simp only [zA,zE] at h;obtain ⟨rfl,rfl⟩:=h
    refine ⟨hv.1,?_⟩;have hl:=hv.2;simp only [TR] at hl;cases hl with
    | ownnil=>exact .slnil _ _
    | ownz=>exact .slz _ _ _
  · split at h<;>simp only [zA,zE,reduceCtorEq] at h
    obtain ⟨rfl,rfl⟩:=h;exact ⟨hv.1,LR.keep (ZfG g pu w) hv.2⟩
  · rename_i src sz lo len
    split at h<;>try cases h
    rename_i sz' xs ps' hr;split at h<;>simp only [zA,zE,reduceCtorEq] at h;rename_i hz;subst hz;obtain ⟨rfl,rfl⟩:=h;rw [Zce.append] at hp;obtain ⟨hv0,t0,k1,k2,_⟩:=Zfs hm hr hp.2;obtain ⟨w1,w2,_⟩:=ZhJ hp.1;have hsl:=k2.sl (hv.2.2.2 _ k1) w2;rw [w1];exact ⟨hv.1,LR.keep (ZfG g pu w) hsl⟩
  · obtain ⟨ls,h1,h2⟩:=zI.1 h;simp only [zE] at h2;obtain ⟨rfl,rfl⟩:=h2
    obtain ⟨vs,rfl,h3⟩:=hv;exact ⟨vs,rfl,CR.keep (ZfG g pu w) (Zhp h1 h3)⟩
  cases h
def Zic {pu:Bool} {oc:List L} {md:Nat} {a:Act} (hs:Sat g s w a.tmps) : ∀{xs:List Operand} {cs:List CV} {ps:List Prop} {i:Nat},Zne s oc md xs=some (cs,ps)->Zce ps->Zgg (g.out pu) w i (xs.map a.eval) cs
  | [],cs,ps,i,h,hp=>by simp only [Zne,zA,zE] at h;obtain ⟨rfl,rfl⟩:=h;rfl
  | x::xs,cs,ps,i,h,hp=>by
    simp only [Zne] at h;split at h<;>try cases h
    rename_i tv hx;split at h<;>simp only [zA,zE,reduceCtorEq] at h;rename_i c ps1 cs1 qs1 h1 h2;obtain ⟨rfl,rfl⟩:=h;rw [Zce.append] at hp;exact ⟨_,_,rfl,ZkD hs.mem h1 hp.1 (ZbN hs hx),Zic hs h2 hp.2⟩
def ZfJ {pu:Bool} (hm:ZdK g s w) (hM:Mod (g.out pu) g' w w') {p n:Nat} {hv:Value} {b:Nat} (h:(g.out pu).ow b=some .foreign):Zhw g (g.back pu g' p n hv) w w' b:=by
  have hb:b<w.heap.size:=by
    cases hb:g.ow b with
    | none=>rw [Zjn.2 hb] at h;cases h
    | some t=>exact hm.own b t hb
  have h1:Zhw (g.out pu) g' w w' b:=by
    rcases hM.same b hb with h1 | h1
    · exact h1
    exact absurd h h1.2
  refine ⟨h1.1,?_,h1.2.2⟩;show (if (g.out pu).ow b=some .foreign then g.ow b else _)=_;rw [aD h]
def Zrq {pu:Bool} (hm:ZdK g s w) (hM:Mod (g.out pu) g' w w') {p n:Nat} {hv:Value} {b:Nat} {t:Ow} (h:g'.ow b=some t) (ht:t ≠ .foreign):(g.back pu g' p n hv).ow b=Zgt p n (some t):=by
  show (if (g.out pu).ow b=some .foreign then g.ow b else _)=_;rw [aE,h];intro h1;have hb:b<w.heap.size:=by
    cases hb:g.ow b with
    | none=>rw [Zjn.2 hb] at h1;cases h1
    | some t=>exact hm.own b t hb
  rcases hM.same b hb with h2 | h2
  · rw [h2.2.1,h1] at h;cases h;exact ht rfl
  exact h2.2 h1
def ZkZ {pu:Bool} (hM:Mod (g.out pu) g' w w') {p n:Nat} {hv:Value}:ZcK g (g.back pu g' p n hv) w w':=⟨hM.keep.ob,hM.keep.nob,hM.keep.Z,hM.keep.cell,hM.keep.mp⟩
def back_mod {pu:Bool} (hm:ZdK g s w) (hM:Mod (g.out pu) g' w w') {p n:Nat} {hv:Value}:Mod g (g.back pu g' p n hv) w w':=by
  refine ⟨ZkZ hM,hM.os,hM.tape,hM.output,hM.size,fun b hb=>?_,fun b hb h1 h2=>?_,hM.newob⟩
  · by_cases h:g.ow b=none\/g.ow b=some .foreign
    · left
      rcases h with h | h
      · have h0:=(Zjn (pu:=pu)).2 h
        rcases hM.same b hb with h1 | h1
        · refine ⟨h1.1,?_,h1.2.2⟩
          show (if (g.out pu).ow b=some .foreign then g.ow b else _)=_;rw [aE (by rw [h0];simp),h1.2.1,h0,h];rfl
        exact absurd h0 h1.1
      exact ZfJ hm hM (Zmn h)
    exact .inr ⟨fun e=>h (.inl e),fun e=>h (.inr e)⟩
  by_cases h:(g.out pu).ow b=some .foreign
  · have:(g.back pu g' p n hv).ow b=g.ow b:=(ZfJ hm hM h).2.1
    rw [this] at h1 h2;exact ⟨h1,h2⟩
  have e:(g.back pu g' p n hv).ow b=Zgt p n (g'.ow b):=by
    show (if (g.out pu).ow b=some .foreign then g.ow b else _)=_;rw [aE h]
  rw [e] at h1 h2;have h3:g'.ow b≠none:=fun e=>h1 (by rw [e];rfl);have h4:g'.ow b≠some .foreign:=fun e=>h2 (by rw [e];rfl);obtain ⟨h5,h6⟩:=hM.own b hb h3 h4;have:=out_eq h6;rw [this] at h5 h6;exact ⟨h5,h6⟩
def renOw_id {p n:Nat} {t:Ow} (h : ∀q,t ≠ .rowS q):Zgt p n (some t)=some t:=by
  cases t<;>first | rfl | exact absurd rfl (h _)
def Zve {pu:Bool} {s s':S} (hm:ZdK g s w) (hM:Mod (g.out pu) g' w w') {st':List (List L)} (hm':ZdK g' (.ofSt st') w') (hpu:pu=true->st'=s.seen true) {p n:Nat} {hv:Value} (hst:s'.st=if pu then s.st else st')
    (hsi : ∀m ent,s'.si[m]? = some (some ent)->(m≠n/\s.si[m]? = some (some ent))\/(m=n/\(∃c,ent = .cells c)=False/\Zgf (g.back pu g' p n hv) w' n ent)\/(s.si[m]? = some (some ent)/\hv=g.hd n)) :
    ZdK (g.back pu g' p n hv) s' w':=by
  have K:=ZkZ (p:=p) (n:=n) (hv:=hv) hM;have K':ZcK g' (g.back pu g' p n hv) w' w':=⟨fun _ _=>rfl,zH _,fun _=>zH _,fun _ _ _=>rfl,fun _ _=>rfl⟩
  have oldE : ∀m ent,s.si[m]? = some (some ent)->(g.back pu g' p n hv).hd m=g.hd m->Zgf (g.back pu g' p n hv) w' m ent:=by
    intro m ent h hhd;have h1:=hm.site m ent h;cases ent with
    | cells c=>
      simp only [Zgf] at h1 |-;have hl:(g.out pu).ow (g.sb m)=some .foreign:=by simp [G.out,h1.1]
      refine h1.keep K (ZfJ hm hM hl) (fun b' o hb=>ZfJ hm hM ?_);have:=h1.1;simp [G.out,hb,this]
    | row ver e sz xs=>
      simp only [Zgf] at h1 |-;rw [hhd];exact h1.keep K (fun b hb=>ZfJ hm hM (by simp [G.out,hb]))
    | mp es=>
      simp only [Zgf] at h1 |-;rw [hhd];exact h1.keep K (fun b hb=>ZfJ hm hM (by simp [G.out,hb]))
  have hnob:pu=true->g'.nob=g.nob:=fun hp=>by
    have h1:=hm'.stl;rw [hpu hp] at h1;simp only [S.ofSt,S.seen,if_true,uA] at h1;exact h1.symm.trans hm.stl
  refine ⟨?_,fun i c h hne=>?_,fun i hi=>?_,fun m ent h=>?_,fun b t h=>?_,hm'.z,hm.gl.keep K⟩
  · rw [hst]
    cases pu with
    | false=>exact hm'.stl
    | true=>exact hm.stl.trans (hnob rfl).symm
  · rw [hst] at h
    cases pu with
    | true=>
      simp only [if_true] at h;have h1:=hm.obj i c h hne;have hi:i<g.nob:=by
        rw [<-hm.stl];rcases zX i s.st.length with h' | h'
        · exact h'
        rw [zM h'] at h;cases h
      show Znq (g.back true g' p n hv) w' (g'.ob i) (.obj i) c;rw [show g'.ob i=g.ob i from hM.keep.ob i hi];refine h1.keep K (ZfJ hm hM (by simp [G.out,h1.1])) (fun b' o hb=>ZfJ hm hM ?_);have:=h1.1;simp [G.out,hb,this]
    | false=>
    simp only [yP,if_false] at h;obtain ⟨h2,h3,aa,E,h4,h5⟩:=hm'.obj i c h hne;refine ⟨(Zrq hm hM h2 aG).trans rfl,h3,aa,E,h4,h5.keepO K' fun b' o hb=>⟨rfl,?_,rfl⟩⟩;rw [Zrq hm hM hb aG,hb];rfl
  · have h1:=hm'.objB i hi
    show (g.back pu g' p n hv).ow (g'.ob i)=_\/(g.back pu g' p n hv).ow (g'.ob i)=_;by_cases hl:(g.out pu).ow (g'.ob i)=some .foreign
    · rw [(ZfJ hm hM hl).2.1]
      by_cases hi':i<g.nob
      · rw [show g'.ob i=g.ob i from hM.keep.ob i hi']
        exact hm.objB i hi'
      have hb:g'.ob i<w.heap.size:=by
        cases hb:g.ow (g'.ob i) with
        | none=>rw [Zjn.2 hb] at hl;cases hl
        | some t=>exact hm.own _ t hb
      rcases h1 with h1 | h1
      · have h4:=hM.own _ hb (by rw [h1];simp) (by rw [h1];simp)
        exact absurd hl h4.2
      rcases hM.same _ hb with h2 | h2
      · have:=hM.newob i (Nat.le_of_not_lt hi') hi;omega
      exact absurd hl h2.2
    have e:(g.back pu g' p n hv).ow (g'.ob i)=Zgt p n (g'.ow (g'.ob i)):=by
      show (if (g.out pu).ow (g'.ob i)=some .foreign then g.ow _ else _)=_;rw [aE hl]
    rw [e];rcases h1 with h1 | h1<;>(rw [h1];simp [Zgt])
  · rcases hsi m ent h with ⟨h1,h2⟩ | ⟨rfl,_,h2⟩ | ⟨h1,h2⟩
    · exact oldE m ent h2 (ZcZ _ _ h1)
    · exact h2
    refine oldE m ent h1 ?_;by_cases e:m=n
    · subst e;exact (Zbq _ _ _).trans h2
    exact ZcZ _ _ e
  by_cases hl:(g.out pu).ow b=some .foreign
  · have:g.ow b=some t:=by
      have e:(g.back pu g' p n hv).ow b=g.ow b:=(ZfJ hm hM hl).2.1;rw [e] at h;exact h
    have:=hm.own b t this;have:=hM.size;omega
  have e:(g.back pu g' p n hv).ow b=Zgt p n (g'.ow b):=by
    show (if (g.out pu).ow b=some .foreign then g.ow b else _)=_;rw [aE hl]
  rw [e] at h;cases hb:g'.ow b with
  | none=>rw [hb] at h;cases h
  | some t'=>exact hm'.own b t' hb
def Zgg.get : ∀{rs:List CV} {i j:Nat} {us:List Value} {c:CV},Zgg g w i us rs->rs[j]? = some c->∃v,us[j]? = some v/\CVR g w (i+j) v c
  | [],i,j,us,c,h,hj=>by simp at hj
  | c0::cs,i,j,us,c,h,hj=>by
    obtain ⟨v,rest,rfl,hc,hu⟩:=h;cases j with
    | zero=>simp only [yJ,zA] at hj;subst hj;exact ⟨v,rfl,hc⟩
    | succ j=>
      obtain ⟨u,h1,h2⟩:=Zgg.get hu (aR hj);exact ⟨u,by simpa using h1,by rwa [(aF:i+(j+1)=i+1+j)]⟩
def Zkf {n:Nat} : ∀{rs:List CV} {i:Nat} {tvs:List TV} {r:Option (Nat×Ent)},ZhG n i rs=some (tvs,r) ->
    (∀j e sz xs,rs[j]? = some (.row e sz xs)->r=some (i+j,.row 0 e sz xs))/\(∀q,r=some q->∃j e sz xs,q=(i+j,.row 0 e sz xs)/\rs[j]? = some (.row e sz xs))
  | [],i,tvs,r,h=>by
    simp only [ZhG,zA,zE] at h;obtain ⟨rfl,rfl⟩:=h;exact ⟨fun j e sz xs h=>by simp at h,fun q h=>by cases h⟩
  | c::cs,i,tvs,r,h=>by
    simp only [ZhG] at h;split at h<;>try cases h
    rename_i tvs1 r1 h1;obtain ⟨k1,k2⟩:=Zkf h1;have plain:r=r1->(∀e sz xs,c ≠ .row e sz xs)->(∀j e sz xs,(c::cs)[j]? = some (.row e sz xs)->r=some (i+j,.row 0 e sz xs))/\(∀q,r=some q->∃j e sz xs,q=(i+j,.row 0 e sz xs)/\(c::cs)[j]? = some (.row e sz xs)):=by
      rintro rfl hc;refine ⟨fun j e sz xs h=>?_,fun q hq=>?_⟩
      · cases j with
        | zero=>simp only [yJ,zA] at h;exact absurd h (hc _ _ _)
        | succ j=>rw [k1 j e sz xs (aR h)];simp only [zA,zE,and_true];omega
      obtain ⟨j,e,sz,xs,rfl,h2⟩:=k2 q hq;exact ⟨j+1,e,sz,xs,by simp only [zE,and_true];omega,by simpa using h2⟩
    split at h
    · simp only [zA,zE] at h;obtain ⟨_,rfl⟩:=h
      exact plain rfl (fun _ _ _ e=>by cases e)
    · simp only [zA,zE] at h;obtain ⟨_,rfl⟩:=h
      exact plain rfl (fun _ _ _ e=>by cases e)
    rename_i e sz xs;split at h<;>simp only [zA,zE,reduceCtorEq] at h;obtain ⟨_,rfl⟩:=h;refine ⟨fun j e' sz' xs' h=>?_,fun q hq=>?_⟩
    · cases j with
      | zero=>simp only [yJ,zA,CV.row.injEq] at h;obtain ⟨rfl,rfl,rfl⟩:=h;rfl
      | succ j=>have:=k1 j e' sz' xs' (aR h);cases this
    cases hq;exact ⟨0,e,sz,xs,rfl,rfl⟩
def Zmp {pu:Bool} {s':S} {n p:Nat} {hv:Value} : ∀{rs:List CV} {i:Nat} {us:List Value} {tvs:List TV} {r:Option (Nat×Ent)},ZhG n i rs=some (tvs,r) ->
    Zgg g' w' i us rs->(∀(j:Nat) (e:Bool) (sz:Nat) (xs:List (List L)),rs[j]? = some (CV.row e sz xs)->us[j]? = some hv)->ZfK (g.back pu g' p n hv) s' w' us tvs
  | [],i,us,tvs,r,h,hu,hr=>by
    simp only [ZhG,zA,zE] at h;obtain ⟨rfl,rfl⟩:=h;exact hu
  | c::cs,i,us,tvs,r,h,hu,hr=>by
    have K':ZcK g' (g.back pu g' p n hv) w' w':=⟨fun _ _=>rfl,zH _,fun _=>zH _,fun _ _ _=>rfl,fun _ _=>rfl⟩
    obtain ⟨v,rest,rfl,hc,hu⟩:=hu;simp only [ZhG] at h;split at h<;>try cases h
    rename_i tvs1 r1 h1;have ih:ZfK (g.back pu g' p n hv) s' w' rest tvs1:=Zmp h1 hu fun j e sz xs hj=>by simpa using hr (j+1) e sz xs (aR hj)
    split at h
    · simp only [zA,zE] at h;obtain ⟨rfl,rfl⟩:=h
      exact ⟨v,rest,rfl,⟨hc.1,LR.keep K' hc.2⟩,ih⟩
    · simp only [zA,zE] at h;obtain ⟨rfl,rfl⟩:=h
      obtain ⟨vs,rfl,h3⟩:=hc;exact ⟨_,rest,rfl,⟨vs,rfl,CR.toTs (CR.keep K' h3)⟩,ih⟩
    rename_i e sz xs;split at h<;>simp only [zA,zE,reduceCtorEq] at h;obtain ⟨rfl,rfl⟩:=h;have hveq:=hr 0 e sz xs rfl;simp only [yJ,zA] at hveq;subst hveq;refine ⟨v,rest,rfl,?_,ih⟩;simp only [CVR] at hc;rcases hc with ⟨rfl,rfl⟩ | ⟨b1,o1,rfl,rfl⟩ | ⟨b1,o1,cap,aa,E,rfl,k2,k3,k4,k5,k6,k7⟩
    · refine ⟨rfl,⟨_,_,rfl,.inl rfl⟩,fun _ _ _ _ _=>xD _,?_⟩
      rintro hv' ⟨_,rfl⟩;left;exact ⟨Zbq _ _ _,rfl,rfl,rfl⟩
    · refine ⟨rfl,⟨_,_,rfl,.inl rfl⟩,fun _ _ _ _ _=>xD _,?_⟩
      rintro hv' ⟨_,rfl⟩;right;exact ⟨b1,o1,0,0,o1,Zbq _ _ _,⟨by simp,zH _⟩,by simp,fun h=>aF,fun _=>rfl⟩
    refine ⟨rfl,⟨_,_,rfl,.inr rfl⟩,fun _ _ _ _ _=>xD _,?_⟩;rintro hv' ⟨_,rfl⟩;right;exact ⟨b1,o1,xs.length,cap,o1,Zbq _ _ _,⟨aF,k2⟩,by simp,fun _=>by simp,fun _=>rfl⟩
def Zgl {P:Program} {f:FuncId} (h:ZqA P f) (args:Array Value) (w:World):(callFunc f args).run P w = .ok (.enter f args) w:=by
  obtain ⟨fn,h1,h2,h3⟩:=h
  have h2' : ¬ fn.name = "runtime.NumGoroutine" := by simpa using h2
  have h3' : ¬ fn.body=none:=fun e=>by rw [e] at h3;cases h3
  simp [callFunc,h1,h2',h3']
def ZjZ {g:G} {s:S} {w:World} {us:List Value} {tvs:List TV} (h:ZfK g s w us tvs):ZdM g s w (ZqC us) (ZgR tvs):=by
  have gen : ∀{us:List Value} {tvs:List TV},ZfK g s w us tvs->us.length=tvs.length:=by
    intro us tvs
    induction tvs generalizing us with
    | nil=>intro h;rw [ZfK] at h;subst h;rfl
    | cons t ts ih=>intro h;obtain ⟨v,r,rfl,_,h⟩:=h;simp [ih h]
  have hl:=gen h
  match us,tvs,h,hl with
  | [v],[t],h,_=>obtain ⟨v',r,e,h1,h2⟩:=h;cases e;exact h1
  | [],[],h,_=>exact ⟨#[],rfl,h⟩
  | v::v'::us,t::t'::ts,h,_=>exact ⟨_,rfl,by simpa using h⟩
def Zso {s s':S} {a:Act} {dst:Option Nat} {n:Nat} {pu:Bool} {rs:List CV} {tvs:List TV} {r:Option (Nat×Ent)} {st':List (List L)} {us:List Value}
    (hs:Sat g s w a.tmps) (hrs:ZhG n 0 rs=some (tvs,r)) (hX:(Ziu n r).all (fun n=>!TV.mens n s.sl)=true) (hM:Mod (g.out pu) g' w w') (hm':ZdK g' (.ofSt st') w') (hus:Zgg g' w' 0 us rs)
    (hpu:pu=true->st'=s.seen true) (esl:s'.sl=(s.put dst (ZgR tvs)).sl) (esi:s'.si=(s.setEnt? n r).si) (est:s'.st=if pu then s.st else st') (eep:s'.ep=if pu then s.ep else s.ep+1) :
    ∃g'',Mod g g'' w w'/\ZbA (· ∈ Ziu n r) s s' g g'' w w'/\Sat g'' s' w' (a.put dst (ZqC us)).tmps:=by
  obtain ⟨hr1,hr2⟩:=Zkf hrs;obtain ⟨p,hv,hrow,hnone⟩ : ∃p hv,(∀(j:Nat) (e:Bool) (sz:Nat) (xs:List (List L)),rs[j]? = some (CV.row e sz xs)->us[j]? = some hv/\p=j)/\(r=none->hv=g.hd n):=by
    cases hr:r with
    | none=>exact ⟨0,g.hd n,fun j e sz xs h=>(by have:=hr1 j e sz xs h;rw [hr] at this;cases this),fun _=>rfl⟩
    | some q=>
      obtain ⟨j,e,sz,xs,rfl,h2⟩:=hr2 q hr;obtain ⟨v,h3,h4⟩:=hus.get h2;refine ⟨j,v,fun j' e' sz' xs' h=>?_,fun h=>by cases h⟩;have:=hr1 j' e' sz' xs' h;rw [hr] at this;simp only [yE,zA,zE] at this;obtain ⟨rfl,_⟩:=this;exact ⟨h3,rfl⟩
  have hslots:ZfK (g.back pu g' p n hv) s' w' us tvs:=Zmp (g:=g) (p:=p) hrs hus fun j e sz xs h=>(hrow j e sz xs h).1;have hm:ZdK (g.back pu g' p n hv) s' w':=by
    refine Zve hs.mem hM hm' hpu est fun m ent h=>?_;rw [esi] at h;cases hr:r with
    | none=>
      rw [hr] at h;exact .inr (.inr ⟨h,hnone hr⟩)
    | some q=>
      rw [hr] at h;simp only [S.setEnt?,S.setEnt] at h;by_cases e:n=m
      · subst e
        right;left;have hd:n<s.si.length:=by
          rcases zX n s.si.length with h' | h'
          · exact h'
          rw [zM (aR h')] at h;cases h
        rw [zP hd] at h;simp only [zA] at h;obtain ⟨j,e,sz,xs,rfl,h2⟩:=hr2 q hr;simp only at h;subst h;obtain ⟨h3,rfl⟩:=hrow j e sz xs h2;obtain ⟨v,h4,h5⟩:=hus.get h2;rw [h3] at h4;cases h4;refine ⟨rfl,by simp,?_⟩;simp only [Zgf];rw [show (g.back pu g' p n hv).hd n=hv from Zbq _ _ _];simp only [CVR,yE] at h5;rcases h5 with h5 | h5 | ⟨b1,o1,cap,aa,E,rfl,k2,k3,k4,k5,k6,k7⟩
        · exact .inl h5
        · exact .inr (.inl h5)
        refine .inr (.inr ⟨b1,o1,cap,aa,E,rfl,k2,?_,k4,k5,k6,?_⟩)
        · rw [Zrq hs.mem hM k3 aG];simp [Zgt]
        have K':ZcK g' (g.back pu g' p n (Value.slice (some (ad b1 o1)) xs.length cap)) w' w':=⟨fun _ _=>rfl,zH _,fun _=>zH _,fun _ _ _=>rfl,fun _ _=>rfl⟩
        exact k7.keep' K' fun _ _ _=>rfl
      rw [zO e] at h;exact .inl ⟨fun e'=>e e'.symm,h⟩
  have k:ZbA (· ∈ Ziu n r) s s' g (g.back pu g' p n hv) w w':=by
    have hXn : ∀m,m∉Ziu n r->s'.si[m]? = s.si[m]? /\ (g.back pu g' p n hv).hd m=g.hd m:=by
      intro m hm;rw [esi];cases hr:r with
      | none=>
        refine ⟨rfl,?_⟩;by_cases e:m=n
        · subst e;exact (Zbq _ _ _).trans (hnone hr)
        exact ZcZ _ _ e
      | some q=>
        rw [hr] at hm;have e:m≠n:=fun e=>hm (by simp [Ziu,e]);exact ⟨zO (fun e'=>e e'.symm),ZcZ _ _ e⟩
    refine ⟨ZkZ hM,fun m hm' h=>?_,fun m ver hm' h=>?_,fun m hm' h=>?_,fun h rt hg hi hok _ _ off hv' hc=>?_,by rw [eep];split<;>omega⟩
    · obtain ⟨c,h⟩:=h
      rw [(hXn m hm').1] at h;exact ⟨⟨c,h⟩,rfl⟩
    · obtain ⟨e,sz,xs,h⟩:=h
      rw [(hXn m hm').1] at h;exact .inl ⟨⟨e,sz,xs,h⟩,(hXn m hm').2⟩
    · obtain ⟨es,h⟩:=h
      rw [(hXn m hm').1] at h;exact ⟨⟨es,h⟩,(hXn m hm').2⟩
    left;have hp:pu=true:=by
      cases pu with
      | true=>rfl
      | false=>simp only [yP,if_false] at eep;omega
    subst hp;have hfor:(g.out true).ow (g.rb rt)=some .foreign:=by
      cases rt with
      | site m=>
        obtain ⟨c,hok⟩:=hok;have:=(hs.mem.site m _ hok).1;simp [G.out,G.rb,this]
      | obj i=>
        rcases hs.mem.objB i hi with h | h<;>simp [G.out,G.rb,h]
      | glob j=>exact absurd rfl (hg j)
    have hsm:=ZfJ (p:=p) (n:=n) (hv:=hv) hs.mem hM hfor;rwa [Zdr hsm.1] at hc
  have hfin:=hs.next k (fun m hm=>by
    have:=List.all_eq_true.1 hX m hm;simpa using this) hm (by rw [esi];cases r<;>simp [S.setEnt?,S.setEnt]) (dst:=dst) (tv:=ZgR tvs) (v:=ZqC us) esl (fun _=>ZjZ hslots)
  exact ⟨_,back_mod hs.mem hM,k,hfin⟩
def ZdB.call {P:Program} {s s':S} {o:Oper} {d:D} {X:List Nat} {ps:List Prop} (h:Zqt P s o d=some (X,s',ps)) (hp:Zce ps):ZdB P o X s s':=by
  unfold Zqt at h;split at h<;>try (cases h;done)
  rename_i f xs _ ho;split at h<;>try (cases h;done)
  rename_i cs ps1 tvs r hcs hrs;split at h<;>try (cases h;done)
  rename_i hX;have key : ∀(pu:Bool) (st':List (List L)),X=Ziu (d.ns.headD 0) r->Zce ps1->(pu=true->st'=s.seen true)->Snd P f cs (s.seen pu) d.rs st'->s'.sl=(s.put o.dst (ZgR tvs)).sl->s'.si=(s.setEnt? (d.ns.headD 0) r).si ->
      (s'.st=if pu then s.st else st')->(s'.ep=if pu then s.ep else s.ep+1)->ZdB P o X s s':=by
    intro pu st' hXe hp1 hpu hsnd esl esi est eep;subst hXe;obtain ⟨hent,hp2⟩:=hsnd;intro g w a hs K Q hK;unfold Oper.wp;have hrun:(execOp a.eval o).run P w = .ok (.enter f (xs.map a.eval).toArray) w:=by
      have:=Zgl hent (xs.map a.eval).toArray w;simp [execOp,ho,resolve,Deferred.ofValue,Act.eval,invoke,this]
    rw [hrun];show Calls P f _ w _;refine (hp2 (g.out pu) w _ (Zic hs hcs hp1) (Zou hs.mem pu)).mono ?_;rintro e w' ⟨g',us,rfl,hM,hm',hus⟩;obtain ⟨g'',k1,k2,k3⟩:=Zso hs hrs hX hM hm' hus hpu esl esi est eep;exact hK _ _ _ k1 k2 k3
  split at h<;>simp only [zA,zE] at h<;>obtain ⟨rfl,rfl,rfl⟩:=h<;>rw [Zce.append] at hp<;>obtain ⟨hp1,hp2⟩:=hp<;>simp only [Zce] at hp2
  · exact key true _ rfl hp1 (fun _=>rfl) (hp2 _) (by cases o.dst<;>cases r<;>rfl) (by cases o.dst<;>rfl) (by cases o.dst<;>cases r<;>rfl) (by cases o.dst<;>cases r<;>rfl)
  exact key false d.st rfl hp1 (fun h=>by cases h) hp2 (by cases o.dst<;>cases r<;>rfl) (by cases o.dst<;>rfl) rfl rfl
end
end Go.Dn
namespace Go.Dn
variable [Globs]
def CV.tv (i:Nat):CV->TV
  | .one x=>.one (.l x)
  | .agg ls=>.agg (ls.map .l)
  | .row _ sz xs=>.one (.h (.row i 0) sz 0 xs.length)
def CV.ent:CV->Option Ent
  | .row e sz xs=>some (.row 0 e sz xs)
  | _=>none
def ZoR:Nat->Nat->List CV->List TV
  | _,n,[]=>zB n .u
  | i,n,c::cs=>c.tv i::ZoR (i+1) (n-1) cs
def ZoS:Nat->List CV->List (Option Ent)
  | n,[]=>zB n none
  | n,c::cs=>c.ent::ZoS (n-1) cs
def S.enter (n:Nat) (args:List CV) (st:List (List L)):S:=⟨ZoR 0 n args,ZoS n args,st,0⟩
def resTV (P:Program) (s:S):ResultVar->Option (TV×List Prop)
  | .tmp t=>(s.sl[t]?).map (·,[])
  | .cell a t=>match s.sl[a]? with
    | some tv=>ld P s t [] [] tv
    | none=>none
def rowCV (s:S) (md:Nat):TV->Option (Nat×CV×List Prop)
  | .one (.h (.row n ver) sz lo len)=>match Ziw s [] (.row n ver) with
    | some (e,sz',xs,ps)=>if sz=sz'/\(e=true\/md<=1) then some (n,.row e sz (win md xs lo len).1,(win md xs lo len).2++ps) else none
    | none=>none
  | .one (.l (.own e sz []))=>some (s.sl.length,.row e sz [],[])
  | _=>none
def Zix (P:Program) (s:S) (oc:List L) (md:Nat) (own:List Nat):Nat->List ResultVar->Option (List CV×Option (Nat×Nat)×List Prop)
  | _,[]=>some ([],none,[])
  | i,r::rs=>match resTV P s r,Zix P s oc md own (i+1) rs with
    | some (tv,ps),some (cs,m,qs)=>
      if own.contains i then
        match m,rowCV s md tv with
        | none,some (n,c,ps')=>some (c::cs,some (i,n),ps++ps'++qs)
        | _,_=>none
      else match toCV s oc md tv with
        | some (c,ps')=>some (c::cs,m,ps++ps'++qs)
        | none=>none
    | _,_=>none
def G.ret (g:G) (m:Option (Nat×Nat)):G:=
  match m with
  | some (i,n)=>{ g with ow:=fun b=>Zgt n i (g.ow b)}
  | none=>g
section
variable {P:Program} {g g':G} {s:S} {w w':World}
def Zqm : ∀{cs:List CV} {i n j:Nat} {tv:TV},(ZoR i n cs)[j]? = some tv->(∃c,cs[j]? = some c/\tv=c.tv (i+j))\/tv = .u
  | [],i,n,j,tv,h=>by
    simp only [ZoR,wA] at h;split at h<;>simp at h;exact .inr h.symm
  | c::cs,i,n,0,tv,h=>by simp only [ZoR,yJ,zA] at h;exact .inl ⟨c,rfl,h.symm⟩
  | c::cs,i,n,j+1,tv,h=>by
    simp only [ZoR,wV] at h;rcases Zqm h with ⟨c',h1,h2⟩ | h1
    · exact .inl ⟨c',by simpa using h1,by rw [h2,(aF:i+1+j=i+(j+1))]⟩
    exact .inr h1
def Zqo : ∀{cs:List CV} {n j:Nat} {ent:Ent},(ZoS n cs)[j]? = some (some ent)->∃c,cs[j]? = some c/\c.ent=some ent
  | [],n,j,ent,h=>by
    simp only [ZoS,wA] at h;split at h<;>simp at h
  | c::cs,n,0,ent,h=>by simp only [ZoS,yJ,zA] at h;exact ⟨c,rfl,h⟩
  | c::cs,n,j+1,ent,h=>by
    simp only [ZoS,wV] at h;obtain ⟨c',h1,h2⟩:=Zqo h;exact ⟨c',by simpa using h1,h2⟩
def ZmL : ∀{cs:List CV} {i n:Nat},cs.length<=n->(ZoR i n cs).length=n
  | [],i,n,h=>by simp [ZoR]
  | c::cs,i,n,h=>by simp only [wO] at h;simp [ZoR,ZmL (cs:=cs) (i:=i+1) (n:=n-1) aF];omega
def Zqn : ∀{cs:List CV} {n:Nat},cs.length<=n->(ZoS n cs).length=n
  | [],n,h=>by simp [ZoS]
  | c::cs,n,h=>by simp only [wO] at h;simp [ZoS,Zqn (cs:=cs) (n:=n-1) aF];omega
def Zgg.len : ∀{cs:List CV} {i:Nat} {vs:List Value},Zgg g w i vs cs->vs.length=cs.length
  | [],i,vs,h=>by rw [Zgg] at h;subst h;rfl
  | c::cs,i,vs,h=>by obtain ⟨v,r,rfl,_,h⟩:=h;simp [Zgg.len h]
def Zog {t:Ow} {v:Value} {e:Bool} {sz n:Nat} {xs:List (List L)} (hr:ZgO g w t v e sz xs) (hhd:g.hd n=v):ZdM g s w v (.one (.h (.row n 0) sz 0 xs.length)):=by
  rcases hr with ⟨rfl,rfl⟩ | ⟨b1,o1,rfl,rfl⟩ | ⟨b1,o1,cap,aa,E,rfl,k2,k3,k4,k5,k6,k7⟩
  · refine ⟨rfl,⟨_,_,rfl,.inl rfl⟩,fun _ _ _ _ _=>xD _,?_⟩
    rintro hv' ⟨_,rfl⟩;left;exact ⟨hhd,rfl,rfl,rfl⟩
  · refine ⟨rfl,⟨_,_,rfl,.inl rfl⟩,fun _ _ _ _ _=>xD _,?_⟩
    rintro hv' ⟨_,rfl⟩;right;exact ⟨b1,o1,0,0,o1,hhd,⟨by simp,zH _⟩,by simp,fun h=>aF,fun _=>rfl⟩
  refine ⟨rfl,⟨_,_,rfl,.inr rfl⟩,fun _ _ _ _ _=>xD _,?_⟩;rintro hv' ⟨_,rfl⟩;right;exact ⟨b1,o1,xs.length,cap,o1,hhd,⟨aF,k2⟩,by simp,fun _=>by simp,fun _=>rfl⟩
def G.enter (g:G) (vs:List Value):G:={ g with hd:=fun i=>vs.getD i undef}
def ZmK {vs:List Value} {args:List CV} {st:List (List L)} {n:Nat} (hv:Zgg g w 0 vs args) (hm:ZdK g (.ofSt st) w) (hn:args.length<=n) :
    Sat (g.enter vs) (S.enter n args st) w (vs.toArray++vX (n-vs.toArray.size) undef):=by
  have K:ZcK g (g.enter vs) w w:=⟨fun _ _=>rfl,zH _,fun _=>zH _,fun _ _ _=>rfl,fun _ _=>rfl⟩
  have hl:=hv.len;refine ⟨?_,?_,fun j tv h=>?_,⟨hm.stl,fun i c h hne=>(hm.obj i c h hne).keep K ⟨rfl,rfl,rfl⟩ (fun _ _ _=>⟨rfl,rfl,rfl⟩),hm.objB,fun j ent h=>?_,hm.own,hm.z,hm.gl.keep K⟩⟩
  · simp only [S.enter,ZmL hn,Array.size_append,List.size_toArray,Array.size_replicate];omega
  · simp only [S.enter,ZmL hn,Zqn hn]
  · rcases Zqm h with ⟨c,h1,rfl⟩ | rfl
    · obtain ⟨v,h2,h3⟩:=hv.get h1
      have hlt:j<vs.length:=by
        rcases zX j vs.length with h | h
        · exact h
        rw [zM h] at h2;cases h2
      have hget:(vs.toArray++vX (n-vs.toArray.size) undef).getD j undef=v:=by
        have hj:(vs.toArray++vX (n-vs.toArray.size) undef)[j]? = some v:=by
          rw [Array.getElem?_append_left (aR hlt)];simpa using h2
        rw [Array.getD_eq_getD_getElem?,hj];rfl
      rw [hget,yE];rw [yE] at h3;cases c with
      | one x=>exact ⟨h3.1,LR.keep K h3.2⟩
      | agg ls=>obtain ⟨us,rfl,h4⟩:=h3;exact ⟨us,rfl,CR.toTs (CR.keep K h4)⟩
      | row e sz xs=>
        have h4:ZgO (g.enter vs) w (.rowS j) v e sz xs:=ZgO.keep K h3 (fun _ _=>⟨rfl,rfl,rfl⟩);refine Zog h4 ?_;simp [G.enter,zF,h2]
    exact trivial
  obtain ⟨c,h1,h2⟩:=Zqo h;obtain ⟨v,h3,h4⟩:=hv.get h1;cases c with
  | row e sz xs=>
    simp only [CV.ent,zA] at h2;subst h2;simp only [Zgf];rw [yE] at h4;have:(g.enter vs).hd j=v:=by simp [G.enter,zF,h3]
    rw [this];exact ZgO.keep K h4 (fun _ _=>⟨rfl,rfl,rfl⟩)
  | _=>cases h2
def Zom {g:G} {w:World} (m:Option (Nat×Nat)):Mod g (g.ret m) w w:=by
  cases m with
  | none=>exact .refl g w
  | some q=>
    obtain ⟨i,n⟩:=q;refine ⟨⟨fun _ _=>rfl,zH _,fun _=>zH _,fun _ _ _=>rfl,fun _ _=>rfl⟩,rfl,rfl,rfl,zH _,fun b hb=>?_,fun b hb h1 h2=>?_,fun i h1 h2=>absurd h2 (by show ¬ i<g.nob;omega)⟩
    · cases h:g.ow b with
      | none=>left;exact ⟨rfl,by simp [G.ret,h,Zgt],rfl⟩
      | some t=>
        cases t with
        | rowS q=>right;simp
        | _=>left;exact ⟨rfl,by simp [G.ret,h,Zgt],rfl⟩
    simp only [G.ret] at h1 h2;refine ⟨fun e=>h1 (by rw [e];rfl),fun e=>h2 (by rw [e];rfl)⟩
def ZrK (hm:ZdK g s w) (m:Option (Nat×Nat)):ZdK (g.ret m) (.ofSt s.st) w:=by
  have K:=(Zom (g:=g) (w:=w) m).keep;have hob:(g.ret m).ob=g.ob/\(g.ret m).nob=g.nob/\(g.ret m).Z=g.Z:=by cases m<;>exact ⟨rfl,rfl,rfl⟩
  have how : ∀b t,(∀q,t ≠ .rowS q)->g.ow b=some t->(g.ret m).ow b=some t:=by
    intro b t ht h;cases m with
    | none=>exact h
    | some q=>simp only [G.ret,h];exact renOw_id ht
  refine ⟨by rw [hob.2.1];exact hm.stl,fun i c h hne=>?_,fun i hi=>?_,fun n ent h=>by simp [S.ofSt] at h,fun b t h=>?_,fun b hb=>by rw [hob.2.2];exact hm.z b hb,hm.gl.keep K⟩
  · rw [hob.1]
    have h1:=hm.obj i c h hne;refine h1.keep K ⟨rfl,?_,by rw [hob.2.2]⟩ (fun b' o hb=>⟨rfl,?_,by rw [hob.2.2]⟩)
    · rw [how _ _ aG h1.1,h1.1]
    rw [how _ _ aG hb,hb]
  · rw [hob.2.1] at hi
    rw [hob.1];rcases hm.objB i hi with h | h
    · exact .inl (how _ _ aG h)
    exact .inr (how _ _ aG h)
  cases hb:g.ow b with
  | none=>cases m<;>simp [G.ret,hb,Zgt] at h
  | some t'=>exact hm.own b t' hb
def CVR.in {i:Nat} {v:Value} {c:CV} (K:ZcK g g' w w) (hc : ∀e sz xs,c ≠ .row e sz xs) (h:CVR g w i v c):CVR g' w i v c:=by
  cases c with
  | one x=>exact ⟨h.1,LR.keep K h.2⟩
  | agg ls=>obtain ⟨vs,h1,h2⟩:=h;exact ⟨vs,h1,CR.keep K h2⟩
  | row e sz xs=>exact absurd rfl (hc _ _ _)
def ZkE {oc:List L} {md:Nat} {tv:TV} {c:CV} {ps:List Prop} (h:toCV s oc md tv=some (c,ps)) : ∀e sz xs,c ≠ .row e sz xs:=by
  rintro e sz xs rfl;unfold toCV at h;split at h
  · simp at h
  · simp at h
  · split at h<;>simp at h
  · split at h<;>try cases h
    split at h<;>simp at h
  · simp at h
  cases h
def resF (tmps:Array Value):ResultVar->Sem Value
  | .tmp t=>pure (tmps.getD t undef)
  | .cell a t=>do loadVar t (<-asAddr (tmps.getD a undef))
def Zmk {tmps:Array Value} (hs:Sat g s w tmps) {r:ResultVar} {tv:TV} {ps:List Prop} (h:resTV P s r=some (tv,ps)) (hp:Zce ps) :
    ∃v,(resF tmps r).run P w = .ok v w/\ZdM g s w v tv:=by
  cases r with
  | tmp t=>
    simp only [resTV] at h;obtain ⟨tv0,h1,h2⟩:=zI.1 h;simp only [zE] at h2;obtain ⟨rfl,rfl⟩:=h2;exact ⟨_,rfl,hs.slot _ _ h1⟩
  | cell a t=>
    simp only [resTV] at h;split at h<;>try cases h
    rename_i tv0 h1;obtain ⟨u,h2,h3⟩:=ZrX (P:=P) hs.mem h hp (hs.slot _ _ h1);refine ⟨u,?_,h3⟩;simp only [resF];generalize tmps.getD a undef=v at h2;have hq : ∃q,v = .pointer (some q):=by
      cases v with
      | pointer q=>cases q with
        | some q=>exact ⟨q,rfl⟩
        | none=>simp [Instr.loadAt,Instr.sureAddr,stuck] at h2
      | _=>simp [Instr.loadAt,Instr.sureAddr,stuck] at h2
    obtain ⟨q,rfl⟩:=hq;exact h2
def ZiL {oc:List L} {md:Nat} {tmps:Array Value} (hs:Sat g s w tmps) {own:List Nat} : ∀{rs:List ResultVar} {i:Nat} {cs:List CV} {m m0:Option (Nat×Nat)} {ps:List Prop},Zix P s oc md own i rs=some (cs,m,ps)->Zce ps ->
    (∀q,m=some q->m0=some q)->∃us:List Value,(rs.mapM (resF tmps)).run P w = .ok us w/\Zgg (g.ret m0) w i us cs
  | [],i,cs,m,m0,ps,h,hp,hm=>by
    simp only [Zix,zA,zE] at h;obtain ⟨rfl,rfl,rfl⟩:=h;exact ⟨[],rfl,rfl⟩
  | r::rs,i,cs,m,m0,ps,h,hp,hm=>by
    have K0:ZcK (g.out false) (g.ret m0) w w:=by cases m0<;>exact ⟨fun _ _=>rfl,zH _,fun _=>zH _,fun _ _ _=>rfl,fun _ _=>rfl⟩
    have K1:=(Zom (g:=g) (w:=w) m0).keep;simp only [Zix] at h;split at h<;>try cases h
    rename_i tv ps1 cs1 m1 qs1 h1 h2;split at h
    · split at h<;>try cases h
      rename_i n c ps' hrow;rw [Zce.append,Zce.append] at hp;obtain ⟨v,h3,h4⟩:=Zmk hs h1 hp.1.1;obtain ⟨us,h5,h6⟩:=ZiL hs (m0:=m0) h2 hp.2 (fun q hq=>by cases hq);refine ⟨v::us,?_,v,us,rfl,?_,h6⟩
      · rw [List.mapM_cons,Sem.run_bind,h3];simp only [Result.andThen_ok,Sem.run_bind,h5,Sem.run_pure]
      have hm0:=hm _ rfl;unfold rowCV at hrow;split at hrow
      case h_2=>
        simp only [zA,zE] at hrow;obtain ⟨rfl,rfl,rfl⟩:=hrow;have hl:=h4.2;simp only [TR] at hl;simp only [CVR];cases hl with
        | ownnil=>exact .inl ⟨rfl,rfl⟩
        | ownz _ _ _ b o=>exact .inr (.inl ⟨b,o,rfl,rfl⟩)
      case h_3=>cases hrow
      rename_i n' ver sz lo len;split at hrow<;>try cases hrow
      rename_i e sz' xs ps2 hre;split at hrow<;>simp only [zA,zE,reduceCtorEq] at hrow;rename_i hh;obtain ⟨rfl,he⟩:=hh;obtain ⟨rfl,rfl,rfl⟩:=hrow;have hp2:=hp.1.2;rw [Zce.append] at hp2;obtain ⟨hv0,t0,k1,k2,k3⟩:=Zfs hs.mem hre hp2.2;obtain ⟨rfl,rfl⟩:=k3 _ _ rfl;obtain ⟨w1,w2,w3⟩:=ZhJ hp2.1;have hr:=k2.win (h4.2.2.2 _ k1) w2 (he.imp id w3);simp only [CVR];subst hm0;rw [w1];rcases hr with h7 | h7 | ⟨b1,o1,cap,aa,E,k1,k2,k3,k4,k5,k6,k7⟩
      · exact .inl h7
      · exact .inr (.inl h7)
      refine .inr (.inr ⟨b1,o1,cap,aa,E,k1,k2,?_,k4,k5,k6,k7.keep' K1 fun _ _ _=>rfl⟩);show Zgt _ _ (g.ow b1)=_;rw [k3];simp [Zgt]
    split at h<;>try cases h
    rename_i c ps' hc;rw [Zce.append,Zce.append] at hp;obtain ⟨v,h3,h4⟩:=Zmk hs h1 hp.1.1;obtain ⟨us,h5,h6⟩:=ZiL hs (m0:=m0) h2 hp.2 hm;refine ⟨v::us,?_,v,us,rfl,CVR.in K0 (ZkE hc) (ZkD hs.mem hc hp.1.2 h4),h6⟩;rw [List.mapM_cons,Sem.run_bind,h3];simp only [Result.andThen_ok,Sem.run_bind,h5,Sem.run_pure]
def Zmj {fn:Func} {a:Act} {oc:List L} {md:Nat} {own:List Nat} {cs:List CV} {m:Option (Nat×Nat)} {ps:List Prop} (hs:Sat g s w a.tmps) (h:Zix P s oc md own 0 fn.results.toList=some (cs,m,ps)) (hp:Zce ps) :
    ∃us,(results fn a.tmps).run P w = .ok (ZqC us) w/\Zgg (g.ret m) w 0 us cs:=by
  obtain ⟨us,h1,h2⟩:=ZiL hs (m0:=m) h hp (fun _ h=>h);refine ⟨us,?_,h2⟩;have e:(fn.results.mapM (resF a.tmps))=List.toArray <$> fn.results.toList.mapM (resF a.tmps):=Array.mapM_eq_mapM_toList ..;have e2:results fn a.tmps=(do let vs <- fn.results.mapM (resF a.tmps);pure (if h:vs.size=1 then vs[0] else .tuple vs)):=by
    unfold results
    congr 1
  rw [e2,e,Sem.run_bind,Sem.run_map,h1];simp only [Result.andThen_ok,Sem.run_pure]
  match us with
  | []=>rfl
  | [v]=>rfl
  | v::v'::us=>simp [ZqC]
def Znp (P:Program) (fn:Func) (g:G) (w:World) (rs:List CV) (st':List (List L)) (R:Exit->Act->World->Prop):Prop:=
  ∀(g':G) (w':World) (a':Act) (s':S) (oc:List L) (md:Nat) (own:List Nat) (m:Option (Nat×Nat)) (ps:List Prop) (e:E),e = .n\/e = .ret->Mod g g' w w'->Sat g' s' w' a'.tmps->a'.defers = [] ->
    Zix P s' oc md own 0 fn.results.toList=some (rs,m,ps)->Zce ps->s'.st=st'->R e.exit a' w'
def Snd.mk {P:Program} {f:FuncId} {fn:Func} {c:Code} {args:List CV} {st:List (List L)} {rs:List CV} {st':List (List L)} (hf:P.funcs[f]? = some fn)
    (hn : (fn.name == "runtime.NumGoroutine") = false) (hb : fn.body = some c) (hlen : args.length <= fn.ntmps)
    (h : ∀(g:G) (w:World) (a:Act) (R:Exit->Act->World->Prop),Sat g (S.enter fn.ntmps args st) w a.tmps->a.defers = []->Znp P fn g w rs st' R->exK P R [.c c] .normal a w) :
    Snd P f args st rs st':=by
  refine ⟨⟨fn,hf,hn,by simp [hb]⟩,fun g w vs hv hm=>?_⟩;refine calls_of_wp hf hb ?_;have hE:Mod g (g.enter vs) w w:=⟨⟨fun _ _=>rfl,zH _,fun _=>zH _,fun _ _ _=>rfl,fun _ _=>rfl⟩,rfl,rfl,rfl,zH _,fun b _=>.inl ⟨rfl,rfl,rfl⟩,fun b _ h1 h2=>⟨h1,h2⟩,fun i h1 h2=>absurd h2 (by show ¬ i<g.nob;omega)⟩
  have key:=h (g.enter vs) w { tmps:=vs.toArray++vX (fn.ntmps-vs.toArray.size) undef,defers:=[]} (bodyPost P fn fun e w'=>∃g' us,e = .returned (ZqC us)/\Mod g g' w w'/\ZdK g' (.ofSt st') w'/\Zgg g' w' 0 us rs)
    (ZmK hv hm hlen) rfl ?_
  · unfold exK at key
    refine wp_mono key fun e a w he=>?_;cases e<;>(unfold exK at he;exact he)
  intro g' w' a' s' oc md own m ps e he hM hs hd hr hp hst;obtain ⟨us,h1,h2⟩:=Zmj hs hr hp;subst hst;have fin : ∃v,(results fn a'.tmps).run P w' = .ok v w'/\∃g' us,Ending.returned v = .returned (ZqC us)/\Mod g g' w w'/\ZdK g' (.ofSt s'.st) w'/\Zgg g' w' 0 us rs:=
    ⟨_,h1,g'.ret m,us,rfl,(hE.trans hM).trans (Zom m),ZrK hs.mem m,h2⟩
  rcases he with rfl | rfl
  · exact ⟨hd,fin⟩
  exact ⟨hd,fin⟩
end
end Go.Dn
namespace Go.Dn
variable [Globs]
def ZtO (s:S) (o:Oper) (d:D):Option (TV×List Prop):=
  match o.op with
  | .pick c a b=>match ev s c with
    | some (.one (.l (.bool x)))=>(ev s (if d.yes then a else b)).map fun tv=>(tv,[x=d.yes])
    | _=>none
  | _=>none
def ZdB.pick {P:Program} {s:S} {o:Oper} {d:D} {tv:TV} {ps:List Prop} (h:ZtO s o d=some (tv,ps)) (hp:Zce ps):ZdB P o [] s (s.put o.dst tv):=by
  refine .value fun g w a hs=>?_;unfold ZtO at h;split at h<;>try cases h
  rename_i c x y ho;split at h<;>try cases h
  rename_i b hc;obtain ⟨tv',h1,h2⟩:=zI.1 h;simp only [zE] at h2;obtain ⟨rfl,rfl⟩:=h2;simp only [Zce] at hp;have hcv:=(ZbN hs hc).2.bool_eq;refine ⟨if b then a.eval x else a.eval y,by simp [execOp,ho,asBool,hcv],?_⟩;have:=ZbN hs h1;rw [hp];cases hd:d.yes<;>rw [hd] at this<;>exact this
def stOp_sl {P:Program} {s s':S} {o:Oper} {oc oe:List L} {mv:List Nat} {md:Nat} {ps:List Prop} (h:stOp P s oc oe mv md o=some (s',ps)) : ∃tv,s'.sl=(s.put o.dst tv).sl:=by
  have hroot : ∀{r off n tv},ZjQ s oc oe mv md r off n tv=some (s',ps)->s'.sl=s.sl:=by
    intro r off n tv h1;unfold ZjQ at h1;split at h1<;>try cases h1
    split at h1<;>try cases h1
    split at h1<;>try cases h1
    split at h1<;>simp only [zA,zE,reduceCtorEq] at h1;obtain ⟨rfl,_⟩:=h1;exact (Zpw _ _ _ _ _).1
  have helem : ∀{r off n j x},Znt s oc r off n j x=some (s',ps)->s'.sl=s.sl:=by
    intro r off n j x h;unfold Znt at h;split at h<;>try cases h
    split at h
    · split at h<;>try cases h
      split at h<;>simp only [zA,zE,reduceCtorEq] at h;obtain ⟨rfl,rfl⟩:=h;exact (ZdO _ _ _).1
    · split at h<;>try cases h
      split at h<;>simp only [zA,zE,reduceCtorEq] at h;obtain ⟨rfl,rfl⟩:=h;exact (ZdO _ _ _).1
    cases h
  unfold stOp at h;split at h<;>try cases h
  rename_i t x y hd ho;refine ⟨.u,?_⟩;rw [hd];simp only [S.put];split at h
  · exact hroot h
  · exact hroot h
  · split at h<;>try cases h
    exact helem h
  cases h
def Zqs {P:Program} {s s':S} {o:Oper} {d:D} {X:List Nat} {ps:List Prop} (h:Zqt P s o d=some (X,s',ps)):(∃tv,s'.sl=(s.put o.dst tv).sl)/\X.all (fun n=>!TV.mens n s.sl)=true:=by
  unfold Zqt at h;split at h<;>try (cases h;done)
  split at h<;>try (cases h;done)
  rename_i cs ps1 tvs r hcs hrs;split at h<;>try (cases h;done)
  rename_i hX;split at h<;>simp only [zA,zE] at h<;>obtain ⟨rfl,rfl,rfl⟩:=h<;>exact ⟨⟨ZgR tvs,by cases o.dst<;>cases r<;>rfl⟩,hX⟩
end Go.Dn
