/- A tree of headers, as a row of nodes, each with its whole chain; the program's arena of such a tree. -/
import Derived.Test.YtbplamjmmjnibaaGreatDoorNum
import Derived.Test.YtbplamjmmjnibaaGreatDoorRul
set_option linter.unusedSimpArgs false
set_option linter.unusedVariables false
set_option maxRecDepth 40000
namespace Go.Dn.F
open Go.Dn Go.Proofs
variable {N:Nat}
structure Nd where
 ch:List Zag
 ah:Int
 wk:Int
def h0:Zag:=⟨0,List.replicate 32 0,List.replicate 32 0,0,0,0⟩
def Nd.hd (n:Nd):Zag:=n.ch.getLast?.getD h0
def Nd.id (n:Nd):List Int:=hid n.hd
noncomputable def Nd.en (n:Nd):ZbM:=⟨n.hd,n.id,n.ah,(n.ch.length:Int)-1,nw n.wk⟩
noncomputable def rowE (ns:List Nd):LL:=ns.map fun n=>n.en.ls
noncomputable def rowS (p:Zad) (ns:List Nd):LL:=ns.map fun n=>(spotA p n.ch).ls
def idMap:Nat→List (List Int)→LM
 | _,[]=>[]
 | i,x::l=>(L.arr .u8 32 x,L.int .i64 (i:Int))::idMap (i+1) l
def ids (ns:List Nd):List (List Int):=ns.map Nd.id
def place:Nat→List (List Int)→List Int→Option Nat
 | _,[],_=>none
 | i,y::l,x=>if x=y then some i else place (i+1) l x
theorem ZfC : ∀(l:List (List Int)) (i:Nat) (x:List Int),mfind (idMap i l) (L.arr .u8 32 x)=some ((place i l x).map fun k=>(k-i,L.int .i64 (k:Int)))
 | [],i,x=>rfl
 | y::l,i,x=>by
  rw [idMap,mfind]
  simp only [keyEq,and_self,if_true]
  unfold place
  by_cases h:x=y
  ·subst h;simp
  ·rw [show (x==y)=false by simpa using h,if_neg h,ZfC l (i+1) x]
   cases e:place (i+1) l x with
   | none=>rfl
   | some k=>
    have : ∀(l:List (List Int)) (i k:Nat),place i l x=some k→i≤k:=by
     intro l
     induction l with
     | nil=>intro i k h;cases h
     | cons z l ih=>
      intro i k h
      unfold place at h
      split at h
      ·cases h;omega
      ·have:=ih _ _ h;omega
    have:=this l (i+1) k e
    simp only [Option.map_some]
    rw [show k-(i+1)+1=k-i by omega]
theorem Zgw : ∀(l:List (List Int)) (i:Nat) (x:List Int),idMap i (l ++ [x])=idMap i l ++ [(L.arr .u8 32 x,L.int .i64 ((i+l.length:Nat):Int))]
 | [],i,x=>rfl
 | y::l,i,x=>by rw [List.cons_append,idMap,Zgw l (i+1) x,idMap,List.length_cons,show i+1+l.length=i+(l.length+1) by omega];rfl
theorem Zgb : ∀{l:List (List Int)} {i k:Nat} {x:List Int},place i l x=some k→i≤k∧∃h:k-i<l.length,l[k-i]=x
 | y::l,i,k,x,h=>by
  unfold place at h
  split at h
  ·rename_i e;cases h;exact ⟨by omega,by simp,by simp [e]⟩
  ·obtain ⟨h1,h2,h3⟩:=Zgb h
   refine ⟨by omega,by simp;omega,?_⟩
   have:k-i=(k-(i+1))+1:=by omega
   simp only [this,List.getElem_cons_succ];exact h3
theorem ZhT : ∀{l:List (List Int)} {i:Nat} {x:List Int},place i l x=none→x∉l
 | [],_,_,_=>by simp
 | y::l,i,x,h=>by
  unfold place at h
  split at h
  ·cases h
  ·rename_i e;simp [e,ZhT h]
noncomputable def aOf (p:Zad) (room:Int) (ns:List Nd):Zat:=⟨p,rowE ns,rowS p ns,idMap 0 (ids ns),room⟩
theorem Zkr {ns:List Nd} {i:Nat} (h:i<ns.length):(rowE ns)[i]? = some ns[i].en.ls:=by simp [rowE,h]
theorem rowS_get {p:Zad} {ns:List Nd} {i:Nat} (h:i<ns.length):(rowS p ns)[i]? = some (spotA p ns[i].ch).ls:=by simp [rowS,h]
@[simp] theorem ZfD (ns:List Nd):len (rowE ns)=(ns.length:Int):=by simp [len,rowE]
@[simp] theorem len_rowS (p:Zad) (ns:List Nd):len (rowS p ns)=(ns.length:Int):=by simp [len,rowS]
structure Tree (ns:List Nd):Prop where
 small:ns.length≤512
 ch : ∀n∈ns,n.ch ≠ []∧n.ch.length≤ns.length
 wf : ∀n∈ns,∀x∈n.ch,WfH x
 wk : ∀n∈ns,isN n.wk
 ah : ∀(i:Nat) (h:i<ns.length),(i=0∧ns[i].ah = -1∧ns[i].ch.length=1)∨∃(k:Nat) (hk:k<i),ns[i].ah=(k:Int)∧ns[i].ch=ns[k].ch ++ [ns[i].hd]
 one:(ids ns).Nodup
theorem Nd.hd_snoc {n:Nd} {c:List Zag} {h:Zag} (e:n.ch=c ++ [h]):n.hd=h:=by unfold Nd.hd;rw [e];simp
theorem ZhL (p:Zad) (c:List Zag) (h:Zag):(spotA p (c ++ [h])).Prev=hid h:=by
 unfold spotA;rw [List.foldl_append];rfl
theorem ZlG {st:LL} {i:Nat} {p:Zad} {room:Int} {ns:List Nd} (hst:st[i]? = some (aOf p room ns).lo) (hl:ns.length≤512) (nd:Nd) (hid':place 0 (ids ns) nd.id=none) :
  ZaK.p1 N (some i) (spotA p nd.ch) nd.en st=some ((ns.length:Int),st.set i (aOf p room (ns ++ [nd])).lo):=by
 unfold ZaK.p1
 have e1:(aOf p room ns).list ++ [nd.en.ls]=rowE (ns ++ [nd]):=by show rowE ns++_=_;simp [rowE]
 have e2:(aOf p room ns).spots ++ [(spotA p nd.ch).ls]=rowS p (ns ++ [nd]):=by show rowS p ns++_=_;simp [rowS]
 have e3:(aOf p room ns).places ++ [(L.arr .u8 32 nd.en.Id,L.int .i64 (ns.length:Int))]=idMap 0 (ids (ns ++ [nd])):=by
  show idMap 0 (ids ns)++_=_
  unfold ids
  rw [List.map_append]
  show _=idMap 0 (List.map Nd.id ns ++ [nd.id])
  rw [Zgw,List.length_map,Nat.zero_add];rfl
 have l1:(rowE (ns ++ [nd])).length=ns.length+1:=by simp [rowE]
 have l2:(rowS p (ns ++ [nd])).length=ns.length+1:=by simp [rowS]
 rw [Zab,hst,ZaN,ZbJ,e1,e2,Zai (by rw [l1];omega),Zai (by rw [l2];omega),show mfind (aOf p room ns).places (L.arr .u8 32 nd.en.Id)=some none by
  show mfind (idMap 0 (ids ns)) (L.arr .u8 32 nd.id)=_
  rw [ZfC,hid'];rfl]
 show some _=_
 rw [ZfD,List.length_append,List.length_singleton,ZaC (by omega) (by omega),show ((ns.length+1:Nat):Int)-1=(ns.length:Int) by omega,e3]
 simp only [List.set_set]
 rfl
theorem keep_eq (hN:300≤N) {st:LL} {i:Nat} {p:Zad} {room:Int} {ns:List Nd} (hst:st[i]? = some (aOf p room ns).lo) (hl:ns.length≤512) {k:Nat} (hk:k<ns.length) (hw:isN ns[k].wk) (hlen:ns[k].ch.length≤600)
  {h:Zag} (nd:Nd) (hch:nd.ch=ns[k].ch ++ [h]) (hah:nd.ah=(k:Int)) (hwk:nd.wk=wkAdd ns[k].wk (wkBits h.Bits)) (hid':place 0 (ids ns) (hid h)=none) :
  ZaK N (some i) h (k:Int) (spotA p nd.ch) st=some ((ns.length:Int),st.set i (aOf p room (ns ++ [nd])).lo):=by
 have hd:=nd.hd_snoc hch
 unfold ZaK
 rw [Zfc hN,Zab,if_pos (by simp<;>omega),Zab,hst,ZaN,ZbJ,show (aOf p room ns).list=rowE ns from rfl,ZfD,Zai (by omega),Zai (by omega),Int.toNat_natCast,Nat.zero_add,Zkr hk,ZaN,Zei,show (ns[k].en).Work=nw ns[k].wk from rfl,ZjM (by omega) hw (ZfS _),Zab,show (ns[k].en).Height=(ns[k].ch.length:Int)-1 from rfl,ZaC (by omega) (by omega)]
 have e:ZbM.mk h (spotA p nd.ch).Prev (k:Int) ((ns[k].ch.length:Int)-1+1) (nw (wkAdd ns[k].wk (wkBits h.Bits)))=nd.en:=by
  unfold Nd.en Nd.id
  rw [hd,hch,ZhL,hah,hwk,List.length_append,List.length_singleton]
  congr 1;omega
 rw [e]
 refine ZlG hst hl nd ?_
 unfold Nd.id;rw [hd];exact hid'
theorem keep0_eq (hN:300≤N) {st:LL} {i:Nat} {p:Zad} {room:Int} (hst:st[i]? = some (aOf p room []).lo) {h:Zag} (nd:Nd) (hch:nd.ch = [h]) (hah:nd.ah = -1) (hwk:nd.wk=wkBits h.Bits) :
  ZaK N (some i) h (-1) (spotA p nd.ch) st=some (0,st.set i (aOf p room [nd]).lo):=by
 have hd:nd.hd=h:=nd.hd_snoc (c:=[]) hch
 unfold ZaK
 rw [Zfc hN,Zab,if_neg (by simp)]
 have e:ZbM.mk h (spotA p nd.ch).Prev (-1) 0 (nw (wkBits h.Bits))=nd.en:=by
  unfold Nd.en Nd.id
  rw [hd,hch,show (spotA p [h]).Prev=hid h from ZhL p [] h,hah,hwk];rfl
 rw [e]
 exact ZlG (ns:=[]) hst (by simp) nd rfl
def chAt (ns:List Nd) (k:Nat):List Zag:=(ns[k]?.map Nd.ch).getD []
def wkAt (ns:List Nd) (k:Nat):Int:=(ns[k]?.map Nd.wk).getD 0
theorem Zfn {ns:List Nd} {k:Nat} (h:k<ns.length):chAt ns k=ns[k].ch:=by simp [chAt,h]
theorem Zlg {ns:List Nd} {k:Nat} (h:k<ns.length):wkAt ns k=ns[k].wk:=by simp [wkAt,h]
def nodeOn (ns:List Nd) (k:Nat) (h:Zag):Nd:=⟨chAt ns k ++ [h],(k:Int),wkAdd (wkAt ns k) (wkBits h.Bits)⟩
def addT (p:Zad) (gs:List ZbL) (cs:List Zbw) (room:Int) (ns:List Nd) (h:Zag) (now:Int):Int×Int×Int×List Nd:=
 if hgood h=false then (-1,1,8,ns) else
 match place 0 (ids ns) (hid h) with
 | some k=>((k:Int),0,0,ns)
 | none=>match place 0 (ids ns) h.Prev with
  | none=>(-1,2,5,ns)
  | some k=>if checkS p gs cs (spotA p (chAt ns k)) h now≠0 then (-1,checkS p gs cs (spotA p (chAt ns k)) h now,8,ns)
   else if room≤(ns.length:Int) then (-1,0,6,ns) else ((ns.length:Int),0,0,ns ++ [nodeOn ns k h])
theorem set_same {st:LL} {i:Nat} {x:List L} (h:st[i]? = some x):st.set i x=st:=by
 apply List.ext_getElem?
 intro j
 by_cases e:i=j
 ·subst e
  obtain ⟨hi,e⟩:=List.getElem?_eq_some_iff.1 h
  rw [List.getElem?_set_self hi,h]
 ·rw [List.getElem?_set_ne e]
theorem Zlo (p:Zad) (c:List Zag):wfS (spotA p c)=true:=by
 have h : ∀l:List Zag,∃ts:List Int,(spotA p l).Times=rowI ts∧ts.length≤11:=by
  refine Zil ⟨[],rfl,by simp⟩ (fun l h ih=>?_)
  unfold spotA at *
  rw [List.foldl_append]
  exact ⟨_,rfl,by simp;omega⟩
 obtain ⟨ts,h1,h2⟩:=h c
 simp only [wfS,h1,isI_row,Bool.true_and,decide_eq_true_eq,ZcJ]
 omega
theorem Add_eq (hN:500≤N) {st:LL} {i:Nat} {p:Zad} {gs:List ZbL} {cs:List Zbw} (hg:p.Gates=rowG gs) (hc:p.Checks=rowC cs) (lg:gs.length≤400) (lc:cs.length≤400) {room:Int} (hroom:room≤512) {ns:List Nd} (ht:Tree ns) (hst:st[i]? = some (aOf p room ns).lo)
  {h:Zag} (hh:WfH h) (now:Int) (hnow : -1152921504606846976≤now∧now≤9223372036854775807) :
  ZaA N (some i) h now st=some ((addT p gs cs room ns h now).1,(addT p gs cs room ns h now).2.1,(addT p gs cs room ns h now).2.2.1,st.set i (aOf p room (addT p gs cs room ns h now).2.2.2).lo):=by
 have ss:=set_same hst
 unfold ZaA addT
 rw [if_neg (c:=Option.isNone (some i)=true) (by simp),Zdc,Zab]
 cases hgd:hgood h with
 | false=>rw [if_pos (by rfl),if_pos (c:=false=false) rfl];dsimp only;rw [ss]
 | true=>
  rw [if_neg (c:=(!true)=true) (by simp),if_neg (c:=true=false) (by simp),Zab,hst,ZaN,ZbJ,ZdS hN hh.w,Zab,show (aOf p room ns).places=idMap 0 (ids ns) from rfl,ZfC]
  cases e1:place 0 (ids ns) (hid h) with
  | some k=>
   show ZaA.p1 N i now (k:Int) true h st=_
   unfold ZaA.p1
   rw [if_pos rfl];dsimp only;rw [ss]
  | none=>
   show ZaA.p1 N i now 0 false h st=_
   unfold ZaA.p1
   rw [if_neg (by simp),hst,ZaN,ZbJ,show (aOf p room ns).places=idMap 0 (ids ns) from rfl,ZfC]
   cases e2:place 0 (ids ns) h.Prev with
   | none=>
    show ZaA.p2 N i now 0 false h st=_
    unfold ZaA.p2
    rw [if_pos (by rfl)];dsimp only;rw [ss]
   | some k=>
    show ZaA.p2 N i now (k:Int) true h st=_
    obtain ⟨_,hk,_⟩:=Zgb e2
    have hk':k<ns.length:=by simpa [ids] using hk
    have sw:=Zlo p ns[k].ch
    have isT:isI (spotA p ns[k].ch).Times=true:=by simp only [wfS,Bool.and_eq_true] at sw;exact sw.1
    unfold ZaA.p2
    dsimp only
    rw [if_neg (c:=(!true)=true) (by simp),hst,ZaN,ZbJ,show (aOf p room ns).spots=rowS p ns from rfl,len_rowS,Zai (by omega),Zai (by omega),Int.toNat_natCast,Nat.zero_add,rowS_get hk',ZaN,ZgB,show (aOf p room ns).rules=p from rfl,Zih hN hg hc lg lc hh.w isT now hnow,Zab,Zfn hk']
    by_cases h4:checkS p gs cs (spotA p ns[k].ch) h now=0
    ·rw [if_neg (c:=(checkS p gs cs (spotA p ns[k].ch) h now != 0)=true) (by simp [h4]),if_neg (c:=checkS p gs cs (spotA p ns[k].ch) h now≠0) (by simp [h4]),show (aOf p room ns).list=rowE ns from rfl,ZfD,show (aOf p room ns).room=room from rfl]
     by_cases h5:room≤(ns.length:Int)
     ·rw [if_pos (by simpa using h5),if_pos h5];dsimp only;rw [ss]
     ·rw [if_neg (by simpa using h5),if_neg h5,ZeI hN hh.w sw,Zab]
      have be:behind p (spotA p ns[k].ch) h=spotA p (nodeOn ns k h).ch:=by
       unfold nodeOn spotA
       rw [Zfn hk',List.foldl_append];rfl
      have hm:=List.getElem_mem hk'
      have sm:=ht.small
      have cl:=(ht.ch _ hm).2
      rw [be,keep_eq (by omega) hst ht.small hk' (ht.wk _ hm) (by omega) (nodeOn ns k h) (by unfold nodeOn;rw [Zfn hk']) rfl (by unfold nodeOn;rw [Zlg hk']) e1,Zab]
    ·rw [if_pos (c:=(checkS p gs cs (spotA p ns[k].ch) h now != 0)=true) (by simpa using h4),if_pos (c:=checkS p gs cs (spotA p ns[k].ch) h now≠0) h4];dsimp only;rw [ss]
@[simp] theorem len_rowH (l:List Zag):len (rowH l)=(l.length:Int):=by simp [len]
theorem ZkP (i:Nat) (y:List Int) (l:List (List Int)) (x:List Int):place i (y::l) x=if x=y then some i else place (i+1) l x:=rfl
def placeI (o:Option Nat):Int:=match o with
 | some k=>(k:Int)
 | none=>-1
theorem Tree.one_node {g:Zag} (hg:WfH g):Tree [⟨[g],-1,wkBits g.Bits⟩] where
 small:=by simp
 ch:=fun n hn=>by cases List.mem_singleton.1 hn;simp
 wf:=fun n hn x hx=>by cases List.mem_singleton.1 hn;cases List.mem_singleton.1 hx;exact hg
 wk:=fun n hn=>by cases List.mem_singleton.1 hn;exact ZfS _
 ah:=fun i h=>.inl ⟨by simpa using h,by simp at h;subst h;rfl,by simp at h;subst h;rfl⟩
 one:=by simp [ids]
theorem Tree.grow {ns:List Nd} (ht:Tree ns) {k:Nat} (hk:k<ns.length) {h:Zag} (hh:WfH h) (hs:ns.length<512) (hid':place 0 (ids ns) (hid h)=none):Tree (ns ++ [nodeOn ns k h]):=by
 have hm:=List.getElem_mem hk
 have cl:=ht.ch _ hm
 have hc:(nodeOn ns k h).ch=ns[k].ch ++ [h]:=by unfold nodeOn;rw [Zfn hk]
 have hd:=(nodeOn ns k h).hd_snoc rfl
 refine ⟨by simp;omega,?_,?_,?_,?_,?_⟩
 ·intro n hn
  rcases List.mem_append.1 hn with hn | hn
  ·have:=ht.ch n hn;exact ⟨this.1,by simp;omega⟩
  ·cases List.mem_singleton.1 hn
   rw [hc];exact ⟨by simp,by simp;omega⟩
 ·intro n hn x hx
  rcases List.mem_append.1 hn with hn | hn
  ·exact ht.wf n hn x hx
  ·cases List.mem_singleton.1 hn
   rw [hc] at hx
   rcases List.mem_append.1 hx with hx | hx
   ·exact ht.wf _ hm x hx
   ·cases List.mem_singleton.1 hx;exact hh
 ·intro n hn
  rcases List.mem_append.1 hn with hn | hn
  ·exact ht.wk n hn
  ·cases List.mem_singleton.1 hn
   unfold nodeOn;rw [Zlg hk]
   exact Zlh (ht.wk _ hm) (ZfS _)
 ·intro i hi
  by_cases hlt:i<ns.length
  ·rw [List.getElem_append_left hlt]
   rcases ht.ah i hlt with a | ⟨q,hq,a,b⟩
   ·exact .inl a
   ·exact .inr ⟨q,hq,a,by rw [List.getElem_append_left (by omega)];exact b⟩
  ·have:i=ns.length:=by simp at hi;omega
   subst this
   refine .inr ⟨k,hk,?_,?_⟩
   ·rw [List.getElem_append_right (by omega)];simp [nodeOn]
   ·rw [List.getElem_append_right (by omega),List.getElem_append_left hk]
    simp only [Nat.sub_self,List.getElem_singleton]
    rw [hc,hd]
 ·have np:=ZhT hid'
  unfold ids at *
  rw [List.map_append,List.nodup_append]
  refine ⟨ht.one,by simp,?_⟩
  intro a ha b hb
  simp only [List.map_cons,List.map_nil,List.mem_singleton] at hb
  subst hb
  intro e
  unfold Nd.id at e
  rw [hd] at e
  exact np (by rw [←e];exact ha)
theorem Zgj (p:Zad) (gs:List ZbL) (cs:List Zbw) (room:Int) (ns:List Nd) (h:Zag) (now:Int) :
  (addT p gs cs room ns h now).2.2.2=ns∨∃k:Nat,k<ns.length∧hgood h=true∧place 0 (ids ns) (hid h)=none∧checkS p gs cs (spotA p (chAt ns k)) h now=0∧(ns.length:Int)<room ∧
   addT p gs cs room ns h now=((ns.length:Int),0,0,ns ++ [nodeOn ns k h]):=by
 unfold addT
 by_cases hg:hgood h=false
 ·rw [if_pos hg];exact .inl rfl
 rw [if_neg hg]
 cases e1:place 0 (ids ns) (hid h) with
 | some k=>exact .inl rfl
 | none=>
  dsimp only
  cases e2:place 0 (ids ns) h.Prev with
  | none=>exact .inl rfl
  | some k=>
   dsimp only
   obtain ⟨_,hk,_⟩:=Zgb e2
   have hk':k<ns.length:=by simpa [ids] using hk
   by_cases h1:checkS p gs cs (spotA p (chAt ns k)) h now=0
   ·rw [if_neg (by simp [h1])]
    by_cases h2:room≤(ns.length:Int)
    ·rw [if_pos h2];exact .inl rfl
    ·rw [if_neg h2]
     exact .inr ⟨k,hk',by simpa using hg,rfl,h1,by omega,rfl⟩
   ·rw [if_pos h1];exact .inl rfl
theorem Zmf {p:Zad} {gs:List ZbL} {cs:List Zbw} {room:Int} (hr:room≤512) {ns:List Nd} (ht:Tree ns) {h:Zag} (hh:WfH h) (now:Int):Tree (addT p gs cs room ns h now).2.2.2:=by
 rcases Zgj p gs cs room ns h now with e | ⟨k,hk,_,hi,_,hl,e⟩
 ·rw [e];exact ht
 ·rw [e];exact ht.grow hk hh (by omega) hi
theorem addT_len (p:Zad) (gs:List ZbL) (cs:List Zbw) (room:Int) (ns:List Nd) (h:Zag) (now:Int):ns.length≤(addT p gs cs room ns h now).2.2.2.length∧(addT p gs cs room ns h now).2.2.2.length≤ns.length+1:=by
 rcases Zgj p gs cs room ns h now with e | ⟨k,hk,_,hi,_,hl,e⟩
 ·rw [e];omega
 ·rw [e];simp
def roomOf (room:Int):Int:=if (512:Int)<(if (1:Int)>room then 1 else room) then 512 else (if (1:Int)>room then 1 else room)
theorem Zje (r:Int):1≤roomOf r∧roomOf r≤512:=by unfold roomOf;split<;>split<;>omega
def rootN (p:Zad):Nd:=⟨[p.Genesis],-1,wkBits p.Genesis.Bits⟩
theorem set_last (st:LL) (a b:List L):(st ++ [a]).set st.length b=st ++ [b]:=by simp
theorem New_eq (hN:500≤N) {p:Zad} {gs:List ZbL} {cs:List Zbw} (hg:p.Gates=rowG gs) (hc:p.Checks=rowC cs) (lg:gs.length≤400) (lc:cs.length≤400) (hp:WfP p) (room:Int) (st:LL) :
  Zcy N p room st=if rgood p gs cs=true then some (some st.length,0,st ++ [(aOf p (roomOf room) [rootN p]).lo]) else some (none,1,st):=by
 unfold Zcy
 rw [ZiW hN hg lg hc lc,Zab]
 cases hgd:rgood p gs cs with
 | false=>rfl
 | true=>
  have pp:({p with Gates:=[]++p.Gates,Checks:=[]++p.Checks}:Zad)=p:=rfl
  rw [if_neg (c:=(!true)=true) (by simp),pp,Zai (by rw [hg,List.nil_append,Zhb];omega),Zai (by rw [hc,List.nil_append,Zhc];omega),Zhy hN hp.h.w,Zab]
  have hst:(st ++ [(aOf p (roomOf room) []).lo])[st.length]? = some (aOf p (roomOf room) []).lo:=by simp
  have k:=keep0_eq (N:=N) (by omega) hst (h:=p.Genesis) (rootN p) rfl rfl rfl
  rw [set_last] at k
  rw [if_pos (c:=true=true) rfl]
  show optE (ZaK N (some st.length) p.Genesis (-1) (spotA p (rootN p).ch) (st ++ [(aOf p (roomOf room) []).lo])) _=_
  rw [k,Zab]
theorem ZgP (p:Zad) (room:Int) (ns:List Nd):ZaU N (aOf p room ns)=some (ns.length:Int):=by
 unfold ZaU;rw [show (aOf p room ns).list=rowE ns from rfl,ZfD]
theorem Zmg (p:Zad) (room:Int) (ns:List Nd):ZbN N (aOf p room ns)=some room:=rfl
theorem Zmj (p:Zad) (room:Int) (ns:List Nd) (x:List Int):ZbO N (aOf p room ns) x=some (placeI (place 0 (ids ns) x)):=by
 unfold ZbO
 rw [show (aOf p room ns).places=idMap 0 (ids ns) from rfl,ZfC]
 cases place 0 (ids ns) x<;>rfl
theorem Zmm (p:Zad) (room:Int) {ns:List Nd} {k:Nat} (hk:k<ns.length):Zbx N (aOf p room ns) (k:Int)=some (ns[k].en,true):=by
 unfold Zbx ZbW
 rw [show (aOf p room ns).list=rowE ns from rfl,ZfD,if_pos (by simp),Zab,if_neg (by simp<;>omega),Zai (by omega),Zai (by omega),Int.toNat_natCast,Zkr hk,ZaN,Zei]
end Go.Dn.F
set_option maxRecDepth 100000
namespace Go.Dn.F
open Go.Dn Go.Proofs
variable {N:Nat}
abbrev tysCm:List Ty:=[.int .i64,.arr .u8 32,.arr .u8 32,.int .i64,.int .i64,.int .i64,.int .i64]
structure WfCm (c:Zbc):Prop where
 h:WfH c.Header
 n:i64R c.Now
noncomputable def rowCm (l:List Zbc):LL:=l.map Zbc.ls
theorem Zjb {l:List Zbc} {i:Nat} (h:i<l.length):(rowCm l)[i]? = some l[i].ls:=by simp [rowCm,h]
@[simp] theorem Zjt (l:List Zbc):len (rowCm l)=(l.length:Int):=by simp [len,rowCm]
@[simp] theorem Zja (l:List Zbc):(rowCm l).length=l.length:=by simp [rowCm]
theorem open_Cm {xs:LL} (h : ∀x∈xs,LTys tysCm x) : ∃l,xs=rowCm l∧∀x∈l,WfCm x:=
 decode fun x hx=>by
  obtain ⟨_,_,rfl,h1,h⟩:=(h x hx).cons_inv
  obtain ⟨_,_,rfl,h2,h⟩:=h.cons_inv
  obtain ⟨_,_,rfl,h3,h⟩:=h.cons_inv
  obtain ⟨_,_,rfl,h4,h⟩:=h.cons_inv
  obtain ⟨_,_,rfl,h5,h⟩:=h.cons_inv
  obtain ⟨_,_,rfl,h6,h⟩:=h.cons_inv
  obtain ⟨_,_,rfl,h7,h⟩:=h.cons_inv
  cases h.nil_inv
  obtain ⟨a1,rfl,w1⟩:=h1.int_inv
  obtain ⟨a2,rfl,k2,w2⟩:=h2.arr_inv
  obtain ⟨a3,rfl,k3,w3⟩:=h3.arr_inv
  obtain ⟨a4,rfl,w4⟩:=h4.int_inv
  obtain ⟨a5,rfl,w5⟩:=h5.int_inv
  obtain ⟨a6,rfl,w6⟩:=h6.int_inv
  obtain ⟨a7,rfl,w7⟩:=h7.int_inv
  refine ⟨⟨⟨a1,a2,a3,a4,a5,a6⟩,a7⟩,rfl,⟨⟨ZdF w1,?_,ZdF w4,ZdF w5,ZdF w6⟩,ZdF w7⟩⟩
  simp only [wfH,Bool.and_eq_true]
  exact ⟨Zkk k2 w2,Zkk k3 w3⟩
theorem ZkZ (p:Zad) (l:List Zbc) (hl:l.length<N) (hb:l.length≤maxLen) : ∃b,Zbo N p (rowCm l)=some b∧(b=false→(∀x∈l,0≤x.Now)∧p.Gates.length≤20∧p.Checks.length≤20∧l.length≤40):=by
 unfold Zbo
 have hm:maxLen=9223372036854775807:=rfl
 refine Zgd (fun m (v:Int)=>∃k:Nat,k+m=l.length∧v=(k:Int)∧∀x∈l.take k,0≤x.Now) ?_ N l.length 0 ⟨0,by omega,rfl,by simp⟩ hl
 rintro G m _ ⟨k,hk,rfl,ha⟩ hG
 unfold Zbo.p1
 rw [Zjt]
 by_cases hlt:k<l.length
 ·rw [if_pos (by simp<;>omega),Zai (by omega),Int.toNat_natCast,Zjb hlt,ZaN,Zds,ZaC (by omega) (by omega)]
  by_cases h:l[k].Now<0
  ·rw [if_pos (by simpa using h)];exact ⟨true,rfl,fun h=>by cases h⟩
  ·rw [if_neg (by simpa using h)]
   refine hG (m-1) _ (by omega) ⟨k+1,by omega,by omega,fun x hx=>?_⟩
   rw [List.take_succ_eq_append_getElem hlt] at hx
   rcases List.mem_append.1 hx with hx | hx
   ·exact ha x hx
   ·cases List.mem_singleton.1 hx;omega
 ·rw [if_neg (by simp<;>omega)]
  rw [List.take_of_length_le (by omega)] at ha
  by_cases h1:len p.Gates>20
  ·rw [if_pos (by simpa using h1)];exact ⟨true,rfl,fun h=>by cases h⟩
  rw [if_neg (by simpa using h1)]
  by_cases h2:len p.Checks>20
  ·rw [if_pos (by simpa using h2)];exact ⟨true,rfl,fun h=>by cases h⟩
  rw [if_neg (by simpa using h2)]
  refine ⟨_,rfl,fun h=>⟨ha,?_,?_,?_⟩⟩<;>simp [len] at h1 h2 h<;>omega
def pA:Zad:=⟨545259519,4,10,0,false,[],[],List.replicate 4 0,List.replicate 4 0,h0⟩
theorem h0_wf:WfH h0:=⟨by unfold i64R h0;simp,by unfold wfH h0;decide,by unfold i64R h0;simp,by unfold i64R h0;simp,by unfold i64R h0;simp⟩
theorem pA_wf:WfP pA where
 l:=by unfold i64R pA;simp
 i:=by unfold i64R pA;simp
 s:=by unfold i64R pA;simp
 f:=by unfold i64R pA;simp
 g:=by unfold pA;simp
 gl:=by unfold pA;simp
 c:=by unfold pA;simp
 cl:=by unfold pA;simp
 m:=by unfold pA;exact ⟨rfl,fun x hx=>by obtain ⟨_,rfl⟩:=List.mem_replicate.1 hx;decide⟩
 r:=by unfold pA;exact ⟨rfl,fun x hx=>by obtain ⟨_,rfl⟩:=List.mem_replicate.1 hx;decide⟩
 h:=h0_wf
theorem pA_new (hN:1000≤N):Zcy N pA 5 []=some (some 0,0,[(aOf pA 5 [rootN pA]).lo]):=by
 rw [New_eq (gs:=[]) (cs:=[]) (by omega) rfl rfl (by simp) (by simp) pA_wf 5 [],if_pos (by kernel_rfl)]
 rfl
theorem alive12 (hN:1000≤N):Zce N []=some (true,[(aOf pA 5 [rootN pA]).lo]):=by
 unfold Zce
 rw [show (Zad.mk 545259519 4 10 0 false [] [] (List.replicate 4 0) (List.replicate 4 0) (Zag.mk 0 (List.replicate 32 0) (List.replicate 32 0) 0 0 0))=pA from rfl,pA_new hN,Zab]
 dsimp only
 rw [if_pos (by rfl),Zab,show ([(aOf pA 5 [rootN pA]).lo]:LL)[0]? = some (aOf pA 5 [rootN pA]).lo from rfl,ZaN,ZbJ,ZgP,Zab,if_pos (by rfl),Zmg,Zab,if_pos (by rfl),show (Zag.mk 0 (List.replicate 32 0) (List.replicate 32 0) 0 0 0)=h0 from rfl,ZgF (by omega) _ h0_wf.w,Zab,Zmj,Zab]
 have:place 0 (ids [rootN pA]) (hid h0)=some 0:=by
  show place 0 [hid h0] (hid h0)=some 0
  rw [ZkP,if_pos rfl]
 rw [this]
 rfl
theorem Zjn (ns:List Nd) (k:Nat) (h:Zag):(nodeOn ns k h).hd=h:=Nd.hd_snoc (c:=chAt ns k) rfl
theorem Tree.hd_wf {ns:List Nd} (ht:Tree ns) {k:Nat} (hk:k<ns.length):WfH ns[k].hd:=by
 have cm:=(ht.ch _ (List.getElem_mem hk)).1
 have:ns[k].hd∈ns[k].ch:=by
  unfold Nd.hd
  rw [List.getLast?_eq_some_getLast cm]
  exact List.getLast_mem cm
 exact ht.wf _ (List.getElem_mem hk) _ this
structure Stood (p:Zad) (gs:List ZbL) (cs:List Zbw) (ns:List Nd) (cm:List Int):Prop where
 len:cm.length=ns.length
 gen : ∀n∈ns,n.ch.head? = some p.Genesis
 chk : ∀(i:Nat) (n:Nd) (t:Int),ns[i]? = some n→cm[i]? = some t→0<i→∃(k:Nat) (m:Nd),k<i∧ns[k]? = some m∧n.ah=(k:Int)∧n.ch=m.ch ++ [n.hd]∧checkS p gs cs (spotA p m.ch) n.hd t=0∧0≤t∧t≤9223372036854775807
theorem Stood.root (p:Zad) (gs:List ZbL) (cs:List Zbw):Stood p gs cs [rootN p] [0] where
 len:=rfl
 gen:=fun n hn=>by cases List.mem_singleton.1 hn;rfl
 chk:=fun i n t hn _ hi=>by
  obtain ⟨h,_⟩:=List.getElem?_eq_some_iff.1 hn
  simp at h;omega
theorem Zle {p:Zad} {gs:List ZbL} {cs:List Zbw} {room:Int} {ns:List Nd} {cm:List Int} (ht:Tree ns) (hs:Stood p gs cs ns cm) (h:Zag) (now:Int) (hnow:0≤now∧now≤9223372036854775807) :
  ((addT p gs cs room ns h now).2.2.2=ns)∨((addT p gs cs room ns h now).2.2.2.length=ns.length+1∧Stood p gs cs (addT p gs cs room ns h now).2.2.2 (cm ++ [now])):=by
 rcases Zgj p gs cs room ns h now with e | ⟨k,hk,hh,hi,h0,hl,e⟩
 ·exact .inl e
 ·rw [e]
  refine .inr ⟨by simp,⟨by simp [hs.len],fun n hn=>?_,fun i n t hn htm hi0=>?_⟩⟩
  ·rcases List.mem_append.1 hn with hn | hn
   ·exact hs.gen n hn
   ·cases List.mem_singleton.1 hn
    have g:=hs.gen _ (List.getElem_mem hk)
    show (chAt ns k ++ [h]).head? = _
    rw [Zfn hk,List.head?_append,g];rfl
  ·by_cases hlt:i<ns.length
   ·rw [List.getElem?_append_left hlt] at hn
    rw [List.getElem?_append_left (by rw [hs.len];exact hlt)] at htm
    obtain ⟨q,m,h1,h2,h3⟩:=hs.chk i n t hn htm hi0
    exact ⟨q,m,h1,by rw [List.getElem?_append_left (by omega)];exact h2,h3⟩
   ·have hl1:i=ns.length:=by
     obtain ⟨h,_⟩:=List.getElem?_eq_some_iff.1 hn
     simp at h;omega
    subst hl1
    rw [List.getElem?_append_right (Nat.le_refl _),Nat.sub_self] at hn
    rw [List.getElem?_append_right (by rw [hs.len];exact Nat.le_refl _),hs.len,Nat.sub_self] at htm
    cases hn;cases htm
    have e1:ns[k]? = some ns[k]:=List.getElem?_eq_getElem hk
    refine ⟨k,ns[k],hk,by rw [List.getElem?_append_left hk];exact e1,rfl,?_,?_,hnow⟩
    ·rw [Zjn];show chAt ns k ++ [h]=_;rw [Zfn hk]
    ·rw [Zjn,←Zfn hk];exact h0
theorem one_hd {n:Nd} (h:n.ch.length=1):n.ch = [n.hd]:=by
 obtain ⟨x,e⟩:=List.length_eq_one_iff.1 h
 unfold Nd.hd;rw [e];rfl
theorem ZhD (hN:1000≤N) {p:Zad} {gs:List ZbL} {cs:List Zbw} (hg:p.Gates=rowG gs) (hc:p.Checks=rowC cs) (lg:gs.length≤400) (lc:cs.length≤400) {room:Int}
  {a:Nat} {st:LL} {ns:List Nd} {cm:List Int} (ht:Tree ns) (hs:Stood p gs cs ns cm) (h41:ns.length≤41) (ha:st[a]? = some (aOf p room ns).lo) {i:Nat} (hi:i<ns.length) (hi0:0<i) (c3:(Option Nat)×Int→Option (Bool×LL)) :
  loopN (Zaf.p4 N c3 a (rowI cm) (i:Int) p ns[i].en st) N ([],(ns[i].en).Ahead)=c3 (some a,((i+1:Nat):Int)):=by
 have hic:i<cm.length:=by rw [hs.len];exact hi
 obtain ⟨k0,m0,hk0,em0,ea,ec,ech,h0,h1⟩:=hs.chk i ns[i] cm[i] (List.getElem?_eq_getElem hi) (List.getElem?_eq_getElem hic) hi0
 have hk0':k0<ns.length:=by omega
 rw [List.getElem?_eq_getElem hk0'] at em0
 cases em0
 have cA:=ht.ch _ (List.getElem_mem hk0')
 refine ZbI (fun m (s:LL×Int)=>∃(q:Nat) (c:List Zag),q=m∧s=(rowH c,(q:Int)-1)∧q≤i∧((q=0∧c=ns[k0].ch)∨∃h:0<q∧q-1<ns.length,ns[q-1].ch++c=ns[k0].ch)) ?_ N (k0+1) _ ⟨k0+1,[],rfl,?_,by omega,.inr ⟨⟨by omega,by omega⟩,by simp⟩⟩ (by omega)
 ·rintro G m _ ⟨q,c,rfl,rfl,hqi,ho⟩ hG
  unfold Zaf.p4
  dsimp only
  rcases ho with ⟨rfl,rfl⟩ | ⟨⟨hq0,hq1⟩,ho⟩
  ·have g:=hs.gen _ (List.getElem_mem hk0')
   have hw2 : ∀x∈ns[k0].ch,wfH x=true:=fun x hx=>(ht.wf _ (List.getElem_mem hk0') x hx).w
   have lpos:0<ns[k0].ch.length:=List.length_pos_iff.2 cA.1
   have e0:(rowH ns[k0].ch)[0]? = some p.Genesis.ls:=by
    rw [Zft lpos]
    rw [List.head?_eq_getElem?,List.getElem?_eq_getElem lpos] at g
    rw [Option.some.inj g]
   rw [if_neg (by simp),Zai (by simp only [len,Zha];omega),e0,ZaN,ZcV,if_neg (by simp),Zai (by omega),Zai (by simp [len];omega),Nat.zero_add,Int.toNat_natCast,Zik hic,ZaN,ZcN,show (ns[i].en).Header=ns[i].hd from rfl,Zhz (by omega) hg lg hc lc _ lpos (by omega) hw2 (ht.hd_wf hi).w _ ⟨h0,h1⟩,Zab,ech,if_neg (by simp),ZaC (by omega) (by omega)]
   rfl
  ·obtain ⟨j,rfl⟩ : ∃j,q=j+1:=⟨q-1,by omega⟩
   simp only [Nat.add_sub_cancel] at ho hq1
   have lo:=congrArg List.length ho
   rw [List.length_append] at lo
   have cj:=ht.ch _ (List.getElem_mem hq1)
   have lj:0<ns[j].ch.length:=List.length_pos_iff.2 cj.1
   rw [show ((j+1:Nat):Int)-1=(j:Int) by omega,if_pos (by simp),ha,ZaN,ZbJ,Zmm p room hq1,Zab]
   dsimp only
   have e1 : [(ns[j].en).Header.ls]++rowH c=rowH (ns[j].hd::c):=rfl
   rw [if_neg (by simp),if_neg (by simp<;>omega),if_neg (by simp [len]<;>omega),e1,Zai (by rw [Zha,List.length_cons];omega),show (ns[j].en).Ahead=ns[j].ah from rfl]
   rcases ht.ah j hq1 with ⟨z,x,y⟩ | ⟨k',hk',x,y⟩
   ·rw [x]
    refine hG 0 _ (by omega) ⟨0,_,rfl,rfl,by omega,.inl ⟨rfl,?_⟩⟩
    rw [←ho,one_hd y];rfl
   ·rw [x]
    refine hG (k'+1) _ (by omega) ⟨k'+1,_,rfl,by rw [show ((k'+1:Nat):Int)-1=(k':Int) by omega],by omega,.inr ⟨⟨by omega,by simp;omega⟩,?_⟩⟩
    simp only [Nat.add_sub_cancel]
    rw [←ho,y];simp
 ·rw [show (ns[i].en).Ahead=ns[i].ah from rfl,ea]
  simp [rowH]
theorem ZhE (hN:1000≤N) {p:Zad} {gs:List ZbL} {cs:List Zbw} (hg:p.Gates=rowG gs) (hc:p.Checks=rowC cs) (lg:gs.length≤400) (lc:cs.length≤400) {room:Int}
  {a:Nat} {st:LL} {ns:List Nd} {cm:List Int} (ht:Tree ns) (hs:Stood p gs cs ns cm) (h1:1≤ns.length) (h41:ns.length≤41) (ha:st[a]? = some (aOf p room ns).lo) :
  loopN (Zaf.p3 N (rowI cm) p st) N (some a,1)=some (true,st):=by
 refine ZbI (fun m (s:(Option Nat)×Int)=>∃i:Nat,i+m=ns.length∧0<i∧s=(some a,(i:Int))) ?_ N (ns.length-1) _ ⟨1,by omega,by omega,rfl⟩ (by omega)
 rintro G m _ ⟨i,hi,hi0,rfl⟩ hG
 unfold Zaf.p3
 dsimp only
 rw [Zab,ha,ZaN,ZbJ,ZgP,Zab]
 by_cases hlt:i<ns.length
 ·rw [if_pos (by simp<;>omega),Zmm p room hlt,Zab]
  dsimp only
  rw [ZhD hN hg hc lg lc ht hs h41 ha hlt hi0]
  exact hG (m-1) _ (by omega) ⟨i+1,by omega,by omega,rfl⟩
 ·rw [if_neg (by simp<;>omega)]
theorem ZhF {p:Zad} (hp:WfP p) (room:Int) (l:List Zbc) (hl : ∀x∈l,WfCm x) (hb:l.length≤maxLen) :
  ∃st,Zaf (l.length+1000) p room (rowCm l) []=some (true,st):=by
 unfold Zaf
 rw [alive12 (by omega),Zab]
 dsimp only
 rw [if_neg (by simp)]
 obtain ⟨b,e,hgr⟩:=ZkZ (N:=l.length+1000) p l (by omega) hb
 rw [e,Zab]
 cases b with
 | true=>rw [if_pos rfl];exact ⟨_,rfl⟩
 | false=>
  obtain ⟨hn,hG,hC,h40⟩:=hgr rfl
  obtain ⟨gs,eg⟩:=open_G hp.g
  obtain ⟨cs,ec⟩:=open_K hp.c
  have lg:gs.length≤400:=by rw [eg,Zhb] at hG;omega
  have lc:cs.length≤400:=by rw [ec,Zhc] at hC;omega
  generalize hN:l.length+1000=N
  rw [if_neg (by simp),Ziq (by omega) eg lg ec lc,Zab]
  cases hgd:rgood p gs cs with
  | false=>rw [if_pos (by rfl)];exact ⟨_,rfl⟩
  | true=>
   have rr:=Zje room
   rw [if_neg (by simp),New_eq (by omega) eg ec lg lc hp,hgd,if_pos rfl,Zab]
   dsimp only
   rw [show ([(aOf pA 5 [rootN pA]).lo]:LL).length=1 from rfl]
   generalize roomOf room=room at rr ⊢
   have ha:([(aOf pA 5 [rootN pA]).lo] ++ [(aOf p room [rootN p]).lo]:LL)[1]? = some (aOf p room [rootN p]).lo:=rfl
   generalize ([(aOf pA 5 [rootN pA]).lo] ++ [(aOf p room [rootN p]).lo]:LL)=st at ha ⊢
   have key : ∃r,loopN (Zaf.p1 N (rowCm l) p) N (some 1,[[L.int .i64 0]],0,st)=some r∧r.1=true:=by
    refine Zgd (Q:=fun r:Bool×LL=>r.1=true) (fun m (s:(Option Nat)×LL×Int×LL)=>∃(j:Nat) (ns:List Nd) (cm:List Int) (st:LL),s=(some 1,rowI cm,(j:Int),st)∧j+m=l.length∧1≤ns.length∧ns.length≤j+1∧Tree ns∧Stood p gs cs ns cm∧st[1]? = some (aOf p room ns).lo) ?_ N l.length _ ⟨0,[rootN p],[0],st,rfl,by omega,by simp,by simp,Tree.one_node hp.h,Stood.root p gs cs,ha⟩ (by omega)
    rintro G m _ ⟨j,ns,cm,st,rfl,hj,hp1,h1,ht,hs,ha⟩ hG
    unfold Zaf.p1 Zaf.p2
    dsimp only
    rw [Zjt]
    by_cases hlt:j<l.length
    ·have wx:=hl _ (List.getElem_mem hlt)
     have nx:=hn _ (List.getElem_mem hlt)
     have rx:=wx.n
     unfold i64R at rx
     have cl:=hs.len
     have t1:=Zmf (p:=p) (gs:=gs) (cs:=cs) rr.2 ht wx.h l[j].Now
     have l1:=addT_len p gs cs room ns l[j].Header l[j].Now
     have a1:(st.set 1 (aOf p room (addT p gs cs room ns l[j].Header l[j].Now).2.2.2).lo)[1]? = some (aOf p room (addT p gs cs room ns l[j].Header l[j].Now).2.2.2).lo:=List.getElem?_set_self (List.getElem?_eq_some_iff.1 ha).1
     rw [if_pos (by simp<;>omega),Zai (by omega),Int.toNat_natCast,Zjb hlt,ZaN,Zds,Zab,ha,ZaN,ZbJ,ZgP,Zab,Add_eq (by omega) eg ec lg lc rr.2 ht ha wx.h _ (by omega),Zab]
     dsimp only
     rw [a1,ZaN,ZbJ,ZgP,Zab,ZaC (by omega) (by omega)]
     rcases Zle (room:=room) ht hs l[j].Header l[j].Now (by omega) with e | ⟨e1,e2⟩
     ·rw [if_neg (by rw [e];simp),e]
      rw [e] at a1
      exact hG (m-1) _ (by omega) ⟨j+1,ns,cm,_,by rw [Int.natCast_add];rfl,by omega,by omega,by omega,ht,hs,a1⟩
     ·rw [if_pos (by simp only [decide_eq_true_eq];omega),Zij,Zfi,Zai (by rw [ZcJ,List.length_append,List.length_singleton];omega)]
      exact hG (m-1) _ (by omega) ⟨j+1,_,_,_,by rw [Int.natCast_add];rfl,by omega,by omega,by omega,t1,e2,a1⟩
    ·rw [if_neg (by simp<;>omega),ZhE (by omega) eg ec lg lc ht hs hp1 (by omega) ha]
     exact ⟨_,rfl,rfl⟩
   obtain ⟨⟨r1,r2⟩,h1,h2⟩:=key
   dsimp only at h2
   exact ⟨r2,by rw [h1,h2]⟩
theorem ArenaStands_true {ls:List L} (room:Int) (xs:LL) (h0:LTys tysP ls) (w1:(Lit.int .i64 room).wf=true) (h2 : ∀x∈xs,LTys tysCm x) (l2:xs.length≤maxLen) :
  ∃st,Snd Tryz.prog 4 [.agg ls,.one (.int .i64 room),.one (.sl 69 xs)] [] [.one (.bool true)] st:=by
 obtain ⟨p,rfl,hp⟩:=open_P h0
 obtain ⟨l,rfl,hl⟩:=open_Cm h2
 obtain ⟨st,h⟩:=ZhF hp room l hl (by rw [Zja] at l2;exact l2)
 exact ⟨st,Zaf.snd h⟩
end Go.Dn.F
