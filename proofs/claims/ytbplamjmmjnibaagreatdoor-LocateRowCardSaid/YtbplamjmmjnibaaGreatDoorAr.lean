/- A tree of headers, as a row of nodes, each with its whole chain; the program's arena of such a tree. -/
import Derived.Test.YtbplamjmmjnibaaGreatDoorNum
import Derived.Test.YtbplamjmmjnibaaGreatDoorRul
set_option linter.unusedSimpArgs false
set_option linter.unusedVariables false
set_option maxRecDepth 40000
namespace Go.Dn.F
open Go.Dn Go.Proofs
variable {N:Nat}
structure Nd where
 ch:List Zah
 ah:Int
 wk:Int
def h0:Zah:=⟨0,List.replicate 32 0,List.replicate 32 0,0,0,0⟩
def Nd.hd (n:Nd):Zah:=n.ch.getLast?.getD h0
def Nd.id (n:Nd):List Int:=hid n.hd
noncomputable def Nd.en (n:Nd):ZbL:=⟨n.hd,n.id,n.ah,(n.ch.length:Int)-1,nw n.wk⟩
noncomputable def rowE (ns:List Nd):LL:=ns.map fun n=>n.en.ls
noncomputable def rowS (p:Zae) (ns:List Nd):LL:=ns.map fun n=>(spotA p n.ch).ls
def idMap:Nat→List (List Int)→LM
 | _,[]=>[]
 | i,x::l=>(L.arr .u8 32 x,L.int .i64 (i:Int))::idMap (i+1) l
def ids (ns:List Nd):List (List Int):=ns.map Nd.id
def place:Nat→List (List Int)→List Int→Option Nat
 | _,[],_=>none
 | i,y::l,x=>if x=y then some i else place (i+1) l x
theorem ZgJ : ∀(l:List (List Int)) (i:Nat) (x:List Int),mfind (idMap i l) (L.arr .u8 32 x)=some ((place i l x).map fun k=>(k-i,L.int .i64 (k:Int)))
 | [],i,x=>rfl
 | y::l,i,x=>by
  rw [idMap,mfind]
  simp only [keyEq,and_self,if_true]
  unfold place
  by_cases h:x=y
  ·subst h;simp
  ·rw [show (x==y)=false by simpa using h,if_neg h,ZgJ l (i+1) x]
   cases e:place (i+1) l x with
   | none=>rfl
   | some k=>
    have : ∀(l:List (List Int)) (i k:Nat),place i l x=some k→i≤k:=by
     intro l
     induction l with
     | nil=>intro i k h;cases h
     | cons z l ih=>
      intro i k h
      unfold place at h
      split at h
      ·cases h;omega
      ·have:=ih _ _ h;omega
    have:=this l (i+1) k e
    simp only [Option.map_some]
    rw [show k-(i+1)+1=k-i by omega]
theorem Zhz : ∀(l:List (List Int)) (i:Nat) (x:List Int),idMap i (l ++ [x])=idMap i l ++ [(L.arr .u8 32 x,L.int .i64 ((i+l.length:Nat):Int))]
 | [],i,x=>rfl
 | y::l,i,x=>by rw [List.cons_append,idMap,Zhz l (i+1) x,idMap,List.length_cons,show i+1+l.length=i+(l.length+1) by omega];rfl
theorem ZeK : ∀{l:List (List Int)} {i k:Nat} {x:List Int},place i l x=some k→i≤k∧∃h:k-i<l.length,l[k-i]=x
 | y::l,i,k,x,h=>by
  unfold place at h
  split at h
  ·rename_i e;cases h;exact ⟨by omega,by simp,by simp [e]⟩
  ·obtain ⟨h1,h2,h3⟩:=ZeK h
   refine ⟨by omega,by simp;omega,?_⟩
   have:k-i=(k-(i+1))+1:=by omega
   simp only [this,List.getElem_cons_succ];exact h3
theorem ZiZ : ∀{l:List (List Int)} {i:Nat} {x:List Int},place i l x=none→x∉l
 | [],_,_,_=>by simp
 | y::l,i,x,h=>by
  unfold place at h
  split at h
  ·cases h
  ·rename_i e;simp [e,ZiZ h]
noncomputable def aOf (p:Zae) (room:Int) (ns:List Nd):Zau:=⟨p,rowE ns,rowS p ns,idMap 0 (ids ns),room⟩
theorem ZlL {ns:List Nd} {i:Nat} (h:i<ns.length):(rowE ns)[i]? = some ns[i].en.ls:=by simp [rowE,h]
theorem rowS_get {p:Zae} {ns:List Nd} {i:Nat} (h:i<ns.length):(rowS p ns)[i]? = some (spotA p ns[i].ch).ls:=by simp [rowS,h]
@[simp] theorem ZgK (ns:List Nd):len (rowE ns)=(ns.length:Int):=by simp [len,rowE]
@[simp] theorem len_rowS (p:Zae) (ns:List Nd):len (rowS p ns)=(ns.length:Int):=by simp [len,rowS]
structure Tree (ns:List Nd):Prop where
 small:ns.length≤512
 ch : ∀n∈ns,n.ch ≠ []∧n.ch.length≤ns.length
 wf : ∀n∈ns,∀x∈n.ch,WfH x
 wk : ∀n∈ns,isN n.wk
 ah : ∀(i:Nat) (h:i<ns.length),(i=0∧ns[i].ah = -1∧ns[i].ch.length=1)∨∃(k:Nat) (hk:k<i),ns[i].ah=(k:Int)∧ns[i].ch=ns[k].ch ++ [ns[i].hd]
 one:(ids ns).Nodup
theorem Nd.hd_snoc {n:Nd} {c:List Zah} {h:Zah} (e:n.ch=c ++ [h]):n.hd=h:=by unfold Nd.hd;rw [e];simp
theorem ZiN (p:Zae) (c:List Zah) (h:Zah):(spotA p (c ++ [h])).Prev=hid h:=by
 unfold spotA;rw [List.foldl_append];rfl
theorem Znp {st:LL} {i:Nat} {p:Zae} {room:Int} {ns:List Nd} (hst:st[i]? = some (aOf p room ns).lo) (hl:ns.length≤512) (nd:Nd) (hid':place 0 (ids ns) nd.id=none) :
  ZaT.p1 N (some i) (spotA p nd.ch) nd.en st=some ((ns.length:Int),st.set i (aOf p room (ns ++ [nd])).lo):=by
 unfold ZaT.p1
 have e1:(aOf p room ns).list ++ [nd.en.ls]=rowE (ns ++ [nd]):=by show rowE ns++_=_;simp [rowE]
 have e2:(aOf p room ns).spots ++ [(spotA p nd.ch).ls]=rowS p (ns ++ [nd]):=by show rowS p ns++_=_;simp [rowS]
 have e3:(aOf p room ns).places ++ [(L.arr .u8 32 nd.en.Id,L.int .i64 (ns.length:Int))]=idMap 0 (ids (ns ++ [nd])):=by
  show idMap 0 (ids ns)++_=_
  unfold ids
  rw [List.map_append]
  show _=idMap 0 (List.map Nd.id ns ++ [nd.id])
  rw [Zhz,List.length_map,Nat.zero_add];rfl
 have l1:(rowE (ns ++ [nd])).length=ns.length+1:=by simp [rowE]
 have l2:(rowS p (ns ++ [nd])).length=ns.length+1:=by simp [rowS]
 rw [Zac,hst,ZaL,Zcw,e1,e2,Zai (by rw [l1];omega),Zai (by rw [l2];omega),show mfind (aOf p room ns).places (L.arr .u8 32 nd.en.Id)=some none by
  show mfind (idMap 0 (ids ns)) (L.arr .u8 32 nd.id)=_
  rw [ZgJ,hid'];rfl]
 show some _=_
 rw [ZgK,List.length_append,List.length_singleton,ZaE (by omega) (by omega),show ((ns.length+1:Nat):Int)-1=(ns.length:Int) by omega,e3]
 simp only [List.set_set]
 rfl
theorem keep_eq (hN:300≤N) {st:LL} {i:Nat} {p:Zae} {room:Int} {ns:List Nd} (hst:st[i]? = some (aOf p room ns).lo) (hl:ns.length≤512) {k:Nat} (hk:k<ns.length) (hw:isN ns[k].wk) (hlen:ns[k].ch.length≤600)
  {h:Zah} (nd:Nd) (hch:nd.ch=ns[k].ch ++ [h]) (hah:nd.ah=(k:Int)) (hwk:nd.wk=wkAdd ns[k].wk (wkBits h.Bits)) (hid':place 0 (ids ns) (hid h)=none) :
  ZaT N (some i) h (k:Int) (spotA p nd.ch) st=some ((ns.length:Int),st.set i (aOf p room (ns ++ [nd])).lo):=by
 have hd:=nd.hd_snoc hch
 unfold ZaT
 rw [Zgg hN,Zac,if_pos (by simp<;>omega),Zac,hst,ZaL,Zcw,show (aOf p room ns).list=rowE ns from rfl,ZgK,Zai (by omega),Zai (by omega),Int.toNat_natCast,Nat.zero_add,ZlL hk,ZaL,Zfa,show (ns[k].en).Work=nw ns[k].wk from rfl,ZkX (by omega) hw (ZfT _),Zac,show (ns[k].en).Height=(ns[k].ch.length:Int)-1 from rfl,ZaE (by omega) (by omega)]
 have e:ZbL.mk h (spotA p nd.ch).Prev (k:Int) ((ns[k].ch.length:Int)-1+1) (nw (wkAdd ns[k].wk (wkBits h.Bits)))=nd.en:=by
  unfold Nd.en Nd.id
  rw [hd,hch,ZiN,hah,hwk,List.length_append,List.length_singleton]
  congr 1;omega
 rw [e]
 refine Znp hst hl nd ?_
 unfold Nd.id;rw [hd];exact hid'
theorem keep0_eq (hN:300≤N) {st:LL} {i:Nat} {p:Zae} {room:Int} (hst:st[i]? = some (aOf p room []).lo) {h:Zah} (nd:Nd) (hch:nd.ch = [h]) (hah:nd.ah = -1) (hwk:nd.wk=wkBits h.Bits) :
  ZaT N (some i) h (-1) (spotA p nd.ch) st=some (0,st.set i (aOf p room [nd]).lo):=by
 have hd:nd.hd=h:=nd.hd_snoc (c:=[]) hch
 unfold ZaT
 rw [Zgg hN,Zac,if_neg (by simp)]
 have e:ZbL.mk h (spotA p nd.ch).Prev (-1) 0 (nw (wkBits h.Bits))=nd.en:=by
  unfold Nd.en Nd.id
  rw [hd,hch,show (spotA p [h]).Prev=hid h from ZiN p [] h,hah,hwk];rfl
 rw [e]
 exact Znp (ns:=[]) hst (by simp) nd rfl
def chAt (ns:List Nd) (k:Nat):List Zah:=(ns[k]?.map Nd.ch).getD []
def wkAt (ns:List Nd) (k:Nat):Int:=(ns[k]?.map Nd.wk).getD 0
theorem Zhl {ns:List Nd} {k:Nat} (h:k<ns.length):chAt ns k=ns[k].ch:=by simp [chAt,h]
theorem ZkY {ns:List Nd} {k:Nat} (h:k<ns.length):wkAt ns k=ns[k].wk:=by simp [wkAt,h]
def nodeOn (ns:List Nd) (k:Nat) (h:Zah):Nd:=⟨chAt ns k ++ [h],(k:Int),wkAdd (wkAt ns k) (wkBits h.Bits)⟩
def addT (p:Zae) (gs:List Zca) (cs:List ZbE) (room:Int) (ns:List Nd) (h:Zah) (now:Int):Int×Int×Int×List Nd:=
 if hgood h=false then (-1,1,8,ns) else
 match place 0 (ids ns) (hid h) with
 | some k=>((k:Int),0,0,ns)
 | none=>match place 0 (ids ns) h.Prev with
  | none=>(-1,2,5,ns)
  | some k=>if checkS p gs cs (spotA p (chAt ns k)) h now≠0 then (-1,checkS p gs cs (spotA p (chAt ns k)) h now,8,ns)
   else if room≤(ns.length:Int) then (-1,0,6,ns) else ((ns.length:Int),0,0,ns ++ [nodeOn ns k h])
theorem Zjr {st:LL} {i:Nat} {x:List L} (h:st[i]? = some x):st.set i x=st:=by
 apply List.ext_getElem?
 intro j
 by_cases e:i=j
 ·subst e
  obtain ⟨hi,e⟩:=List.getElem?_eq_some_iff.1 h
  rw [List.getElem?_set_self hi,h]
 ·rw [List.getElem?_set_ne e]
theorem ZmO (p:Zae) (c:List Zah):wfS (spotA p c)=true:=by
 have h : ∀l:List Zah,∃ts:List Int,(spotA p l).Times=rowI ts∧ts.length≤11:=by
  refine Zjx ⟨[],rfl,by simp⟩ (fun l h ih=>?_)
  unfold spotA at *
  rw [List.foldl_append]
  exact ⟨_,rfl,by simp;omega⟩
 obtain ⟨ts,h1,h2⟩:=h c
 simp only [wfS,h1,isI_row,Bool.true_and,decide_eq_true_eq,Zdd]
 omega
theorem Add_eq (hN:500≤N) {st:LL} {i:Nat} {p:Zae} {gs:List Zca} {cs:List ZbE} (hg:p.Gates=rowG gs) (hc:p.Checks=rowC cs) (lg:gs.length≤400) (lc:cs.length≤400) {room:Int} (hroom:room≤512) {ns:List Nd} (ht:Tree ns) (hst:st[i]? = some (aOf p room ns).lo)
  {h:Zah} (hh:WfH h) (now:Int) (hnow : -1152921504606846976≤now∧now≤9223372036854775807) :
  ZaD N (some i) h now st=some ((addT p gs cs room ns h now).1,(addT p gs cs room ns h now).2.1,(addT p gs cs room ns h now).2.2.1,st.set i (aOf p room (addT p gs cs room ns h now).2.2.2).lo):=by
 have ss:=Zjr hst
 unfold ZaD addT
 rw [if_neg (c:=Option.isNone (some i)=true) (by simp),ZdR,Zac]
 cases hgd:hgood h with
 | false=>rw [if_pos (by rfl),if_pos (c:=false=false) rfl];dsimp only;rw [ss]
 | true=>
  rw [if_neg (c:=(!true)=true) (by simp),if_neg (c:=true=false) (by simp),Zac,hst,ZaL,Zcw,ZeG hN hh.w,Zac,show (aOf p room ns).places=idMap 0 (ids ns) from rfl,ZgJ]
  cases e1:place 0 (ids ns) (hid h) with
  | some k=>
   show ZaD.p1 N i now (k:Int) true h st=_
   unfold ZaD.p1
   rw [if_pos rfl];dsimp only;rw [ss]
  | none=>
   show ZaD.p1 N i now 0 false h st=_
   unfold ZaD.p1
   rw [if_neg (by simp),hst,ZaL,Zcw,show (aOf p room ns).places=idMap 0 (ids ns) from rfl,ZgJ]
   cases e2:place 0 (ids ns) h.Prev with
   | none=>
    show ZaD.p2 N i now 0 false h st=_
    unfold ZaD.p2
    rw [if_pos (by rfl)];dsimp only;rw [ss]
   | some k=>
    show ZaD.p2 N i now (k:Int) true h st=_
    obtain ⟨_,hk,_⟩:=ZeK e2
    have hk':k<ns.length:=by simpa [ids] using hk
    have sw:=ZmO p ns[k].ch
    have isT:isI (spotA p ns[k].ch).Times=true:=by simp only [wfS,Bool.and_eq_true] at sw;exact sw.1
    unfold ZaD.p2
    dsimp only
    rw [if_neg (c:=(!true)=true) (by simp),hst,ZaL,Zcw,show (aOf p room ns).spots=rowS p ns from rfl,len_rowS,Zai (by omega),Zai (by omega),Int.toNat_natCast,Nat.zero_add,rowS_get hk',ZaL,ZhE,show (aOf p room ns).rules=p from rfl,Zjs hN hg hc lg lc hh.w isT now hnow,Zac,Zhl hk']
    by_cases h4:checkS p gs cs (spotA p ns[k].ch) h now=0
    ·rw [if_neg (c:=(checkS p gs cs (spotA p ns[k].ch) h now != 0)=true) (by simp [h4]),if_neg (c:=checkS p gs cs (spotA p ns[k].ch) h now≠0) (by simp [h4]),show (aOf p room ns).list=rowE ns from rfl,ZgK,show (aOf p room ns).room=room from rfl]
     by_cases h5:room≤(ns.length:Int)
     ·rw [if_pos (by simpa using h5),if_pos h5];dsimp only;rw [ss]
     ·rw [if_neg (by simpa using h5),if_neg h5,ZfD hN hh.w sw,Zac]
      have be:behind p (spotA p ns[k].ch) h=spotA p (nodeOn ns k h).ch:=by
       unfold nodeOn spotA
       rw [Zhl hk',List.foldl_append];rfl
      have hm:=List.getElem_mem hk'
      have sm:=ht.small
      have cl:=(ht.ch _ hm).2
      rw [be,keep_eq (by omega) hst ht.small hk' (ht.wk _ hm) (by omega) (nodeOn ns k h) (by unfold nodeOn;rw [Zhl hk']) rfl (by unfold nodeOn;rw [ZkY hk']) e1,Zac]
    ·rw [if_pos (c:=(checkS p gs cs (spotA p ns[k].ch) h now != 0)=true) (by simpa using h4),if_pos (c:=checkS p gs cs (spotA p ns[k].ch) h now≠0) h4];dsimp only;rw [ss]
noncomputable def rowIds (l:List (List Int)):LL:=l.map fun x=>[L.arr .u8 32 x]
noncomputable def rowW (l:List Int):LL:=l.map fun x=>[L.arr .u64 4 (nw x)]
noncomputable def rOf (p:Zae) (room:Int) (ns:List Nd):Zaa:=⟨p,rowH (ns.map Nd.hd),rowIds (ids ns),rowI (ns.map Nd.ah),rowW (ns.map Nd.wk),room⟩
theorem Zff {l:List (List Int)} {i:Nat} (h:i<l.length):(rowIds l)[i]? = some [L.arr .u8 32 l[i]]:=by simp [rowIds,h]
theorem rowW_get {l:List Int} {i:Nat} (h:i<l.length):(rowW l)[i]? = some [L.arr .u64 4 (nw l[i])]:=by simp [rowW,h]
@[simp] theorem ZfZ (l:List (List Int)):len (rowIds l)=(l.length:Int):=by simp [len,rowIds]
@[simp] theorem len_rowW (l:List Int):len (rowW l)=(l.length:Int):=by simp [len,rowW]
@[simp] theorem ZhK (l:List Zah):len (rowH l)=(l.length:Int):=by simp [len]
theorem Zja (i:Nat) (y:List Int) (l:List (List Int)) (x:List Int):place i (y::l) x=if x=y then some i else place (i+1) l x:=rfl
def placeI (o:Option Nat):Int:=match o with
 | some k=>(k:Int)
 | none=>-1
theorem ZgE {st:LL} {i:Nat} {p:Zae} {room:Int} {ns:List Nd} (hN:ns.length<N) (hl:ns.length≤512) (hst:st[i]? = some (rOf p room ns).lo) (x:List Int) :
  ZaJ N (some i) x st=some (placeI (place 0 (ids ns) x),st):=by
 unfold ZaJ
 rw [Zac,hst,ZaL,Zct]
 have li:(ids ns).length=ns.length:=by simp [ids]
 refine ZbP (fun m (v:Int)=>∃k:Nat,k+m=ns.length∧v=(k:Int)∧place 0 (ids ns) x=place k ((ids ns).drop k) x) ?_ N ns.length 0 ⟨0,by omega,rfl,by rw [List.drop_zero]⟩ hN
 rintro G m _ ⟨k,hk,rfl,hp⟩ hG
 unfold ZaJ.p1
 rw [show (rOf p room ns).Ids=rowIds (ids ns) from rfl,ZfZ,li]
 by_cases hlt:k<ns.length
 ·have hk':k<(ids ns).length:=by omega
  rw [List.drop_eq_getElem_cons hk'] at hp
  rw [Zja] at hp
  rw [if_pos (by simp<;>omega),Zai (by omega),hst,ZaL,Zct,show (rOf p room ns).Ids=rowIds (ids ns) from rfl,Int.toNat_natCast,Nat.zero_add,Zff hk',ZaL,Zej,ZaE (by omega) (by omega)]
  by_cases he:x=(ids ns)[k]
  ·rw [if_pos he] at hp
   rw [if_pos (by simp [he]),hp];rfl
  ·rw [if_neg he] at hp
   rw [if_neg (by simpa using fun e=>he e.symm)]
   exact hG (m-1) _ (by omega) ⟨k+1,by omega,by omega,hp⟩
 ·rw [if_neg (by simp<;>omega),hp,List.drop_of_length_le (by omega)];rfl
theorem ZiD {p:Zae} {room:Int} {ns:List Nd} (ht:Tree ns) (hN:ns.length+2≤N) {k:Nat} (hk:k<ns.length):ZaM N (rOf p room ns) (k:Int)=some (rowH (chAt ns k)):=by
 have sm:=ht.small
 unfold ZaM
 rw [Zhl hk]
 refine ZbP (fun m (x:LL×Int)=>∃out:List Zah,x=(rowH out,(m:Int)-1)∧m≤ns.length∧((m=0∧out=ns[k].ch)∨∃h:0<m∧m-1<ns.length,ns[m-1].ch++out=ns[k].ch)) ?_ N (k+1) _ ⟨[],by simp;rfl,by omega,.inr ⟨⟨by omega,by omega⟩,by simp⟩⟩ (by omega)
 rintro G m _ ⟨out,rfl,hm,ho⟩ hG
 unfold ZaM.p1
 dsimp only
 rcases ho with ⟨rfl,rfl⟩ | ⟨⟨h0,h1⟩,ho⟩
 ·rw [if_neg (by simp)]
 ·obtain ⟨j,rfl⟩ : ∃j,m=j+1:=⟨m-1,by omega⟩
  simp only [Nat.add_sub_cancel] at ho h1
  have hj:j<(ns.map Nd.hd).length:=by simp;omega
  have hj2:j<(ns.map Nd.ah).length:=by simp;omega
  have cl:=congrArg List.length ho
  rw [List.length_append] at cl
  have cb:=(ht.ch _ (List.getElem_mem hk)).2
  rw [show (rOf p room ns).List_=rowH (ns.map Nd.hd) from rfl,show (rOf p room ns).Ahead=rowI (ns.map Nd.ah) from rfl,show ((j+1:Nat):Int)-1=(j:Int) by omega,if_pos (by simp),ZhK,ZdA,Zai (by omega),Zai (by omega),Int.toNat_natCast,Zgz hj,ZaL,ZdE,Zai (by rw [List.length_append,Zid];simp;omega),Zai (by omega),Zgy hj2,ZaL,Zdc,List.getElem_map,List.getElem_map]
  have e : [ns[j].hd.ls]++rowH out=rowH (ns[j].hd::out):=rfl
  rw [e]
  have nl:=ht.ch _ (List.getElem_mem h1)
  rcases ht.ah j h1 with ⟨z,a,c⟩ | ⟨q,hq,a,c⟩
  ·have c1:ns[j].ch = [ns[j].hd]:=by
    unfold Nd.hd
    match hch:ns[j].ch,c with
    | [x],_=>rfl
   rw [a]
   rw [c1] at ho
   exact hG 0 _ (by omega) ⟨_,rfl,by omega,.inl ⟨rfl,ho⟩⟩
  ·rw [a]
   rw [c,List.append_assoc] at ho
   exact hG (q+1) _ (by omega) ⟨_,by rw [show ((q+1:Nat):Int)-1=(q:Int) by omega],by omega,.inr ⟨⟨by omega,by omega⟩,by simpa using ho⟩⟩
theorem ZnD (p:Zae) (gs:List Zca) (cs:List ZbE) (s:ZaP) (h:Zah) (now:Int):0≤checkS p gs cs s h now:=by
 unfold checkS;repeat' split
 all_goals omega
theorem Zks (hN:900≤N) {st:LL} {i:Nat} {p:Zae} {gs:List Zca} {cs:List ZbE} (hg:p.Gates=rowG gs) (hc:p.Checks=rowC cs) (lg:gs.length≤400) (lc:cs.length≤400) {room:Int} (hroom:room≤512) {ns:List Nd} (ht:Tree ns) (hlen:ns.length≤200) (hst:st[i]? = some (rOf p room ns).lo)
  {h:Zah} (hh:WfH h) (now:Int) (hnow:0≤now∧now≤9223372036854775807) :
  Zcu N (some i) h now st=some ((addT p gs cs room ns h now).1,(addT p gs cs room ns h now).2.1,(addT p gs cs room ns h now).2.2.1,st.set i (rOf p room (addT p gs cs room ns h now).2.2.2).lo):=by
 have ss:=Zjr hst
 unfold Zcu addT
 rw [ZfV,Zac]
 cases hgd:hgood h with
 | false=>rw [if_pos (by rfl),if_pos (c:=false=false) rfl];dsimp only;rw [ss]
 | true=>
  rw [if_neg (c:=(!true)=true) (by simp),if_neg (c:=true=false) (by simp),ZgD (by omega) h hh.w,Zac,ZgE (by omega) ht.small hst,Zac]
  dsimp only
  cases e1:place 0 (ids ns) (hid h) with
  | some k=>
   rw [show placeI (some k)=(k:Int) from rfl,if_pos (by simp)]
   dsimp only;rw [ss]
  | none=>
   rw [show placeI none = -1 from rfl,if_neg (by simp),ZgE (by omega) ht.small hst,Zac]
   dsimp only
   cases e2:place 0 (ids ns) h.Prev with
   | none=>
    rw [show placeI none = -1 from rfl,if_pos (by simp)]
    dsimp only;rw [ss]
   | some k=>
    obtain ⟨_,hk,_⟩:=ZeK e2
    have hk':k<ns.length:=by simpa [ids] using hk
    have hm:=List.getElem_mem hk'
    have cl:=ht.ch _ hm
    have c0:0<ns[k].ch.length:=List.length_pos_iff.2 cl.1
    dsimp only
    rw [show placeI (some k)=(k:Int) from rfl,if_neg (by simp<;>omega),Zac,hst,ZaL,Zct,ZiD ht (by omega) hk',Zac,Zhl hk',Zai (by simp [plainRow,rowH,Zah.ls,L.plain]),show (rOf p room ns).Rules=p from rfl,ZiE hN hg lg hc lc ns[k].ch c0 (by omega) (fun x hx=>(ht.wf _ hm x hx).w) hh.w now hnow,Zac]
    have nn:=ZnD p gs cs (spotA p ns[k].ch) h now
    by_cases h4:checkS p gs cs (spotA p ns[k].ch) h now=0
    ·rw [if_neg (c:=decide (checkS p gs cs (spotA p ns[k].ch) h now>0)=true) (by simp<;>omega),if_neg (c:=checkS p gs cs (spotA p ns[k].ch) h now≠0) (by simp [h4]),show (rOf p room ns).List_=rowH (ns.map Nd.hd) from rfl,ZhK,List.length_map,show (rOf p room ns).Room=room from rfl]
     by_cases h5:room≤(ns.length:Int)
     ·rw [if_pos (by simpa using h5),if_pos h5];dsimp only;rw [ss]
     ·have hd:=(nodeOn ns k h).hd_snoc rfl
      have i1:rowH (ns.map Nd.hd) ++ [h.ls]=rowH ((ns ++ [nodeOn ns k h]).map Nd.hd):=by simp [rowH,hd]
      have i2:rowIds (ids ns) ++ [[L.arr .u8 32 (hid h)]]=rowIds (ids (ns ++ [nodeOn ns k h])):=by simp [rowIds,ids,Nd.id,hd]
      have i3:rowW (ns.map Nd.wk) ++ [[L.arr .u64 4 (nw (wkAdd ns[k].wk (wkBits h.Bits)))]]=rowW ((ns ++ [nodeOn ns k h]).map Nd.wk):=by simp [rowW,nodeOn,ZkY hk']
      have i4:rowI (ns.map Nd.ah) ++ [[L.int .i64 (k:Int)]]=rowI ((ns ++ [nodeOn ns k h]).map Nd.ah):=by simp [rowI,nodeOn]
      have kw:k<(ns.map Nd.wk).length:=by simp;omega
      have sm:=ht.small
      rw [if_neg (by simpa using h5),if_neg h5,show (rOf p room ns).Ids=rowIds (ids ns) from rfl,show (rOf p room ns).Works=rowW (ns.map Nd.wk) from rfl,show (rOf p room ns).Ahead=rowI (ns.map Nd.ah) from rfl,i1,i2,i4,Zai (by rw [Zid,List.length_map,List.length_append,List.length_singleton];omega),Zai (by simp [rowIds,ids];omega),Zai (by omega),len_rowW,Zai (by rw [List.length_map];omega),Int.toNat_natCast,Nat.zero_add,rowW_get kw,ZaL,List.getElem_map,ZkQ,ZfG (by omega),Zac,Zkt (by omega) (ht.wk _ hm) (ZfT _),Zac,i3,Zai (by simp [rowW];omega),Zai (by rw [Zdd,List.length_map,List.length_append,List.length_singleton];omega),ZhK,List.length_map,List.length_append,List.length_singleton,ZaE (by omega) (by omega)]
      simp only [List.set_set]
      rw [show ((ns.length+1:Nat):Int)-1=(ns.length:Int) by omega]
      rfl
    ·rw [if_pos (c:=decide (checkS p gs cs (spotA p ns[k].ch) h now>0)=true) (by simp<;>omega),if_pos (c:=checkS p gs cs (spotA p ns[k].ch) h now≠0) h4];dsimp only;rw [ss]
theorem Tree.one_node {g:Zah} (hg:WfH g):Tree [⟨[g],-1,wkBits g.Bits⟩] where
 small:=by simp
 ch:=fun n hn=>by cases List.mem_singleton.1 hn;simp
 wf:=fun n hn x hx=>by cases List.mem_singleton.1 hn;cases List.mem_singleton.1 hx;exact hg
 wk:=fun n hn=>by cases List.mem_singleton.1 hn;exact ZfT _
 ah:=fun i h=>.inl ⟨by simpa using h,by simp at h;subst h;rfl,by simp at h;subst h;rfl⟩
 one:=by simp [ids]
theorem Tree.grow {ns:List Nd} (ht:Tree ns) {k:Nat} (hk:k<ns.length) {h:Zah} (hh:WfH h) (hs:ns.length<512) (hid':place 0 (ids ns) (hid h)=none):Tree (ns ++ [nodeOn ns k h]):=by
 have hm:=List.getElem_mem hk
 have cl:=ht.ch _ hm
 have hc:(nodeOn ns k h).ch=ns[k].ch ++ [h]:=by unfold nodeOn;rw [Zhl hk]
 have hd:=(nodeOn ns k h).hd_snoc rfl
 refine ⟨by simp;omega,?_,?_,?_,?_,?_⟩
 ·intro n hn
  rcases List.mem_append.1 hn with hn | hn
  ·have:=ht.ch n hn;exact ⟨this.1,by simp;omega⟩
  ·cases List.mem_singleton.1 hn
   rw [hc];exact ⟨by simp,by simp;omega⟩
 ·intro n hn x hx
  rcases List.mem_append.1 hn with hn | hn
  ·exact ht.wf n hn x hx
  ·cases List.mem_singleton.1 hn
   rw [hc] at hx
   rcases List.mem_append.1 hx with hx | hx
   ·exact ht.wf _ hm x hx
   ·cases List.mem_singleton.1 hx;exact hh
 ·intro n hn
  rcases List.mem_append.1 hn with hn | hn
  ·exact ht.wk n hn
  ·cases List.mem_singleton.1 hn
   unfold nodeOn;rw [ZkY hk]
   exact ZmH (ht.wk _ hm) (ZfT _)
 ·intro i hi
  by_cases hlt:i<ns.length
  ·rw [List.getElem_append_left hlt]
   rcases ht.ah i hlt with a | ⟨q,hq,a,b⟩
   ·exact .inl a
   ·exact .inr ⟨q,hq,a,by rw [List.getElem_append_left (by omega)];exact b⟩
  ·have:i=ns.length:=by simp at hi;omega
   subst this
   refine .inr ⟨k,hk,?_,?_⟩
   ·rw [List.getElem_append_right (by omega)];simp [nodeOn]
   ·rw [List.getElem_append_right (by omega),List.getElem_append_left hk]
    simp only [Nat.sub_self,List.getElem_singleton]
    rw [hc,hd]
 ·have np:=ZiZ hid'
  unfold ids at *
  rw [List.map_append,List.nodup_append]
  refine ⟨ht.one,by simp,?_⟩
  intro a ha b hb
  simp only [List.map_cons,List.map_nil,List.mem_singleton] at hb
  subst hb
  intro e
  unfold Nd.id at e
  rw [hd] at e
  exact np (by rw [←e];exact ha)
theorem Zgf (p:Zae) (gs:List Zca) (cs:List ZbE) (room:Int) (ns:List Nd) (h:Zah) (now:Int) :
  (addT p gs cs room ns h now).2.2.2=ns∨∃k:Nat,k<ns.length∧hgood h=true∧place 0 (ids ns) (hid h)=none∧checkS p gs cs (spotA p (chAt ns k)) h now=0∧(ns.length:Int)<room ∧
   addT p gs cs room ns h now=((ns.length:Int),0,0,ns ++ [nodeOn ns k h]):=by
 unfold addT
 by_cases hg:hgood h=false
 ·rw [if_pos hg];exact .inl rfl
 rw [if_neg hg]
 cases e1:place 0 (ids ns) (hid h) with
 | some k=>exact .inl rfl
 | none=>
  dsimp only
  cases e2:place 0 (ids ns) h.Prev with
  | none=>exact .inl rfl
  | some k=>
   dsimp only
   obtain ⟨_,hk,_⟩:=ZeK e2
   have hk':k<ns.length:=by simpa [ids] using hk
   by_cases h1:checkS p gs cs (spotA p (chAt ns k)) h now=0
   ·rw [if_neg (by simp [h1])]
    by_cases h2:room≤(ns.length:Int)
    ·rw [if_pos h2];exact .inl rfl
    ·rw [if_neg h2]
     exact .inr ⟨k,hk',by simpa using hg,rfl,h1,by omega,rfl⟩
   ·rw [if_pos h1];exact .inl rfl
theorem ZnQ {p:Zae} {gs:List Zca} {cs:List ZbE} {room:Int} (hr:room≤512) {ns:List Nd} (ht:Tree ns) {h:Zah} (hh:WfH h) (now:Int):Tree (addT p gs cs room ns h now).2.2.2:=by
 rcases Zgf p gs cs room ns h now with e | ⟨k,hk,_,hi,_,hl,e⟩
 ·rw [e];exact ht
 ·rw [e];exact ht.grow hk hh (by omega) hi
theorem addT_len (p:Zae) (gs:List Zca) (cs:List ZbE) (room:Int) (ns:List Nd) (h:Zah) (now:Int):ns.length≤(addT p gs cs room ns h now).2.2.2.length∧(addT p gs cs room ns h now).2.2.2.length≤ns.length+1:=by
 rcases Zgf p gs cs room ns h now with e | ⟨k,hk,_,hi,_,hl,e⟩
 ·rw [e];omega
 ·rw [e];simp
def roomOf (room:Int):Int:=if (512:Int)<(if (1:Int)>room then 1 else room) then 512 else (if (1:Int)>room then 1 else room)
def rootN (p:Zae):Nd:=⟨[p.Genesis],-1,wkBits p.Genesis.Bits⟩
theorem set_last (st:LL) (a b:List L):(st ++ [a]).set st.length b=st ++ [b]:=by simp
theorem New_eq (hN:500≤N) {p:Zae} {gs:List Zca} {cs:List ZbE} (hg:p.Gates=rowG gs) (hc:p.Checks=rowC cs) (lg:gs.length≤400) (lc:cs.length≤400) (hp:WfP p) (room:Int) (st:LL) :
  ZdP N p room st=if rgood p gs cs=true then some (some st.length,0,st ++ [(aOf p (roomOf room) [rootN p]).lo]) else some (none,1,st):=by
 unfold ZdP
 rw [Zkh hN hg lg hc lc,Zac]
 cases hgd:rgood p gs cs with
 | false=>rfl
 | true=>
  have pp:({p with Gates:=[]++p.Gates,Checks:=[]++p.Checks}:Zae)=p:=rfl
  rw [if_neg (c:=(!true)=true) (by simp),pp,Zai (by rw [hg,List.nil_append,Zlg];omega),Zai (by rw [hc,List.nil_append,Zlh];omega),ZiC hN hp.h.w,Zac]
  have hst:(st ++ [(aOf p (roomOf room) []).lo])[st.length]? = some (aOf p (roomOf room) []).lo:=by simp
  have k:=keep0_eq (N:=N) (by omega) hst (h:=p.Genesis) (rootN p) rfl rfl rfl
  rw [set_last] at k
  rw [if_pos (c:=true=true) rfl]
  show optE (ZaT N (some st.length) p.Genesis (-1) (spotA p (rootN p).ch) (st ++ [(aOf p (roomOf room) []).lo])) _=_
  rw [k,Zac]
theorem Zkr (hN:900≤N) {p:Zae} (hp:WfP p) (room:Int) (st:LL):ZdG N p room st=some (some st.length,st ++ [(rOf p (roomOf room) [rootN p]).lo]):=by
 unfold ZdG
 rw [ZgD (by omega) _ hp.h.w,Zac,ZfG (by omega),Zac]
 rfl
theorem ZnW (p:Zae) (room:Int) (ns:List Nd) (x:List Int):ZbW N (aOf p room ns) x=some (placeI (place 0 (ids ns) x)):=by
 unfold ZbW
 rw [show (aOf p room ns).places=idMap 0 (ids ns) from rfl,ZgJ]
 cases place 0 (ids ns) x<;>rfl
theorem Zoa (p:Zae) (room:Int) {ns:List Nd} {k:Nat} (hk:k<ns.length):ZbK N (aOf p room ns) (k:Int)=some (ns[k].en,true):=by
 unfold ZbK Zck
 rw [show (aOf p room ns).list=rowE ns from rfl,ZgK,if_pos (by simp),Zac,if_neg (by simp<;>omega),Zai (by omega),Zai (by omega),Int.toNat_natCast,ZlL hk,ZaL,Zfa]
theorem ZnZ (p:Zae) (room:Int) {ns:List Nd} {k:Int} (hk:k<0∨(ns.length:Int)≤k):ZbK N (aOf p room ns) k=some (ZbL.mk (Zah.mk 0 (List.replicate 32 0) (List.replicate 32 0) 0 0 0) (List.replicate 32 0) (-1) 0 (List.replicate 4 0),false):=by
 unfold ZbK Zck
 rw [show (aOf p room ns).list=rowE ns from rfl,ZgK]
 by_cases h:k≥0
 ·rw [if_pos (by simpa using h),Zac,if_pos (by simp<;>omega)]
 ·rw [if_neg (by simpa using h),Zac,if_pos (by rfl)]
theorem Zih : ∀{l:List (List Int)} {i k:Nat} (hk:k<l.length),l.Nodup→place i l l[k]=some (i+k)
 | y::l,i,0,_,_=>by simp [place]
 | y::l,i,k+1,hk,hn=>by
  have hk':k<l.length:=by simpa using hk
  rw [List.nodup_cons] at hn
  rw [List.getElem_cons_succ,Zja,if_neg (fun e=>hn.1 (by rw [←e];exact List.getElem_mem hk')),Zih hk' hn.2]
  congr 1;omega
end Go.Dn.F
set_option maxRecDepth 100000
namespace Go.Dn.F
open Go.Dn Go.Proofs
variable {N:Nat}
abbrev tysCm:List Ty:=[.int .i64,.arr .u8 32,.arr .u8 32,.int .i64,.int .i64,.int .i64,.int .i64]
def GoodT (ns:List Nd):Prop:=∀n∈ns,hgood n.hd=true
theorem Zml {p:Zae} {gs:List Zca} {cs:List ZbE} (h:rgood p gs cs=true):GoodT [rootN p]:=by
 intro n hn
 cases List.mem_singleton.1 hn
 unfold rgood at h
 simp only [Bool.and_eq_true] at h
 exact h.1.1.2
theorem Zni (ns:List Nd) (k:Nat) (h:Zah):(nodeOn ns k h).hd=h:=Nd.hd_snoc (c:=chAt ns k) rfl
theorem ZnS {p:Zae} {gs:List Zca} {cs:List ZbE} {room:Int} {ns:List Nd} (hg:GoodT ns) (h:Zah) (now:Int):GoodT (addT p gs cs room ns h now).2.2.2:=by
 rcases Zgf p gs cs room ns h now with e | ⟨k,hk,hh,_,_,_,e⟩
 ·rw [e];exact hg
 ·rw [e]
  intro n hn
  rcases List.mem_append.1 hn with hn | hn
  ·exact hg n hn
  ·cases List.mem_singleton.1 hn;rw [Zni];exact hh
theorem Zne {ns:List Nd} (ht:Tree ns) {k:Nat} (hk:k<ns.length):place 0 (ids ns) (hid ns[k].hd)=some k:=by
 have hk3:k<(ids ns).length:=by simp [ids];omega
 have:=Zih (i:=0) hk3 ht.one
 rw [Nat.zero_add] at this
 rw [←this];congr 1;simp [ids,Nd.id]
end Go.Dn.F
set_option maxRecDepth 40000
namespace Go.Dn.F
open Go.Dn Go.Proofs
variable {N:Nat}
def rowF (ns:List Nd):Nat→Nat→List Nat
 | 0,k=>[k]
 | f+1,k=>match ns[k]? with
  | some n=>if n.ah<0 then [k] else rowF ns f n.ah.toNat ++ [k]
  | none=>[k]
def rowP (ns:List Nd) (k:Nat):List Nat:=rowF ns k k
theorem Znc {ns:List Nd} (ht:Tree ns) : ∀(k f g:Nat),k<ns.length→k≤f→k≤g→rowF ns f k=rowF ns g k:=by
 intro k
 induction k using Nat.strongRecOn with
 | ind k ih=>
  intro f g hk hf hg
  rcases ht.ah k hk with ⟨z,a,c⟩ | ⟨q,hq,a,c⟩
  ·have e : ∀f,rowF ns f k = [k]:=fun f=>by
    cases f with
    | zero=>rfl
    | succ f=>unfold rowF;rw [List.getElem?_eq_getElem hk];dsimp only;rw [a,if_pos (by omega)]
   rw [e,e]
  ·obtain ⟨f,rfl⟩ : ∃x,f=x+1:=⟨f-1,by omega⟩
   obtain ⟨g,rfl⟩ : ∃x,g=x+1:=⟨g-1,by omega⟩
   unfold rowF
   rw [List.getElem?_eq_getElem hk]
   dsimp only
   rw [a,if_neg (by omega),if_neg (by omega),Int.toNat_natCast,ih q hq f g (by omega) (by omega) (by omega)]
theorem ZmY {ns:List Nd} {k:Nat} (hk:k<ns.length) (a:ns[k].ah = -1):rowP ns k = [k]:=by
 unfold rowP
 cases k with
 | zero=>rfl
 | succ f=>unfold rowF;rw [List.getElem?_eq_getElem hk];dsimp only;rw [a,if_pos (by omega)]
theorem Zkl {ns:List Nd} (ht:Tree ns) {k q:Nat} (hk:k<ns.length) (hq:q<k) (a:ns[k].ah=(q:Int)):rowP ns k=rowP ns q ++ [k]:=by
 obtain ⟨f,rfl⟩ : ∃x,k=x+1:=⟨k-1,by omega⟩
 unfold rowP
 rw [rowF,List.getElem?_eq_getElem hk]
 dsimp only
 rw [a,if_neg (by omega),Int.toNat_natCast,Znc ht q f q (by omega) (by omega) (by omega)]
theorem ZeI {ns:List Nd} (ht:Tree ns) {k:Nat} (hk:k<ns.length) :
  (k=0∧ns[k].ah = -1∧rowP ns k = [k]∧ns[k].ch.length=1)∨∃q,q<k∧ns[k].ah=(q:Int)∧rowP ns k=rowP ns q ++ [k]∧∃hq:q<ns.length,ns[k].ch=ns[q].ch ++ [ns[k].hd]:=by
 rcases ht.ah k hk with ⟨z,a,c⟩ | ⟨q,hq,a,c⟩
 ·exact .inl ⟨z,a,ZmY hk a,c⟩
 ·exact .inr ⟨q,hq,a,Zkl ht hk hq a,by omega,c⟩
theorem Zgw {ns:List Nd} (ht:Tree ns) : ∀{k:Nat} (hk:k<ns.length),(rowP ns k).length=ns[k].ch.length:=by
 intro k
 induction k using Nat.strongRecOn with
 | ind k ih=>
  intro hk
  rcases ZeI ht hk with ⟨z,a,e,c⟩ | ⟨q,hq,a,e,hq',c⟩
  ·rw [e,c];rfl
  ·rw [e,c,List.length_append,List.length_append,ih q hq hq'];rfl
theorem Zic {ns:List Nd} (ht:Tree ns) {k:Nat} (hk:k<ns.length):(rowP ns k)[(rowP ns k).length-1]? = some k:=by
 rcases ZeI ht hk with ⟨z,a,e,c⟩ | ⟨q,hq,a,e,hq',c⟩
 ·rw [e];rfl
 ·rw [e];simp
theorem ZlK {ns:List Nd} (ht:Tree ns) {k:Nat} (hk:k<ns.length):0<(rowP ns k).length:=by
 rcases ZeI ht hk with ⟨z,a,e,c⟩ | ⟨q,hq,a,e,hq',c⟩<;>rw [e]<;>simp
theorem ZmZ {ns:List Nd} (ht:Tree ns) : ∀{k:Nat},k<ns.length→∀x∈rowP ns k,x≤k:=by
 intro k
 induction k using Nat.strongRecOn with
 | ind k ih=>
  intro hk x hx
  rcases ZeI ht hk with ⟨z,a,e,c⟩ | ⟨q,hq,a,e,hq',c⟩
  ·rw [e] at hx;simp at hx;omega
  ·rw [e] at hx
   rcases List.mem_append.1 hx with hx | hx
   ·have:=ih q hq hq' x hx;omega
   ·simp at hx;omega
theorem Zgv {ns:List Nd} (ht:Tree ns) : ∀{k:Nat},k<ns.length→∀{h x:Nat},(rowP ns k)[h]? = some x→x<ns.length∧rowP ns x=(rowP ns k).take (h+1):=by
 intro k
 induction k using Nat.strongRecOn with
 | ind k ih=>
  intro hk h x hx
  rcases ZeI ht hk with ⟨z,a,e,c⟩ | ⟨q,hq,a,e,hq',c⟩
  ·rw [e] at hx ⊢
   cases h with
   | zero=>cases hx;exact ⟨hk,by rw [e];rfl⟩
   | succ h=>cases hx
  ·rw [e] at hx ⊢
   by_cases hlt:h<(rowP ns q).length
   ·rw [List.getElem?_append_left hlt] at hx
    obtain ⟨h1,h2⟩:=ih q hq hq' hx
    exact ⟨h1,by rw [h2,List.take_append_of_le_length (by omega)]⟩
   ·rw [List.getElem?_append_right (by omega)] at hx
    have e0:h-(rowP ns q).length=0:=by
     cases e1:h-(rowP ns q).length with
     | zero=>rfl
     | succ n=>rw [e1] at hx;cases hx
    rw [e0] at hx
    cases hx
    exact ⟨hk,by rw [e,List.take_of_length_le (by simp;omega)]⟩
theorem Zlf {ns:List Nd} (ht:Tree ns) {k h x:Nat} (hk:k<ns.length) (hx:(rowP ns k)[h]? = some x) : ∃h':x<ns.length,ns[x].ch.length=h+1:=by
 obtain ⟨h1,h2⟩:=Zgv ht hk hx
 refine ⟨h1,?_⟩
 have hl:h<(rowP ns k).length:=(List.getElem?_eq_some_iff.1 hx).1
 rw [←Zgw ht h1,h2,List.length_take];omega
theorem Zju {ns:List Nd} (ht:Tree ns) {k x:Nat} (hk:k<ns.length) (hx:x∈rowP ns k) : ∃h':x<ns.length,(rowP ns k)[ns[x].ch.length-1]? = some x:=by
 obtain ⟨h,hx⟩:=List.mem_iff_getElem?.1 hx
 obtain ⟨h1,h2⟩:=Zlf ht hk hx
 exact ⟨h1,by rw [h2];exact hx⟩
theorem Znb (ns:List Nd) (nd:Nd) (ht:Tree ns) : ∀(k f:Nat),k<ns.length→rowF (ns ++ [nd]) f k=rowF ns f k:=by
 intro k
 induction k using Nat.strongRecOn with
 | ind k ih=>
  intro f hk
  cases f with
  | zero=>rfl
  | succ f=>
   unfold rowF
   rw [List.getElem?_append_left hk,List.getElem?_eq_getElem hk]
   dsimp only
   rcases ht.ah k hk with ⟨z,a,c⟩ | ⟨q,hq,a,c⟩
   ·rw [a,if_pos (by omega),if_pos (by omega)]
   ·rw [a,if_neg (by omega),if_neg (by omega),Int.toNat_natCast,ih q hq f (by omega)]
theorem Zgx {ns:List Nd} (nd:Nd) (ht:Tree ns) {k:Nat} (hk:k<ns.length):rowP (ns ++ [nd]) k=rowP ns k:=Znb ns nd ht k k hk
noncomputable def tOf (p:Zae) (room:Int) (ns:List Nd) (lp:List Int):Zaq:=⟨aOf p room ns,rowI lp⟩
structure Leaps (ns:List Nd) (lp:List Int):Prop where
 len:lp.length≤ns.length
 ok : ∀(i:Nat) (v:Int),lp[i]? = some v→v = -1∨∃x:Nat,v=(x:Int)∧x≠i∧x∈rowP ns i
def hZ (ns:List Nd) (k:Int):Int:=if 0≤k∧k<(ns.length:Int) then ((ns[k.toNat]?.map Nd.ch).getD []).length-1 else -1
theorem Zmw {ns:List Nd} {k:Nat} (hk:k<ns.length):hZ ns (k:Int)=(ns[k].ch.length:Int)-1:=by
 unfold hZ;rw [if_pos (by omega),Int.toNat_natCast,List.getElem?_eq_getElem hk];rfl
theorem Zlw {ns:List Nd} {k:Int} (hk:k<0∨(ns.length:Int)≤k):hZ ns k = -1:=by
 unfold hZ;rw [if_neg (by omega)]
theorem Zjq (p:Zae) (room:Int) {ns:List Nd} (lp:List Int) {k:Nat} (hk:k<ns.length):Zbj N (tOf p room ns lp) (k:Int)=some (ns[k].en,true):=by
 unfold Zbj
 rw [show (tOf p room ns lp).store=aOf p room ns from rfl,Zoa p room hk,Zac]
theorem ZmP (p:Zae) (room:Int) {ns:List Nd} (lp:List Int) {k:Int} (hk:k<0∨(ns.length:Int)≤k) : ∃e,Zbj N (tOf p room ns lp) k=some (e,false):=by
 unfold Zbj
 rw [show (tOf p room ns lp).store=aOf p room ns from rfl,ZnZ p room hk,Zac]
 exact ⟨_,rfl⟩
theorem ZfO (p:Zae) (room:Int) (ns:List Nd) (lp:List Int) (k:Int):ZaO N (tOf p room ns lp) k=some (hZ ns k):=by
 unfold ZaO
 by_cases h:0≤k∧k<(ns.length:Int)
 ·obtain ⟨j,rfl⟩ : ∃j:Nat,k=(j:Int):=⟨k.toNat,by omega⟩
  have hj:j<ns.length:=by omega
  rw [Zjq p room lp hj,Zac]
  dsimp only
  rw [if_neg (by simp),Zmw hj];rfl
 ·obtain ⟨e,h1⟩:=ZmP (N:=N) p room (ns:=ns) lp (k:=k) (by omega)
  rw [h1,Zac]
  dsimp only
  rw [if_pos (by rfl),Zlw (by omega)]
def ancZ (ns:List Nd) (k h:Int):Int:=if 0≤k∧k<(ns.length:Int)∧0≤h then ((rowP ns k.toNat)[h.toNat]?.map fun (x:Nat)=>(x:Int)).getD (-1) else -1
theorem ZnP {ns:List Nd} {k h x:Nat} (hk:k<ns.length) (hx:(rowP ns k)[h]? = some x):ancZ ns (k:Int) (h:Int)=(x:Int):=by
 unfold ancZ;rw [if_pos (by omega),Int.toNat_natCast,Int.toNat_natCast,hx];rfl
theorem Zkj {ns:List Nd} (ht:Tree ns) {k x y:Nat} (hk:k<ns.length) (hx:x∈rowP ns k) (hy:y∈rowP ns x):y∈rowP ns k:=by
 obtain ⟨h,hx⟩:=List.mem_iff_getElem?.1 hx
 obtain ⟨_,e⟩:=Zgv ht hk hx
 rw [e] at hy
 exact List.mem_of_mem_take hy
theorem row_lt {ns:List Nd} (ht:Tree ns) {x y:Nat} (hx:x<ns.length) (hy:y∈rowP ns x) (hne:y≠x) : ∃h:y<ns.length,ns[y].ch.length<ns[x].ch.length:=by
 obtain ⟨h,e⟩:=Zju ht hx hy
 refine ⟨h,?_⟩
 have hl:=(List.getElem?_eq_some_iff.1 e).1
 have ll:=Zic ht hx
 have e2:=Zgw ht hx
 have p1:=List.length_pos_iff.2 (ht.ch _ (List.getElem_mem h)).1
 rcases Nat.lt_or_ge ns[y].ch.length ns[x].ch.length with h3 | h3
 ·exact h3
 ·rw [show ns[y].ch.length-1=(rowP ns x).length-1 by omega,ll] at e
  cases e;exact absurd rfl hne
theorem ZlJ {ns:List Nd} (ht:Tree ns) {k:Nat} (hk:k<ns.length):k∈rowP ns k:=List.mem_of_getElem? (Zic ht hk)
theorem ZmX {ns:List Nd} (ht:Tree ns) {k q:Nat} (hk:k<ns.length) (hq:q<k) (e:rowP ns k=rowP ns q ++ [k]):q∈rowP ns k:=by
 rw [e];exact List.mem_append.2 (.inl (ZlJ ht (by omega)))
theorem Zgq (hN:600≤N) {p:Zae} {room:Int} {ns:List Nd} {lp:List Int} (ht:Tree ns) (hl:Leaps ns lp) (k h:Int) (hb:k<(lp.length:Int)∨ns.length≤lp.length):Zar N (tOf p room ns lp) k h=some (ancZ ns k h):=by
 have sm:=ht.small
 unfold Zar
 rw [ZfO,Zac]
 by_cases h0:h<0
 ·rw [if_pos (by simpa using h0)];unfold ancZ;rw [if_neg (by omega)]
 rw [if_neg (by simpa using h0)]
 by_cases hk0:k<0∨(ns.length:Int)≤k
 ·rw [Zlw (by omega),if_pos (by simp;omega)];unfold ancZ;rw [if_neg (by omega)]
 obtain ⟨k,rfl⟩ : ∃j:Nat,k=(j:Int):=⟨k.toNat,by omega⟩
 obtain ⟨h,rfl⟩ : ∃j:Nat,h=(j:Int):=⟨h.toNat,by omega⟩
 have hk:k<ns.length:=by omega
 have lk:=Zgw ht hk
 have lb:=(ht.ch _ (List.getElem_mem hk)).2
 rw [Zmw hk]
 by_cases h1:(h:Int)>(ns[k].ch.length:Int)-1
 ·rw [if_pos (by simpa using h1)];unfold ancZ
  rw [if_pos (by omega),Int.toNat_natCast,Int.toNat_natCast,List.getElem?_eq_none (by omega)];rfl
 rw [if_neg (by simpa using h1)]
 have hh:h<(rowP ns k).length:=by omega
 obtain ⟨t,et⟩ : ∃t,(rowP ns k)[h]? = some t:=⟨_,List.getElem?_eq_getElem hh⟩
 rw [ZnP hk et]
 refine ZbP (fun m (s:Int×Int)=>∃(x:Nat) (hx:x<ns.length),m=ns[x].ch.length∧s=((x:Int),(ns[x].ch.length:Int)-1)∧x∈rowP ns k∧h+1≤ns[x].ch.length) ?_ N ns[k].ch.length _ ⟨k,hk,rfl,rfl,ZlJ ht hk,by omega⟩ (by omega)
 rintro G m _ ⟨x,hx,rfl,rfl,hm,hle⟩ hG
 unfold Zar.p1 Zar.p2
 dsimp only
 by_cases hgt:(ns[x].ch.length:Int)-1>(h:Int)
 ·have hx2:x<lp.length:=by
   have:=ZmZ ht hk x hm
   omega
  rw [if_pos (by simpa using hgt),Zjq p room lp hx,Zac]
  dsimp only
  rw [show (tOf p room ns lp).leaps=rowI lp from rfl,Zai (by omega),ZdA,Zai (by omega),Int.toNat_natCast,Zgy hx2,ZaL,Zdc,show (ns[x].en).Ahead=ns[x].ah from rfl]
  rcases ZeI ht hx with ⟨z,a,e,c⟩ | ⟨q,hq,a,e,hq',c⟩
  ·omega
  ·have cl:=congrArg List.length c
   rw [List.length_append,List.length_singleton] at cl
   have toq:G ((q:Int),(ns[q].ch.length:Int)-1)=some (t:Int):=hG ns[q].ch.length _ (by omega) ⟨q,hq',rfl,rfl,Zkj ht hk hm (ZmX ht hx hq e),by omega⟩
   rcases hl.ok x lp[x] (List.getElem?_eq_getElem hx2) with v | ⟨y,v,hne,hy⟩
   ·rw [v,if_neg (by simp),a,ZfO,Zac,Zmw hq'];exact toq
   ·obtain ⟨hy',hyl⟩:=row_lt ht hx hy hne
    rw [v,if_pos (by simp<;>omega),ZfO,Zac,Zmw hy']
    by_cases h3:(ns[y].ch.length:Int)-1≥(h:Int)
    ·rw [if_pos (by simpa using h3),Zac]
     exact hG ns[y].ch.length _ hyl ⟨y,hy',rfl,rfl,Zkj ht hk hm hy,by omega⟩
    ·rw [if_neg (by simpa using h3),a,ZfO,Zac,Zmw hq'];exact toq
 ·obtain ⟨h3,e3⟩:=Zju ht hk hm
  rw [show ns[x].ch.length-1=h by omega,et] at e3
  cases e3
  rw [if_neg (by simpa using hgt)]
def withinB (ns:List Nd) (k o:Int):Bool:=decide (0≤k∧k<(ns.length:Int)∧0≤o∧o<(ns.length:Int)∧k.toNat∈rowP ns o.toNat)
theorem ZnT (hN:600≤N) {p:Zae} {room:Int} {ns:List Nd} {lp:List Int} (ht:Tree ns) (hl:Leaps ns lp) (hb:ns.length≤lp.length) (k o:Int):Zcd N (tOf p room ns lp) k o=some (withinB ns k o):=by
 unfold Zcd
 rw [ZfO,Zac]
 by_cases hk0:k<0∨(ns.length:Int)≤k
 ·rw [Zlw (by omega),if_neg (by simp)]
  unfold withinB;rw [decide_eq_false (by omega)]
 obtain ⟨k,rfl⟩ : ∃j:Nat,k=(j:Int):=⟨k.toNat,by omega⟩
 have hk:k<ns.length:=by omega
 have pk:=List.length_pos_iff.2 (ht.ch _ (List.getElem_mem hk)).1
 rw [Zmw hk,if_pos (by simp;omega),Zgq hN ht hl _ _ (.inr hb),Zac]
 congr 1
 unfold withinB ancZ
 by_cases ho:o<0∨(ns.length:Int)≤o
 ·rw [if_neg (by omega),decide_eq_false (by omega)]
  simp<;>omega
 obtain ⟨o,rfl⟩ : ∃j:Nat,o=(j:Int):=⟨o.toNat,by omega⟩
 have ho':o<ns.length:=by omega
 rw [if_pos (by omega),Int.toNat_natCast,Int.toNat_natCast,show ((ns[k].ch.length:Int)-1).toNat=ns[k].ch.length-1 by omega]
 by_cases hm:k∈rowP ns o
 ·obtain ⟨h1,h2⟩:=Zju ht ho' hm
  rw [h2,decide_eq_true ⟨by omega,by omega,by omega,by omega,hm⟩];simp
 ·rw [decide_eq_false (fun h=>hm h.2.2.2.2)]
  cases e:(rowP ns o)[ns[k].ch.length-1]? with
  | none=>simp<;>omega
  | some y=>
   have:y≠k:=fun h=>hm (by rw [←h];exact List.mem_of_getElem? e)
   simp<;>omega
noncomputable def tree2 (ia:Nat) (lp:List Int):List L:=[L.ptr (some ia),L.own true 1 (rowI lp)]
structure TreeAt (st:LL) (ia it:Nat) (p:Zae) (room:Int) (ns:List Nd) (lp:List Int):Prop where
 a:st[ia]? = some (aOf p room ns).lo
 t:st[it]? = some (tree2 ia lp)
 ne:ia≠it
 lv:Leaps ns lp
 len:lp.length=ns.length
 tr:Tree ns
theorem skH_eq (h:Int) : ∃x,Zdp N h=some x:=by
 unfold Zdp Zdb
 by_cases h1:h<2
 ·rw [if_pos (by simpa using h1)];exact ⟨_,rfl⟩
 rw [if_neg (by simpa using h1)]
 by_cases h2:bitsOf .and .i64 h 1=0
 ·rw [if_pos (by simpa using h2)];exact ⟨_,rfl⟩
 ·rw [if_neg (by simpa using h2)];exact ⟨_,rfl⟩
theorem ZmD (p:Zae) (gs:List Zca) (cs:List ZbE) (room:Int) (ns:List Nd) (h:Zah) (now:Int) :
  ((addT p gs cs room ns h now).2.2.2=ns∧((addT p gs cs room ns h now).2.2.1≠0∨∃k:Nat,k<ns.length∧(addT p gs cs room ns h now).1=(k:Int)))∨∃k:Nat,k<ns.length∧place 0 (ids ns) (hid h)=none∧(ns.length:Int)<room ∧
   addT p gs cs room ns h now=((ns.length:Int),0,0,ns ++ [nodeOn ns k h]):=by
 unfold addT
 by_cases hg:hgood h=false
 ·rw [if_pos hg];exact .inl ⟨rfl,.inl (by simp)⟩
 rw [if_neg hg]
 cases e1:place 0 (ids ns) (hid h) with
 | some k=>
  obtain ⟨_,hk,_⟩:=ZeK e1
  have hk':k<ns.length:=by simpa [ids] using hk
  exact .inl ⟨rfl,.inr ⟨k,hk',rfl⟩⟩
 | none=>
  dsimp only
  cases e2:place 0 (ids ns) h.Prev with
  | none=>exact .inl ⟨rfl,.inl (by simp)⟩
  | some k=>
   dsimp only
   obtain ⟨_,hk,_⟩:=ZeK e2
   have hk':k<ns.length:=by simpa [ids] using hk
   by_cases h1:checkS p gs cs (spotA p (chAt ns k)) h now=0
   ·rw [if_neg (by simp [h1])]
    by_cases h2:room≤(ns.length:Int)
    ·rw [if_pos h2];exact .inl ⟨rfl,.inl (by simp)⟩
    ·rw [if_neg h2]
     exact .inr ⟨k,hk',rfl,by omega,rfl⟩
   ·rw [if_pos h1];exact .inl ⟨rfl,.inl (by simp)⟩
theorem Leaps.grow {ns:List Nd} {lp:List Int} (ht:Tree ns) (hl:Leaps ns lp) (hlen:lp.length=ns.length) {nd:Nd} (ht':Tree (ns ++ [nd])) {k:Nat} (hk:k<ns.length) (ha:nd.ah=(k:Int)) (h:Int):Leaps (ns ++ [nd]) (lp ++ [ancZ (ns ++ [nd]) (k:Int) h]) where
 len:=by simp [hlen]
 ok:=fun i v hv=>by
  by_cases hi:i<lp.length
  ·rw [List.getElem?_append_left hi] at hv
   rcases hl.ok i v hv with h1 | ⟨x,h1,h2,h3⟩
   ·exact .inl h1
   ·exact .inr ⟨x,h1,h2,by rw [Zgx nd ht (by omega)];exact h3⟩
  ·have e0:i=ns.length:=by
    have:=(List.getElem?_eq_some_iff.1 hv).1
    simp at this;omega
   subst e0
   rw [List.getElem?_append_right (by omega),hlen,Nat.sub_self] at hv
   cases hv
   have hn:ns.length<(ns ++ [nd]).length:=by simp
   have ea:(ns ++ [nd])[ns.length].ah=(k:Int):=by simpa using ha
   rw [Zkl ht' hn hk ea,Zgx nd ht hk]
   unfold ancZ
   by_cases hc:0≤(k:Int)∧(k:Int)<((ns ++ [nd]).length:Int)∧0≤h
   ·rw [if_pos hc,Int.toNat_natCast,Zgx nd ht hk]
    cases e:(rowP ns k)[h.toNat]? with
    | none=>exact .inl rfl
    | some y=>
     have hy:=List.mem_of_getElem? e
     have:=ZmZ ht hk y hy
     exact .inr ⟨y,rfl,by omega,List.mem_append.2 (.inl hy)⟩
   ·rw [if_neg hc];exact .inl rfl
theorem skAdd_eq (hN:600≤N) {st:LL} {ia it:Nat} {p:Zae} {gs:List Zca} {cs:List ZbE} (hg:p.Gates=rowG gs) (hc:p.Checks=rowC cs) (lg:gs.length≤400) (lc:cs.length≤400) {room:Int} (hroom:room≤512) {ns:List Nd} {lp:List Int} (T:TreeAt st ia it p room ns lp)
  {h:Zah} (hh:WfH h) (now:Int) (hnow : -1152921504606846976≤now∧now≤9223372036854775807) :
  ∃lp' st',ZbD N (some it) h now st=some ((addT p gs cs room ns h now).1,(addT p gs cs room ns h now).2.1,(addT p gs cs room ns h now).2.2.1,st')∧TreeAt st' ia it p room (addT p gs cs room ns h now).2.2.2 lp'∧(∀j,j≠ia→j≠it→st'[j]? = st[j]?):=by
 have ht':=ZnQ (p:=p) (gs:=gs) (cs:=cs) hroom T.tr hh now
 unfold ZbD ZbD.p1
 rw [if_neg (c:=Option.isNone (some it)=true) (by simp),Zac,T.t,ZaL]
 unfold tree2
 rw [ZdM,Add_eq (by omega) hg hc lg lc hroom T.tr T.a hh now hnow,Zac]
 dsimp only
 rcases ZmD p gs cs room ns h now with ⟨e,e1⟩ | ⟨k,hk,hpl,hlr,e⟩
 ·rw [e,Zjr T.a]
  refine ⟨lp,st,?_,T,fun j _ _=>rfl⟩
  by_cases h6:(addT p gs cs room ns h now).2.2.1=0
  ·rcases e1 with e1 | ⟨k,hk,e1⟩
   ·exact absurd h6 e1
   ·rw [if_pos (by simpa using h6),T.t,ZaL]
    unfold tree2
    rw [ZdM,if_neg (by rw [e1,ZdA,T.len];simp;omega)]
  ·rw [if_neg (by simpa using h6)]
 ·rw [e] at ht' ⊢
  dsimp only at ht' ⊢
  have t2:(st.set ia (aOf p room (ns ++ [nodeOn ns k h])).lo)[it]? = some (tree2 ia lp):=by
   rw [List.getElem?_set_ne T.ne];exact T.t
  have a2:(st.set ia (aOf p room (ns ++ [nodeOn ns k h])).lo)[ia]? = some (aOf p room (ns ++ [nodeOn ns k h])).lo:=List.getElem?_set_self (List.getElem?_eq_some_iff.1 T.a).1
  have hit:=(List.getElem?_eq_some_iff.1 t2).1
  have hn:ns.length<(ns ++ [nodeOn ns k h]).length:=by simp
  have en:(ns ++ [nodeOn ns k h])[ns.length]=nodeOn ns k h:=by simp
  obtain ⟨hx,eh⟩:=skH_eq (N:=N) ((ns ++ [nodeOn ns k h])[ns.length].en).Height
  have lv:Leaps (ns ++ [nodeOn ns k h]) lp:=⟨by rw [T.len];simp,fun i v hv=>by
   have hi:=(List.getElem?_eq_some_iff.1 hv).1
   rcases T.lv.ok i v hv with h1 | ⟨x,h1,h2,h3⟩
   ·exact .inl h1
   ·exact .inr ⟨x,h1,h2,by rw [Zgx _ T.tr (by rw [←T.len];exact hi)];exact h3⟩⟩
  have sm:=T.tr.small
  rw [if_pos (by rfl),t2,ZaL]
  unfold tree2
  rw [ZdM,if_pos (by rw [ZdA,T.len];simp),Zac,a2,ZaL,Zcw,Zoa p room hn,Zac]
  dsimp only
  rw [eh,Zac,show ((ns ++ [nodeOn ns k h])[ns.length].en).Ahead=(ns ++ [nodeOn ns k h])[ns.length].ah from rfl,en,show (nodeOn ns k h).ah=(k:Int) from rfl,show (Zaq.mk (aOf p room (ns ++ [nodeOn ns k h])) (rowI lp))=tOf p room (ns ++ [nodeOn ns k h]) lp from rfl,Zgq hN ht' lv _ _ (.inl (by rw [T.len];omega)),Zac,Zjv,Zgl,Zai (by rw [Zdd,List.length_append,List.length_singleton,T.len];omega),List.set_set]
  refine ⟨_,_,rfl,⟨?_,?_,T.ne,T.lv.grow T.tr T.len ht' hk rfl hx,by simp [T.len],ht'⟩,fun j h1 h2=>?_⟩
  ·rw [List.getElem?_set_ne (Ne.symm T.ne)];exact a2
  ·exact List.getElem?_set_self hit
  ·rw [List.getElem?_set_ne (Ne.symm h2),List.getElem?_set_ne (Ne.symm h1)]
theorem skNew_eq (hN:500≤N) {p:Zae} {gs:List Zca} {cs:List ZbE} (hg:p.Gates=rowG gs) (hc:p.Checks=rowC cs) (lg:gs.length≤400) (lc:cs.length≤400) (hp:WfP p) (room:Int) (st:LL) :
  Zel N p room st=if rgood p gs cs=true then some (some (st.length+1),0,(st ++ [(aOf p (roomOf room) [rootN p]).lo]) ++ [tree2 st.length [-1]]) else some (none,1,st):=by
 unfold Zel
 rw [New_eq hN hg hc lg lc hp]
 cases rgood p gs cs with
 | false=>rfl
 | true=>
  rw [if_pos rfl,Zac,if_pos (c:=true=true) rfl]
  dsimp only
  rw [if_neg (by simp),List.length_append,List.length_singleton]
  rfl
theorem skNew_at {p:Zae} (hp:WfP p) (room:Int) (st:LL):TreeAt ((st ++ [(aOf p room [rootN p]).lo]) ++ [tree2 st.length [-1]]) st.length (st.length+1) p room [rootN p] [-1] where
 a:=by rw [List.getElem?_append_left (by simp)];simp
 t:=by rw [List.getElem?_append_right (by simp)];simp
 ne:=by omega
 lv:=⟨by simp,fun i v hv=>by
  cases i with
  | zero=>cases hv;exact .inl rfl
  | succ i=>cases hv⟩
 len:=rfl
 tr:=Tree.one_node hp.h
theorem TreeAt.app {st:LL} {ia it:Nat} {p:Zae} {room:Int} {ns:List Nd} {lp:List Int} (T:TreeAt st ia it p room ns lp) (x:LL):TreeAt (st++x) ia it p room ns lp where
 a:=by rw [List.getElem?_append_left (List.getElem?_eq_some_iff.1 T.a).1];exact T.a
 t:=by rw [List.getElem?_append_left (List.getElem?_eq_some_iff.1 T.t).1];exact T.t
 ne:=T.ne
 lv:=T.lv
 len:=T.len
 tr:=T.tr
end Go.Dn.F
set_option maxRecDepth 100000
namespace Go.Dn.F
open Go.Dn Go.Proofs
variable {N:Nat}
structure Grown (st:LL) (ia it im:Nat) (p:Zae) (ns:List Nd) (lp:List Int):Prop where
 T:TreeAt st ia it p 100 ns lp
 m:st[im]? = some (rOf p 100 ns).lo
 pos:1≤ns.length
 small:ns.length≤41
 good:GoodT ns
 root:ns[0]? = some (rootN p)
theorem ZnR {p:Zae} {gs:List Zca} {cs:List ZbE} {room:Int} {ns:List Nd} {x:Nd} (hx:ns[0]? = some x) (h:Zah) (now:Int):(addT p gs cs room ns h now).2.2.2[0]? = some x:=by
 rcases Zgf p gs cs room ns h now with e | ⟨k,hk,_,_,_,_,e⟩
 ·rw [e];exact hx
 ·rw [e];dsimp only;rw [List.getElem?_append_left (by omega)];exact hx
structure WfC14 (c:Zbm):Prop where
 h:WfH c.Header
 n:i64R c.Now
noncomputable def rowC14 (l:List Zbm):LL:=l.map Zbm.ls
theorem ZiT {l:List Zbm} {i:Nat} (h:i<l.length):(rowC14 l)[i]? = some l[i].ls:=by simp [rowC14,h]
@[simp] theorem Zjg (l:List Zbm):len (rowC14 l)=(l.length:Int):=by simp [len,rowC14]
@[simp] theorem Zjw (l:List Zbm):(rowC14 l).length=l.length:=by simp [rowC14]
theorem open_C14 {xs:LL} (h : ∀x∈xs,LTys tysCm x) : ∃l,xs=rowC14 l∧∀x∈l,WfC14 x:=
 decode fun x hx=>by
  obtain ⟨_,_,rfl,h1,h⟩:=(h x hx).cons_inv
  obtain ⟨_,_,rfl,h2,h⟩:=h.cons_inv
  obtain ⟨_,_,rfl,h3,h⟩:=h.cons_inv
  obtain ⟨_,_,rfl,h4,h⟩:=h.cons_inv
  obtain ⟨_,_,rfl,h5,h⟩:=h.cons_inv
  obtain ⟨_,_,rfl,h6,h⟩:=h.cons_inv
  obtain ⟨_,_,rfl,h7,h⟩:=h.cons_inv
  cases h.nil_inv
  obtain ⟨a1,rfl,w1⟩:=h1.int_inv
  obtain ⟨a2,rfl,k2,w2⟩:=h2.arr_inv
  obtain ⟨a3,rfl,k3,w3⟩:=h3.arr_inv
  obtain ⟨a4,rfl,w4⟩:=h4.int_inv
  obtain ⟨a5,rfl,w5⟩:=h5.int_inv
  obtain ⟨a6,rfl,w6⟩:=h6.int_inv
  obtain ⟨a7,rfl,w7⟩:=h7.int_inv
  refine ⟨⟨⟨a1,a2,a3,a4,a5,a6⟩,a7⟩,rfl,⟨⟨Zeu w1,?_,Zeu w4,Zeu w5,Zeu w6⟩,Zeu w7⟩⟩
  simp only [wfH,Bool.and_eq_true]
  exact ⟨ZlC k2 w2,ZlC k3 w3⟩
theorem Zmy {p:Zae} (hp:WfP p) (l:List Zbm) (hl:l.length+900≤N) (hb:l.length≤maxLen) : ∃b,ZbH N p (rowC14 l)=some b∧(b=false→(∀x∈l,0≤x.Now)∧l.length≤40∧∃gs cs,p.Gates=rowG gs∧p.Checks=rowC cs∧gs.length≤400∧cs.length≤400∧rgood p gs cs=true):=by
 unfold ZbH
 have hm:maxLen=9223372036854775807:=rfl
 refine Zhg (fun m (v:Int)=>∃k:Nat,k+m=l.length∧v=(k:Int)∧∀x∈l.take k,0≤x.Now) ?_ N l.length 0 ⟨0,by omega,rfl,by simp⟩ (by omega)
 rintro G m _ ⟨k,hk,rfl,ha⟩ hG
 unfold ZbH.p1
 rw [Zjg]
 by_cases hlt:k<l.length
 ·rw [if_pos (by simp<;>omega),Zai (by omega),Int.toNat_natCast,ZiT hlt,ZaL,Zee,ZaE (by omega) (by omega)]
  by_cases h:l[k].Now<0
  ·rw [if_pos (by simpa using h)];exact ⟨true,rfl,fun h=>by cases h⟩
  ·rw [if_neg (by simpa using h)]
   refine hG (m-1) _ (by omega) ⟨k+1,by omega,by omega,fun x hx=>?_⟩
   rw [List.take_succ_eq_append_getElem hlt] at hx
   rcases List.mem_append.1 hx with hx | hx
   ·exact ha x hx
   ·cases List.mem_singleton.1 hx;omega
 ·rw [if_neg (by simp<;>omega)]
  rw [List.take_of_length_le (by omega)] at ha
  by_cases h1:len p.Gates>20
  ·rw [if_pos (by simpa using h1)];exact ⟨true,rfl,fun h=>by cases h⟩
  rw [if_neg (by simpa using h1)]
  by_cases h2:len p.Checks>20
  ·rw [if_pos (by simpa using h2)];exact ⟨true,rfl,fun h=>by cases h⟩
  rw [if_neg (by simpa using h2)]
  by_cases h3:(l.length:Int)>40
  ·rw [if_pos (by simpa using h3)];exact ⟨true,rfl,fun h=>by cases h⟩
  rw [if_neg (by simpa using h3)]
  obtain ⟨gs,eg⟩:=open_G hp.g
  obtain ⟨cs,ec⟩:=open_K hp.c
  have lg:gs.length≤400:=by simp [len,eg] at h1;omega
  have lc:cs.length≤400:=by simp [len,ec] at h2;omega
  rw [ZjC (by omega) eg lg ec lc,Zac]
  refine ⟨_,rfl,fun h=>⟨ha,by omega,gs,cs,eg,ec,lg,lc,by simpa using h⟩⟩
theorem Zmx (hN:1000≤N) {p:Zae} (hp:WfP p) {gs:List Zca} {cs:List ZbE} (hg:p.Gates=rowG gs) (hc:p.Checks=rowC cs) (lg:gs.length≤400) (lc:cs.length≤400) (hgd:rgood p gs cs=true)
  (l:List Zbm) (hl : ∀x∈l,WfC14 x) (h40:l.length≤40) (hn : ∀x∈l,0≤x.Now) (st:LL) :
  ∃ia it im ns lp st',ZbG N p (rowC14 l) st=some (some it,some im,st')∧Grown st' ia it im p ns lp:=by
 unfold ZbG
 rw [skNew_eq (by omega) hg hc lg lc hp,hgd,if_pos rfl,Zac]
 dsimp only
 rw [Zkr (by omega) hp,Zac,show roomOf 100=100 from rfl]
 dsimp only
 have T0:=(skNew_at hp 100 st).app [(rOf p 100 [rootN p]).lo]
 have m0:(st ++ [(aOf p 100 [rootN p]).lo] ++ [tree2 st.length [-1]] ++ [(rOf p 100 [rootN p]).lo]:LL)[st.length+2]? = some (rOf p 100 [rootN p]).lo:=by
  rw [List.getElem?_append_right (by simp)];simp
 have e3:(st ++ [(aOf p 100 [rootN p]).lo] ++ [tree2 st.length [-1]]:LL).length=st.length+2:=by simp
 rw [e3]
 have key : ∃r,loopN (ZbG.p1 N (some (st.length+1)) (some (st.length+2)) (rowC14 l)) N (0,st ++ [(aOf p 100 [rootN p]).lo] ++ [tree2 st.length [-1]] ++ [(rOf p 100 [rootN p]).lo])=some r∧∃ns lp st',r=(some (st.length+1),some (st.length+2),st')∧Grown st' st.length (st.length+1) (st.length+2) p ns lp:=by
  generalize (st ++ [(aOf p 100 [rootN p]).lo] ++ [tree2 st.length [-1]] ++ [(rOf p 100 [rootN p]).lo]:LL)=s0 at T0 m0 ⊢
  generalize st.length=n at T0 m0 ⊢
  refine Zhg (Q:=fun r:(Option Nat)×(Option Nat)×LL=>∃ns lp st',r=(some (n+1),some (n+2),st')∧Grown st' n (n+1) (n+2) p ns lp) (fun m (s:Int×LL)=>∃(j:Nat) (ns:List Nd) (lp:List Int) (st':LL),s=((j:Int),st')∧j+m=l.length∧ns.length≤j+1∧Grown st' n (n+1) (n+2) p ns lp) ?_ N l.length _ ⟨0,[rootN p],[-1],s0,rfl,by omega,by simp,T0,m0,by simp,by simp,Zml hgd,rfl⟩ (by omega)
  rintro G m _ ⟨j,ns,lp,st,rfl,hj,h1,Gr⟩ hG
  have T:=Gr.T
  have ht:=T.tr
  have sm:=Gr.small
  have ps:=Gr.pos
  unfold ZbG.p1
  dsimp only
  rw [Zjg]
  by_cases hlt:j<l.length
  ·have wx:=hl _ (List.getElem_mem hlt)
   have nx:=hn _ (List.getElem_mem hlt)
   have rx:=wx.n
   unfold i64R at rx
   have l1:=addT_len p gs cs 100 ns l[j].Header l[j].Now
   obtain ⟨lp',st',ea,T',keep⟩:=skAdd_eq (N:=N) (by omega) hg hc lg lc (by omega) T wx.h l[j].Now (by omega)
   have m':st'[n+2]? = some (rOf p 100 ns).lo:=by rw [keep _ (by omega) (by omega)];exact Gr.m
   rw [if_pos (by simp<;>omega),Zai (by omega),Int.toNat_natCast,ZiT hlt,ZaL,Zee,ea,Zac]
   dsimp only
   rw [Zks (by omega) hg hc lg lc (by omega) ht (by omega) m' wx.h _ (by omega),Zac]
   dsimp only
   rw [ZaE (by omega) (by omega)]
   refine hG (m-1) _ (by omega) ⟨j+1,_,lp',_,by rw [Int.natCast_add];rfl,by omega,by omega,⟨⟨?_,?_,T'.ne,T'.lv,T'.len,T'.tr⟩,?_,by omega,by omega,ZnS Gr.good _ _,ZnR Gr.root _ _⟩⟩
   ·rw [List.getElem?_set_ne (by omega)];exact T'.a
   ·rw [List.getElem?_set_ne (by omega)];exact T'.t
   ·exact List.getElem?_set_self (List.getElem?_eq_some_iff.1 m').1
  ·rw [if_neg (by simp<;>omega)]
   exact ⟨_,rfl,ns,lp,st,rfl,Gr⟩
 obtain ⟨r,e,ns,lp,st',rfl,Gr⟩:=key
 exact ⟨st.length,st.length+1,st.length+2,ns,lp,st',e,Gr⟩
theorem alive14 (hN:1000≤N):ZcT N=some true:=by
 obtain ⟨n,rfl⟩ : ∃n,N=n+10:=⟨N-10,by omega⟩
 kernel_rfl
def htsF:Nat→Nat→Int→Int→List Int
 | 0,_,_,_=>[]
 | f+1,c,step,h=>if h<0 then [] else h::(if 10<c+1 then htsF f (c+1) (step*2) (h-step*2) else htsF f (c+1) step (h-step))
def hts (h:Nat):List Int:=if 0<(htsF 60 0 1 (h:Int)).getLast?.getD 0 then htsF 60 0 1 (h:Int) ++ [0] else htsF 60 0 1 (h:Int)
theorem Zlz (n:Nat):(List.range 41).map (fun h:Nat=>ZaC (n+60) (h:Int))=(List.range 41).map (fun h:Nat=>some (rowI (hts h))):=by kernel_rfl
theorem ZmF (hN:60≤N) {h:Nat} (hh:h<41):ZaC N (h:Int)=some (rowI (hts h)):=by
 obtain ⟨n,rfl⟩ : ∃n,N=n+60:=⟨N-60,by omega⟩
 have:=congrArg (fun l=>l[h]?) (Zlz n)
 simpa [hh] using this
def decr:List Int→Bool
 | a::b::t=>decide (b<a)&&decr (b::t)
 | _=>true
theorem Zmb : ∀{l:List Int} {k:Nat} (h:k+1<l.length),decr l=true→l[k+1]<l[k]
 | a::b::t,0,h,d=>by simp only [decr,Bool.and_eq_true,decide_eq_true_eq] at d;exact d.1
 | a::b::t,k+1,h,d=>by
  simp only [decr,Bool.and_eq_true,decide_eq_true_eq] at d
  exact Zmb (l:=b::t) (k:=k) (by simpa using h) d.2
 | [_],k,h,_=>by simp at h
 | [],k,h,_=>by simp at h
theorem hts_all:(List.range 41).all (fun h:Nat=>decide ((hts h).length≤32)&&((hts h).head? == some (h:Int))&&decr (hts h)&&(hts h).all (fun x=>decide (0≤x∧x≤(h:Int))))=true:=by kernel_rfl
theorem hts_ok {h:Nat} (hh:h<41):(hts h).length≤32∧(hts h).head? = some (h:Int)∧decr (hts h)=true∧∀x∈hts h,0≤x∧x≤(h:Int):=by
 have:=List.all_eq_true.1 hts_all h (List.mem_range.2 hh)
 simp only [Bool.and_eq_true,decide_eq_true_eq,beq_iff_eq,List.all_eq_true] at this
 exact ⟨this.1.1.1,this.1.1.2,this.1.2,this.2⟩
def pAt (ns:List Nd) (i:Nat) (h:Int):Nat:=(rowP ns i)[h.toNat]?.getD 0
def idK (ns:List Nd) (k:Nat):List Int:=(ids ns)[k]?.getD []
theorem idK_eq {ns:List Nd} {k:Nat} (hk:k<ns.length):idK ns k=ns[k].id:=by simp [idK,ids,hk]
theorem Zkm (l:List (List Int)):plainRow (rowIds l)=true:=by simp [plainRow,rowIds,L.plain]
def loc (ns:List Nd) (i:Nat):List (List Int):=(hts (((rowP ns i).length)-1)).map fun h=>idK ns (pAt ns i h)
theorem Zng {ns:List Nd} {i:Nat} {h:Int} (h0:0≤h) (h1:h<((rowP ns i).length:Int)):(rowP ns i)[h.toNat]? = some (pAt ns i h):=by
 unfold pAt;rw [List.getElem?_eq_getElem (by omega)];rfl
theorem ZmE (hN:600≤N) {p:Zae} {room:Int} {ns:List Nd} {lp:List Int} (ht:Tree ns) (hl:Leaps ns lp) (hlen:lp.length=ns.length) (h41:ns.length≤41) {i:Nat} (hi:i<ns.length) :
  ZaY N (tOf p room ns lp) (i:Int)=some (rowIds (loc ns i)):=by
 unfold ZaY
 have li:=Zgw ht hi
 have bi:=(ht.ch _ (List.getElem_mem hi)).2
 have pi:=ZlK ht hi
 obtain ⟨o1,o2,o3,o4⟩:=hts_ok (h:=(rowP ns i).length-1) (by omega)
 rw [Zjq p room lp hi,Zac]
 dsimp only
 rw [if_neg (by simp),show (ns[i].en).Height=(((rowP ns i).length-1:Nat):Int) by rw [show (ns[i].en).Height=(ns[i].ch.length:Int)-1 from rfl];omega,ZmF (by omega) (by omega),Zac]
 unfold loc
 generalize hts ((rowP ns i).length-1)=hs at o1 o4 ⊢
 refine ZbP (fun m (s:LL×Int)=>∃j:Nat,j+m=hs.length∧s=(rowIds ((hs.take j).map fun h=>idK ns (pAt ns i h)),(j:Int))) ?_ N hs.length _ ⟨0,by omega,rfl⟩ (by omega)
 rintro G m _ ⟨j,hj,rfl⟩ hG
 unfold ZaY.p1
 dsimp only
 rw [ZdA]
 by_cases hlt:j<hs.length
 ·obtain ⟨r1,r2⟩:=o4 _ (List.getElem_mem hlt)
  have pe:=Zng (ns:=ns) (i:=i) r1 (by omega)
  have hk:=(Zgv ht hi pe).1
  have e1:ancZ ns (i:Int) hs[j]=(pAt ns i hs[j]:Int):=by
   have:=ZnP hi pe
   rwa [show ((hs[j].toNat:Nat):Int)=hs[j] by omega] at this
  rw [if_pos (by simp<;>omega),Zai (by omega),Nat.zero_add,Int.toNat_natCast,Zgy hlt,ZaL,Zdc,Zgq hN ht hl _ _ (.inr (by omega)),Zac,e1,Zjq p room lp hk,Zac]
  dsimp only
  have e2:rowIds ((hs.take j).map fun h=>idK ns (pAt ns i h)) ++ [[L.arr .u8 32 (ns[pAt ns i hs[j]].en).Id]]=rowIds ((hs.take (j+1)).map fun h=>idK ns (pAt ns i h)):=by
   rw [List.take_succ_eq_append_getElem hlt,List.map_append,rowIds,rowIds,List.map_append]
   simp only [List.map_cons,List.map_nil]
   rw [idK_eq hk];rfl
  rw [e2,Zai (by simp [rowIds];omega),ZaE (by omega) (by omega)]
  exact hG (m-1) _ (by omega) ⟨j+1,by omega,by rw [Int.natCast_add];rfl⟩
 ·rw [if_neg (by simp<;>omega),List.take_of_length_le (by omega)]
theorem ZiQ {p:Zae} {room:Int} {ns:List Nd} {lp:List Int} (ht:Tree ns) {k:Nat} (hk:k<ns.length):ZbJ N (tOf p room ns lp) (idK ns k)=some (k:Int):=by
 unfold ZbJ
 rw [show (tOf p room ns lp).store=aOf p room ns from rfl,ZnW,Zac,idK_eq hk]
 have:=Zne ht hk
 rw [show ns[k].id=hid ns[k].hd from rfl,this];rfl
theorem ZkW {p:Zae} (hp:WfP p) (l:List Zbm) (hl : ∀x∈l,WfC14 x) (hb:l.length≤maxLen) :
  ∃st,ZaG (l.length+1000) p (rowC14 l) []=some (true,st):=by
 unfold ZaG
 rw [alive14 (by omega),Zac,if_neg (by simp)]
 obtain ⟨b,e,hgr⟩:=Zmy (N:=l.length+1000) hp l (by omega) hb
 rw [e,Zac]
 cases b with
 | true=>rw [if_pos rfl];exact ⟨_,rfl⟩
 | false=>
  obtain ⟨hn,h40,gs,cs,eg,ec,lg,lc,hgd⟩:=hgr rfl
  rw [if_neg (by simp)]
  generalize hN:l.length+1000=N
  obtain ⟨ia,it,im,ns,lp,st,eg,Gr⟩:=Zmx (N:=N) (by omega) hp eg ec lg lc hgd l hl h40 hn []
  have sm:=Gr.small
  have ht:=Gr.T.tr
  have Tt:=Gr.T.t
  unfold tree2 at Tt
  rw [eg,Zac]
  dsimp only
  rw [Zac,Gr.m,ZaL,Zct]
  refine ⟨st,?_⟩
  refine ZbP (fun m (s:(Option Nat)×Int)=>∃i:Nat,i+m=ns.length∧s=(some it,(i:Int))) ?_ N ns.length _ ⟨0,by omega,rfl⟩ (by omega)
  rintro G m _ ⟨i,him,rfl⟩ hG
  unfold ZaG.p1
  have ll:(rOf p 100 ns).List_=rowH (ns.map Nd.hd):=rfl
  dsimp only
  rw [ll,ZhK,List.length_map]
  by_cases hi:i<ns.length
  ·have li:=Zgw ht hi
   have bi:=(ht.ch _ (List.getElem_mem hi)).2
   have pi:=ZlK ht hi
   obtain ⟨o1,o2,o3,o4⟩:=hts_ok (h:=(rowP ns i).length-1) (by omega)
   have hloc:loc ns i=(hts ((rowP ns i).length-1)).map fun h=>idK ns (pAt ns i h):=rfl
   generalize hts ((rowP ns i).length-1)=hs at o1 o2 o3 o4 hloc
   have hlen:(loc ns i).length=hs.length:=by rw [hloc,List.length_map]
   have hget : ∀{j:Nat} (hj:j<(loc ns i).length),(loc ns i)[j]=idK ns (pAt ns i (hs[j]'(by omega))):=fun hj=>by simp [hloc]
   have hpos:0<hs.length:=by
    cases hs with
    | nil=>cases o2
    | cons a t=>simp
   have h0:hs[0]=((rowP ns i).length-1:Nat):=by
    rw [List.head?_eq_getElem?,List.getElem?_eq_getElem hpos] at o2
    exact Option.some.inj o2
   have p0:pAt ns i hs[0]=i:=by
    unfold pAt
    rw [h0,Int.toNat_natCast,Zic ht hi];rfl
   have hi2:i<(ids ns).length:=by simp [ids];omega
   have e0:(loc ns i)[0]'(by omega)=(ids ns)[i]:=by
    rw [hget (by omega),p0,idK,List.getElem?_eq_getElem hi2];rfl
   rw [if_pos (by simp<;>omega),Zac,Tt,ZaL,ZdM,Zac,Gr.T.a,ZaL,Zcw,show (Zaq.mk (aOf p 100 ns) (rowI lp))=tOf p 100 ns lp from rfl,ZmE (by omega) ht Gr.T.lv Gr.T.len sm hi,Zac,Zai (Zkm _),ZfZ,if_neg (by simp;omega),if_neg (by simp;omega),Zai (by omega),Zff (by omega),ZaL,Zej,Gr.m,ZaL,Zct,show (rOf p 100 ns).Ids=rowIds (ids ns) from rfl,Zai (by omega),ZfZ,Zai (by omega),Nat.zero_add,Int.toNat_natCast,Zff hi2,ZaL,Zej,e0,if_neg (by simp)]
   refine ZbP (fun m' (s:Int)=>∃k:Nat,k+m'=hs.length∧0<k∧s=(k:Int)) ?_ N (hs.length-1) _ ⟨1,by omega,by omega,rfl⟩ (by omega)
   rintro G2 m' _ ⟨k,hk,hk0,rfl⟩ hG2
   unfold ZaG.p2
   rw [ZfZ]
   by_cases hkl:k<hs.length
   ·obtain ⟨q,rfl⟩ : ∃q,k=q+1:=⟨k-1,by omega⟩
    have hd:=Zmb hkl o3
    obtain ⟨a1,a2⟩:=o4 _ (List.getElem_mem hkl)
    obtain ⟨b1,b2⟩:=o4 _ (List.getElem_mem (by omega:q<hs.length))
    have ea:=Zng (ns:=ns) (i:=i) a1 (by omega)
    have eb:=Zng (ns:=ns) (i:=i) b1 (by omega)
    have pa:=Zgv ht hi ea
    have pb:=Zgv ht hi eb
    obtain ⟨_,la⟩:=Zlf ht hi ea
    obtain ⟨_,lb⟩:=Zlf ht hi eb
    have hne:pAt ns i hs[q+1]≠pAt ns i hs[q]:=fun e=>by
     have:ns[pAt ns i hs[q+1]].ch.length=ns[pAt ns i hs[q]].ch.length:=by simp only [e]
     omega
    have hin:pAt ns i hs[q+1]∈rowP ns (pAt ns i hs[q]):=by
     rw [pb.2]
     refine List.mem_of_getElem? (i:=hs[q+1].toNat) ?_
     rw [List.getElem?_take_of_lt (by omega)];exact ea
    have W:withinB ns (pAt ns i hs[q+1]:Int) (pAt ns i hs[q]:Int)=true:=by
     unfold withinB
     rw [decide_eq_true_eq]
     exact ⟨by omega,by have:=pa.1;omega,by omega,by have:=pb.1;omega,by rw [Int.toNat_natCast,Int.toNat_natCast];exact hin⟩
    rw [if_pos (by simp<;>omega),Zai (by omega),Nat.zero_add,Int.toNat_natCast,Zff (by omega),ZaL,Zej,Tt,ZaL,ZdM,Zac,Gr.T.a,ZaL,Zcw,show (Zaq.mk (aOf p 100 ns) (rowI lp))=tOf p 100 ns lp from rfl,hget (by omega),ZiQ ht pa.1,Zac,ZaE (n:=((q+1:Nat):Int)-1) (by omega) (by omega),show ((q+1:Nat):Int)-1=(q:Int) by omega,Zai (by omega),Zai (by omega),Nat.zero_add,Int.toNat_natCast,Zff (by omega),ZaL,Zej,hget (by omega),ZiQ ht pb.1,Zac,if_neg (by simp;omega),ZnT (by omega) ht Gr.T.lv (by rw [Gr.T.len];omega),Zac,W,if_neg (by simp),ZaE (by omega) (by omega)]
    exact hG2 (m'-1) _ (by omega) ⟨q+1+1,by omega,by omega,by rw [Int.natCast_add (q+1) 1];rfl⟩
   ·rw [if_neg (by simp<;>omega),ZaE (by omega) (by omega)]
    exact hG (m-1) _ (by omega) ⟨i+1,by omega,by rw [Int.natCast_add];rfl⟩
  ·rw [if_neg (by simp<;>omega)]
theorem LocateRow_true {ls:List L} (xs:LL) (h0:LTys tysP ls) (h1 : ∀x∈xs,LTys tysCm x) (l1:xs.length≤maxLen) :
  ∃st,Snd Tryz.prog 12 [.agg ls,.one (.sl 69 xs)] [] [.one (.bool true)] st:=by
 obtain ⟨p,rfl,hp⟩:=open_P h0
 obtain ⟨l,rfl,hl⟩:=open_C14 h1
 obtain ⟨st,h⟩:=ZkW hp l hl (by rw [Zjw] at l1;exact l1)
 exact ⟨st,ZaG.snd h⟩
end Go.Dn.F
