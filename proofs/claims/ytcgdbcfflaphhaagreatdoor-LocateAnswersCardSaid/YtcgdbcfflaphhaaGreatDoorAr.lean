/- A tree of headers, as a row of nodes, each with its whole chain; the program's arena of such a tree. -/
import Derived.Test.YtcgdbcfflaphhaaGreatDoorNum
import Derived.Test.YtcgdbcfflaphhaaGreatDoorRul
set_option linter.unusedSimpArgs false
set_option linter.unusedVariables false
set_option maxRecDepth 40000
namespace Go.Dn.F
open Go.Dn Go.Proofs
variable {N:Nat}
structure Nd where
 ch:List Zag
 ah:Int
 wk:Int
def h0:Zag:=⟨0,List.replicate 32 0,List.replicate 32 0,0,0,0⟩
def Nd.hd (n:Nd):Zag:=n.ch.getLast?.getD h0
def Nd.id (n:Nd):List Int:=hid n.hd
noncomputable def Nd.en (n:Nd):ZbK:=⟨n.hd,n.id,n.ah,(n.ch.length:Int)-1,nw n.wk⟩
noncomputable def rowE (ns:List Nd):LL:=ns.map fun n=>n.en.ls
noncomputable def rowS (p:Zae) (ns:List Nd):LL:=ns.map fun n=>(spotA p n.ch).ls
def idMap:Nat→List (List Int)→LM
 | _,[]=>[]
 | i,x::l=>(L.arr .u8 32 x,L.int .i64 (i:Int))::idMap (i+1) l
def ids (ns:List Nd):List (List Int):=ns.map Nd.id
def place:Nat→List (List Int)→List Int→Option Nat
 | _,[],_=>none
 | i,y::l,x=>if x=y then some i else place (i+1) l x
theorem ZgW : ∀(l:List (List Int)) (i:Nat) (x:List Int),mfind (idMap i l) (L.arr .u8 32 x)=some ((place i l x).map fun k=>(k-i,L.int .i64 (k:Int)))
 | [],i,x=>rfl
 | y::l,i,x=>by
  rw [idMap,mfind]
  simp only [keyEq,and_self,if_true]
  unfold place
  by_cases h:x=y
  ·subst h;simp
  ·rw [show (x==y)=false by simpa using h,if_neg h,ZgW l (i+1) x]
   cases e:place (i+1) l x with
   | none=>rfl
   | some k=>
    have : ∀(l:List (List Int)) (i k:Nat),place i l x=some k→i≤k:=by
     intro l
     induction l with
     | nil=>intro i k h;cases h
     | cons z l ih=>
      intro i k h
      unfold place at h
      split at h
      ·cases h;omega
      ·have:=ih _ _ h;omega
    have:=this l (i+1) k e
    simp only [Option.map_some]
    rw [show k-(i+1)+1=k-i by omega]
theorem ZhN : ∀(l:List (List Int)) (i:Nat) (x:List Int),idMap i (l ++ [x])=idMap i l ++ [(L.arr .u8 32 x,L.int .i64 ((i+l.length:Nat):Int))]
 | [],i,x=>rfl
 | y::l,i,x=>by rw [List.cons_append,idMap,ZhN l (i+1) x,idMap,List.length_cons,show i+1+l.length=i+(l.length+1) by omega];rfl
theorem ZeA : ∀{l:List (List Int)} {i k:Nat} {x:List Int},place i l x=some k→i≤k∧∃h:k-i<l.length,l[k-i]=x
 | y::l,i,k,x,h=>by
  unfold place at h
  split at h
  ·rename_i e;cases h;exact ⟨by omega,by simp,by simp [e]⟩
  ·obtain ⟨h1,h2,h3⟩:=ZeA h
   refine ⟨by omega,by simp;omega,?_⟩
   have:k-i=(k-(i+1))+1:=by omega
   simp only [this,List.getElem_cons_succ];exact h3
theorem Zjn : ∀{l:List (List Int)} {i:Nat} {x:List Int},place i l x=none→x∉l
 | [],_,_,_=>by simp
 | y::l,i,x,h=>by
  unfold place at h
  split at h
  ·cases h
  ·rename_i e;simp [e,Zjn h]
noncomputable def aOf (p:Zae) (room:Int) (ns:List Nd):ZaA:=⟨p,rowE ns,rowS p ns,idMap 0 (ids ns),room⟩
theorem Zma {ns:List Nd} {i:Nat} (h:i<ns.length):(rowE ns)[i]? = some ns[i].en.ls:=by simp [rowE,h]
theorem rowS_get {p:Zae} {ns:List Nd} {i:Nat} (h:i<ns.length):(rowS p ns)[i]? = some (spotA p ns[i].ch).ls:=by simp [rowS,h]
@[simp] theorem ZgX (ns:List Nd):len (rowE ns)=(ns.length:Int):=by simp [len,rowE]
@[simp] theorem len_rowS (p:Zae) (ns:List Nd):len (rowS p ns)=(ns.length:Int):=by simp [len,rowS]
structure Tree (ns:List Nd):Prop where
 small:ns.length≤512
 ch : ∀n∈ns,n.ch ≠ []∧n.ch.length≤ns.length
 wf : ∀n∈ns,∀x∈n.ch,WfH x
 wk : ∀n∈ns,isN n.wk
 ah : ∀(i:Nat) (h:i<ns.length),(i=0∧ns[i].ah = -1∧ns[i].ch.length=1)∨∃(k:Nat) (hk:k<i),ns[i].ah=(k:Int)∧ns[i].ch=ns[k].ch ++ [ns[i].hd]
 one:(ids ns).Nodup
theorem Nd.hd_snoc {n:Nd} {c:List Zag} {h:Zag} (e:n.ch=c ++ [h]):n.hd=h:=by unfold Nd.hd;rw [e];simp
theorem Zjc (p:Zae) (c:List Zag) (h:Zag):(spotA p (c ++ [h])).Prev=hid h:=by
 unfold spotA;rw [List.foldl_append];rfl
theorem ZnD {st:LL} {i:Nat} {p:Zae} {room:Int} {ns:List Nd} (hst:st[i]? = some (aOf p room ns).lo) (hl:ns.length≤512) (nd:Nd) (hid':place 0 (ids ns) nd.id=none) :
  ZaX.p1 N (some i) (spotA p nd.ch) nd.en st=some ((ns.length:Int),st.set i (aOf p room (ns ++ [nd])).lo):=by
 unfold ZaX.p1
 have e1:(aOf p room ns).list ++ [nd.en.ls]=rowE (ns ++ [nd]):=by show rowE ns++_=_;simp [rowE]
 have e2:(aOf p room ns).spots ++ [(spotA p nd.ch).ls]=rowS p (ns ++ [nd]):=by show rowS p ns++_=_;simp [rowS]
 have e3:(aOf p room ns).places ++ [(L.arr .u8 32 nd.en.Id,L.int .i64 (ns.length:Int))]=idMap 0 (ids (ns ++ [nd])):=by
  show idMap 0 (ids ns)++_=_
  unfold ids
  rw [List.map_append]
  show _=idMap 0 (List.map Nd.id ns ++ [nd.id])
  rw [ZhN,List.length_map,Nat.zero_add];rfl
 have l1:(rowE (ns ++ [nd])).length=ns.length+1:=by simp [rowE]
 have l2:(rowS p (ns ++ [nd])).length=ns.length+1:=by simp [rowS]
 rw [Zac,hst,ZaL,ZcH,e1,e2,Zaf (by rw [l1];omega),Zaf (by rw [l2];omega),show mfind (aOf p room ns).places (L.arr .u8 32 nd.en.Id)=some none by
  show mfind (idMap 0 (ids ns)) (L.arr .u8 32 nd.id)=_
  rw [ZgW,hid'];rfl]
 show some _=_
 rw [ZgX,List.length_append,List.length_singleton,ZaC (by omega) (by omega),show ((ns.length+1:Nat):Int)-1=(ns.length:Int) by omega,e3]
 simp only [List.set_set]
 rfl
theorem keep_eq (hN:300≤N) {st:LL} {i:Nat} {p:Zae} {room:Int} {ns:List Nd} (hst:st[i]? = some (aOf p room ns).lo) (hl:ns.length≤512) {k:Nat} (hk:k<ns.length) (hw:isN ns[k].wk) (hlen:ns[k].ch.length≤600)
  {h:Zag} (nd:Nd) (hch:nd.ch=ns[k].ch ++ [h]) (hah:nd.ah=(k:Int)) (hwk:nd.wk=wkAdd ns[k].wk (wkBits h.Bits)) (hid':place 0 (ids ns) (hid h)=none) :
  ZaX N (some i) h (k:Int) (spotA p nd.ch) st=some ((ns.length:Int),st.set i (aOf p room (ns ++ [nd])).lo):=by
 have hd:=nd.hd_snoc hch
 unfold ZaX
 rw [Zgw hN,Zac,if_pos (by simp<;>omega),Zac,hst,ZaL,ZcH,show (aOf p room ns).list=rowE ns from rfl,ZgX,Zaf (by omega),Zaf (by omega),Int.toNat_natCast,Nat.zero_add,Zma hk,ZaL,Zfi,show (ns[k].en).Work=nw ns[k].wk from rfl,Zln (by omega) hw (Zgi _),Zac,show (ns[k].en).Height=(ns[k].ch.length:Int)-1 from rfl,ZaC (by omega) (by omega)]
 have e:ZbK.mk h (spotA p nd.ch).Prev (k:Int) ((ns[k].ch.length:Int)-1+1) (nw (wkAdd ns[k].wk (wkBits h.Bits)))=nd.en:=by
  unfold Nd.en Nd.id
  rw [hd,hch,Zjc,hah,hwk,List.length_append,List.length_singleton]
  congr 1;omega
 rw [e]
 refine ZnD hst hl nd ?_
 unfold Nd.id;rw [hd];exact hid'
theorem keep0_eq (hN:300≤N) {st:LL} {i:Nat} {p:Zae} {room:Int} (hst:st[i]? = some (aOf p room []).lo) {h:Zag} (nd:Nd) (hch:nd.ch = [h]) (hah:nd.ah = -1) (hwk:nd.wk=wkBits h.Bits) :
  ZaX N (some i) h (-1) (spotA p nd.ch) st=some (0,st.set i (aOf p room [nd]).lo):=by
 have hd:nd.hd=h:=nd.hd_snoc (c:=[]) hch
 unfold ZaX
 rw [Zgw hN,Zac,if_neg (by simp)]
 have e:ZbK.mk h (spotA p nd.ch).Prev (-1) 0 (nw (wkBits h.Bits))=nd.en:=by
  unfold Nd.en Nd.id
  rw [hd,hch,show (spotA p [h]).Prev=hid h from Zjc p [] h,hah,hwk];rfl
 rw [e]
 exact ZnD (ns:=[]) hst (by simp) nd rfl
def chAt (ns:List Nd) (k:Nat):List Zag:=(ns[k]?.map Nd.ch).getD []
def wkAt (ns:List Nd) (k:Nat):Int:=(ns[k]?.map Nd.wk).getD 0
theorem Zhz {ns:List Nd} {k:Nat} (h:k<ns.length):chAt ns k=ns[k].ch:=by simp [chAt,h]
theorem Zlo {ns:List Nd} {k:Nat} (h:k<ns.length):wkAt ns k=ns[k].wk:=by simp [wkAt,h]
def nodeOn (ns:List Nd) (k:Nat) (h:Zag):Nd:=⟨chAt ns k ++ [h],(k:Int),wkAdd (wkAt ns k) (wkBits h.Bits)⟩
def addT (p:Zae) (gs:List Zcc) (cs:List ZbL) (room:Int) (ns:List Nd) (h:Zag) (now:Int):Int×Int×Int×List Nd:=
 if hgood h=false then (-1,1,8,ns) else
 match place 0 (ids ns) (hid h) with
 | some k=>((k:Int),0,0,ns)
 | none=>match place 0 (ids ns) h.Prev with
  | none=>(-1,2,5,ns)
  | some k=>if checkS p gs cs (spotA p (chAt ns k)) h now≠0 then (-1,checkS p gs cs (spotA p (chAt ns k)) h now,8,ns)
   else if room≤(ns.length:Int) then (-1,0,6,ns) else ((ns.length:Int),0,0,ns ++ [nodeOn ns k h])
theorem ZjE {st:LL} {i:Nat} {x:List L} (h:st[i]? = some x):st.set i x=st:=by
 apply List.ext_getElem?
 intro j
 by_cases e:i=j
 ·subst e
  obtain ⟨hi,e⟩:=List.getElem?_eq_some_iff.1 h
  rw [List.getElem?_set_self hi,h]
 ·rw [List.getElem?_set_ne e]
theorem Znb (p:Zae) (c:List Zag):wfS (spotA p c)=true:=by
 have h : ∀l:List Zag,∃ts:List Int,(spotA p l).Times=rowI ts∧ts.length≤11:=by
  refine ZjJ ⟨[],rfl,by simp⟩ (fun l h ih=>?_)
  unfold spotA at *
  rw [List.foldl_append]
  exact ⟨_,rfl,by simp;omega⟩
 obtain ⟨ts,h1,h2⟩:=h c
 simp only [wfS,h1,isI_row,Bool.true_and,decide_eq_true_eq,ZcY]
 omega
theorem Add_eq (hN:500≤N) {st:LL} {i:Nat} {p:Zae} {gs:List Zcc} {cs:List ZbL} (hg:p.Gates=rowG gs) (hc:p.Checks=rowC cs) (lg:gs.length≤400) (lc:cs.length≤400) {room:Int} (hroom:room≤512) {ns:List Nd} (ht:Tree ns) (hst:st[i]? = some (aOf p room ns).lo)
  {h:Zag} (hh:WfH h) (now:Int) (hnow : -1152921504606846976≤now∧now≤9223372036854775807) :
  ZaB N (some i) h now st=some ((addT p gs cs room ns h now).1,(addT p gs cs room ns h now).2.1,(addT p gs cs room ns h now).2.2.1,st.set i (aOf p room (addT p gs cs room ns h now).2.2.2).lo):=by
 have ss:=ZjE hst
 unfold ZaB addT
 rw [if_neg (c:=Option.isNone (some i)=true) (by simp),ZdV,Zac]
 cases hgd:hgood h with
 | false=>rw [if_pos (by rfl),if_pos (c:=false=false) rfl];dsimp only;rw [ss]
 | true=>
  rw [if_neg (c:=(!true)=true) (by simp),if_neg (c:=true=false) (by simp),Zac,hst,ZaL,ZcH,ZeO hN hh.w,Zac,show (aOf p room ns).places=idMap 0 (ids ns) from rfl,ZgW]
  cases e1:place 0 (ids ns) (hid h) with
  | some k=>
   show ZaB.p1 N i now (k:Int) true h st=_
   unfold ZaB.p1
   rw [if_pos rfl];dsimp only;rw [ss]
  | none=>
   show ZaB.p1 N i now 0 false h st=_
   unfold ZaB.p1
   rw [if_neg (by simp),hst,ZaL,ZcH,show (aOf p room ns).places=idMap 0 (ids ns) from rfl,ZgW]
   cases e2:place 0 (ids ns) h.Prev with
   | none=>
    show ZaB.p2 N i now 0 false h st=_
    unfold ZaB.p2
    rw [if_pos (by rfl)];dsimp only;rw [ss]
   | some k=>
    show ZaB.p2 N i now (k:Int) true h st=_
    obtain ⟨_,hk,_⟩:=ZeA e2
    have hk':k<ns.length:=by simpa [ids] using hk
    have sw:=Znb p ns[k].ch
    have isT:isI (spotA p ns[k].ch).Times=true:=by simp only [wfS,Bool.and_eq_true] at sw;exact sw.1
    unfold ZaB.p2
    dsimp only
    rw [if_neg (c:=(!true)=true) (by simp),hst,ZaL,ZcH,show (aOf p room ns).spots=rowS p ns from rfl,len_rowS,Zaf (by omega),Zaf (by omega),Int.toNat_natCast,Nat.zero_add,rowS_get hk',ZaL,ZhS,show (aOf p room ns).rules=p from rfl,ZjF hN hg hc lg lc hh.w isT now hnow,Zac,Zhz hk']
    by_cases h4:checkS p gs cs (spotA p ns[k].ch) h now=0
    ·rw [if_neg (c:=(checkS p gs cs (spotA p ns[k].ch) h now != 0)=true) (by simp [h4]),if_neg (c:=checkS p gs cs (spotA p ns[k].ch) h now≠0) (by simp [h4]),show (aOf p room ns).list=rowE ns from rfl,ZgX,show (aOf p room ns).room=room from rfl]
     by_cases h5:room≤(ns.length:Int)
     ·rw [if_pos (by simpa using h5),if_pos h5];dsimp only;rw [ss]
     ·rw [if_neg (by simpa using h5),if_neg h5,ZfS hN hh.w sw,Zac]
      have be:behind p (spotA p ns[k].ch) h=spotA p (nodeOn ns k h).ch:=by
       unfold nodeOn spotA
       rw [Zhz hk',List.foldl_append];rfl
      have hm:=List.getElem_mem hk'
      have sm:=ht.small
      have cl:=(ht.ch _ hm).2
      rw [be,keep_eq (by omega) hst ht.small hk' (ht.wk _ hm) (by omega) (nodeOn ns k h) (by unfold nodeOn;rw [Zhz hk']) rfl (by unfold nodeOn;rw [Zlo hk']) e1,Zac]
    ·rw [if_pos (c:=(checkS p gs cs (spotA p ns[k].ch) h now != 0)=true) (by simpa using h4),if_pos (c:=checkS p gs cs (spotA p ns[k].ch) h now≠0) h4];dsimp only;rw [ss]
noncomputable def rowIds (l:List (List Int)):LL:=l.map fun x=>[L.arr .u8 32 x]
noncomputable def rowW (l:List Int):LL:=l.map fun x=>[L.arr .u64 4 (nw x)]
noncomputable def rOf (p:Zae) (room:Int) (ns:List Nd):Zaa:=⟨p,rowH (ns.map Nd.hd),rowIds (ids ns),rowI (ns.map Nd.ah),rowW (ns.map Nd.wk),room⟩
theorem Zfn {l:List (List Int)} {i:Nat} (h:i<l.length):(rowIds l)[i]? = some [L.arr .u8 32 l[i]]:=by simp [rowIds,h]
theorem rowW_get {l:List Int} {i:Nat} (h:i<l.length):(rowW l)[i]? = some [L.arr .u64 4 (nw l[i])]:=by simp [rowW,h]
@[simp] theorem ZeR (l:List (List Int)):len (rowIds l)=(l.length:Int):=by simp [len,rowIds]
@[simp] theorem len_rowW (l:List Int):len (rowW l)=(l.length:Int):=by simp [len,rowW]
@[simp] theorem ZeM (l:List Zag):len (rowH l)=(l.length:Int):=by simp [len]
theorem Zjo (i:Nat) (y:List Int) (l:List (List Int)) (x:List Int):place i (y::l) x=if x=y then some i else place (i+1) l x:=rfl
def placeI (o:Option Nat):Int:=match o with
 | some k=>(k:Int)
 | none=>-1
theorem ZgQ {st:LL} {i:Nat} {p:Zae} {room:Int} {ns:List Nd} (hN:ns.length<N) (hl:ns.length≤512) (hst:st[i]? = some (rOf p room ns).lo) (x:List Int) :
  ZaN N (some i) x st=some (placeI (place 0 (ids ns) x),st):=by
 unfold ZaN
 rw [Zac,hst,ZaL,ZcM]
 have li:(ids ns).length=ns.length:=by simp [ids]
 refine ZbJ (fun m (v:Int)=>∃k:Nat,k+m=ns.length∧v=(k:Int)∧place 0 (ids ns) x=place k ((ids ns).drop k) x) ?_ N ns.length 0 ⟨0,by omega,rfl,by rw [List.drop_zero]⟩ hN
 rintro G m _ ⟨k,hk,rfl,hp⟩ hG
 unfold ZaN.p1
 rw [show (rOf p room ns).Ids=rowIds (ids ns) from rfl,ZeR,li]
 by_cases hlt:k<ns.length
 ·have hk':k<(ids ns).length:=by omega
  rw [List.drop_eq_getElem_cons hk'] at hp
  rw [Zjo] at hp
  rw [if_pos (by simp<;>omega),Zaf (by omega),hst,ZaL,ZcM,show (rOf p room ns).Ids=rowIds (ids ns) from rfl,Int.toNat_natCast,Nat.zero_add,Zfn hk',ZaL,Zep,ZaC (by omega) (by omega)]
  by_cases he:x=(ids ns)[k]
  ·rw [if_pos he] at hp
   rw [if_pos (by simp [he]),hp];rfl
  ·rw [if_neg he] at hp
   rw [if_neg (by simpa using fun e=>he e.symm)]
   exact hG (m-1) _ (by omega) ⟨k+1,by omega,by omega,hp⟩
 ·rw [if_neg (by simp<;>omega),hp,List.drop_of_length_le (by omega)];rfl
theorem ZiS {p:Zae} {room:Int} {ns:List Nd} (ht:Tree ns) (hN:ns.length+2≤N) {k:Nat} (hk:k<ns.length):ZaP N (rOf p room ns) (k:Int)=some (rowH (chAt ns k)):=by
 have sm:=ht.small
 unfold ZaP
 rw [Zhz hk]
 refine ZbJ (fun m (x:LL×Int)=>∃out:List Zag,x=(rowH out,(m:Int)-1)∧m≤ns.length∧((m=0∧out=ns[k].ch)∨∃h:0<m∧m-1<ns.length,ns[m-1].ch++out=ns[k].ch)) ?_ N (k+1) _ ⟨[],by simp;rfl,by omega,.inr ⟨⟨by omega,by omega⟩,by simp⟩⟩ (by omega)
 rintro G m _ ⟨out,rfl,hm,ho⟩ hG
 unfold ZaP.p1
 dsimp only
 rcases ho with ⟨rfl,rfl⟩ | ⟨⟨h0,h1⟩,ho⟩
 ·rw [if_neg (by simp)]
 ·obtain ⟨j,rfl⟩ : ∃j,m=j+1:=⟨m-1,by omega⟩
  simp only [Nat.add_sub_cancel] at ho h1
  have hj:j<(ns.map Nd.hd).length:=by simp;omega
  have hj2:j<(ns.map Nd.ah).length:=by simp;omega
  have cl:=congrArg List.length ho
  rw [List.length_append] at cl
  have cb:=(ht.ch _ (List.getElem_mem hk)).2
  rw [show (rOf p room ns).List_=rowH (ns.map Nd.hd) from rfl,show (rOf p room ns).Ahead=rowI (ns.map Nd.ah) from rfl,show ((j+1:Nat):Int)-1=(j:Int) by omega,if_pos (by simp),ZeM,Zdr,Zaf (by omega),Zaf (by omega),Int.toNat_natCast,ZfD hj,ZaL,ZcU,Zaf (by rw [List.length_append,ZfC];simp;omega),Zaf (by omega),ZgL hj2,ZaL,ZcT,List.getElem_map,List.getElem_map]
  have e : [ns[j].hd.ls]++rowH out=rowH (ns[j].hd::out):=rfl
  rw [e]
  have nl:=ht.ch _ (List.getElem_mem h1)
  rcases ht.ah j h1 with ⟨z,a,c⟩ | ⟨q,hq,a,c⟩
  ·have c1:ns[j].ch = [ns[j].hd]:=by
    unfold Nd.hd
    match hch:ns[j].ch,c with
    | [x],_=>rfl
   rw [a]
   rw [c1] at ho
   exact hG 0 _ (by omega) ⟨_,rfl,by omega,.inl ⟨rfl,ho⟩⟩
  ·rw [a]
   rw [c,List.append_assoc] at ho
   exact hG (q+1) _ (by omega) ⟨_,by rw [show ((q+1:Nat):Int)-1=(q:Int) by omega],by omega,.inr ⟨⟨by omega,by omega⟩,by simpa using ho⟩⟩
theorem ZnR (p:Zae) (gs:List Zcc) (cs:List ZbL) (s:ZaR) (h:Zag) (now:Int):0≤checkS p gs cs s h now:=by
 unfold checkS;repeat' split
 all_goals omega
theorem ZkI (hN:900≤N) {st:LL} {i:Nat} {p:Zae} {gs:List Zcc} {cs:List ZbL} (hg:p.Gates=rowG gs) (hc:p.Checks=rowC cs) (lg:gs.length≤400) (lc:cs.length≤400) {room:Int} (hroom:room≤512) {ns:List Nd} (ht:Tree ns) (hlen:ns.length≤200) (hst:st[i]? = some (rOf p room ns).lo)
  {h:Zag} (hh:WfH h) (now:Int) (hnow:0≤now∧now≤9223372036854775807) :
  Zcz N (some i) h now st=some ((addT p gs cs room ns h now).1,(addT p gs cs room ns h now).2.1,(addT p gs cs room ns h now).2.2.1,st.set i (rOf p room (addT p gs cs room ns h now).2.2.2).lo):=by
 have ss:=ZjE hst
 unfold Zcz addT
 rw [Zgl,Zac]
 cases hgd:hgood h with
 | false=>rw [if_pos (by rfl),if_pos (c:=false=false) rfl];dsimp only;rw [ss]
 | true=>
  rw [if_neg (c:=(!true)=true) (by simp),if_neg (c:=true=false) (by simp),ZgP (by omega) h hh.w,Zac,ZgQ (by omega) ht.small hst,Zac]
  dsimp only
  cases e1:place 0 (ids ns) (hid h) with
  | some k=>
   rw [show placeI (some k)=(k:Int) from rfl,if_pos (by simp)]
   dsimp only;rw [ss]
  | none=>
   rw [show placeI none = -1 from rfl,if_neg (by simp),ZgQ (by omega) ht.small hst,Zac]
   dsimp only
   cases e2:place 0 (ids ns) h.Prev with
   | none=>
    rw [show placeI none = -1 from rfl,if_pos (by simp)]
    dsimp only;rw [ss]
   | some k=>
    obtain ⟨_,hk,_⟩:=ZeA e2
    have hk':k<ns.length:=by simpa [ids] using hk
    have hm:=List.getElem_mem hk'
    have cl:=ht.ch _ hm
    have c0:0<ns[k].ch.length:=List.length_pos_iff.2 cl.1
    dsimp only
    rw [show placeI (some k)=(k:Int) from rfl,if_neg (by simp<;>omega),Zac,hst,ZaL,ZcM,ZiS ht (by omega) hk',Zac,Zhz hk',Zaf (by simp [plainRow,rowH,Zag.ls,L.plain]),show (rOf p room ns).Rules=p from rfl,ZiT hN hg lg hc lc ns[k].ch c0 (by omega) (fun x hx=>(ht.wf _ hm x hx).w) hh.w now hnow,Zac]
    have nn:=ZnR p gs cs (spotA p ns[k].ch) h now
    by_cases h4:checkS p gs cs (spotA p ns[k].ch) h now=0
    ·rw [if_neg (c:=decide (checkS p gs cs (spotA p ns[k].ch) h now>0)=true) (by simp<;>omega),if_neg (c:=checkS p gs cs (spotA p ns[k].ch) h now≠0) (by simp [h4]),show (rOf p room ns).List_=rowH (ns.map Nd.hd) from rfl,ZeM,List.length_map,show (rOf p room ns).Room=room from rfl]
     by_cases h5:room≤(ns.length:Int)
     ·rw [if_pos (by simpa using h5),if_pos h5];dsimp only;rw [ss]
     ·have hd:=(nodeOn ns k h).hd_snoc rfl
      have i1:rowH (ns.map Nd.hd) ++ [h.ls]=rowH ((ns ++ [nodeOn ns k h]).map Nd.hd):=by simp [rowH,hd]
      have i2:rowIds (ids ns) ++ [[L.arr .u8 32 (hid h)]]=rowIds (ids (ns ++ [nodeOn ns k h])):=by simp [rowIds,ids,Nd.id,hd]
      have i3:rowW (ns.map Nd.wk) ++ [[L.arr .u64 4 (nw (wkAdd ns[k].wk (wkBits h.Bits)))]]=rowW ((ns ++ [nodeOn ns k h]).map Nd.wk):=by simp [rowW,nodeOn,Zlo hk']
      have i4:rowI (ns.map Nd.ah) ++ [[L.int .i64 (k:Int)]]=rowI ((ns ++ [nodeOn ns k h]).map Nd.ah):=by simp [rowI,nodeOn]
      have kw:k<(ns.map Nd.wk).length:=by simp;omega
      have sm:=ht.small
      rw [if_neg (by simpa using h5),if_neg h5,show (rOf p room ns).Ids=rowIds (ids ns) from rfl,show (rOf p room ns).Works=rowW (ns.map Nd.wk) from rfl,show (rOf p room ns).Ahead=rowI (ns.map Nd.ah) from rfl,i1,i2,i4,Zaf (by rw [ZfC,List.length_map,List.length_append,List.length_singleton];omega),Zaf (by simp [rowIds,ids];omega),Zaf (by omega),len_rowW,Zaf (by rw [List.length_map];omega),Int.toNat_natCast,Nat.zero_add,rowW_get kw,ZaL,List.getElem_map,Zlh,ZfW (by omega),Zac,ZkJ (by omega) (ht.wk _ hm) (Zgi _),Zac,i3,Zaf (by simp [rowW];omega),Zaf (by rw [ZcY,List.length_map,List.length_append,List.length_singleton];omega),ZeM,List.length_map,List.length_append,List.length_singleton,ZaC (by omega) (by omega)]
      simp only [List.set_set]
      rw [show ((ns.length+1:Nat):Int)-1=(ns.length:Int) by omega]
      rfl
    ·rw [if_pos (c:=decide (checkS p gs cs (spotA p ns[k].ch) h now>0)=true) (by simp<;>omega),if_pos (c:=checkS p gs cs (spotA p ns[k].ch) h now≠0) h4];dsimp only;rw [ss]
theorem Tree.one_node {g:Zag} (hg:WfH g):Tree [⟨[g],-1,wkBits g.Bits⟩] where
 small:=by simp
 ch:=fun n hn=>by cases List.mem_singleton.1 hn;simp
 wf:=fun n hn x hx=>by cases List.mem_singleton.1 hn;cases List.mem_singleton.1 hx;exact hg
 wk:=fun n hn=>by cases List.mem_singleton.1 hn;exact Zgi _
 ah:=fun i h=>.inl ⟨by simpa using h,by simp at h;subst h;rfl,by simp at h;subst h;rfl⟩
 one:=by simp [ids]
theorem Tree.grow {ns:List Nd} (ht:Tree ns) {k:Nat} (hk:k<ns.length) {h:Zag} (hh:WfH h) (hs:ns.length<512) (hid':place 0 (ids ns) (hid h)=none):Tree (ns ++ [nodeOn ns k h]):=by
 have hm:=List.getElem_mem hk
 have cl:=ht.ch _ hm
 have hc:(nodeOn ns k h).ch=ns[k].ch ++ [h]:=by unfold nodeOn;rw [Zhz hk]
 have hd:=(nodeOn ns k h).hd_snoc rfl
 refine ⟨by simp;omega,?_,?_,?_,?_,?_⟩
 ·intro n hn
  rcases List.mem_append.1 hn with hn | hn
  ·have:=ht.ch n hn;exact ⟨this.1,by simp;omega⟩
  ·cases List.mem_singleton.1 hn
   rw [hc];exact ⟨by simp,by simp;omega⟩
 ·intro n hn x hx
  rcases List.mem_append.1 hn with hn | hn
  ·exact ht.wf n hn x hx
  ·cases List.mem_singleton.1 hn
   rw [hc] at hx
   rcases List.mem_append.1 hx with hx | hx
   ·exact ht.wf _ hm x hx
   ·cases List.mem_singleton.1 hx;exact hh
 ·intro n hn
  rcases List.mem_append.1 hn with hn | hn
  ·exact ht.wk n hn
  ·cases List.mem_singleton.1 hn
   unfold nodeOn;rw [Zlo hk]
   exact ZmU (ht.wk _ hm) (Zgi _)
 ·intro i hi
  by_cases hlt:i<ns.length
  ·rw [List.getElem_append_left hlt]
   rcases ht.ah i hlt with a | ⟨q,hq,a,b⟩
   ·exact .inl a
   ·exact .inr ⟨q,hq,a,by rw [List.getElem_append_left (by omega)];exact b⟩
  ·have:i=ns.length:=by simp at hi;omega
   subst this
   refine .inr ⟨k,hk,?_,?_⟩
   ·rw [List.getElem_append_right (by omega)];simp [nodeOn]
   ·rw [List.getElem_append_right (by omega),List.getElem_append_left hk]
    simp only [Nat.sub_self,List.getElem_singleton]
    rw [hc,hd]
 ·have np:=Zjn hid'
  unfold ids at *
  rw [List.map_append,List.nodup_append]
  refine ⟨ht.one,by simp,?_⟩
  intro a ha b hb
  simp only [List.map_cons,List.map_nil,List.mem_singleton] at hb
  subst hb
  intro e
  unfold Nd.id at e
  rw [hd] at e
  exact np (by rw [←e];exact ha)
theorem Zgv (p:Zae) (gs:List Zcc) (cs:List ZbL) (room:Int) (ns:List Nd) (h:Zag) (now:Int) :
  (addT p gs cs room ns h now).2.2.2=ns∨∃k:Nat,k<ns.length∧hgood h=true∧place 0 (ids ns) (hid h)=none∧checkS p gs cs (spotA p (chAt ns k)) h now=0∧(ns.length:Int)<room ∧
   addT p gs cs room ns h now=((ns.length:Int),0,0,ns ++ [nodeOn ns k h]):=by
 unfold addT
 by_cases hg:hgood h=false
 ·rw [if_pos hg];exact .inl rfl
 rw [if_neg hg]
 cases e1:place 0 (ids ns) (hid h) with
 | some k=>exact .inl rfl
 | none=>
  dsimp only
  cases e2:place 0 (ids ns) h.Prev with
  | none=>exact .inl rfl
  | some k=>
   dsimp only
   obtain ⟨_,hk,_⟩:=ZeA e2
   have hk':k<ns.length:=by simpa [ids] using hk
   by_cases h1:checkS p gs cs (spotA p (chAt ns k)) h now=0
   ·rw [if_neg (by simp [h1])]
    by_cases h2:room≤(ns.length:Int)
    ·rw [if_pos h2];exact .inl rfl
    ·rw [if_neg h2]
     exact .inr ⟨k,hk',by simpa using hg,rfl,h1,by omega,rfl⟩
   ·rw [if_pos h1];exact .inl rfl
theorem Zod {p:Zae} {gs:List Zcc} {cs:List ZbL} {room:Int} (hr:room≤512) {ns:List Nd} (ht:Tree ns) {h:Zag} (hh:WfH h) (now:Int):Tree (addT p gs cs room ns h now).2.2.2:=by
 rcases Zgv p gs cs room ns h now with e | ⟨k,hk,_,hi,_,hl,e⟩
 ·rw [e];exact ht
 ·rw [e];exact ht.grow hk hh (by omega) hi
theorem addT_len (p:Zae) (gs:List Zcc) (cs:List ZbL) (room:Int) (ns:List Nd) (h:Zag) (now:Int):ns.length≤(addT p gs cs room ns h now).2.2.2.length∧(addT p gs cs room ns h now).2.2.2.length≤ns.length+1:=by
 rcases Zgv p gs cs room ns h now with e | ⟨k,hk,_,hi,_,hl,e⟩
 ·rw [e];omega
 ·rw [e];simp
def roomOf (room:Int):Int:=if (512:Int)<(if (1:Int)>room then 1 else room) then 512 else (if (1:Int)>room then 1 else room)
def rootN (p:Zae):Nd:=⟨[p.Genesis],-1,wkBits p.Genesis.Bits⟩
theorem set_last (st:LL) (a b:List L):(st ++ [a]).set st.length b=st ++ [b]:=by simp
theorem New_eq (hN:500≤N) {p:Zae} {gs:List Zcc} {cs:List ZbL} (hg:p.Gates=rowG gs) (hc:p.Checks=rowC cs) (lg:gs.length≤400) (lc:cs.length≤400) (hp:WfP p) (room:Int) (st:LL) :
  ZdT N p room st=if rgood p gs cs=true then some (some st.length,0,st ++ [(aOf p (roomOf room) [rootN p]).lo]) else some (none,1,st):=by
 unfold ZdT
 rw [Zky hN hg lg hc lc,Zac]
 cases hgd:rgood p gs cs with
 | false=>rfl
 | true=>
  have pp:({p with Gates:=[]++p.Gates,Checks:=[]++p.Checks}:Zae)=p:=rfl
  rw [if_neg (c:=(!true)=true) (by simp),pp,Zaf (by rw [hg,List.nil_append,Zlw];omega),Zaf (by rw [hc,List.nil_append,Zlx];omega),ZiR hN hp.h.w,Zac]
  have hst:(st ++ [(aOf p (roomOf room) []).lo])[st.length]? = some (aOf p (roomOf room) []).lo:=by simp
  have k:=keep0_eq (N:=N) (by omega) hst (h:=p.Genesis) (rootN p) rfl rfl rfl
  rw [set_last] at k
  rw [if_pos (c:=true=true) rfl]
  show optE (ZaX N (some st.length) p.Genesis (-1) (spotA p (rootN p).ch) (st ++ [(aOf p (roomOf room) []).lo])) _=_
  rw [k,Zac]
theorem ZkH (hN:900≤N) {p:Zae} (hp:WfP p) (room:Int) (st:LL):ZdL N p room st=some (some st.length,st ++ [(rOf p (roomOf room) [rootN p]).lo]):=by
 unfold ZdL
 rw [ZgP (by omega) _ hp.h.w,Zac,ZfW (by omega),Zac]
 rfl
theorem Zoj (p:Zae) (room:Int) (ns:List Nd) (x:List Int):Zcm N (aOf p room ns) x=some (placeI (place 0 (ids ns) x)):=by
 unfold Zcm
 rw [show (aOf p room ns).places=idMap 0 (ids ns) from rfl,ZgW]
 cases place 0 (ids ns) x<;>rfl
theorem Zon (p:Zae) (room:Int) {ns:List Nd} {k:Nat} (hk:k<ns.length):ZbO N (aOf p room ns) (k:Int)=some (ns[k].en,true):=by
 unfold ZbO Zcq
 rw [show (aOf p room ns).list=rowE ns from rfl,ZgX,if_pos (by simp),Zac,if_neg (by simp<;>omega),Zaf (by omega),Zaf (by omega),Int.toNat_natCast,Zma hk,ZaL,Zfi]
theorem Zom (p:Zae) (room:Int) {ns:List Nd} {k:Int} (hk:k<0∨(ns.length:Int)≤k):ZbO N (aOf p room ns) k=some (ZbK.mk (Zag.mk 0 (List.replicate 32 0) (List.replicate 32 0) 0 0 0) (List.replicate 32 0) (-1) 0 (List.replicate 4 0),false):=by
 unfold ZbO Zcq
 rw [show (aOf p room ns).list=rowE ns from rfl,ZgX]
 by_cases h:k≥0
 ·rw [if_pos (by simpa using h),Zac,if_pos (by simp<;>omega)]
 ·rw [if_neg (by simpa using h),Zac,if_pos (by rfl)]
theorem Ziu : ∀{l:List (List Int)} {i k:Nat} (hk:k<l.length),l.Nodup→place i l l[k]=some (i+k)
 | y::l,i,0,_,_=>by simp [place]
 | y::l,i,k+1,hk,hn=>by
  have hk':k<l.length:=by simpa using hk
  rw [List.nodup_cons] at hn
  rw [List.getElem_cons_succ,Zjo,if_neg (fun e=>hn.1 (by rw [←e];exact List.getElem_mem hk')),Ziu hk' hn.2]
  congr 1;omega
end Go.Dn.F
set_option maxRecDepth 100000
namespace Go.Dn.F
open Go.Dn Go.Proofs
variable {N:Nat}
abbrev tysCm:List Ty:=[.int .i64,.arr .u8 32,.arr .u8 32,.int .i64,.int .i64,.int .i64,.int .i64]
def GoodT (ns:List Nd):Prop:=∀n∈ns,hgood n.hd=true
theorem ZmA {p:Zae} {gs:List Zcc} {cs:List ZbL} (h:rgood p gs cs=true):GoodT [rootN p]:=by
 intro n hn
 cases List.mem_singleton.1 hn
 unfold rgood at h
 simp only [Bool.and_eq_true] at h
 exact h.1.1.2
theorem Znu (ns:List Nd) (k:Nat) (h:Zag):(nodeOn ns k h).hd=h:=Nd.hd_snoc (c:=chAt ns k) rfl
theorem Zof {p:Zae} {gs:List Zcc} {cs:List ZbL} {room:Int} {ns:List Nd} (hg:GoodT ns) (h:Zag) (now:Int):GoodT (addT p gs cs room ns h now).2.2.2:=by
 rcases Zgv p gs cs room ns h now with e | ⟨k,hk,hh,_,_,_,e⟩
 ·rw [e];exact hg
 ·rw [e]
  intro n hn
  rcases List.mem_append.1 hn with hn | hn
  ·exact hg n hn
  ·cases List.mem_singleton.1 hn;rw [Znu];exact hh
end Go.Dn.F
set_option maxRecDepth 40000
namespace Go.Dn.F
open Go.Dn Go.Proofs
variable {N:Nat}
def rowF (ns:List Nd):Nat→Nat→List Nat
 | 0,k=>[k]
 | f+1,k=>match ns[k]? with
  | some n=>if n.ah<0 then [k] else rowF ns f n.ah.toNat ++ [k]
  | none=>[k]
def rowP (ns:List Nd) (k:Nat):List Nat:=rowF ns k k
theorem Znq {ns:List Nd} (ht:Tree ns) : ∀(k f g:Nat),k<ns.length→k≤f→k≤g→rowF ns f k=rowF ns g k:=by
 intro k
 induction k using Nat.strongRecOn with
 | ind k ih=>
  intro f g hk hf hg
  rcases ht.ah k hk with ⟨z,a,c⟩ | ⟨q,hq,a,c⟩
  ·have e : ∀f,rowF ns f k = [k]:=fun f=>by
    cases f with
    | zero=>rfl
    | succ f=>unfold rowF;rw [List.getElem?_eq_getElem hk];dsimp only;rw [a,if_pos (by omega)]
   rw [e,e]
  ·obtain ⟨f,rfl⟩ : ∃x,f=x+1:=⟨f-1,by omega⟩
   obtain ⟨g,rfl⟩ : ∃x,g=x+1:=⟨g-1,by omega⟩
   unfold rowF
   rw [List.getElem?_eq_getElem hk]
   dsimp only
   rw [a,if_neg (by omega),if_neg (by omega),Int.toNat_natCast,ih q hq f g (by omega) (by omega) (by omega)]
theorem Znm {ns:List Nd} {k:Nat} (hk:k<ns.length) (a:ns[k].ah = -1):rowP ns k = [k]:=by
 unfold rowP
 cases k with
 | zero=>rfl
 | succ f=>unfold rowF;rw [List.getElem?_eq_getElem hk];dsimp only;rw [a,if_pos (by omega)]
theorem ZkC {ns:List Nd} (ht:Tree ns) {k q:Nat} (hk:k<ns.length) (hq:q<k) (a:ns[k].ah=(q:Int)):rowP ns k=rowP ns q ++ [k]:=by
 obtain ⟨f,rfl⟩ : ∃x,k=x+1:=⟨k-1,by omega⟩
 unfold rowP
 rw [rowF,List.getElem?_eq_getElem hk]
 dsimp only
 rw [a,if_neg (by omega),Int.toNat_natCast,Znq ht q f q (by omega) (by omega) (by omega)]
theorem Zee {ns:List Nd} (ht:Tree ns) {k:Nat} (hk:k<ns.length) :
  (k=0∧ns[k].ah = -1∧rowP ns k = [k]∧ns[k].ch.length=1)∨∃q,q<k∧ns[k].ah=(q:Int)∧rowP ns k=rowP ns q ++ [k]∧∃hq:q<ns.length,ns[k].ch=ns[q].ch ++ [ns[k].hd]:=by
 rcases ht.ah k hk with ⟨z,a,c⟩ | ⟨q,hq,a,c⟩
 ·exact .inl ⟨z,a,Znm hk a,c⟩
 ·exact .inr ⟨q,hq,a,ZkC ht hk hq a,by omega,c⟩
theorem Zfe {ns:List Nd} (ht:Tree ns) : ∀{k:Nat} (hk:k<ns.length),(rowP ns k).length=ns[k].ch.length:=by
 intro k
 induction k using Nat.strongRecOn with
 | ind k ih=>
  intro hk
  rcases Zee ht hk with ⟨z,a,e,c⟩ | ⟨q,hq,a,e,hq',c⟩
  ·rw [e,c];rfl
  ·rw [e,c,List.length_append,List.length_append,ih q hq hq'];rfl
theorem ZgJ {ns:List Nd} (ht:Tree ns) {k:Nat} (hk:k<ns.length):(rowP ns k)[(rowP ns k).length-1]? = some k:=by
 rcases Zee ht hk with ⟨z,a,e,c⟩ | ⟨q,hq,a,e,hq',c⟩
 ·rw [e];rfl
 ·rw [e];simp
theorem ZjH {ns:List Nd} (ht:Tree ns) {k:Nat} (hk:k<ns.length):0<(rowP ns k).length:=by
 rcases Zee ht hk with ⟨z,a,e,c⟩ | ⟨q,hq,a,e,hq',c⟩<;>rw [e]<;>simp
theorem Znn {ns:List Nd} (ht:Tree ns) : ∀{k:Nat},k<ns.length→∀x∈rowP ns k,x≤k:=by
 intro k
 induction k using Nat.strongRecOn with
 | ind k ih=>
  intro hk x hx
  rcases Zee ht hk with ⟨z,a,e,c⟩ | ⟨q,hq,a,e,hq',c⟩
  ·rw [e] at hx;simp at hx;omega
  ·rw [e] at hx
   rcases List.mem_append.1 hx with hx | hx
   ·have:=ih q hq hq' x hx;omega
   ·simp at hx;omega
theorem Zgk {ns:List Nd} (ht:Tree ns) : ∀{k:Nat},k<ns.length→∀{h x:Nat},(rowP ns k)[h]? = some x→x<ns.length∧rowP ns x=(rowP ns k).take (h+1):=by
 intro k
 induction k using Nat.strongRecOn with
 | ind k ih=>
  intro hk h x hx
  rcases Zee ht hk with ⟨z,a,e,c⟩ | ⟨q,hq,a,e,hq',c⟩
  ·rw [e] at hx ⊢
   cases h with
   | zero=>cases hx;exact ⟨hk,by rw [e];rfl⟩
   | succ h=>cases hx
  ·rw [e] at hx ⊢
   by_cases hlt:h<(rowP ns q).length
   ·rw [List.getElem?_append_left hlt] at hx
    obtain ⟨h1,h2⟩:=ih q hq hq' hx
    exact ⟨h1,by rw [h2,List.take_append_of_le_length (by omega)]⟩
   ·rw [List.getElem?_append_right (by omega)] at hx
    have e0:h-(rowP ns q).length=0:=by
     cases e1:h-(rowP ns q).length with
     | zero=>rfl
     | succ n=>rw [e1] at hx;cases hx
    rw [e0] at hx
    cases hx
    exact ⟨hk,by rw [e,List.take_of_length_le (by simp;omega)]⟩
theorem Zlv {ns:List Nd} (ht:Tree ns) {k h x:Nat} (hk:k<ns.length) (hx:(rowP ns k)[h]? = some x) : ∃h':x<ns.length,ns[x].ch.length=h+1:=by
 obtain ⟨h1,h2⟩:=Zgk ht hk hx
 refine ⟨h1,?_⟩
 have hl:h<(rowP ns k).length:=(List.getElem?_eq_some_iff.1 hx).1
 rw [←Zfe ht h1,h2,List.length_take];omega
theorem ZhW {ns:List Nd} (ht:Tree ns) {k x:Nat} (hk:k<ns.length) (hx:x∈rowP ns k) : ∃h':x<ns.length,(rowP ns k)[ns[x].ch.length-1]? = some x:=by
 obtain ⟨h,hx⟩:=List.mem_iff_getElem?.1 hx
 obtain ⟨h1,h2⟩:=Zlv ht hk hx
 exact ⟨h1,by rw [h2];exact hx⟩
theorem Znl {ns:List Nd} (ht:Tree ns) : ∀{k:Nat},k<ns.length→(rowP ns k)[0]? = some 0:=by
 intro k
 induction k using Nat.strongRecOn with
 | ind k ih=>
  intro hk
  rcases Zee ht hk with ⟨z,a,e,c⟩ | ⟨q,hq,a,e,hq',c⟩
  ·rw [e,z];rfl
  ·rw [e,List.getElem?_append_left (ZjH ht hq')];exact ih q hq hq'
theorem Znp (ns:List Nd) (nd:Nd) (ht:Tree ns) : ∀(k f:Nat),k<ns.length→rowF (ns ++ [nd]) f k=rowF ns f k:=by
 intro k
 induction k using Nat.strongRecOn with
 | ind k ih=>
  intro f hk
  cases f with
  | zero=>rfl
  | succ f=>
   unfold rowF
   rw [List.getElem?_append_left hk,List.getElem?_eq_getElem hk]
   dsimp only
   rcases ht.ah k hk with ⟨z,a,c⟩ | ⟨q,hq,a,c⟩
   ·rw [a,if_pos (by omega),if_pos (by omega)]
   ·rw [a,if_neg (by omega),if_neg (by omega),Int.toNat_natCast,ih q hq f (by omega)]
theorem ZgK {ns:List Nd} (nd:Nd) (ht:Tree ns) {k:Nat} (hk:k<ns.length):rowP (ns ++ [nd]) k=rowP ns k:=Znp ns nd ht k k hk
def natI (l:List Nat):List Int:=l.map (fun x:Nat=>(x:Int))
theorem ZfV {p:Zae} {room:Int} {ns:List Nd} (ht:Tree ns) (hN:ns.length+2≤N) {k:Nat} (hk:k<ns.length):ZaI N (rOf p room ns) (k:Int)=some (rowI (natI (rowP ns k))):=by
 have sm:=ht.small
 unfold ZaI
 have lk:=Zfe ht hk
 have cb:=(ht.ch _ (List.getElem_mem hk)).2
 have key:loopN (ZaI.p1 N (rOf p room ns)) N ([],(k:Int))=some (rowI (natI (rowP ns k))):=by
  refine ZbJ (fun m (s:LL×Int)=>∃(q:Nat) (c:List Nat),q=m∧s=(rowI (natI c),(q:Int)-1)∧((q=0∧c=rowP ns k)∨∃h:0<q∧q-1<ns.length,rowP ns (q-1)++c=rowP ns k)) ?_ N (k+1) _ ⟨k+1,[],rfl,by rw [show ((k+1:Nat):Int)-1=(k:Int) by omega];rfl,.inr ⟨⟨by omega,by omega⟩,by simp⟩⟩ (by omega)
  rintro G m _ ⟨q,c,rfl,rfl,ho⟩ hG
  unfold ZaI.p1
  dsimp only
  rcases ho with ⟨rfl,rfl⟩ | ⟨⟨h0,h1⟩,ho⟩
  ·rw [if_neg (by simp)]
  ·obtain ⟨j,rfl⟩ : ∃j,q=j+1:=⟨q-1,by omega⟩
   simp only [Nat.add_sub_cancel] at ho h1
   have hj2:j<(ns.map Nd.ah).length:=by simp;omega
   have lo:=congrArg List.length ho
   rw [List.length_append,lk] at lo
   have e1 : [(j:Int)]++natI c=natI (j::c):=rfl
   rw [show (rOf p room ns).Ahead=rowI (ns.map Nd.ah) from rfl,show ((j+1:Nat):Int)-1=(j:Int) by omega,if_pos (by simp),ZhX,ZfB,e1,Zaf (by rw [ZcY];simp [natI];omega),Zaf (by omega),Zdr,Zaf (by omega),Int.toNat_natCast,ZgL hj2,ZaL,ZcT,List.getElem_map]
   rcases Zee ht h1 with ⟨z,a,e,cl⟩ | ⟨q,hq,a,e,hq',cl⟩
   ·rw [a]
    exact hG 0 _ (by omega) ⟨0,_,rfl,rfl,.inl ⟨rfl,by rw [←ho,e];rfl⟩⟩
   ·rw [a]
    exact hG (q+1) _ (by omega) ⟨q+1,_,rfl,by rw [show ((q+1:Nat):Int)-1=(q:Int) by omega],.inr ⟨⟨by omega,by simp;omega⟩,by simp only [Nat.add_sub_cancel];rw [←ho,e];simp⟩⟩
 exact key
noncomputable def tOf (p:Zae) (room:Int) (ns:List Nd) (lp:List Int):ZaJ:=⟨aOf p room ns,rowI lp⟩
structure Leaps (ns:List Nd) (lp:List Int):Prop where
 len:lp.length≤ns.length
 ok : ∀(i:Nat) (v:Int),lp[i]? = some v→v = -1∨∃x:Nat,v=(x:Int)∧x≠i∧x∈rowP ns i
def hZ (ns:List Nd) (k:Int):Int:=if 0≤k∧k<(ns.length:Int) then ((ns[k.toNat]?.map Nd.ch).getD []).length-1 else -1
theorem ZlM {ns:List Nd} {k:Nat} (hk:k<ns.length):hZ ns (k:Int)=(ns[k].ch.length:Int)-1:=by
 unfold hZ;rw [if_pos (by omega),Int.toNat_natCast,List.getElem?_eq_getElem hk];rfl
theorem Zkd {ns:List Nd} {k:Int} (hk:k<0∨(ns.length:Int)≤k):hZ ns k = -1:=by
 unfold hZ;rw [if_neg (by omega)]
theorem Zhp (p:Zae) (room:Int) {ns:List Nd} (lp:List Int) {k:Nat} (hk:k<ns.length):Zbj N (tOf p room ns lp) (k:Int)=some (ns[k].en,true):=by
 unfold Zbj
 rw [show (tOf p room ns lp).store=aOf p room ns from rfl,Zon p room hk,Zac]
theorem Znc (p:Zae) (room:Int) {ns:List Nd} (lp:List Int) {k:Int} (hk:k<0∨(ns.length:Int)≤k) : ∃e,Zbj N (tOf p room ns lp) k=some (e,false):=by
 unfold Zbj
 rw [show (tOf p room ns lp).store=aOf p room ns from rfl,Zom p room hk,Zac]
 exact ⟨_,rfl⟩
theorem Zfu (p:Zae) (room:Int) (ns:List Nd) (lp:List Int) (k:Int):ZaM N (tOf p room ns lp) k=some (hZ ns k):=by
 unfold ZaM
 by_cases h:0≤k∧k<(ns.length:Int)
 ·obtain ⟨j,rfl⟩ : ∃j:Nat,k=(j:Int):=⟨k.toNat,by omega⟩
  have hj:j<ns.length:=by omega
  rw [Zhp p room lp hj,Zac]
  dsimp only
  rw [if_neg (by simp),ZlM hj];rfl
 ·obtain ⟨e,h1⟩:=Znc (N:=N) p room (ns:=ns) lp (k:=k) (by omega)
  rw [h1,Zac]
  dsimp only
  rw [if_pos (by rfl),Zkd (by omega)]
def ancZ (ns:List Nd) (k h:Int):Int:=if 0≤k∧k<(ns.length:Int)∧0≤h then ((rowP ns k.toNat)[h.toNat]?.map fun (x:Nat)=>(x:Int)).getD (-1) else -1
theorem ancZ_at {ns:List Nd} {k h x:Nat} (hk:k<ns.length) (hx:(rowP ns k)[h]? = some x):ancZ ns (k:Int) (h:Int)=(x:Int):=by
 unfold ancZ;rw [if_pos (by omega),Int.toNat_natCast,Int.toNat_natCast,hx];rfl
theorem ZkA {ns:List Nd} (ht:Tree ns) {k x y:Nat} (hk:k<ns.length) (hx:x∈rowP ns k) (hy:y∈rowP ns x):y∈rowP ns k:=by
 obtain ⟨h,hx⟩:=List.mem_iff_getElem?.1 hx
 obtain ⟨_,e⟩:=Zgk ht hk hx
 rw [e] at hy
 exact List.mem_of_mem_take hy
theorem row_lt {ns:List Nd} (ht:Tree ns) {x y:Nat} (hx:x<ns.length) (hy:y∈rowP ns x) (hne:y≠x) : ∃h:y<ns.length,ns[y].ch.length<ns[x].ch.length:=by
 obtain ⟨h,e⟩:=ZhW ht hx hy
 refine ⟨h,?_⟩
 have hl:=(List.getElem?_eq_some_iff.1 e).1
 have ll:=ZgJ ht hx
 have e2:=Zfe ht hx
 have p1:=List.length_pos_iff.2 (ht.ch _ (List.getElem_mem h)).1
 rcases Nat.lt_or_ge ns[y].ch.length ns[x].ch.length with h3 | h3
 ·exact h3
 ·rw [show ns[y].ch.length-1=(rowP ns x).length-1 by omega,ll] at e
  cases e;exact absurd rfl hne
theorem ZlY {ns:List Nd} (ht:Tree ns) {k:Nat} (hk:k<ns.length):k∈rowP ns k:=List.mem_of_getElem? (ZgJ ht hk)
theorem Znk {ns:List Nd} (ht:Tree ns) {k q:Nat} (hk:k<ns.length) (hq:q<k) (e:rowP ns k=rowP ns q ++ [k]):q∈rowP ns k:=by
 rw [e];exact List.mem_append.2 (.inl (ZlY ht (by omega)))
theorem ZiN (hN:600≤N) {p:Zae} {room:Int} {ns:List Nd} {lp:List Int} (ht:Tree ns) (hl:Leaps ns lp) (k h:Int) (hb:k<(lp.length:Int)∨ns.length≤lp.length):Zar N (tOf p room ns lp) k h=some (ancZ ns k h):=by
 have sm:=ht.small
 unfold Zar
 rw [Zfu,Zac]
 by_cases h0:h<0
 ·rw [if_pos (by simpa using h0)];unfold ancZ;rw [if_neg (by omega)]
 rw [if_neg (by simpa using h0)]
 by_cases hk0:k<0∨(ns.length:Int)≤k
 ·rw [Zkd (by omega),if_pos (by simp;omega)];unfold ancZ;rw [if_neg (by omega)]
 obtain ⟨k,rfl⟩ : ∃j:Nat,k=(j:Int):=⟨k.toNat,by omega⟩
 obtain ⟨h,rfl⟩ : ∃j:Nat,h=(j:Int):=⟨h.toNat,by omega⟩
 have hk:k<ns.length:=by omega
 have lk:=Zfe ht hk
 have lb:=(ht.ch _ (List.getElem_mem hk)).2
 rw [ZlM hk]
 by_cases h1:(h:Int)>(ns[k].ch.length:Int)-1
 ·rw [if_pos (by simpa using h1)];unfold ancZ
  rw [if_pos (by omega),Int.toNat_natCast,Int.toNat_natCast,List.getElem?_eq_none (by omega)];rfl
 rw [if_neg (by simpa using h1)]
 have hh:h<(rowP ns k).length:=by omega
 obtain ⟨t,et⟩ : ∃t,(rowP ns k)[h]? = some t:=⟨_,List.getElem?_eq_getElem hh⟩
 rw [ancZ_at hk et]
 refine ZbJ (fun m (s:Int×Int)=>∃(x:Nat) (hx:x<ns.length),m=ns[x].ch.length∧s=((x:Int),(ns[x].ch.length:Int)-1)∧x∈rowP ns k∧h+1≤ns[x].ch.length) ?_ N ns[k].ch.length _ ⟨k,hk,rfl,rfl,ZlY ht hk,by omega⟩ (by omega)
 rintro G m _ ⟨x,hx,rfl,rfl,hm,hle⟩ hG
 unfold Zar.p1 Zar.p2
 dsimp only
 by_cases hgt:(ns[x].ch.length:Int)-1>(h:Int)
 ·have hx2:x<lp.length:=by
   have:=Znn ht hk x hm
   omega
  rw [if_pos (by simpa using hgt),Zhp p room lp hx,Zac]
  dsimp only
  rw [show (tOf p room ns lp).leaps=rowI lp from rfl,Zaf (by omega),Zdr,Zaf (by omega),Int.toNat_natCast,ZgL hx2,ZaL,ZcT,show (ns[x].en).Ahead=ns[x].ah from rfl]
  rcases Zee ht hx with ⟨z,a,e,c⟩ | ⟨q,hq,a,e,hq',c⟩
  ·omega
  ·have cl:=congrArg List.length c
   rw [List.length_append,List.length_singleton] at cl
   have toq:G ((q:Int),(ns[q].ch.length:Int)-1)=some (t:Int):=hG ns[q].ch.length _ (by omega) ⟨q,hq',rfl,rfl,ZkA ht hk hm (Znk ht hx hq e),by omega⟩
   rcases hl.ok x lp[x] (List.getElem?_eq_getElem hx2) with v | ⟨y,v,hne,hy⟩
   ·rw [v,if_neg (by simp),a,Zfu,Zac,ZlM hq'];exact toq
   ·obtain ⟨hy',hyl⟩:=row_lt ht hx hy hne
    rw [v,if_pos (by simp<;>omega),Zfu,Zac,ZlM hy']
    by_cases h3:(ns[y].ch.length:Int)-1≥(h:Int)
    ·rw [if_pos (by simpa using h3),Zac]
     exact hG ns[y].ch.length _ hyl ⟨y,hy',rfl,rfl,ZkA ht hk hm hy,by omega⟩
    ·rw [if_neg (by simpa using h3),a,Zfu,Zac,ZlM hq'];exact toq
 ·obtain ⟨h3,e3⟩:=ZhW ht hk hm
  rw [show ns[x].ch.length-1=h by omega,et] at e3
  cases e3
  rw [if_neg (by simpa using hgt)]
def withinB (ns:List Nd) (k o:Int):Bool:=decide (0≤k∧k<(ns.length:Int)∧0≤o∧o<(ns.length:Int)∧k.toNat∈rowP ns o.toNat)
theorem Zog (hN:600≤N) {p:Zae} {room:Int} {ns:List Nd} {lp:List Int} (ht:Tree ns) (hl:Leaps ns lp) (hb:ns.length≤lp.length) (k o:Int):Zcf N (tOf p room ns lp) k o=some (withinB ns k o):=by
 unfold Zcf
 rw [Zfu,Zac]
 by_cases hk0:k<0∨(ns.length:Int)≤k
 ·rw [Zkd (by omega),if_neg (by simp)]
  unfold withinB;rw [decide_eq_false (by omega)]
 obtain ⟨k,rfl⟩ : ∃j:Nat,k=(j:Int):=⟨k.toNat,by omega⟩
 have hk:k<ns.length:=by omega
 have pk:=List.length_pos_iff.2 (ht.ch _ (List.getElem_mem hk)).1
 rw [ZlM hk,if_pos (by simp;omega),ZiN hN ht hl _ _ (.inr hb),Zac]
 congr 1
 unfold withinB ancZ
 by_cases ho:o<0∨(ns.length:Int)≤o
 ·rw [if_neg (by omega),decide_eq_false (by omega)]
  simp<;>omega
 obtain ⟨o,rfl⟩ : ∃j:Nat,o=(j:Int):=⟨o.toNat,by omega⟩
 have ho':o<ns.length:=by omega
 rw [if_pos (by omega),Int.toNat_natCast,Int.toNat_natCast,show ((ns[k].ch.length:Int)-1).toNat=ns[k].ch.length-1 by omega]
 by_cases hm:k∈rowP ns o
 ·obtain ⟨h1,h2⟩:=ZhW ht ho' hm
  rw [h2,decide_eq_true ⟨by omega,by omega,by omega,by omega,hm⟩];simp
 ·rw [decide_eq_false (fun h=>hm h.2.2.2.2)]
  cases e:(rowP ns o)[ns[k].ch.length-1]? with
  | none=>simp<;>omega
  | some y=>
   have:y≠k:=fun h=>hm (by rw [←h];exact List.mem_of_getElem? e)
   simp<;>omega
noncomputable def tree2 (ia:Nat) (lp:List Int):List L:=[L.ptr (some ia),L.own true 1 (rowI lp)]
structure TreeAt (st:LL) (ia it:Nat) (p:Zae) (room:Int) (ns:List Nd) (lp:List Int):Prop where
 a:st[ia]? = some (aOf p room ns).lo
 t:st[it]? = some (tree2 ia lp)
 ne:ia≠it
 lv:Leaps ns lp
 len:lp.length=ns.length
 tr:Tree ns
theorem skH_eq (h:Int) : ∃x,Zdy N h=some x:=by
 unfold Zdy Zdk
 by_cases h1:h<2
 ·rw [if_pos (by simpa using h1)];exact ⟨_,rfl⟩
 rw [if_neg (by simpa using h1)]
 by_cases h2:bitsOf .and .i64 h 1=0
 ·rw [if_pos (by simpa using h2)];exact ⟨_,rfl⟩
 ·rw [if_neg (by simpa using h2)];exact ⟨_,rfl⟩
theorem ZmR (p:Zae) (gs:List Zcc) (cs:List ZbL) (room:Int) (ns:List Nd) (h:Zag) (now:Int) :
  ((addT p gs cs room ns h now).2.2.2=ns∧((addT p gs cs room ns h now).2.2.1≠0∨∃k:Nat,k<ns.length∧(addT p gs cs room ns h now).1=(k:Int)))∨∃k:Nat,k<ns.length∧place 0 (ids ns) (hid h)=none∧(ns.length:Int)<room ∧
   addT p gs cs room ns h now=((ns.length:Int),0,0,ns ++ [nodeOn ns k h]):=by
 unfold addT
 by_cases hg:hgood h=false
 ·rw [if_pos hg];exact .inl ⟨rfl,.inl (by simp)⟩
 rw [if_neg hg]
 cases e1:place 0 (ids ns) (hid h) with
 | some k=>
  obtain ⟨_,hk,_⟩:=ZeA e1
  have hk':k<ns.length:=by simpa [ids] using hk
  exact .inl ⟨rfl,.inr ⟨k,hk',rfl⟩⟩
 | none=>
  dsimp only
  cases e2:place 0 (ids ns) h.Prev with
  | none=>exact .inl ⟨rfl,.inl (by simp)⟩
  | some k=>
   dsimp only
   obtain ⟨_,hk,_⟩:=ZeA e2
   have hk':k<ns.length:=by simpa [ids] using hk
   by_cases h1:checkS p gs cs (spotA p (chAt ns k)) h now=0
   ·rw [if_neg (by simp [h1])]
    by_cases h2:room≤(ns.length:Int)
    ·rw [if_pos h2];exact .inl ⟨rfl,.inl (by simp)⟩
    ·rw [if_neg h2]
     exact .inr ⟨k,hk',rfl,by omega,rfl⟩
   ·rw [if_pos h1];exact .inl ⟨rfl,.inl (by simp)⟩
theorem Leaps.grow {ns:List Nd} {lp:List Int} (ht:Tree ns) (hl:Leaps ns lp) (hlen:lp.length=ns.length) {nd:Nd} (ht':Tree (ns ++ [nd])) {k:Nat} (hk:k<ns.length) (ha:nd.ah=(k:Int)) (h:Int):Leaps (ns ++ [nd]) (lp ++ [ancZ (ns ++ [nd]) (k:Int) h]) where
 len:=by simp [hlen]
 ok:=fun i v hv=>by
  by_cases hi:i<lp.length
  ·rw [List.getElem?_append_left hi] at hv
   rcases hl.ok i v hv with h1 | ⟨x,h1,h2,h3⟩
   ·exact .inl h1
   ·exact .inr ⟨x,h1,h2,by rw [ZgK nd ht (by omega)];exact h3⟩
  ·have e0:i=ns.length:=by
    have:=(List.getElem?_eq_some_iff.1 hv).1
    simp at this;omega
   subst e0
   rw [List.getElem?_append_right (by omega),hlen,Nat.sub_self] at hv
   cases hv
   have hn:ns.length<(ns ++ [nd]).length:=by simp
   have ea:(ns ++ [nd])[ns.length].ah=(k:Int):=by simpa using ha
   rw [ZkC ht' hn hk ea,ZgK nd ht hk]
   unfold ancZ
   by_cases hc:0≤(k:Int)∧(k:Int)<((ns ++ [nd]).length:Int)∧0≤h
   ·rw [if_pos hc,Int.toNat_natCast,ZgK nd ht hk]
    cases e:(rowP ns k)[h.toNat]? with
    | none=>exact .inl rfl
    | some y=>
     have hy:=List.mem_of_getElem? e
     have:=Znn ht hk y hy
     exact .inr ⟨y,rfl,by omega,List.mem_append.2 (.inl hy)⟩
   ·rw [if_neg hc];exact .inl rfl
theorem skAdd_eq (hN:600≤N) {st:LL} {ia it:Nat} {p:Zae} {gs:List Zcc} {cs:List ZbL} (hg:p.Gates=rowG gs) (hc:p.Checks=rowC cs) (lg:gs.length≤400) (lc:cs.length≤400) {room:Int} (hroom:room≤512) {ns:List Nd} {lp:List Int} (T:TreeAt st ia it p room ns lp)
  {h:Zag} (hh:WfH h) (now:Int) (hnow : -1152921504606846976≤now∧now≤9223372036854775807) :
  ∃lp' st',ZbI N (some it) h now st=some ((addT p gs cs room ns h now).1,(addT p gs cs room ns h now).2.1,(addT p gs cs room ns h now).2.2.1,st')∧TreeAt st' ia it p room (addT p gs cs room ns h now).2.2.2 lp'∧(∀j,j≠ia→j≠it→st'[j]? = st[j]?):=by
 have ht':=Zod (p:=p) (gs:=gs) (cs:=cs) hroom T.tr hh now
 unfold ZbI ZbI.p1
 rw [if_neg (c:=Option.isNone (some it)=true) (by simp),Zac,T.t,ZaL]
 unfold tree2
 rw [Zem,Add_eq (by omega) hg hc lg lc hroom T.tr T.a hh now hnow,Zac]
 dsimp only
 rcases ZmR p gs cs room ns h now with ⟨e,e1⟩ | ⟨k,hk,hpl,hlr,e⟩
 ·rw [e,ZjE T.a]
  refine ⟨lp,st,?_,T,fun j _ _=>rfl⟩
  by_cases h6:(addT p gs cs room ns h now).2.2.1=0
  ·rcases e1 with e1 | ⟨k,hk,e1⟩
   ·exact absurd h6 e1
   ·rw [if_pos (by simpa using h6),T.t,ZaL]
    unfold tree2
    rw [Zem,if_neg (by rw [e1,Zdr,T.len];simp;omega)]
  ·rw [if_neg (by simpa using h6)]
 ·rw [e] at ht' ⊢
  dsimp only at ht' ⊢
  have t2:(st.set ia (aOf p room (ns ++ [nodeOn ns k h])).lo)[it]? = some (tree2 ia lp):=by
   rw [List.getElem?_set_ne T.ne];exact T.t
  have a2:(st.set ia (aOf p room (ns ++ [nodeOn ns k h])).lo)[ia]? = some (aOf p room (ns ++ [nodeOn ns k h])).lo:=List.getElem?_set_self (List.getElem?_eq_some_iff.1 T.a).1
  have hit:=(List.getElem?_eq_some_iff.1 t2).1
  have hn:ns.length<(ns ++ [nodeOn ns k h]).length:=by simp
  have en:(ns ++ [nodeOn ns k h])[ns.length]=nodeOn ns k h:=by simp
  obtain ⟨hx,eh⟩:=skH_eq (N:=N) ((ns ++ [nodeOn ns k h])[ns.length].en).Height
  have lv:Leaps (ns ++ [nodeOn ns k h]) lp:=⟨by rw [T.len];simp,fun i v hv=>by
   have hi:=(List.getElem?_eq_some_iff.1 hv).1
   rcases T.lv.ok i v hv with h1 | ⟨x,h1,h2,h3⟩
   ·exact .inl h1
   ·exact .inr ⟨x,h1,h2,by rw [ZgK _ T.tr (by rw [←T.len];exact hi)];exact h3⟩⟩
  have sm:=T.tr.small
  rw [if_pos (by rfl),t2,ZaL]
  unfold tree2
  rw [Zem,if_pos (by rw [Zdr,T.len];simp),Zac,a2,ZaL,ZcH,Zon p room hn,Zac]
  dsimp only
  rw [eh,Zac,show ((ns ++ [nodeOn ns k h])[ns.length].en).Ahead=(ns ++ [nodeOn ns k h])[ns.length].ah from rfl,en,show (nodeOn ns k h).ah=(k:Int) from rfl,show (ZaJ.mk (aOf p room (ns ++ [nodeOn ns k h])) (rowI lp))=tOf p room (ns ++ [nodeOn ns k h]) lp from rfl,ZiN hN ht' lv _ _ (.inl (by rw [T.len];omega)),Zac,ZhX,ZfB,Zaf (by rw [ZcY,List.length_append,List.length_singleton,T.len];omega),List.set_set]
  refine ⟨_,_,rfl,⟨?_,?_,T.ne,T.lv.grow T.tr T.len ht' hk rfl hx,by simp [T.len],ht'⟩,fun j h1 h2=>?_⟩
  ·rw [List.getElem?_set_ne (Ne.symm T.ne)];exact a2
  ·exact List.getElem?_set_self hit
  ·rw [List.getElem?_set_ne (Ne.symm h2),List.getElem?_set_ne (Ne.symm h1)]
theorem skNew_eq (hN:500≤N) {p:Zae} {gs:List Zcc} {cs:List ZbL} (hg:p.Gates=rowG gs) (hc:p.Checks=rowC cs) (lg:gs.length≤400) (lc:cs.length≤400) (hp:WfP p) (room:Int) (st:LL) :
  Zer N p room st=if rgood p gs cs=true then some (some (st.length+1),0,(st ++ [(aOf p (roomOf room) [rootN p]).lo]) ++ [tree2 st.length [-1]]) else some (none,1,st):=by
 unfold Zer
 rw [New_eq hN hg hc lg lc hp]
 cases rgood p gs cs with
 | false=>rfl
 | true=>
  rw [if_pos rfl,Zac,if_pos (c:=true=true) rfl]
  dsimp only
  rw [if_neg (by simp),List.length_append,List.length_singleton]
  rfl
theorem skNew_at {p:Zae} (hp:WfP p) (room:Int) (st:LL):TreeAt ((st ++ [(aOf p room [rootN p]).lo]) ++ [tree2 st.length [-1]]) st.length (st.length+1) p room [rootN p] [-1] where
 a:=by rw [List.getElem?_append_left (by simp)];simp
 t:=by rw [List.getElem?_append_right (by simp)];simp
 ne:=by omega
 lv:=⟨by simp,fun i v hv=>by
  cases i with
  | zero=>cases hv;exact .inl rfl
  | succ i=>cases hv⟩
 len:=rfl
 tr:=Tree.one_node hp.h
theorem TreeAt.app {st:LL} {ia it:Nat} {p:Zae} {room:Int} {ns:List Nd} {lp:List Int} (T:TreeAt st ia it p room ns lp) (x:LL):TreeAt (st++x) ia it p room ns lp where
 a:=by rw [List.getElem?_append_left (List.getElem?_eq_some_iff.1 T.a).1];exact T.a
 t:=by rw [List.getElem?_append_left (List.getElem?_eq_some_iff.1 T.t).1];exact T.t
 ne:=T.ne
 lv:=T.lv
 len:=T.len
 tr:=T.tr
end Go.Dn.F
set_option maxRecDepth 100000
namespace Go.Dn.F
open Go.Dn Go.Proofs
variable {N:Nat}
structure Grown (st:LL) (ia it im:Nat) (p:Zae) (ns:List Nd) (lp:List Int):Prop where
 T:TreeAt st ia it p 100 ns lp
 m:st[im]? = some (rOf p 100 ns).lo
 pos:1≤ns.length
 small:ns.length≤41
 good:GoodT ns
 root:ns[0]? = some (rootN p)
theorem Zoe {p:Zae} {gs:List Zcc} {cs:List ZbL} {room:Int} {ns:List Nd} {x:Nd} (hx:ns[0]? = some x) (h:Zag) (now:Int):(addT p gs cs room ns h now).2.2.2[0]? = some x:=by
 rcases Zgv p gs cs room ns h now with e | ⟨k,hk,_,_,_,_,e⟩
 ·rw [e];exact hx
 ·rw [e];dsimp only;rw [List.getElem?_append_left (by omega)];exact hx
structure WfC14 (c:Zbq):Prop where
 h:WfH c.Header
 n:i64R c.Now
noncomputable def rowC14 (l:List Zbq):LL:=l.map Zbq.ls
theorem Zjh {l:List Zbq} {i:Nat} (h:i<l.length):(rowC14 l)[i]? = some l[i].ls:=by simp [rowC14,h]
@[simp] theorem Zju (l:List Zbq):len (rowC14 l)=(l.length:Int):=by simp [len,rowC14]
@[simp] theorem ZjI (l:List Zbq):(rowC14 l).length=l.length:=by simp [rowC14]
theorem open_C14 {xs:LL} (h : ∀x∈xs,LTys tysCm x) : ∃l,xs=rowC14 l∧∀x∈l,WfC14 x:=
 decode fun x hx=>by
  obtain ⟨_,_,rfl,h1,h⟩:=(h x hx).cons_inv
  obtain ⟨_,_,rfl,h2,h⟩:=h.cons_inv
  obtain ⟨_,_,rfl,h3,h⟩:=h.cons_inv
  obtain ⟨_,_,rfl,h4,h⟩:=h.cons_inv
  obtain ⟨_,_,rfl,h5,h⟩:=h.cons_inv
  obtain ⟨_,_,rfl,h6,h⟩:=h.cons_inv
  obtain ⟨_,_,rfl,h7,h⟩:=h.cons_inv
  cases h.nil_inv
  obtain ⟨a1,rfl,w1⟩:=h1.int_inv
  obtain ⟨a2,rfl,k2,w2⟩:=h2.arr_inv
  obtain ⟨a3,rfl,k3,w3⟩:=h3.arr_inv
  obtain ⟨a4,rfl,w4⟩:=h4.int_inv
  obtain ⟨a5,rfl,w5⟩:=h5.int_inv
  obtain ⟨a6,rfl,w6⟩:=h6.int_inv
  obtain ⟨a7,rfl,w7⟩:=h7.int_inv
  refine ⟨⟨⟨a1,a2,a3,a4,a5,a6⟩,a7⟩,rfl,⟨⟨ZeB w1,?_,ZeB w4,ZeB w5,ZeB w6⟩,ZeB w7⟩⟩
  simp only [wfH,Bool.and_eq_true]
  exact ⟨ZlR k2 w2,ZlR k3 w3⟩
theorem ZmM {p:Zae} (hp:WfP p) (l:List Zbq) (hl:l.length+900≤N) (hb:l.length≤maxLen) : ∃b,ZbH N p (rowC14 l)=some b∧(b=false→(∀x∈l,0≤x.Now)∧l.length≤40∧∃gs cs,p.Gates=rowG gs∧p.Checks=rowC cs∧gs.length≤400∧cs.length≤400∧rgood p gs cs=true):=by
 unfold ZbH
 have hm:maxLen=9223372036854775807:=rfl
 refine Zhu (fun m (v:Int)=>∃k:Nat,k+m=l.length∧v=(k:Int)∧∀x∈l.take k,0≤x.Now) ?_ N l.length 0 ⟨0,by omega,rfl,by simp⟩ (by omega)
 rintro G m _ ⟨k,hk,rfl,ha⟩ hG
 unfold ZbH.p1
 rw [Zju]
 by_cases hlt:k<l.length
 ·rw [if_pos (by simp<;>omega),Zaf (by omega),Int.toNat_natCast,Zjh hlt,ZaL,Zej,ZaC (by omega) (by omega)]
  by_cases h:l[k].Now<0
  ·rw [if_pos (by simpa using h)];exact ⟨true,rfl,fun h=>by cases h⟩
  ·rw [if_neg (by simpa using h)]
   refine hG (m-1) _ (by omega) ⟨k+1,by omega,by omega,fun x hx=>?_⟩
   rw [List.take_succ_eq_append_getElem hlt] at hx
   rcases List.mem_append.1 hx with hx | hx
   ·exact ha x hx
   ·cases List.mem_singleton.1 hx;omega
 ·rw [if_neg (by simp<;>omega)]
  rw [List.take_of_length_le (by omega)] at ha
  by_cases h1:len p.Gates>20
  ·rw [if_pos (by simpa using h1)];exact ⟨true,rfl,fun h=>by cases h⟩
  rw [if_neg (by simpa using h1)]
  by_cases h2:len p.Checks>20
  ·rw [if_pos (by simpa using h2)];exact ⟨true,rfl,fun h=>by cases h⟩
  rw [if_neg (by simpa using h2)]
  by_cases h3:(l.length:Int)>40
  ·rw [if_pos (by simpa using h3)];exact ⟨true,rfl,fun h=>by cases h⟩
  rw [if_neg (by simpa using h3)]
  obtain ⟨gs,eg⟩:=open_G hp.g
  obtain ⟨cs,ec⟩:=open_K hp.c
  have lg:gs.length≤400:=by simp [len,eg] at h1;omega
  have lc:cs.length≤400:=by simp [len,ec] at h2;omega
  rw [ZjP (by omega) eg lg ec lc,Zac]
  refine ⟨_,rfl,fun h=>⟨ha,by omega,gs,cs,eg,ec,lg,lc,by simpa using h⟩⟩
theorem ZmL (hN:1000≤N) {p:Zae} (hp:WfP p) {gs:List Zcc} {cs:List ZbL} (hg:p.Gates=rowG gs) (hc:p.Checks=rowC cs) (lg:gs.length≤400) (lc:cs.length≤400) (hgd:rgood p gs cs=true)
  (l:List Zbq) (hl : ∀x∈l,WfC14 x) (h40:l.length≤40) (hn : ∀x∈l,0≤x.Now) (st:LL) :
  ∃ia it im ns lp st',ZbN N p (rowC14 l) st=some (some it,some im,st')∧Grown st' ia it im p ns lp:=by
 unfold ZbN
 rw [skNew_eq (by omega) hg hc lg lc hp,hgd,if_pos rfl,Zac]
 dsimp only
 rw [ZkH (by omega) hp,Zac,show roomOf 100=100 from rfl]
 dsimp only
 have T0:=(skNew_at hp 100 st).app [(rOf p 100 [rootN p]).lo]
 have m0:(st ++ [(aOf p 100 [rootN p]).lo] ++ [tree2 st.length [-1]] ++ [(rOf p 100 [rootN p]).lo]:LL)[st.length+2]? = some (rOf p 100 [rootN p]).lo:=by
  rw [List.getElem?_append_right (by simp)];simp
 have e3:(st ++ [(aOf p 100 [rootN p]).lo] ++ [tree2 st.length [-1]]:LL).length=st.length+2:=by simp
 rw [e3]
 have key : ∃r,loopN (ZbN.p1 N (some (st.length+1)) (some (st.length+2)) (rowC14 l)) N (0,st ++ [(aOf p 100 [rootN p]).lo] ++ [tree2 st.length [-1]] ++ [(rOf p 100 [rootN p]).lo])=some r∧∃ns lp st',r=(some (st.length+1),some (st.length+2),st')∧Grown st' st.length (st.length+1) (st.length+2) p ns lp:=by
  generalize (st ++ [(aOf p 100 [rootN p]).lo] ++ [tree2 st.length [-1]] ++ [(rOf p 100 [rootN p]).lo]:LL)=s0 at T0 m0 ⊢
  generalize st.length=n at T0 m0 ⊢
  refine Zhu (Q:=fun r:(Option Nat)×(Option Nat)×LL=>∃ns lp st',r=(some (n+1),some (n+2),st')∧Grown st' n (n+1) (n+2) p ns lp) (fun m (s:Int×LL)=>∃(j:Nat) (ns:List Nd) (lp:List Int) (st':LL),s=((j:Int),st')∧j+m=l.length∧ns.length≤j+1∧Grown st' n (n+1) (n+2) p ns lp) ?_ N l.length _ ⟨0,[rootN p],[-1],s0,rfl,by omega,by simp,T0,m0,by simp,by simp,ZmA hgd,rfl⟩ (by omega)
  rintro G m _ ⟨j,ns,lp,st,rfl,hj,h1,Gr⟩ hG
  have T:=Gr.T
  have ht:=T.tr
  have sm:=Gr.small
  have ps:=Gr.pos
  unfold ZbN.p1
  dsimp only
  rw [Zju]
  by_cases hlt:j<l.length
  ·have wx:=hl _ (List.getElem_mem hlt)
   have nx:=hn _ (List.getElem_mem hlt)
   have rx:=wx.n
   unfold i64R at rx
   have l1:=addT_len p gs cs 100 ns l[j].Header l[j].Now
   obtain ⟨lp',st',ea,T',keep⟩:=skAdd_eq (N:=N) (by omega) hg hc lg lc (by omega) T wx.h l[j].Now (by omega)
   have m':st'[n+2]? = some (rOf p 100 ns).lo:=by rw [keep _ (by omega) (by omega)];exact Gr.m
   rw [if_pos (by simp<;>omega),Zaf (by omega),Int.toNat_natCast,Zjh hlt,ZaL,Zej,ea,Zac]
   dsimp only
   rw [ZkI (by omega) hg hc lg lc (by omega) ht (by omega) m' wx.h _ (by omega),Zac]
   dsimp only
   rw [ZaC (by omega) (by omega)]
   refine hG (m-1) _ (by omega) ⟨j+1,_,lp',_,by rw [Int.natCast_add];rfl,by omega,by omega,⟨⟨?_,?_,T'.ne,T'.lv,T'.len,T'.tr⟩,?_,by omega,by omega,Zof Gr.good _ _,Zoe Gr.root _ _⟩⟩
   ·rw [List.getElem?_set_ne (by omega)];exact T'.a
   ·rw [List.getElem?_set_ne (by omega)];exact T'.t
   ·exact List.getElem?_set_self (List.getElem?_eq_some_iff.1 m').1
  ·rw [if_neg (by simp<;>omega)]
   exact ⟨_,rfl,ns,lp,st,rfl,Gr⟩
 obtain ⟨r,e,ns,lp,st',rfl,Gr⟩:=key
 exact ⟨st.length,st.length+1,st.length+2,ns,lp,st',e,Gr⟩
theorem alive14 (hN:1000≤N):ZcW N=some true:=by
 obtain ⟨n,rfl⟩ : ∃n,N=n+10:=⟨N-10,by omega⟩
 kernel_rfl
def htsF:Nat→Nat→Int→Int→List Int
 | 0,_,_,_=>[]
 | f+1,c,step,h=>if h<0 then [] else h::(if 10<c+1 then htsF f (c+1) (step*2) (h-step*2) else htsF f (c+1) step (h-step))
def hts (h:Nat):List Int:=if 0<(htsF 60 0 1 (h:Int)).getLast?.getD 0 then htsF 60 0 1 (h:Int) ++ [0] else htsF 60 0 1 (h:Int)
def idK (ns:List Nd) (k:Nat):List Int:=(ids ns)[k]?.getD []
theorem idK_eq {ns:List Nd} {k:Nat} (hk:k<ns.length):idK ns k=ns[k].id:=by simp [idK,ids,hk]
@[simp] theorem ZfH (l:List Nat):(natI l).length=l.length:=by simp [natI]
theorem ZjV {l:List Nat} {i:Nat} (h:i<l.length):(rowI (natI l))[i]? = some [L.int .i64 ((l[i]:Nat):Int)]:=by simp [rowI,natI,h]
theorem Zjg (l:List Zag):plainRow (rowH l)=true:=by simp [plainRow,rowH,Zag.ls,L.plain]
theorem ZiP {l:List Zag} (hN:l.length<N) (hl:l.length≤1000:=by omega):Zba N (rowH l) (rowH l)=some true:=by
 unfold Zba
 rw [if_neg (by simp)]
 refine ZbJ (fun m (s:Int)=>∃j:Nat,j+m=l.length∧s=(j:Int)) ?_ N l.length _ ⟨0,by omega,rfl⟩ hN
 rintro G m _ ⟨j,hj,rfl⟩ hG
 unfold Zba.p1
 rw [ZeM]
 by_cases hlt:j<l.length
 ·rw [if_pos (by simp<;>omega),Zaf (by omega),Int.toNat_natCast,ZfD hlt,ZaL,ZcU,Zaf (by omega),ZaL,ZcU,if_neg (by simp),ZaC (by omega) (by omega)]
  exact hG (m-1) _ (by omega) ⟨j+1,by omega,by omega⟩
 ·rw [if_neg (by simp<;>omega)]
theorem ahead_at {ns:List Nd} (ht:Tree ns) {k m x:Nat} (hk:k<ns.length) (hx:(rowP ns k)[m+1]? = some x) : ∃(h:x<ns.length) (q:Nat),ns[x].ah=(q:Int)∧(rowP ns k)[m]? = some q:=by
 obtain ⟨h1,h2⟩:=Zgk ht hk hx
 obtain ⟨_,h3⟩:=Zlv ht hk hx
 refine ⟨h1,?_⟩
 rcases Zee ht h1 with ⟨z,a,e,c⟩ | ⟨q,hq,a,e,hq',c⟩
 ·omega
 ·refine ⟨q,a,?_⟩
  have l1:=Zfe ht h1
  have l2:=ZgJ ht hq'
  have e1:(rowP ns x)[m]? = (rowP ns k)[m]? := by rw [h2,List.getElem?_take_of_lt (by omega)]
  rw [←e1,e,List.getElem?_append_left (by have:=congrArg List.length e;simp at this;omega)]
  have:=congrArg List.length e
  simp at this
  rw [show (rowP ns q).length-1=m by omega] at l2
  exact l2
def pathS (ns:List Nd) (k:Int):List Nat:=if 0≤k∧k<(ns.length:Int) then (rowP ns k.toNat).drop 1 else []
theorem ZlZ (l:List Int) (i:Nat) (x:Int):(rowI l).set i [L.int .i64 x]=rowI (l.set i x):=by simp [rowI,List.map_set]
theorem Path_eq (hN:600≤N) {p:Zae} {room:Int} {ns:List Nd} {lp:List Int} (ht:Tree ns) (k:Int):Zbe N (tOf p room ns lp) k=some (rowI (natI (pathS ns k))):=by
 have sm:=ht.small
 unfold Zbe pathS
 rw [Zfu,Zac]
 by_cases hk0:k<0∨(ns.length:Int)≤k
 ·rw [Zkd hk0,if_neg (c:=0≤k∧k<(ns.length:Int)) (by omega),show (if (0:Int) > -1 then (0:Int) else -1)=0 from rfl,Zaf (by omega),Zaf (by omega),Zaf (by omega),ZaC (by simp) (by simp)]
  obtain ⟨n,rfl⟩ : ∃n,N=n+1:=⟨N-1,by omega⟩
  rw [Zas]
  unfold Zbe.p1
  dsimp only
  rw [if_neg (by simp),show (if (0:Int) > -1 then (0:Int) else -1)=0 from rfl,Zaf (by simp)]
  rfl
 obtain ⟨k,rfl⟩ : ∃j:Nat,k=(j:Int):=⟨k.toNat,by omega⟩
 have hk:k<ns.length:=by omega
 have lk:=Zfe ht hk
 have pk:=ZjH ht hk
 have bk:=(ht.ch _ (List.getElem_mem hk)).2
 obtain ⟨n,hn⟩ : ∃n,(rowP ns k).length=n+1:=⟨(rowP ns k).length-1,by omega⟩
 have e0:(if (0:Int)>hZ ns (k:Int) then (0:Int) else hZ ns (k:Int))=(n:Int):=by
  rw [ZlM hk,if_neg (by omega)];omega
 rw [if_pos (c:=0≤(k:Int)∧(k:Int)<(ns.length:Int)) (by omega),Int.toNat_natCast]
 unfold Zbe.p1
 simp only [e0,Int.toNat_natCast]
 rw [Zaf (by omega),Zaf (by omega),Zaf (by omega),ZaC (by omega) (by omega),show List.replicate n [L.int .i64 0]=rowI (List.replicate n 0) by simp [rowI]]
 refine ZbJ (fun m' (s:Int×Int×LL)=>∃(m x:Nat),m=m'∧m≤n∧s=((x:Int),(m:Int)-1,rowI (List.replicate m 0++natI ((rowP ns k).drop (m+1))))∧(rowP ns k)[m]? = some x) ?_ N n _ ⟨n,k,rfl,Nat.le_refl _,?_,?_⟩ (by omega)
 ·rintro G m' _ ⟨m,x,rfl,hm,rfl,hx⟩ hG
  dsimp only
  cases m with
  | zero=>
   rw [if_neg (by simp),Zaf (by simp [hn]),List.take_of_length_le (by simp [hn])]
   rfl
  | succ m=>
   obtain ⟨h1,q,a,eq⟩:=ahead_at ht hk hx
   rw [show ((m+1:Nat):Int)-1=(m:Int) by omega,if_pos (by simp),Zaf (by omega),Zaf (by omega),Zhp p room lp h1,Zac]
   dsimp only
   rw [show (ns[x].en).Ahead=ns[x].ah from rfl,a,Nat.zero_add,Int.toNat_natCast,ZlZ,ZaC (by omega) (by omega)]
   refine hG m _ (by omega) ⟨m,q,rfl,by omega,?_,eq⟩
   have hlt:m+1<(rowP ns k).length:=(List.getElem?_eq_some_iff.1 hx).1
   have e1:(rowP ns k).drop (m+1)=x::(rowP ns k).drop (m+1+1):=by
    rw [List.drop_eq_getElem_cons hlt]
    congr 1
    exact (List.getElem?_eq_some_iff.1 hx).2
   have e2:(List.replicate (m+1) (0:Int)++natI ((rowP ns k).drop (m+1+1))).set m (x:Int)=List.replicate m 0++natI ((rowP ns k).drop (m+1)):=by
    rw [e1,List.replicate_succ',List.append_assoc,List.set_append_right _ _ (by simp)]
    simp [natI]
   rw [e2]
 ·rw [show n+1=(rowP ns k).length by omega,List.drop_length]
  simp [natI]
 ·have:=ZgJ ht hk
  rwa [show (rowP ns k).length-1=n by omega] at this
def forkZ (ns:List Nd) (tip:Int):List (List Int)→Nat
 | []=>0
 | x::t=>match place 0 (ids ns) x with
  | some k=>if withinB ns (k:Int) tip=true then k else forkZ ns tip t
  | none=>forkZ ns tip t
theorem Fork_eq (hN:600≤N) {p:Zae} {room:Int} {ns:List Nd} {lp:List Int} (ht:Tree ns) (hl:Leaps ns lp) (hlen:lp.length=ns.length) (tip:Int) (names:List (List Int)) (h40:names.length≤512) :
  ZbB N (tOf p room ns lp) tip (rowIds names)=some (forkZ ns tip names:Int):=by
 unfold ZbB
 refine ZbJ (fun m (s:Int)=>∃j:Nat,j+m=names.length∧s=(j:Int)∧forkZ ns tip (names.drop j)=forkZ ns tip names) ?_ N names.length _ ⟨0,by omega,rfl,rfl⟩ (by omega)
 rintro G m _ ⟨j,hj,rfl,e⟩ hG
 unfold ZbB.p1 Zcy
 rw [ZeR]
 by_cases hlt:j<names.length
 ·rw [List.drop_eq_getElem_cons hlt,forkZ] at e
  rw [if_pos (by simp<;>omega),Zaf (by omega),Int.toNat_natCast,Zfn hlt,ZaL,Zep,show (tOf p room ns lp).store=aOf p room ns from rfl,Zoj,Zac,Zac,Zog hN ht hl (by omega),Zac,ZaC (by omega) (by omega)]
  cases e1:place 0 (ids ns) names[j] with
  | none=>
   rw [e1] at e
   have:withinB ns (placeI none) tip=false:=by
    show withinB ns (-1) tip=false
    unfold withinB;rw [decide_eq_false (by omega)]
   rw [this,if_neg (by simp)]
   exact hG (m-1) _ (by omega) ⟨j+1,by omega,by omega,e⟩
  | some k=>
   rw [e1] at e
   dsimp only at e
   rw [show placeI (some k)=(k:Int) from rfl]
   cases e2:withinB ns (k:Int) tip with
   | true=>
    rw [e2,if_pos rfl] at e
    rw [if_pos rfl,←e]
   | false=>
    rw [e2] at e
    rw [if_neg (by simp)] at e
    rw [if_neg (by simp)]
    exact hG (m-1) _ (by omega) ⟨j+1,by omega,by omega,e⟩
 ·rw [List.drop_of_length_le (by omega),forkZ] at e
  rw [if_neg (by simp<;>omega),←e];rfl
theorem Zfv {ns:List Nd} {tip:Int} (h:tip<0∨(ns.length:Int)≤tip) : ∀names,forkZ ns tip names=0
 | []=>rfl
 | x::t=>by
  unfold forkZ
  cases place 0 (ids ns) x with
  | none=>exact Zfv h t
  | some k=>
   have:withinB ns (k:Int) tip=false:=by unfold withinB;rw [decide_eq_false (by omega)]
   dsimp only
   rw [this,if_neg (by simp)]
   exact Zfv h t
theorem Zke {ns:List Nd} (ht:Tree ns) {tip:Nat} (h:tip<ns.length) : ∀names,forkZ ns (tip:Int) names∈rowP ns tip
 | []=>List.mem_of_getElem? (Znl ht h)
 | x::t=>by
  unfold forkZ
  cases place 0 (ids ns) x with
  | none=>exact Zke ht h t
  | some k=>
   dsimp only
   cases e:withinB ns (k:Int) (tip:Int) with
   | true=>
    rw [if_pos rfl]
    unfold withinB at e
    rw [decide_eq_true_eq] at e
    have:=e.2.2.2.2
    rwa [Int.toNat_natCast,Int.toNat_natCast] at this
   | false=>rw [if_neg (by simp)];exact Zke ht h t
theorem place_is {ns:List Nd} (ht:Tree ns) {k:Nat} (hk:k<(ids ns).length) {x:List Int} (e:(ids ns)[k]=x):place 0 (ids ns) x=some k:=by
 have:=Ziu (i:=0) hk ht.one
 rw [Nat.zero_add,e] at this;exact this
theorem ZjN (hN:600≤N) {p:Zae} {room:Int} {ns:List Nd} (ht:Tree ns) (tip:Int) (names:List (List Int)) (h40:names.length≤512) :
  ZaV N (rOf p room ns) tip (rowIds names)=some (forkZ ns tip names:Int):=by
 have sm:=ht.small
 have ll:(rOf p room ns).List_=rowH (ns.map Nd.hd):=rfl
 have li:(ids ns).length=ns.length:=by simp [ids]
 unfold ZaV
 rw [ll,ZeM,List.length_map]
 by_cases h1:tip<0
 ·rw [if_pos (by simpa using h1),Zfv (.inl h1)];rfl
 rw [if_neg (by simpa using h1)]
 by_cases h2:tip≥(ns.length:Int)
 ·rw [if_pos (by simpa using h2),Zfv (.inr h2)];rfl
 rw [if_neg (by simpa using h2)]
 obtain ⟨t,rfl⟩ : ∃j:Nat,tip=(j:Int):=⟨tip.toNat,by omega⟩
 have hk:t<ns.length:=by omega
 have lt:=Zfe ht hk
 have bt:=(ht.ch _ (List.getElem_mem hk)).2
 refine ZbJ (fun m (s:Int)=>∃j:Nat,j+m=names.length∧s=(j:Int)∧forkZ ns (t:Int) (names.drop j)=forkZ ns (t:Int) names) ?_ N names.length _ ⟨0,by omega,rfl,rfl⟩ (by omega)
 rintro G m _ ⟨j,hj,rfl,e⟩ hG
 unfold ZaV.p1
 rw [ZeR]
 by_cases hlt:j<names.length
 ·rw [List.drop_eq_getElem_cons hlt,forkZ] at e
  rw [if_pos (by simp<;>omega),Zaf (by omega),Int.toNat_natCast,Zfn hlt,ZaL,Zep,ZfV ht (by omega) hk,Zac,Zaf (Zfo _)]
  refine ZbJ (fun m' (s:Int)=>∃i:Nat,i+m'=(rowP ns t).length∧s=(i:Int)∧∀z,z∈(rowP ns t).take i→(ids ns)[z]? ≠ some names[j]) ?_ N (rowP ns t).length _ ⟨0,by omega,rfl,by simp⟩ (by omega)
  rintro G2 m' _ ⟨i,hi,rfl,hno⟩ hG2
  unfold ZaV.p2
  rw [Zdr,ZfH]
  by_cases hil:i<(rowP ns t).length
  ·have hz:=(Zgk ht hk (List.getElem?_eq_getElem hil)).1
   have hz2:(rowP ns t)[i]<(ids ns).length:=by omega
   rw [if_pos (by simp<;>omega),Zaf (by omega),Nat.zero_add,Int.toNat_natCast,ZjV hil,ZaL,ZcT,Zaf (by omega),show (rOf p room ns).Ids=rowIds (ids ns) from rfl,ZeR,Zaf (by omega),Int.toNat_natCast,Zfn hz2,ZaL,Zep,ZaC (by omega) (by omega)]
   by_cases hx:(ids ns)[(rowP ns t)[i]]=names[j]
   ·rw [place_is ht hz2 hx] at e
    have hw:withinB ns (((rowP ns t)[i]:Nat):Int) (t:Int)=true:=by
     unfold withinB
     rw [decide_eq_true_eq,Int.toNat_natCast,Int.toNat_natCast]
     exact ⟨by omega,by omega,by omega,by omega,List.getElem_mem hil⟩
    dsimp only at e
    rw [hw,if_pos rfl] at e
    rw [if_pos (by simp [hx]),←e]
   ·rw [if_neg (by simpa using hx)]
    refine hG2 (m'-1) _ (by omega) ⟨i+1,by omega,by omega,fun z hz3=>?_⟩
    rw [List.take_succ_eq_append_getElem hil] at hz3
    rcases List.mem_append.1 hz3 with hz3 | hz3
    ·exact hno z hz3
    ·cases List.mem_singleton.1 hz3
     rw [List.getElem?_eq_getElem hz2]
     exact fun h=>hx (Option.some.inj h)
  ·rw [List.take_of_length_le (by omega)] at hno
   rw [if_neg (by simp<;>omega),ZaC (by omega) (by omega)]
   refine hG (m-1) _ (by omega) ⟨j+1,by omega,by omega,?_⟩
   rw [←e]
   cases e1:place 0 (ids ns) names[j] with
   | none=>rfl
   | some k=>
    dsimp only
    obtain ⟨_,k1,k2⟩:=ZeA e1
    simp only [Nat.sub_zero] at k1 k2
    cases e2:withinB ns (k:Int) (t:Int) with
    | false=>rw [if_neg (by simp)]
    | true=>
     unfold withinB at e2
     rw [decide_eq_true_eq] at e2
     have:=e2.2.2.2.2
     rw [Int.toNat_natCast,Int.toNat_natCast] at this
     exact absurd (by rw [List.getElem?_eq_getElem k1,k2]) (hno k this)
 ·rw [List.drop_of_length_le (by omega),forkZ] at e
  rw [if_neg (by simp<;>omega),←e];rfl
def hdK (ns:List Nd) (k:Nat):Zag:=(ns[k]?.map Nd.hd).getD h0
def tellS (ns:List Nd) (stop:List Int) (most:Int):List Nat→List Zag→List Zag
 | [],out=>out
 | k::r,out=>if (out.length:Int)≥most then out else if idK ns k=stop then out ++ [hdK ns k] else tellS ns stop most r (out ++ [hdK ns k])
theorem Zmy {ns:List Nd} {stop:List Int} {most:Int} {out:List Zag} (h:(out.length:Int)≥most) : ∀r,tellS ns stop most r out=out
 | []=>rfl
 | k::r=>by unfold tellS;rw [if_pos h]
theorem Zks (ns:List Nd) (stop:List Int) (most:Int) : ∀(r:List Nat) (out:List Zag),(tellS ns stop most r out).length≤out.length+r.length
 | [],out=>by simp [tellS]
 | k::r,out=>by
  unfold tellS
  split
  ·omega
  ·split
   ·simp
   ·have:=Zks ns stop most r (out ++ [hdK ns k])
    simp at this ⊢;omega
theorem ZmS (hN:1000≤N) {p:Zae} {room:Int} {ns:List Nd} {lp:List Int} (ht:Tree ns) (hl:Leaps ns lp) (hlen:lp.length=ns.length) (hpos:1≤ns.length) (h41:ns.length≤41) (tip:Int) (names:List (List Int)) (h40:names.length≤512) (stop:List Int) (most:Int) :
  ∃r:List Zag,ZaK N (tOf p room ns lp) tip (rowIds names) stop most=some (rowH r)∧ZaF N (rOf p room ns) tip (rowIds names) stop most=some (rowH r)∧r.length≤41:=by
 have ll:(rOf p room ns).List_=rowH (ns.map Nd.hd):=rfl
 have lli:(rOf p room ns).Ids=rowIds (ids ns):=rfl
 have li:(ids ns).length=ns.length:=by simp [ids]
 unfold ZaK ZaF
 rw [Path_eq (by omega) ht,Zac,Zaf (Zfo _),Fork_eq (by omega) ht hl hlen _ _ h40,Zac,ll,ZeM,List.length_map]
 by_cases hbad:tip<0∨(ns.length:Int)≤tip
 ·refine ⟨[],?_,?_,by simp⟩
  ·have ep:pathS ns tip = []:=by unfold pathS;rw [if_neg (by omega)]
   rw [Zfv hbad,Zhp p room lp (k:=0) (by omega),Zac,ep]
   dsimp only
   have c1:ns[0].ch.length=1:=by
    rcases ht.ah 0 (by omega) with ⟨_,_,c⟩ | ⟨q,hq,_⟩
    ·exact c
    ·omega
   have eh:(ns[0].en).Height=0:=by
    show (ns[0].ch.length:Int)-1=0
    rw [c1];rfl
   obtain ⟨n,rfl⟩ : ∃n,N=n+1:=⟨N-1,by omega⟩
   rw [eh,Zaf (by simp [natI,rowI,len]),Zaf (by simp [natI,rowI,len]),Zas]
   unfold ZaK.p1 ZaK.p2
   dsimp only
   rw [eh,if_neg (by simp [natI,rowI,len])]
   rfl
  ·rcases hbad with h | h
   ·rw [if_pos (by simpa using h)];rfl
   ·by_cases h':tip<0
    ·rw [if_pos (by simpa using h')];rfl
    ·rw [if_neg (by simpa using h'),if_pos (by simpa using h)];rfl
 obtain ⟨t,rfl⟩ : ∃j:Nat,tip=(j:Int):=⟨tip.toNat,by omega⟩
 have hk:t<ns.length:=by omega
 have lt:=Zfe ht hk
 have bt:=(ht.ch _ (List.getElem_mem hk)).2
 have pt:=ZjH ht hk
 have hf:=Zke ht hk names
 rw [if_neg (by simp),if_neg (by simp;omega),ZjN (by omega) ht _ _ h40,Zac,ZfV ht (by omega) hk,Zac,Zaf (Zfo _)]
 generalize forkZ ns (t:Int) names=f at hf ⊢
 obtain ⟨hf1,ef⟩:=ZhW ht hk hf
 have pf:=List.length_pos_iff.2 (ht.ch _ (List.getElem_mem hf1)).1
 have hfl:=(List.getElem?_eq_some_iff.1 ef).1
 obtain ⟨h,hh⟩ : ∃h,ns[f].ch.length=h+1:=⟨ns[f].ch.length-1,by omega⟩
 rw [hh,Nat.add_sub_cancel] at ef hfl
 have ep:pathS ns (t:Int)=(rowP ns t).drop 1:=by unfold pathS;rw [if_pos (by omega),Int.toNat_natCast]
 have ell:len (rowI (natI (pathS ns (t:Int))))=(((rowP ns t).length-1:Nat):Int):=by rw [ep,Zdr,ZfH,List.length_drop]
 have eln:List.length (rowI (natI (pathS ns (t:Int))))=(rowP ns t).length-1:=by rw [ep,ZcY,ZfH,List.length_drop]
 have hen : ∀{k:Nat} (hk:k<ns.length),(ns[k].en).Header=hdK ns k∧(ns[k].en).Id=idK ns k:=fun {k} hk=>⟨by simp [hdK,hk];rfl,by rw [idK_eq hk];rfl⟩
 have tl:=Zks ns stop most ((rowP ns t).drop (h+1)) []
 refine ⟨tellS ns stop most ((rowP ns t).drop (h+1)) [],?_,?_,by rw [List.length_drop] at tl;simp at tl;omega⟩
 ·rw [Zhp p room lp hf1,Zac]
  dsimp only
  have eh:(if (0:Int)>(ns[f].en).Height then (0:Int) else (ns[f].en).Height)=(h:Int):=by
   rw [show (ns[f].en).Height=(ns[f].ch.length:Int)-1 from rfl,hh,if_neg (by omega)];omega
  have em:(if len (rowI (natI (pathS ns (t:Int))))<(h:Int) then len (rowI (natI (pathS ns (t:Int)))) else (h:Int))=(h:Int):=by
   rw [ell,if_neg (by omega)]
  unfold ZaK.p1 ZaK.p2
  simp only [eh,em,Int.toNat_natCast,eln]
  rw [Zaf (by omega),Zaf (by omega)]
  refine ZbJ (fun m (s:LL×Int)=>∃(j:Nat) (out:List Zag),j+m=(rowP ns t).length-1-h∧s=(rowH out,(j:Int))∧out.length=j∧tellS ns stop most ((rowP ns t).drop (h+1+j)) out=tellS ns stop most ((rowP ns t).drop (h+1)) []) ?_ N ((rowP ns t).length-1-h) _ ⟨0,[],by omega,rfl,rfl,rfl⟩ (by omega)
  rintro G m _ ⟨j,out,hj,rfl,ho,e⟩ hG
  dsimp only
  by_cases hlt:j<(rowP ns t).length-1-h
  ·have hi:h+1+j<(rowP ns t).length:=by omega
   have eg:(rowI (natI (pathS ns (t:Int))))[0+h+j]? = some [L.int .i64 (((rowP ns t)[h+1+j]:Nat):Int)]:=by
    rw [ep,ZjV (by rw [List.length_drop];omega)]
    congr 4
    rw [List.getElem_drop];congr 1;omega
   have hz:=(Zgk ht hk (List.getElem?_eq_getElem hi)).1
   rw [List.drop_eq_getElem_cons hi,tellS] at e
   rw [if_pos (by simp<;>omega),Zaf (by omega),Int.toNat_natCast,eg,ZaL,ZcT,ZeM]
   by_cases hm:(out.length:Int)≥most
   ·rw [if_pos (by simpa using hm)]
    rw [if_pos hm] at e
    rw [e]
   ·rw [if_neg hm] at e
    rw [if_neg (by simpa using hm),Zhp p room lp hz,Zac]
    dsimp only
    have e2:rowH out ++ [(hdK ns (rowP ns t)[h+1+j]).ls]=rowH (out ++ [hdK ns (rowP ns t)[h+1+j]]):=by simp [rowH]
    rw [(hen hz).1,(hen hz).2,e2,Zaf (by rw [ZfC,List.length_append,List.length_singleton];omega)]
    by_cases hs:idK ns (rowP ns t)[h+1+j]=stop
    ·rw [if_pos hs] at e
     rw [if_pos (by simpa using hs),e]
    ·rw [if_neg hs] at e
     rw [if_neg (by simpa using hs),ZaC (by omega) (by omega)]
     exact hG (m-1) _ (by omega) ⟨j+1,_,by omega,by rw [Int.natCast_add];rfl,by simp [ho],by rw [←e];rfl⟩
  ·rw [List.drop_of_length_le (by omega)] at e
   rw [if_neg (by simp<;>omega),←e];rfl
 ·refine ZbJ (fun m (s:LL×Bool×Int)=>∃(i:Nat) (out:List Zag),i+m=(rowP ns t).length∧s=(rowH out,decide (h<i),(i:Int))∧out.length≤i∧((i≤h∧out = [])∨(h<i∧tellS ns stop most ((rowP ns t).drop i) out=tellS ns stop most ((rowP ns t).drop (h+1)) []))) ?_ N (rowP ns t).length _ ⟨0,[],by omega,by simp;rfl,by simp,.inl ⟨by omega,rfl⟩⟩ (by omega)
  rintro G m _ ⟨i,out,hi,rfl,ho,hc⟩ hG
  unfold ZaF.p1 ZaF.p2
  dsimp only
  rw [Zdr,ZfH]
  by_cases hlt:i<(rowP ns t).length
  ·have hz:=(Zgk ht hk (List.getElem?_eq_getElem hlt)).1
   have hz2:(rowP ns t)[i]<(ns.map Nd.hd).length:=by simp;omega
   have hz3:(rowP ns t)[i]<(ids ns).length:=by omega
   rw [if_pos (by simp<;>omega),Zaf (by omega),Nat.zero_add,Int.toNat_natCast,ZjV hlt,ZaL,ZcT,ZaC (by omega) (by omega)]
   rcases hc with ⟨h1,rfl⟩ | ⟨h1,e⟩
   ·rw [if_neg (by simp;omega),if_neg (by simp;omega)]
    by_cases hif:i=h
    ·subst hif
     rw [List.getElem?_eq_getElem hlt] at ef
     cases ef
     refine hG (m-1) _ (by omega) ⟨i+1,[],by omega,by simp,by simp,.inr ⟨by omega,rfl⟩⟩
    ·have hne:(rowP ns t)[i]≠f:=by
      intro e0
      obtain ⟨_,hx⟩:=Zlv ht hk (List.getElem?_eq_getElem hlt)
      simp only [e0] at hx
      omega
     refine hG (m-1) _ (by omega) ⟨i+1,[],by omega,?_,by simp,.inl ⟨by omega,rfl⟩⟩
     rw [show ((((rowP ns t)[i]:Nat):Int)==(f:Int))=decide (h<i+1) by rw [decide_eq_false (by omega)];simp;omega,Int.natCast_add];rfl
   ·rw [if_pos (by simp;omega),ZeM]
    rw [List.drop_eq_getElem_cons hlt,tellS] at e
    by_cases hm:(out.length:Int)≥most
    ·rw [if_pos hm] at e
     rw [if_neg (by simp;omega),if_pos (by simp;omega)]
     refine hG (m-1) _ (by omega) ⟨i+1,out,by omega,?_,by omega,.inr ⟨by omega,by rw [Zmy hm];exact e⟩⟩
     rw [decide_eq_true (by omega:h<i+1),Int.natCast_add];rfl
    ·rw [if_neg hm] at e
     have e2:rowH out ++ [(ns.map Nd.hd)[(rowP ns t)[i]].ls]=rowH (out ++ [hdK ns (rowP ns t)[i]]):=by simp [rowH,hdK,hz]
     have e3:(ids ns)[(rowP ns t)[i]]=idK ns (rowP ns t)[i]:=by simp [idK,hz3]
     rw [if_pos (by simp;omega),Zaf (by omega),ll,ZeM,List.length_map,Zaf (by omega),Int.toNat_natCast,ZfD hz2,ZaL,ZcU,e2,Zaf (by rw [ZfC,List.length_append,List.length_singleton];omega),lli,ZeR,Zaf (by omega),Zfn hz3,ZaL,Zep,e3]
     by_cases hs:idK ns (rowP ns t)[i]=stop
     ·rw [if_pos hs] at e
      rw [if_pos (by simpa using hs),e]
     ·rw [if_neg hs] at e
      rw [if_neg (by simpa using hs),if_pos (by simp;omega)]
      refine hG (m-1) _ (by omega) ⟨i+1,_,by omega,?_,by simp;omega,.inr ⟨by omega,e⟩⟩
      rw [decide_eq_true (by omega:h<i+1),Int.natCast_add];rfl
  ·rcases hc with ⟨h1,rfl⟩ | ⟨h1,e⟩
   ·omega
   ·rw [List.drop_of_length_le (by omega)] at e
    rw [if_neg (by simp<;>omega),←e];rfl
theorem ZhU {p:Zae} (hp:WfP p) (l:List Zbq) (hl : ∀x∈l,WfC14 x) (hb:l.length≤maxLen) (tip:Int) (names:List (List Int)) (stop:List Int) (most:Int) :
  ∃st,Zcj (l.length+1000) p (rowC14 l) tip (rowIds names) stop most []=some (true,st):=by
 unfold Zcj
 rw [alive14 (by omega),Zac,if_neg (by simp)]
 obtain ⟨b,e,hgr⟩:=ZmM (N:=l.length+1000) hp l (by omega) hb
 rw [e,Zac]
 cases b with
 | true=>rw [if_pos rfl];exact ⟨_,rfl⟩
 | false=>
  obtain ⟨hn,h40,gs,cs,eg,ec,lg,lc,hgd⟩:=hgr rfl
  rw [if_neg (by simp),ZeR]
  by_cases hq40:(names.length:Int)>40
  ·rw [if_pos (by simpa using hq40)];exact ⟨_,rfl⟩
  rw [if_neg (by simpa using hq40)]
  generalize hN:l.length+1000=N
  obtain ⟨ia,it,im,ns,lp,st,eg,Gr⟩:=ZmL (N:=N) (by omega) hp eg ec lg lc hgd l hl h40 hn []
  have sm:=Gr.small
  have Tt:=Gr.T.t
  unfold tree2 at Tt
  rw [eg,Zac]
  dsimp only
  obtain ⟨r,e1,e2,e3⟩:=ZmS (N:=N) (by omega) (p:=p) (room:=100) Gr.T.tr Gr.T.lv Gr.T.len Gr.pos sm tip names (by omega) stop most
  refine ⟨st,?_⟩
  rw [Zac,Tt,ZaL,Zem,Zac,Gr.T.a,ZaL,ZcH,show (ZaJ.mk (aOf p 100 ns) (rowI lp))=tOf p 100 ns lp from rfl,e1,Zac,Zaf (Zjg _),Zac,Gr.m,ZaL,ZcM,e2,Zac,Zaf (Zjg _),ZiP (by omega),Zac]
abbrev tysHash:List Ty:=[.arr .u8 32]
theorem ZkO {ls:List L} (h:LTys tysHash ls) : ∃x:List Int,ls = [L.arr .u8 32 x]:=by
 obtain ⟨_,_,rfl,h1,h⟩:=h.cons_inv
 cases h.nil_inv
 obtain ⟨a,rfl,_,_⟩:=h1.arr_inv
 exact ⟨a,rfl⟩
theorem open_Ids {xs:LL} (h : ∀x∈xs,LTys tysHash x) : ∃l:List (List Int),xs=rowIds l:=by
 induction xs with
 | nil=>exact ⟨[],rfl⟩
 | cons x xs ih=>
  obtain ⟨l,rfl⟩:=ih fun y hy=>h y (List.mem_cons_of_mem _ hy)
  obtain ⟨a,rfl⟩:=ZkO (h x List.mem_cons_self)
  exact ⟨a::l,rfl⟩
theorem LocateAnswers_true {ls ss:List L} (xs:LL) (tip:Int) (ys:LL) (most:Int) (h0:LTys tysP ls) (h1 : ∀x∈xs,LTys tysCm x) (l1:xs.length≤maxLen) (w2:(Lit.int .i64 tip).wf=true) (h3 : ∀x∈ys,LTys tysHash x) (l3:ys.length≤maxLen) (h4:LTys tysHash ss) (w5:(Lit.int .i64 most).wf=true) :
  ∃st,Snd Tryz.prog 3 [.agg ls,.one (.sl 69 xs),.one (.int .i64 tip),.one (.sl 32 ys),.agg ss,.one (.int .i64 most)] [] [.one (.bool true)] st:=by
 obtain ⟨p,rfl,hp⟩:=open_P h0
 obtain ⟨l,rfl,hl⟩:=open_C14 h1
 obtain ⟨names,rfl⟩:=open_Ids h3
 obtain ⟨stop,rfl⟩:=ZkO h4
 obtain ⟨st,h⟩:=ZhU hp l hl (by rw [ZjI] at l1;exact l1) tip names stop most
 exact ⟨st,Zcj.snd h⟩
end Go.Dn.F
