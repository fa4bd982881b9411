/- A tree of headers, as a row of nodes, each with its whole chain; the program's arena of such a tree. -/
import Derived.Test.YtbplamjmmjnibaaGreatDoorNum
import Derived.Test.YtbplamjmmjnibaaGreatDoorRul
set_option linter.unusedSimpArgs false
set_option linter.unusedVariables false
set_option maxRecDepth 40000
namespace Go.Dn.F
open Go.Dn Go.Proofs
variable {N:Nat}
structure Nd where
 ch:List Zah
 ah:Int
 wk:Int
def h0:Zah:=⟨0,List.replicate 32 0,List.replicate 32 0,0,0,0⟩
def Nd.hd (n:Nd):Zah:=n.ch.getLast?.getD h0
def Nd.id (n:Nd):List Int:=hid n.hd
noncomputable def Nd.en (n:Nd):ZbV:=⟨n.hd,n.id,n.ah,(n.ch.length:Int)-1,nw n.wk⟩
noncomputable def rowE (ns:List Nd):LL:=ns.map fun n=>n.en.ls
noncomputable def rowS (p:Zae) (ns:List Nd):LL:=ns.map fun n=>(spotA p n.ch).ls
def idMap:Nat→List (List Int)→LM
 | _,[]=>[]
 | i,x::l=>(L.arr .u8 32 x,L.int .i64 (i:Int))::idMap (i+1) l
def ids (ns:List Nd):List (List Int):=ns.map Nd.id
def place:Nat→List (List Int)→List Int→Option Nat
 | _,[],_=>none
 | i,y::l,x=>if x=y then some i else place (i+1) l x
theorem Zgr : ∀(l:List (List Int)) (i:Nat) (x:List Int),mfind (idMap i l) (L.arr .u8 32 x)=some ((place i l x).map fun k=>(k-i,L.int .i64 (k:Int)))
 | [],i,x=>rfl
 | y::l,i,x=>by
  rw [idMap,mfind]
  simp only [keyEq,and_self,if_true]
  unfold place
  by_cases h:x=y
  ·subst h;simp
  ·rw [show (x==y)=false by simpa using h,if_neg h,Zgr l (i+1) x]
   cases e:place (i+1) l x with
   | none=>rfl
   | some k=>
    have : ∀(l:List (List Int)) (i k:Nat),place i l x=some k→i≤k:=by
     intro l
     induction l with
     | nil=>intro i k h;cases h
     | cons z l ih=>
      intro i k h
      unfold place at h
      split at h
      ·cases h;omega
      ·have:=ih _ _ h;omega
    have:=this l (i+1) k e
    simp only [Option.map_some]
    rw [show k-(i+1)+1=k-i by omega]
theorem Zhi : ∀(l:List (List Int)) (i:Nat) (x:List Int),idMap i (l ++ [x])=idMap i l ++ [(L.arr .u8 32 x,L.int .i64 ((i+l.length:Nat):Int))]
 | [],i,x=>rfl
 | y::l,i,x=>by rw [List.cons_append,idMap,Zhi l (i+1) x,idMap,List.length_cons,show i+1+l.length=i+(l.length+1) by omega];rfl
theorem ZfJ : ∀{l:List (List Int)} {i k:Nat} {x:List Int},place i l x=some k→i≤k∧∃h:k-i<l.length,l[k-i]=x
 | y::l,i,k,x,h=>by
  unfold place at h
  split at h
  ·rename_i e;cases h;exact ⟨by omega,by simp,by simp [e]⟩
  ·obtain ⟨h1,h2,h3⟩:=ZfJ h
   refine ⟨by omega,by simp;omega,?_⟩
   have:k-i=(k-(i+1))+1:=by omega
   simp only [this,List.getElem_cons_succ];exact h3
theorem ZiL : ∀{l:List (List Int)} {i:Nat} {x:List Int},place i l x=none→x∉l
 | [],_,_,_=>by simp
 | y::l,i,x,h=>by
  unfold place at h
  split at h
  ·cases h
  ·rename_i e;simp [e,ZiL h]
noncomputable def aOf (p:Zae) (room:Int) (ns:List Nd):Zav:=⟨p,rowE ns,rowS p ns,idMap 0 (ids ns),room⟩
theorem Zlp {ns:List Nd} {i:Nat} (h:i<ns.length):(rowE ns)[i]? = some ns[i].en.ls:=by simp [rowE,h]
theorem rowS_get {p:Zae} {ns:List Nd} {i:Nat} (h:i<ns.length):(rowS p ns)[i]? = some (spotA p ns[i].ch).ls:=by simp [rowS,h]
@[simp] theorem ZfO (ns:List Nd):len (rowE ns)=(ns.length:Int):=by simp [len,rowE]
@[simp] theorem len_rowS (p:Zae) (ns:List Nd):len (rowS p ns)=(ns.length:Int):=by simp [len,rowS]
structure Tree (ns:List Nd):Prop where
 small:ns.length≤512
 ch : ∀n∈ns,n.ch ≠ []∧n.ch.length≤ns.length
 wf : ∀n∈ns,∀x∈n.ch,WfH x
 wk : ∀n∈ns,isN n.wk
 ah : ∀(i:Nat) (h:i<ns.length),(i=0∧ns[i].ah = -1∧ns[i].ch.length=1)∨∃(k:Nat) (hk:k<i),ns[i].ah=(k:Int)∧ns[i].ch=ns[k].ch ++ [ns[i].hd]
 one:(ids ns).Nodup
theorem Nd.hd_snoc {n:Nd} {c:List Zah} {h:Zah} (e:n.ch=c ++ [h]):n.hd=h:=by unfold Nd.hd;rw [e];simp
theorem ZiB (p:Zae) (c:List Zah) (h:Zah):(spotA p (c ++ [h])).Prev=hid h:=by
 unfold spotA;rw [List.foldl_append];rfl
theorem ZmB {st:LL} {i:Nat} {p:Zae} {room:Int} {ns:List Nd} (hst:st[i]? = some (aOf p room ns).lo) (hl:ns.length≤512) (nd:Nd) (hid':place 0 (ids ns) nd.id=none) :
  ZaP.p1 N (some i) (spotA p nd.ch) nd.en st=some ((ns.length:Int),st.set i (aOf p room (ns ++ [nd])).lo):=by
 unfold ZaP.p1
 have e1:(aOf p room ns).list ++ [nd.en.ls]=rowE (ns ++ [nd]):=by show rowE ns++_=_;simp [rowE]
 have e2:(aOf p room ns).spots ++ [(spotA p nd.ch).ls]=rowS p (ns ++ [nd]):=by show rowS p ns++_=_;simp [rowS]
 have e3:(aOf p room ns).places ++ [(L.arr .u8 32 nd.en.Id,L.int .i64 (ns.length:Int))]=idMap 0 (ids (ns ++ [nd])):=by
  show idMap 0 (ids ns)++_=_
  unfold ids
  rw [List.map_append]
  show _=idMap 0 (List.map Nd.id ns ++ [nd.id])
  rw [Zhi,List.length_map,Nat.zero_add];rfl
 have l1:(rowE (ns ++ [nd])).length=ns.length+1:=by simp [rowE]
 have l2:(rowS p (ns ++ [nd])).length=ns.length+1:=by simp [rowS]
 rw [Zac,hst,ZaK,Zcv,e1,e2,Zai (by rw [l1];omega),Zai (by rw [l2];omega),show mfind (aOf p room ns).places (L.arr .u8 32 nd.en.Id)=some none by
  show mfind (idMap 0 (ids ns)) (L.arr .u8 32 nd.id)=_
  rw [Zgr,hid'];rfl]
 show some _=_
 rw [ZfO,List.length_append,List.length_singleton,ZaC (by omega) (by omega),show ((ns.length+1:Nat):Int)-1=(ns.length:Int) by omega,e3]
 simp only [List.set_set]
 rfl
theorem keep_eq (hN:300≤N) {st:LL} {i:Nat} {p:Zae} {room:Int} {ns:List Nd} (hst:st[i]? = some (aOf p room ns).lo) (hl:ns.length≤512) {k:Nat} (hk:k<ns.length) (hw:isN ns[k].wk) (hlen:ns[k].ch.length≤600)
  {h:Zah} (nd:Nd) (hch:nd.ch=ns[k].ch ++ [h]) (hah:nd.ah=(k:Int)) (hwk:nd.wk=wkAdd ns[k].wk (wkBits h.Bits)) (hid':place 0 (ids ns) (hid h)=none) :
  ZaP N (some i) h (k:Int) (spotA p nd.ch) st=some ((ns.length:Int),st.set i (aOf p room (ns ++ [nd])).lo):=by
 have hd:=nd.hd_snoc hch
 unfold ZaP
 rw [ZfU hN,Zac,if_pos (by simp<;>omega),Zac,hst,ZaK,Zcv,show (aOf p room ns).list=rowE ns from rfl,ZfO,Zai (by omega),Zai (by omega),Int.toNat_natCast,Nat.zero_add,Zlp hk,ZaK,ZeK,show (ns[k].en).Work=nw ns[k].wk from rfl,ZkJ (by omega) hw (ZfF _),Zac,show (ns[k].en).Height=(ns[k].ch.length:Int)-1 from rfl,ZaC (by omega) (by omega)]
 have e:ZbV.mk h (spotA p nd.ch).Prev (k:Int) ((ns[k].ch.length:Int)-1+1) (nw (wkAdd ns[k].wk (wkBits h.Bits)))=nd.en:=by
  unfold Nd.en Nd.id
  rw [hd,hch,ZiB,hah,hwk,List.length_append,List.length_singleton]
  congr 1;omega
 rw [e]
 refine ZmB hst hl nd ?_
 unfold Nd.id;rw [hd];exact hid'
theorem keep0_eq (hN:300≤N) {st:LL} {i:Nat} {p:Zae} {room:Int} (hst:st[i]? = some (aOf p room []).lo) {h:Zah} (nd:Nd) (hch:nd.ch = [h]) (hah:nd.ah = -1) (hwk:nd.wk=wkBits h.Bits) :
  ZaP N (some i) h (-1) (spotA p nd.ch) st=some (0,st.set i (aOf p room [nd]).lo):=by
 have hd:nd.hd=h:=nd.hd_snoc (c:=[]) hch
 unfold ZaP
 rw [ZfU hN,Zac,if_neg (by simp)]
 have e:ZbV.mk h (spotA p nd.ch).Prev (-1) 0 (nw (wkBits h.Bits))=nd.en:=by
  unfold Nd.en Nd.id
  rw [hd,hch,show (spotA p [h]).Prev=hid h from ZiB p [] h,hah,hwk];rfl
 rw [e]
 exact ZmB (ns:=[]) hst (by simp) nd rfl
def chAt (ns:List Nd) (k:Nat):List Zah:=(ns[k]?.map Nd.ch).getD []
def wkAt (ns:List Nd) (k:Nat):Int:=(ns[k]?.map Nd.wk).getD 0
theorem ZgU {ns:List Nd} {k:Nat} (h:k<ns.length):chAt ns k=ns[k].ch:=by simp [chAt,h]
theorem ZkK {ns:List Nd} {k:Nat} (h:k<ns.length):wkAt ns k=ns[k].wk:=by simp [wkAt,h]
def nodeOn (ns:List Nd) (k:Nat) (h:Zah):Nd:=⟨chAt ns k ++ [h],(k:Int),wkAdd (wkAt ns k) (wkBits h.Bits)⟩
def addT (p:Zae) (gs:List Zcj) (cs:List ZbT) (room:Int) (ns:List Nd) (h:Zah) (now:Int):Int×Int×Int×List Nd:=
 if hgood h=false then (-1,1,8,ns) else
 match place 0 (ids ns) (hid h) with
 | some k=>((k:Int),0,0,ns)
 | none=>match place 0 (ids ns) h.Prev with
  | none=>(-1,2,5,ns)
  | some k=>if checkS p gs cs (spotA p (chAt ns k)) h now≠0 then (-1,checkS p gs cs (spotA p (chAt ns k)) h now,8,ns)
   else if room≤(ns.length:Int) then (-1,0,6,ns) else ((ns.length:Int),0,0,ns ++ [nodeOn ns k h])
theorem Zlo {st:LL} {i:Nat} {x:List L} (h:st[i]? = some x):st.set i x=st:=by
 apply List.ext_getElem?
 intro j
 by_cases e:i=j
 ·subst e
  obtain ⟨hi,e⟩:=List.getElem?_eq_some_iff.1 h
  rw [List.getElem?_set_self hi,h]
 ·rw [List.getElem?_set_ne e]
theorem Zmj (p:Zae) (c:List Zah):wfS (spotA p c)=true:=by
 have h : ∀l:List Zah,∃ts:List Int,(spotA p l).Times=rowI ts∧ts.length≤11:=by
  refine Zjf ⟨[],rfl,by simp⟩ (fun l h ih=>?_)
  unfold spotA at *
  rw [List.foldl_append]
  exact ⟨_,rfl,by simp;omega⟩
 obtain ⟨ts,h1,h2⟩:=h c
 simp only [wfS,h1,isI_row,Bool.true_and,decide_eq_true_eq,Zdb]
 omega
theorem Add_eq (hN:500≤N) {st:LL} {i:Nat} {p:Zae} {gs:List Zcj} {cs:List ZbT} (hg:p.Gates=rowG gs) (hc:p.Checks=rowC cs) (lg:gs.length≤400) (lc:cs.length≤400) {room:Int} (hroom:room≤512) {ns:List Nd} (ht:Tree ns) (hst:st[i]? = some (aOf p room ns).lo)
  {h:Zah} (hh:WfH h) (now:Int) (hnow : -1152921504606846976≤now∧now≤9223372036854775807) :
  Zat N (some i) h now st=some ((addT p gs cs room ns h now).1,(addT p gs cs room ns h now).2.1,(addT p gs cs room ns h now).2.2.1,st.set i (aOf p room (addT p gs cs room ns h now).2.2.2).lo):=by
 have ss:=Zlo hst
 unfold Zat addT
 rw [if_neg (c:=Option.isNone (some i)=true) (by simp),ZdH,Zac]
 cases hgd:hgood h with
 | false=>rw [if_pos (by rfl),if_pos (c:=false=false) rfl];dsimp only;rw [ss]
 | true=>
  rw [if_neg (c:=(!true)=true) (by simp),if_neg (c:=true=false) (by simp),Zac,hst,ZaK,Zcv,Zet hN hh.w,Zac,show (aOf p room ns).places=idMap 0 (ids ns) from rfl,Zgr]
  cases e1:place 0 (ids ns) (hid h) with
  | some k=>
   show Zat.p1 N i now (k:Int) true h st=_
   unfold Zat.p1
   rw [if_pos rfl];dsimp only;rw [ss]
  | none=>
   show Zat.p1 N i now 0 false h st=_
   unfold Zat.p1
   rw [if_neg (by simp),hst,ZaK,Zcv,show (aOf p room ns).places=idMap 0 (ids ns) from rfl,Zgr]
   cases e2:place 0 (ids ns) h.Prev with
   | none=>
    show Zat.p2 N i now 0 false h st=_
    unfold Zat.p2
    rw [if_pos (by rfl)];dsimp only;rw [ss]
   | some k=>
    show Zat.p2 N i now (k:Int) true h st=_
    obtain ⟨_,hk,_⟩:=ZfJ e2
    have hk':k<ns.length:=by simpa [ids] using hk
    have sw:=Zmj p ns[k].ch
    have isT:isI (spotA p ns[k].ch).Times=true:=by simp only [wfS,Bool.and_eq_true] at sw;exact sw.1
    unfold Zat.p2
    dsimp only
    rw [if_neg (c:=(!true)=true) (by simp),hst,ZaK,Zcv,show (aOf p room ns).spots=rowS p ns from rfl,len_rowS,Zai (by omega),Zai (by omega),Int.toNat_natCast,Nat.zero_add,rowS_get hk',ZaK,Zhn,show (aOf p room ns).rules=p from rfl,Zjc hN hg hc lg lc hh.w isT now hnow,Zac,ZgU hk']
    by_cases h4:checkS p gs cs (spotA p ns[k].ch) h now=0
    ·rw [if_neg (c:=(checkS p gs cs (spotA p ns[k].ch) h now != 0)=true) (by simp [h4]),if_neg (c:=checkS p gs cs (spotA p ns[k].ch) h now≠0) (by simp [h4]),show (aOf p room ns).list=rowE ns from rfl,ZfO,show (aOf p room ns).room=room from rfl]
     by_cases h5:room≤(ns.length:Int)
     ·rw [if_pos (by simpa using h5),if_pos h5];dsimp only;rw [ss]
     ·rw [if_neg (by simpa using h5),if_neg h5,Zfp hN hh.w sw,Zac]
      have be:behind p (spotA p ns[k].ch) h=spotA p (nodeOn ns k h).ch:=by
       unfold nodeOn spotA
       rw [ZgU hk',List.foldl_append];rfl
      have hm:=List.getElem_mem hk'
      have sm:=ht.small
      have cl:=(ht.ch _ hm).2
      rw [be,keep_eq (by omega) hst ht.small hk' (ht.wk _ hm) (by omega) (nodeOn ns k h) (by unfold nodeOn;rw [ZgU hk']) rfl (by unfold nodeOn;rw [ZkK hk']) e1,Zac]
    ·rw [if_pos (c:=(checkS p gs cs (spotA p ns[k].ch) h now != 0)=true) (by simpa using h4),if_pos (c:=checkS p gs cs (spotA p ns[k].ch) h now≠0) h4];dsimp only;rw [ss]
noncomputable def rowIds (l:List (List Int)):LL:=l.map fun x=>[L.arr .u8 32 x]
noncomputable def rowW (l:List Int):LL:=l.map fun x=>[L.arr .u64 4 (nw x)]
noncomputable def rOf (p:Zae) (room:Int) (ns:List Nd):Zaa:=⟨p,rowH (ns.map Nd.hd),rowIds (ids ns),rowI (ns.map Nd.ah),rowW (ns.map Nd.wk),room⟩
theorem ZiF {l:List (List Int)} {i:Nat} (h:i<l.length):(rowIds l)[i]? = some [L.arr .u8 32 l[i]]:=by simp [rowIds,h]
theorem rowW_get {l:List Int} {i:Nat} (h:i<l.length):(rowW l)[i]? = some [L.arr .u64 4 (nw l[i])]:=by simp [rowW,h]
@[simp] theorem ZiR (l:List (List Int)):len (rowIds l)=(l.length:Int):=by simp [len,rowIds]
@[simp] theorem len_rowW (l:List Int):len (rowW l)=(l.length:Int):=by simp [len,rowW]
@[simp] theorem Zgs (l:List Zah):len (rowH l)=(l.length:Int):=by simp [len]
theorem ZfK (i:Nat) (y:List Int) (l:List (List Int)) (x:List Int):place i (y::l) x=if x=y then some i else place (i+1) l x:=rfl
def placeI (o:Option Nat):Int:=match o with
 | some k=>(k:Int)
 | none=>-1
theorem Zgl {st:LL} {i:Nat} {p:Zae} {room:Int} {ns:List Nd} (hN:ns.length<N) (hl:ns.length≤512) (hst:st[i]? = some (rOf p room ns).lo) (x:List Int) :
  ZaF N (some i) x st=some (placeI (place 0 (ids ns) x),st):=by
 unfold ZaF
 rw [Zac,hst,ZaK,Zct]
 have li:(ids ns).length=ns.length:=by simp [ids]
 refine ZbS (fun m (v:Int)=>∃k:Nat,k+m=ns.length∧v=(k:Int)∧place 0 (ids ns) x=place k ((ids ns).drop k) x) ?_ N ns.length 0 ⟨0,by omega,rfl,by rw [List.drop_zero]⟩ hN
 rintro G m _ ⟨k,hk,rfl,hp⟩ hG
 unfold ZaF.p1
 rw [show (rOf p room ns).Ids=rowIds (ids ns) from rfl,ZiR,li]
 by_cases hlt:k<ns.length
 ·have hk':k<(ids ns).length:=by omega
  rw [List.drop_eq_getElem_cons hk'] at hp
  rw [ZfK] at hp
  rw [if_pos (by simp<;>omega),Zai (by omega),hst,ZaK,Zct,show (rOf p room ns).Ids=rowIds (ids ns) from rfl,Int.toNat_natCast,Nat.zero_add,ZiF hk',ZaK,ZfA,ZaC (by omega) (by omega)]
  by_cases he:x=(ids ns)[k]
  ·rw [if_pos he] at hp
   rw [if_pos (by simp [he]),hp];rfl
  ·rw [if_neg he] at hp
   rw [if_neg (by simpa using fun e=>he e.symm)]
   exact hG (m-1) _ (by omega) ⟨k+1,by omega,by omega,hp⟩
 ·rw [if_neg (by simp<;>omega),hp,List.drop_of_length_le (by omega)];rfl
theorem Ziq {p:Zae} {room:Int} {ns:List Nd} (ht:Tree ns) (hN:ns.length+2≤N) {k:Nat} (hk:k<ns.length):ZaH N (rOf p room ns) (k:Int)=some (rowH (chAt ns k)):=by
 have sm:=ht.small
 unfold ZaH
 rw [ZgU hk]
 refine ZbS (fun m (x:LL×Int)=>∃out:List Zah,x=(rowH out,(m:Int)-1)∧m≤ns.length∧((m=0∧out=ns[k].ch)∨∃h:0<m∧m-1<ns.length,ns[m-1].ch++out=ns[k].ch)) ?_ N (k+1) _ ⟨[],by simp;rfl,by omega,.inr ⟨⟨by omega,by omega⟩,by simp⟩⟩ (by omega)
 rintro G m _ ⟨out,rfl,hm,ho⟩ hG
 unfold ZaH.p1
 dsimp only
 rcases ho with ⟨rfl,rfl⟩ | ⟨⟨h0,h1⟩,ho⟩
 ·rw [if_neg (by simp)]
 ·obtain ⟨j,rfl⟩ : ∃j,m=j+1:=⟨m-1,by omega⟩
  simp only [Nat.add_sub_cancel] at ho h1
  have hj:j<(ns.map Nd.hd).length:=by simp;omega
  have hj2:j<(ns.map Nd.ah).length:=by simp;omega
  have cl:=congrArg List.length ho
  rw [List.length_append] at cl
  have cb:=(ht.ch _ (List.getElem_mem hk)).2
  rw [show (rOf p room ns).List_=rowH (ns.map Nd.hd) from rfl,show (rOf p room ns).Ahead=rowI (ns.map Nd.ah) from rfl,show ((j+1:Nat):Int)-1=(j:Int) by omega,if_pos (by simp),Zgs,ZdD,Zai (by omega),Zai (by omega),Int.toNat_natCast,ZfH hj,ZaK,Zdj,Zai (by rw [List.length_append,ZhK];simp;omega),Zai (by omega),Zgi hj2,ZaK,ZcZ,List.getElem_map,List.getElem_map]
  have e : [ns[j].hd.ls]++rowH out=rowH (ns[j].hd::out):=rfl
  rw [e]
  have nl:=ht.ch _ (List.getElem_mem h1)
  rcases ht.ah j h1 with ⟨z,a,c⟩ | ⟨q,hq,a,c⟩
  ·have c1:ns[j].ch = [ns[j].hd]:=by
    unfold Nd.hd
    match hch:ns[j].ch,c with
    | [x],_=>rfl
   rw [a]
   rw [c1] at ho
   exact hG 0 _ (by omega) ⟨_,rfl,by omega,.inl ⟨rfl,ho⟩⟩
  ·rw [a]
   rw [c,List.append_assoc] at ho
   exact hG (q+1) _ (by omega) ⟨_,by rw [show ((q+1:Nat):Int)-1=(q:Int) by omega],by omega,.inr ⟨⟨by omega,by omega⟩,by simpa using ho⟩⟩
theorem ZmP (p:Zae) (gs:List Zcj) (cs:List ZbT) (s:ZaJ) (h:Zah) (now:Int):0≤checkS p gs cs s h now:=by
 unfold checkS;repeat' split
 all_goals omega
theorem Zkc (hN:900≤N) {st:LL} {i:Nat} {p:Zae} {gs:List Zcj} {cs:List ZbT} (hg:p.Gates=rowG gs) (hc:p.Checks=rowC cs) (lg:gs.length≤400) (lc:cs.length≤400) {room:Int} (hroom:room≤512) {ns:List Nd} (ht:Tree ns) (hlen:ns.length≤200) (hst:st[i]? = some (rOf p room ns).lo)
  {h:Zah} (hh:WfH h) (now:Int) (hnow:0≤now∧now≤9223372036854775807) :
  ZbX N (some i) h now st=some ((addT p gs cs room ns h now).1,(addT p gs cs room ns h now).2.1,(addT p gs cs room ns h now).2.2.1,st.set i (rOf p room (addT p gs cs room ns h now).2.2.2).lo):=by
 have ss:=Zlo hst
 unfold ZbX addT
 rw [ZfI,Zac]
 cases hgd:hgood h with
 | false=>rw [if_pos (by rfl),if_pos (c:=false=false) rfl];dsimp only;rw [ss]
 | true=>
  rw [if_neg (c:=(!true)=true) (by simp),if_neg (c:=true=false) (by simp),Zfb (by omega) h hh.w,Zac,Zgl (by omega) ht.small hst,Zac]
  dsimp only
  cases e1:place 0 (ids ns) (hid h) with
  | some k=>
   rw [show placeI (some k)=(k:Int) from rfl,if_pos (by simp)]
   dsimp only;rw [ss]
  | none=>
   rw [show placeI none = -1 from rfl,if_neg (by simp),Zgl (by omega) ht.small hst,Zac]
   dsimp only
   cases e2:place 0 (ids ns) h.Prev with
   | none=>
    rw [show placeI none = -1 from rfl,if_pos (by simp)]
    dsimp only;rw [ss]
   | some k=>
    obtain ⟨_,hk,_⟩:=ZfJ e2
    have hk':k<ns.length:=by simpa [ids] using hk
    have hm:=List.getElem_mem hk'
    have cl:=ht.ch _ hm
    have c0:0<ns[k].ch.length:=List.length_pos_iff.2 cl.1
    dsimp only
    rw [show placeI (some k)=(k:Int) from rfl,if_neg (by simp<;>omega),Zac,hst,ZaK,Zct,Ziq ht (by omega) hk',Zac,ZgU hk',Zai (by simp [plainRow,rowH,Zah.ls,L.plain]),show (rOf p room ns).Rules=p from rfl,Zir hN hg lg hc lc ns[k].ch c0 (by omega) (fun x hx=>(ht.wf _ hm x hx).w) hh.w now hnow,Zac]
    have nn:=ZmP p gs cs (spotA p ns[k].ch) h now
    by_cases h4:checkS p gs cs (spotA p ns[k].ch) h now=0
    ·rw [if_neg (c:=decide (checkS p gs cs (spotA p ns[k].ch) h now>0)=true) (by simp<;>omega),if_neg (c:=checkS p gs cs (spotA p ns[k].ch) h now≠0) (by simp [h4]),show (rOf p room ns).List_=rowH (ns.map Nd.hd) from rfl,Zgs,List.length_map,show (rOf p room ns).Room=room from rfl]
     by_cases h5:room≤(ns.length:Int)
     ·rw [if_pos (by simpa using h5),if_pos h5];dsimp only;rw [ss]
     ·have hd:=(nodeOn ns k h).hd_snoc rfl
      have i1:rowH (ns.map Nd.hd) ++ [h.ls]=rowH ((ns ++ [nodeOn ns k h]).map Nd.hd):=by simp [rowH,hd]
      have i2:rowIds (ids ns) ++ [[L.arr .u8 32 (hid h)]]=rowIds (ids (ns ++ [nodeOn ns k h])):=by simp [rowIds,ids,Nd.id,hd]
      have i3:rowW (ns.map Nd.wk) ++ [[L.arr .u64 4 (nw (wkAdd ns[k].wk (wkBits h.Bits)))]]=rowW ((ns ++ [nodeOn ns k h]).map Nd.wk):=by simp [rowW,nodeOn,ZkK hk']
      have i4:rowI (ns.map Nd.ah) ++ [[L.int .i64 (k:Int)]]=rowI ((ns ++ [nodeOn ns k h]).map Nd.ah):=by simp [rowI,nodeOn]
      have kw:k<(ns.map Nd.wk).length:=by simp;omega
      have sm:=ht.small
      rw [if_neg (by simpa using h5),if_neg h5,show (rOf p room ns).Ids=rowIds (ids ns) from rfl,show (rOf p room ns).Works=rowW (ns.map Nd.wk) from rfl,show (rOf p room ns).Ahead=rowI (ns.map Nd.ah) from rfl,i1,i2,i4,Zai (by rw [ZhK,List.length_map,List.length_append,List.length_singleton];omega),Zai (by simp [rowIds,ids];omega),Zai (by omega),len_rowW,Zai (by rw [List.length_map];omega),Int.toNat_natCast,Nat.zero_add,rowW_get kw,ZaK,List.getElem_map,ZkB,Zfs (by omega),Zac,Zkd (by omega) (ht.wk _ hm) (ZfF _),Zac,i3,Zai (by simp [rowW];omega),Zai (by rw [Zdb,List.length_map,List.length_append,List.length_singleton];omega),Zgs,List.length_map,List.length_append,List.length_singleton,ZaC (by omega) (by omega)]
      simp only [List.set_set]
      rw [show ((ns.length+1:Nat):Int)-1=(ns.length:Int) by omega]
      rfl
    ·rw [if_pos (c:=decide (checkS p gs cs (spotA p ns[k].ch) h now>0)=true) (by simp<;>omega),if_pos (c:=checkS p gs cs (spotA p ns[k].ch) h now≠0) h4];dsimp only;rw [ss]
theorem Tree.one_node {g:Zah} (hg:WfH g):Tree [⟨[g],-1,wkBits g.Bits⟩] where
 small:=by simp
 ch:=fun n hn=>by cases List.mem_singleton.1 hn;simp
 wf:=fun n hn x hx=>by cases List.mem_singleton.1 hn;cases List.mem_singleton.1 hx;exact hg
 wk:=fun n hn=>by cases List.mem_singleton.1 hn;exact ZfF _
 ah:=fun i h=>.inl ⟨by simpa using h,by simp at h;subst h;rfl,by simp at h;subst h;rfl⟩
 one:=by simp [ids]
theorem Tree.grow {ns:List Nd} (ht:Tree ns) {k:Nat} (hk:k<ns.length) {h:Zah} (hh:WfH h) (hs:ns.length<512) (hid':place 0 (ids ns) (hid h)=none):Tree (ns ++ [nodeOn ns k h]):=by
 have hm:=List.getElem_mem hk
 have cl:=ht.ch _ hm
 have hc:(nodeOn ns k h).ch=ns[k].ch ++ [h]:=by unfold nodeOn;rw [ZgU hk]
 have hd:=(nodeOn ns k h).hd_snoc rfl
 refine ⟨by simp;omega,?_,?_,?_,?_,?_⟩
 ·intro n hn
  rcases List.mem_append.1 hn with hn | hn
  ·have:=ht.ch n hn;exact ⟨this.1,by simp;omega⟩
  ·cases List.mem_singleton.1 hn
   rw [hc];exact ⟨by simp,by simp;omega⟩
 ·intro n hn x hx
  rcases List.mem_append.1 hn with hn | hn
  ·exact ht.wf n hn x hx
  ·cases List.mem_singleton.1 hn
   rw [hc] at hx
   rcases List.mem_append.1 hx with hx | hx
   ·exact ht.wf _ hm x hx
   ·cases List.mem_singleton.1 hx;exact hh
 ·intro n hn
  rcases List.mem_append.1 hn with hn | hn
  ·exact ht.wk n hn
  ·cases List.mem_singleton.1 hn
   unfold nodeOn;rw [ZkK hk]
   exact Zmc (ht.wk _ hm) (ZfF _)
 ·intro i hi
  by_cases hlt:i<ns.length
  ·rw [List.getElem_append_left hlt]
   rcases ht.ah i hlt with a | ⟨q,hq,a,b⟩
   ·exact .inl a
   ·exact .inr ⟨q,hq,a,by rw [List.getElem_append_left (by omega)];exact b⟩
  ·have:i=ns.length:=by simp at hi;omega
   subst this
   refine .inr ⟨k,hk,?_,?_⟩
   ·rw [List.getElem_append_right (by omega)];simp [nodeOn]
   ·rw [List.getElem_append_right (by omega),List.getElem_append_left hk]
    simp only [Nat.sub_self,List.getElem_singleton]
    rw [hc,hd]
 ·have np:=ZiL hid'
  unfold ids at *
  rw [List.map_append,List.nodup_append]
  refine ⟨ht.one,by simp,?_⟩
  intro a ha b hb
  simp only [List.map_cons,List.map_nil,List.mem_singleton] at hb
  subst hb
  intro e
  unfold Nd.id at e
  rw [hd] at e
  exact np (by rw [←e];exact ha)
theorem ZiX (p:Zae) (gs:List Zcj) (cs:List ZbT) (room:Int) (ns:List Nd) (h:Zah) (now:Int) :
  (addT p gs cs room ns h now).2.2.2=ns∨∃k:Nat,k<ns.length∧hgood h=true∧place 0 (ids ns) (hid h)=none∧checkS p gs cs (spotA p (chAt ns k)) h now=0∧(ns.length:Int)<room ∧
   addT p gs cs room ns h now=((ns.length:Int),0,0,ns ++ [nodeOn ns k h]):=by
 unfold addT
 by_cases hg:hgood h=false
 ·rw [if_pos hg];exact .inl rfl
 rw [if_neg hg]
 cases e1:place 0 (ids ns) (hid h) with
 | some k=>exact .inl rfl
 | none=>
  dsimp only
  cases e2:place 0 (ids ns) h.Prev with
  | none=>exact .inl rfl
  | some k=>
   dsimp only
   obtain ⟨_,hk,_⟩:=ZfJ e2
   have hk':k<ns.length:=by simpa [ids] using hk
   by_cases h1:checkS p gs cs (spotA p (chAt ns k)) h now=0
   ·rw [if_neg (by simp [h1])]
    by_cases h2:room≤(ns.length:Int)
    ·rw [if_pos h2];exact .inl rfl
    ·rw [if_neg h2]
     exact .inr ⟨k,hk',by simpa using hg,rfl,h1,by omega,rfl⟩
   ·rw [if_pos h1];exact .inl rfl
theorem Znb {p:Zae} {gs:List Zcj} {cs:List ZbT} {room:Int} (hr:room≤512) {ns:List Nd} (ht:Tree ns) {h:Zah} (hh:WfH h) (now:Int):Tree (addT p gs cs room ns h now).2.2.2:=by
 rcases ZiX p gs cs room ns h now with e | ⟨k,hk,_,hi,_,hl,e⟩
 ·rw [e];exact ht
 ·rw [e];exact ht.grow hk hh (by omega) hi
theorem addT_len (p:Zae) (gs:List Zcj) (cs:List ZbT) (room:Int) (ns:List Nd) (h:Zah) (now:Int):ns.length≤(addT p gs cs room ns h now).2.2.2.length∧(addT p gs cs room ns h now).2.2.2.length≤ns.length+1:=by
 rcases ZiX p gs cs room ns h now with e | ⟨k,hk,_,hi,_,hl,e⟩
 ·rw [e];omega
 ·rw [e];simp
def roomOf (room:Int):Int:=if (512:Int)<(if (1:Int)>room then 1 else room) then 512 else (if (1:Int)>room then 1 else room)
theorem ZjZ (r:Int):1≤roomOf r∧roomOf r≤512:=by unfold roomOf;split<;>split<;>omega
def rootN (p:Zae):Nd:=⟨[p.Genesis],-1,wkBits p.Genesis.Bits⟩
theorem set_last (st:LL) (a b:List L):(st ++ [a]).set st.length b=st ++ [b]:=by simp
theorem New_eq (hN:500≤N) {p:Zae} {gs:List Zcj} {cs:List ZbT} (hg:p.Gates=rowG gs) (hc:p.Checks=rowC cs) (lg:gs.length≤400) (lc:cs.length≤400) (hp:WfP p) (room:Int) (st:LL) :
  Zcz N p room st=if rgood p gs cs=true then some (some st.length,0,st ++ [(aOf p (roomOf room) [rootN p]).lo]) else some (none,1,st):=by
 unfold Zcz
 rw [ZjR hN hg lg hc lc,Zac]
 cases hgd:rgood p gs cs with
 | false=>rfl
 | true=>
  have pp:({p with Gates:=[]++p.Gates,Checks:=[]++p.Checks}:Zae)=p:=rfl
  rw [if_neg (c:=(!true)=true) (by simp),pp,Zai (by rw [hg,List.nil_append,ZhL];omega),Zai (by rw [hc,List.nil_append,ZhM];omega),Zip hN hp.h.w,Zac]
  have hst:(st ++ [(aOf p (roomOf room) []).lo])[st.length]? = some (aOf p (roomOf room) []).lo:=by simp
  have k:=keep0_eq (N:=N) (by omega) hst (h:=p.Genesis) (rootN p) rfl rfl rfl
  rw [set_last] at k
  rw [if_pos (c:=true=true) rfl]
  show optE (ZaP N (some st.length) p.Genesis (-1) (spotA p (rootN p).ch) (st ++ [(aOf p (roomOf room) []).lo])) _=_
  rw [k,Zac]
theorem Zkb (hN:900≤N) {p:Zae} (hp:WfP p) (room:Int) (st:LL):Zdz N p room st=some (some st.length,st ++ [(rOf p (roomOf room) [rootN p]).lo]):=by
 unfold Zdz
 rw [Zfb (by omega) _ hp.h.w,Zac,Zfs (by omega),Zac]
 rfl
theorem ZjF (p:Zae) (room:Int) (ns:List Nd):Zbg N (aOf p room ns)=some (ns.length:Int):=by
 unfold Zbg;rw [show (aOf p room ns).list=rowE ns from rfl,ZfO]
theorem ZkH (p:Zae) (room:Int) (ns:List Nd):ZbK N (aOf p room ns)=some room:=rfl
theorem Zim (p:Zae) (room:Int) (ns:List Nd) (x:List Int):ZbB N (aOf p room ns) x=some (placeI (place 0 (ids ns) x)):=by
 unfold ZbB
 rw [show (aOf p room ns).places=idMap 0 (ids ns) from rfl,Zgr]
 cases place 0 (ids ns) x<;>rfl
theorem At_v_eq (p:Zae) (room:Int) {ns:List Nd} {k:Nat} (hk:k<ns.length):Zbe N (aOf p room ns) (k:Int)=some (ns[k].en,true):=by
 unfold Zbe Zcl
 rw [show (aOf p room ns).list=rowE ns from rfl,ZfO,if_pos (by simp),Zac,if_neg (by simp<;>omega),Zai (by omega),Zai (by omega),Int.toNat_natCast,Zlp hk,ZaK,ZeK]
theorem Zng (p:Zae) (room:Int) {ns:List Nd} {k:Int} (hk:k<0∨(ns.length:Int)≤k):Zbe N (aOf p room ns) k=some (ZbV.mk (Zah.mk 0 (List.replicate 32 0) (List.replicate 32 0) 0 0 0) (List.replicate 32 0) (-1) 0 (List.replicate 4 0),false):=by
 unfold Zbe Zcl
 rw [show (aOf p room ns).list=rowE ns from rfl,ZfO]
 by_cases h:k≥0
 ·rw [if_pos (by simpa using h),Zac,if_pos (by simp<;>omega)]
 ·rw [if_neg (by simpa using h),Zac,if_pos (by rfl)]
theorem ZhT : ∀{l:List (List Int)} {i k:Nat} (hk:k<l.length),l.Nodup→place i l l[k]=some (i+k)
 | y::l,i,0,_,_=>by simp [place]
 | y::l,i,k+1,hk,hn=>by
  have hk':k<l.length:=by simpa using hk
  rw [List.nodup_cons] at hn
  rw [List.getElem_cons_succ,ZfK,if_neg (fun e=>hn.1 (by rw [←e];exact List.getElem_mem hk')),ZhT hk' hn.2]
  congr 1;omega
theorem ZhQ {p:Zae} {room:Int} {ns:List Nd} (ht:Tree ns) (hN:ns.length+2≤N) {k:Nat} (hk:k<ns.length) : ∃l:List Int,ZaD N (rOf p room ns) (k:Int)=some (rowI l)∧l.length=ns[k].ch.length:=by
 have sm:=ht.small
 unfold ZaD
 have key : ∀(K m:Nat) (out:List Int),m<K→m≤ns.length→((m=0∧out.length=ns[k].ch.length)∨∃h:0<m∧m-1<ns.length,ns[m-1].ch.length+out.length=ns[k].ch.length)→∃l:List Int,loopN (ZaD.p1 N (rOf p room ns)) K (rowI out,(m:Int)-1)=some (rowI l)∧l.length=ns[k].ch.length:=by
  intro K
  induction K with
  | zero=>intro m out h;omega
  | succ K ih=>
   intro m out hm hl ho
   rw [Zas]
   generalize loopN (ZaD.p1 N (rOf p room ns)) K=G at ih ⊢
   unfold ZaD.p1
   dsimp only
   rcases ho with ⟨rfl,ho⟩ | ⟨⟨h0,h1⟩,ho⟩
   ·rw [if_neg (by simp)];exact ⟨out,rfl,ho⟩
   ·obtain ⟨j,rfl⟩ : ∃j,m=j+1:=⟨m-1,by omega⟩
    simp only [Nat.add_sub_cancel] at ho h1
    have hj2:j<(ns.map Nd.ah).length:=by simp;omega
    have cb:=(ht.ch _ (List.getElem_mem hk)).2
    rw [show (rOf p room ns).Ahead=rowI (ns.map Nd.ah) from rfl,show ((j+1:Nat):Int)-1=(j:Int) by omega,if_pos (by simp),Zje,ZfZ,Zai (by rw [Zdb,List.length_append,List.length_singleton];omega),Zai (by omega),ZdD,Zai (by omega),Int.toNat_natCast,Zgi hj2,ZaK,ZcZ,List.getElem_map]
    rcases ht.ah j h1 with ⟨z,a,c⟩ | ⟨q,hq,a,c⟩
    ·rw [a]
     exact ih 0 _ (by omega) (by omega) (.inl ⟨rfl,by rw [List.length_append,List.length_singleton];omega⟩)
    ·rw [a,show (q:Int)=((q+1:Nat):Int)-1 by omega]
     have:=congrArg List.length c
     rw [List.length_append,List.length_singleton] at this
     exact ih (q+1) _ (by omega) (by omega) (.inr ⟨⟨by omega,by omega⟩,by simp only [Nat.add_sub_cancel,List.length_append,List.length_singleton];omega⟩)
 have:=key N (k+1) [] (by omega) (by omega) (.inr ⟨⟨by omega,by omega⟩,by simp⟩)
 rw [show ((k+1:Nat):Int)-1=(k:Int) by omega] at this
 exact this
theorem same_eq (hN:1000≤N) {p:Zae} {room:Int} {ns:List Nd} (ht:Tree ns):Zbu N (aOf p room ns) (rOf p room ns)=some true:=by
 have sm:=ht.small
 unfold Zbu
 have ll:(rOf p room ns).List_=rowH (ns.map Nd.hd):=rfl
 rw [ZjF,Zac,ll,Zgs,List.length_map,if_neg (by simp),ZkH,Zac,if_neg (by simp [rOf])]
 refine ZbS (fun m (v:Int)=>∃k:Nat,k+m=ns.length∧v=(k:Int)) ?_ N ns.length 0 ⟨0,by omega,rfl⟩ (by omega)
 rintro G m _ ⟨k,hk,rfl⟩ hG
 unfold Zbu.p1
 rw [ll,Zgs,List.length_map]
 by_cases hlt:k<ns.length
 ·have hk1:k<(ns.map Nd.hd).length:=by simp;omega
  have hk2:k<(ns.map Nd.ah).length:=by simp;omega
  have hk3:k<(ids ns).length:=by simp [ids];omega
  have cm:=ht.ch _ (List.getElem_mem hlt)
  have hw:wfH ns[k].hd=true:=by
   have:ns[k].hd∈ns[k].ch:=by
    unfold Nd.hd
    rw [List.getLast?_eq_some_getLast cm.1]
    exact List.getLast_mem cm.1
   exact (ht.wf _ (List.getElem_mem hlt) _ this).w
  obtain ⟨l,pl,pl2⟩:=ZhQ (N:=N) (p:=p) (room:=room) ht (by omega) hlt
  have fi:place 0 (ids ns) ns[k].id=some k:=by
   have:=ZhT (i:=0) hk3 ht.one
   rw [Nat.zero_add] at this
   rw [←this];congr 1;simp [ids]
  rw [if_pos (by simp<;>omega),Zai (by omega),Int.toNat_natCast,ZfH hk1,ZaK,Zdj,At_v_eq p room hlt,Zac,List.getElem_map]
  dsimp only
  rw [if_neg (c:=(!true)=true) (by simp),show (ns[k].en).Header=ns[k].hd from rfl,if_neg (by simp),Zfb (by omega) _ hw,Zac,show (ns[k].en).Id=hid ns[k].hd from rfl,if_neg (by simp),show (rOf p room ns).Ahead=rowI (ns.map Nd.ah) from rfl,ZdD,List.length_map,Zai (by omega),Zgi hk2,ZaK,ZcZ,List.getElem_map,show (ns[k].en).Ahead=ns[k].ah from rfl,if_neg (by simp),pl,Zac,Zai (ZgK _),ZdD,pl2,ZaC (by omega) (by omega),show (ns[k].en).Height=(ns[k].ch.length:Int)-1 from rfl,if_neg (by simp),show hid ns[k].hd=ns[k].id from rfl,Zim,Zac,fi,show placeI (some k)=(k:Int) from rfl,if_neg (by simp),ZaC (by omega) (by omega)]
  exact hG (m-1) _ (by omega) ⟨k+1,by omega,by omega⟩
 ·rw [if_neg (by simp<;>omega)]
end Go.Dn.F
set_option maxRecDepth 100000
namespace Go.Dn.F
open Go.Dn Go.Proofs
variable {N:Nat}
abbrev tysCm:List Ty:=[.int .i64,.arr .u8 32,.arr .u8 32,.int .i64,.int .i64,.int .i64,.int .i64]
structure WfCm (c:Zbl):Prop where
 h:WfH c.Header
 n:i64R c.Now
noncomputable def rowCm (l:List Zbl):LL:=l.map Zbl.ls
theorem ZjW {l:List Zbl} {i:Nat} (h:i<l.length):(rowCm l)[i]? = some l[i].ls:=by simp [rowCm,h]
@[simp] theorem Zko (l:List Zbl):len (rowCm l)=(l.length:Int):=by simp [len,rowCm]
@[simp] theorem ZjV (l:List Zbl):(rowCm l).length=l.length:=by simp [rowCm]
theorem open_Cm {xs:LL} (h : ∀x∈xs,LTys tysCm x) : ∃l,xs=rowCm l∧∀x∈l,WfCm x:=
 decode fun x hx=>by
  obtain ⟨_,_,rfl,h1,h⟩:=(h x hx).cons_inv
  obtain ⟨_,_,rfl,h2,h⟩:=h.cons_inv
  obtain ⟨_,_,rfl,h3,h⟩:=h.cons_inv
  obtain ⟨_,_,rfl,h4,h⟩:=h.cons_inv
  obtain ⟨_,_,rfl,h5,h⟩:=h.cons_inv
  obtain ⟨_,_,rfl,h6,h⟩:=h.cons_inv
  obtain ⟨_,_,rfl,h7,h⟩:=h.cons_inv
  cases h.nil_inv
  obtain ⟨a1,rfl,w1⟩:=h1.int_inv
  obtain ⟨a2,rfl,k2,w2⟩:=h2.arr_inv
  obtain ⟨a3,rfl,k3,w3⟩:=h3.arr_inv
  obtain ⟨a4,rfl,w4⟩:=h4.int_inv
  obtain ⟨a5,rfl,w5⟩:=h5.int_inv
  obtain ⟨a6,rfl,w6⟩:=h6.int_inv
  obtain ⟨a7,rfl,w7⟩:=h7.int_inv
  refine ⟨⟨⟨a1,a2,a3,a4,a5,a6⟩,a7⟩,rfl,⟨⟨Zeh w1,?_,Zeh w4,Zeh w5,Zeh w6⟩,Zeh w7⟩⟩
  simp only [wfH,Bool.and_eq_true]
  exact ⟨Zlh k2 w2,Zlh k3 w3⟩
theorem ZlW (p:Zae) (l:List Zbl) (hl:l.length<N) (hb:l.length≤maxLen) : ∃b,Zbk N p (rowCm l)=some b∧(b=false→(∀x∈l,0≤x.Now)∧p.Gates.length≤20∧p.Checks.length≤20∧l.length≤40):=by
 unfold Zbk
 have hm:maxLen=9223372036854775807:=rfl
 refine ZgP (fun m (v:Int)=>∃k:Nat,k+m=l.length∧v=(k:Int)∧∀x∈l.take k,0≤x.Now) ?_ N l.length 0 ⟨0,by omega,rfl,by simp⟩ hl
 rintro G m _ ⟨k,hk,rfl,ha⟩ hG
 unfold Zbk.p1
 rw [Zko]
 by_cases hlt:k<l.length
 ·rw [if_pos (by simp<;>omega),Zai (by omega),Int.toNat_natCast,ZjW hlt,ZaK,ZdU,ZaC (by omega) (by omega)]
  by_cases h:l[k].Now<0
  ·rw [if_pos (by simpa using h)];exact ⟨true,rfl,fun h=>by cases h⟩
  ·rw [if_neg (by simpa using h)]
   refine hG (m-1) _ (by omega) ⟨k+1,by omega,by omega,fun x hx=>?_⟩
   rw [List.take_succ_eq_append_getElem hlt] at hx
   rcases List.mem_append.1 hx with hx | hx
   ·exact ha x hx
   ·cases List.mem_singleton.1 hx;omega
 ·rw [if_neg (by simp<;>omega)]
  rw [List.take_of_length_le (by omega)] at ha
  by_cases h1:len p.Gates>20
  ·rw [if_pos (by simpa using h1)];exact ⟨true,rfl,fun h=>by cases h⟩
  rw [if_neg (by simpa using h1)]
  by_cases h2:len p.Checks>20
  ·rw [if_pos (by simpa using h2)];exact ⟨true,rfl,fun h=>by cases h⟩
  rw [if_neg (by simpa using h2)]
  refine ⟨_,rfl,fun h=>⟨ha,?_,?_,?_⟩⟩<;>simp [len] at h1 h2 h<;>omega
theorem ZhR {p:Zae} {room:Int} {ns:List Nd} (hN:ns.length<N) (hl:ns.length≤512) (x:List Int) :
  ZaN N (rOf p room ns) x=some (placeI (place 0 (ids ns) x)):=by
 unfold ZaN
 have li:(ids ns).length=ns.length:=by simp [ids]
 refine ZbS (fun m (v:Int)=>∃k:Nat,k+m=ns.length∧v=(k:Int)∧place 0 (ids ns) x=place k ((ids ns).drop k) x) ?_ N ns.length 0 ⟨0,by omega,rfl,by rw [List.drop_zero]⟩ hN
 rintro G m _ ⟨k,hk,rfl,hp⟩ hG
 unfold ZaN.p1
 rw [show (rOf p room ns).Ids=rowIds (ids ns) from rfl,ZiR,li]
 by_cases hlt:k<ns.length
 ·have hk':k<(ids ns).length:=by omega
  rw [List.drop_eq_getElem_cons hk',ZfK] at hp
  rw [if_pos (by simp<;>omega),Zai (by omega),Int.toNat_natCast,ZiF hk',ZaK,ZfA,ZaC (by omega) (by omega)]
  by_cases he:x=(ids ns)[k]
  ·rw [if_pos he] at hp
   rw [if_pos (by simp [he]),hp];rfl
  ·rw [if_neg he] at hp
   rw [if_neg (by simpa using fun e=>he e.symm)]
   exact hG (m-1) _ (by omega) ⟨k+1,by omega,by omega,hp⟩
 ·rw [if_neg (by simp<;>omega),hp,List.drop_of_length_le (by omega)];rfl
def pA:Zae:=⟨545259519,4,10,0,false,[],[],List.replicate 4 0,List.replicate 4 0,h0⟩
theorem h0_wf:WfH h0:=⟨by unfold i64R h0;simp,by unfold wfH h0;decide,by unfold i64R h0;simp,by unfold i64R h0;simp,by unfold i64R h0;simp⟩
theorem pA_wf:WfP pA where
 l:=by unfold i64R pA;simp
 i:=by unfold i64R pA;simp
 s:=by unfold i64R pA;simp
 f:=by unfold i64R pA;simp
 g:=by unfold pA;simp
 gl:=by unfold pA;simp
 c:=by unfold pA;simp
 cl:=by unfold pA;simp
 m:=by unfold pA;exact ⟨rfl,fun x hx=>by obtain ⟨_,rfl⟩:=List.mem_replicate.1 hx;decide⟩
 r:=by unfold pA;exact ⟨rfl,fun x hx=>by obtain ⟨_,rfl⟩:=List.mem_replicate.1 hx;decide⟩
 h:=h0_wf
theorem pA_new (hN:1000≤N):Zcz N pA 5 []=some (some 0,0,[(aOf pA 5 [rootN pA]).lo]):=by
 rw [New_eq (gs:=[]) (cs:=[]) (by omega) rfl rfl (by simp) (by simp) pA_wf 5 [],if_pos (by kernel_rfl)]
 rfl
theorem alive12 (hN:1000≤N):Zch N []=some (true,[(aOf pA 5 [rootN pA]).lo]):=by
 unfold Zch
 rw [show (Zae.mk 545259519 4 10 0 false [] [] (List.replicate 4 0) (List.replicate 4 0) (Zah.mk 0 (List.replicate 32 0) (List.replicate 32 0) 0 0 0))=pA from rfl,pA_new hN,Zac]
 dsimp only
 rw [if_pos (by rfl),Zac,show ([(aOf pA 5 [rootN pA]).lo]:LL)[0]? = some (aOf pA 5 [rootN pA]).lo from rfl,ZaK,Zcv,ZjF,Zac,if_pos (by rfl),ZkH,Zac,if_pos (by rfl),show (Zah.mk 0 (List.replicate 32 0) (List.replicate 32 0) 0 0 0)=h0 from rfl,Zfb (by omega) _ h0_wf.w,Zac,Zim,Zac]
 have:place 0 (ids [rootN pA]) (hid h0)=some 0:=by
  show place 0 [hid h0] (hid h0)=some 0
  rw [ZfK,if_pos rfl]
 rw [this]
 rfl
theorem Zjx {st:LL} {i k:Nat} {a b:List L} (hi:st[i]? = some a) (hk:k≠i) (x:List L):(st.set k x)[i]? = some a:=by
 rw [List.getElem?_set_ne hk];exact hi
theorem ZlB {st:LL} {i:Nat} {a:List L} (hi:st[i]? = some a) (x:List L):(st.set i x)[i]? = some x:=by
 obtain ⟨h,_⟩:=List.getElem?_eq_some_iff.1 hi
 exact List.getElem?_set_self h
theorem Ziv (hN:1000≤N) {p:Zae} {gs:List Zcj} {cs:List ZbT} (hg:p.Gates=rowG gs) (hc:p.Checks=rowC cs) (lg:gs.length≤400) (lc:cs.length≤400) {room:Int} (hroom:room≤512)
  (l:List Zbl) (hl : ∀x∈l,WfCm x) (h40:l.length≤40) (hn : ∀x∈l,0≤x.Now) {i k:Nat} (hik:i≠k) {st:LL} {ns:List Nd} (ht:Tree ns) (h1:ns.length=1) (ha:st[i]? = some (aOf p room ns).lo) (hm:st[k]? = some (rOf p room ns).lo) :
  ∃r,loopN (ZaY.p1 N (rowCm l)) N (some i,some k,0,st)=some r∧r.1=true:=by
 refine ZgP (Q:=fun r:Bool×LL=>r.1=true) (fun m (s:(Option Nat)×(Option Nat)×Int×LL)=>∃(j:Nat) (ns:List Nd) (st:LL),s=(some i,some k,(j:Int),st)∧j+m=l.length∧Tree ns∧ns.length≤j+1∧st[i]? = some (aOf p room ns).lo∧st[k]? = some (rOf p room ns).lo) ?_ N l.length _ ⟨0,ns,st,rfl,by omega,ht,by omega,ha,hm⟩ (by omega)
 clear ha hm ht h1
 rintro G m _ ⟨j,ns,st,rfl,hj,ht,h1,ha,hm⟩ hG
 unfold ZaY.p1
 dsimp only
 rw [Zko]
 by_cases hlt:j<l.length
 ·have wx:=hl _ (List.getElem_mem hlt)
  have nx:=hn _ (List.getElem_mem hlt)
  have rx:=wx.n
  unfold i64R at rx
  have ht':=Znb (p:=p) (gs:=gs) (cs:=cs) hroom ht wx.h (l[j]).Now
  have hl':=addT_len p gs cs room ns l[j].Header l[j].Now
  rw [if_pos (by simp<;>omega),Zai (by omega),Int.toNat_natCast,ZjW hlt,ZaK,ZdU,Add_eq (by omega) hg hc lg lc hroom ht ha wx.h _ (by omega),Zac]
  dsimp only
  rw [Zkc (by omega) hg hc lg lc hroom ht (by omega) (Zjx (b:=[]) hm hik _) wx.h _ (by omega),Zac]
  dsimp only
  rw [if_neg (by simp),if_neg (by simp),if_neg (by simp),Zac,Zac]
  have a1:((st.set i (aOf p room (addT p gs cs room ns l[j].Header l[j].Now).2.2.2).lo).set k (rOf p room (addT p gs cs room ns l[j].Header l[j].Now).2.2.2).lo)[i]? = some (aOf p room (addT p gs cs room ns l[j].Header l[j].Now).2.2.2).lo:=Zjx (b:=[]) (ZlB ha _) (Ne.symm hik) _
  have a2:((st.set i (aOf p room (addT p gs cs room ns l[j].Header l[j].Now).2.2.2).lo).set k (rOf p room (addT p gs cs room ns l[j].Header l[j].Now).2.2.2).lo)[k]? = some (rOf p room (addT p gs cs room ns l[j].Header l[j].Now).2.2.2).lo:=ZlB (Zjx (b:=[]) hm hik _) _
  rw [a1,ZaK,Zcv,a2,ZaK,Zct,same_eq (by omega) ht',Zac,if_neg (by simp),ZaC (by omega) (by omega)]
  exact hG (m-1) _ (by omega) ⟨j+1,_,_,by rw [Int.natCast_add];rfl,by omega,ht',by omega,a1,a2⟩
 ·have sm:=ht.small
  rw [if_neg (by simp<;>omega),Zac,ha,ZaK,Zcv,ZjF,Zac,Zng p room (.inr (Int.le_refl _)),Zac]
  dsimp only
  rw [if_pos (by rfl),if_pos (by rfl),Zim,Zac,Zac,hm,ZaK,Zct,ZhR (by omega) sm,Zac]
  exact ⟨_,rfl,by simp⟩
theorem ZkI {p:Zae} (hp:WfP p) (room:Int) (l:List Zbl) (hl : ∀x∈l,WfCm x) (hb:l.length≤maxLen) :
  ∃st,ZaY (l.length+1000) p room (rowCm l) []=some (true,st):=by
 unfold ZaY
 rw [alive12 (by omega),Zac]
 dsimp only
 rw [if_neg (by simp)]
 obtain ⟨b,e,hgr⟩:=ZlW (N:=l.length+1000) p l (by omega) hb
 rw [e,Zac]
 cases b with
 | true=>rw [if_pos rfl];exact ⟨_,rfl⟩
 | false=>
  obtain ⟨hn,hG,hC,h40⟩:=hgr rfl
  obtain ⟨gs,eg⟩:=open_G hp.g
  obtain ⟨cs,ec⟩:=open_K hp.c
  have hgs:gs.length≤20:=by rw [eg,ZhL] at hG;omega
  have hcs:cs.length≤20:=by rw [ec,ZhM] at hC;omega
  have lg:gs.length≤400:=by omega
  have lc:cs.length≤400:=by omega
  generalize hN:l.length+1000=N
  have nadd : ∀st:LL,Zat N none (Zah.mk 0 (List.replicate 32 0) (List.replicate 32 0) 0 0 0) 1 st=some (-1,0,2,st):=fun st=>rfl
  have nat : ∀st:LL,∃e,Zcb N none 0 st=some (e,false,st):=fun st=>⟨_,rfl⟩
  have nlen : ∀st:LL,Zcf N none st=some (0,st):=fun st=>rfl
  have nroom : ∀st:LL,ZbW N none st=some (0,st):=fun st=>rfl
  have nfind : ∀st:LL,Zcc N none (List.replicate 32 0) st=some (-1,st):=fun st=>rfl
  have nheavy : ∀st:LL,ZbM N none 0 0 st=some (false,st):=fun st=>rfl
  rw [if_neg (by simp),New_eq (by omega) eg ec lg lc hp]
  cases hgd:rgood p gs cs with
  | false=>
   rw [if_neg (by simp),Zac]
   dsimp only
   obtain ⟨e0,h0⟩:=nat [(aOf pA 5 [rootN pA]).lo]
   rw [nadd,Zac];dsimp only
   rw [h0,Zac];dsimp only
   rw [if_neg (by simp),if_neg (by simp),nlen,Zac];dsimp only
   rw [nroom,Zac];dsimp only
   rw [if_neg (by decide),nfind,Zac];dsimp only
   rw [if_neg (by simp),nheavy,Zac];dsimp only
   rw [if_neg (by simp),Zgm (by omega) eg lg ec lc,hgd,Zac,if_pos (by rfl),if_pos (by rfl)]
   exact ⟨_,rfl⟩
  | true=>
   rw [if_pos rfl,Zac]
   dsimp only
   generalize hst:([(aOf pA 5 [rootN pA]).lo] ++ [(aOf p (roomOf room) [rootN p]).lo]:LL)=st
   have hlen:st.length=2:=by rw [←hst];rfl
   have ha:st[1]? = some (aOf p (roomOf room) [rootN p]).lo:=by rw [←hst];rfl
   obtain ⟨e0,h0⟩:=nat st
   rw [nadd,Zac];dsimp only
   rw [h0,Zac];dsimp only
   rw [if_neg (by simp),if_neg (by simp),nlen,Zac];dsimp only
   rw [nroom,Zac];dsimp only
   rw [if_neg (by decide),nfind,Zac];dsimp only
   rw [if_neg (by simp),nheavy,Zac];dsimp only
   rw [if_neg (by simp),Zgm (by omega) eg lg ec lc,hgd,Zac,if_neg (by simp),Zkb (by omega) hp,Zac]
   dsimp only
   have rr:=ZjZ room
   have hm:(st ++ [(rOf p (roomOf room) [rootN p]).lo])[st.length]? = some (rOf p (roomOf room) [rootN p]).lo:=by simp
   have ha':(st ++ [(rOf p (roomOf room) [rootN p]).lo])[1]? = some (aOf p (roomOf room) [rootN p]).lo:=by rw [List.getElem?_append_left (by omega)];exact ha
   obtain ⟨r,h1,h2⟩:=Ziv (N:=N) (by omega) eg ec lg lc rr.2 l hl h40 hn (i:=1) (k:=st.length) (by omega) (Tree.one_node hp.h) rfl ha' hm
   refine ⟨r.2,?_⟩
   rw [show ([(aOf pA 5 [rootN pA]).lo]:LL).length=1 from rfl,h1]
   obtain ⟨r1,r2⟩:=r
   dsimp only at h2
   rw [h2]
theorem ArenaDoes_true {ls:List L} (room:Int) (xs:LL) (h0:LTys tysP ls) (w1:(Lit.int .i64 room).wf=true) (h2 : ∀x∈xs,LTys tysCm x) (l2:xs.length≤maxLen) :
  ∃st,Snd Tryz.prog 7 [.agg ls,.one (.int .i64 room),.one (.sl 69 xs)] [] [.one (.bool true)] st:=by
 obtain ⟨p,rfl,hp⟩:=open_P h0
 obtain ⟨l,rfl,hl⟩:=open_Cm h2
 obtain ⟨st,h⟩:=ZkI hp room l hl (by rw [ZjV] at l2;exact l2)
 exact ⟨st,ZaY.snd h⟩
end Go.Dn.F
