/- A tree of headers, as a row of nodes, each with its whole chain; the program's arena of such a tree. -/
import Derived.Test.YtcgdbcfflaphhaaGreatDoorNum
import Derived.Test.YtcgdbcfflaphhaaGreatDoorRul
set_option linter.unusedSimpArgs false
set_option linter.unusedVariables false
set_option maxRecDepth 40000
namespace Go.Dn.F
open Go.Dn Go.Proofs
variable {N:Nat}
structure Nd where
 ch:List Zai
 ah:Int
 wk:Int
def h0:Zai:=⟨0,List.replicate 32 0,List.replicate 32 0,0,0,0⟩
def Nd.hd (n:Nd):Zai:=n.ch.getLast?.getD h0
def Nd.id (n:Nd):List Int:=hid n.hd
noncomputable def Nd.en (n:Nd):ZbM:=⟨n.hd,n.id,n.ah,(n.ch.length:Int)-1,nw n.wk⟩
noncomputable def rowE (ns:List Nd):LL:=ns.map fun n=>n.en.ls
noncomputable def rowS (p:Zae) (ns:List Nd):LL:=ns.map fun n=>(spotA p n.ch).ls
def idMap:Nat→List (List Int)→LM
 | _,[]=>[]
 | i,x::l=>(L.arr .u8 32 x,L.int .i64 (i:Int))::idMap (i+1) l
def ids (ns:List Nd):List (List Int):=ns.map Nd.id
def place:Nat→List (List Int)→List Int→Option Nat
 | _,[],_=>none
 | i,y::l,x=>if x=y then some i else place (i+1) l x
theorem Zhb : ∀(l:List (List Int)) (i:Nat) (x:List Int),mfind (idMap i l) (L.arr .u8 32 x)=some ((place i l x).map fun k=>(k-i,L.int .i64 (k:Int)))
 | [],i,x=>rfl
 | y::l,i,x=>by
  rw [idMap,mfind]
  simp only [keyEq,and_self,if_true]
  unfold place
  by_cases h:x=y
  ·subst h;simp
  ·rw [show (x==y)=false by simpa using h,if_neg h,Zhb l (i+1) x]
   cases e:place (i+1) l x with
   | none=>rfl
   | some k=>
    have : ∀(l:List (List Int)) (i k:Nat),place i l x=some k→i≤k:=by
     intro l
     induction l with
     | nil=>intro i k h;cases h
     | cons z l ih=>
      intro i k h
      unfold place at h
      split at h
      ·cases h;omega
      ·have:=ih _ _ h;omega
    have:=this l (i+1) k e
    simp only [Option.map_some]
    rw [show k-(i+1)+1=k-i by omega]
theorem ZhR : ∀(l:List (List Int)) (i:Nat) (x:List Int),idMap i (l ++ [x])=idMap i l ++ [(L.arr .u8 32 x,L.int .i64 ((i+l.length:Nat):Int))]
 | [],i,x=>rfl
 | y::l,i,x=>by rw [List.cons_append,idMap,ZhR l (i+1) x,idMap,List.length_cons,show i+1+l.length=i+(l.length+1) by omega];rfl
theorem ZeL : ∀{l:List (List Int)} {i k:Nat} {x:List Int},place i l x=some k→i≤k∧∃h:k-i<l.length,l[k-i]=x
 | y::l,i,k,x,h=>by
  unfold place at h
  split at h
  ·rename_i e;cases h;exact ⟨by omega,by simp,by simp [e]⟩
  ·obtain ⟨h1,h2,h3⟩:=ZeL h
   refine ⟨by omega,by simp;omega,?_⟩
   have:k-i=(k-(i+1))+1:=by omega
   simp only [this,List.getElem_cons_succ];exact h3
theorem Zjq : ∀{l:List (List Int)} {i:Nat} {x:List Int},place i l x=none→x∉l
 | [],_,_,_=>by simp
 | y::l,i,x,h=>by
  unfold place at h
  split at h
  ·cases h
  ·rename_i e;simp [e,Zjq h]
noncomputable def aOf (p:Zae) (room:Int) (ns:List Nd):ZaD:=⟨p,rowE ns,rowS p ns,idMap 0 (ids ns),room⟩
theorem Zmc {ns:List Nd} {i:Nat} (h:i<ns.length):(rowE ns)[i]? = some ns[i].en.ls:=by simp [rowE,h]
theorem rowS_get {p:Zae} {ns:List Nd} {i:Nat} (h:i<ns.length):(rowS p ns)[i]? = some (spotA p ns[i].ch).ls:=by simp [rowS,h]
@[simp] theorem Zhc (ns:List Nd):len (rowE ns)=(ns.length:Int):=by simp [len,rowE]
@[simp] theorem len_rowS (p:Zae) (ns:List Nd):len (rowS p ns)=(ns.length:Int):=by simp [len,rowS]
structure Tree (ns:List Nd):Prop where
 small:ns.length≤512
 ch : ∀n∈ns,n.ch ≠ []∧n.ch.length≤ns.length
 wf : ∀n∈ns,∀x∈n.ch,WfH x
 wk : ∀n∈ns,isN n.wk
 ah : ∀(i:Nat) (h:i<ns.length),(i=0∧ns[i].ah = -1∧ns[i].ch.length=1)∨∃(k:Nat) (hk:k<i),ns[i].ah=(k:Int)∧ns[i].ch=ns[k].ch ++ [ns[i].hd]
 one:(ids ns).Nodup
theorem Nd.hd_snoc {n:Nd} {c:List Zai} {h:Zai} (e:n.ch=c ++ [h]):n.hd=h:=by unfold Nd.hd;rw [e];simp
theorem Zjf (p:Zae) (c:List Zai) (h:Zai):(spotA p (c ++ [h])).Prev=hid h:=by
 unfold spotA;rw [List.foldl_append];rfl
theorem ZnJ {st:LL} {i:Nat} {p:Zae} {room:Int} {ns:List Nd} (hst:st[i]? = some (aOf p room ns).lo) (hl:ns.length≤512) (nd:Nd) (hid':place 0 (ids ns) nd.id=none) :
  ZaU.p1 N (some i) (spotA p nd.ch) nd.en st=some ((ns.length:Int),st.set i (aOf p room (ns ++ [nd])).lo):=by
 unfold ZaU.p1
 have e1:(aOf p room ns).list ++ [nd.en.ls]=rowE (ns ++ [nd]):=by show rowE ns++_=_;simp [rowE]
 have e2:(aOf p room ns).spots ++ [(spotA p nd.ch).ls]=rowS p (ns ++ [nd]):=by show rowS p ns++_=_;simp [rowS]
 have e3:(aOf p room ns).places ++ [(L.arr .u8 32 nd.en.Id,L.int .i64 (ns.length:Int))]=idMap 0 (ids (ns ++ [nd])):=by
  show idMap 0 (ids ns)++_=_
  unfold ids
  rw [List.map_append]
  show _=idMap 0 (List.map Nd.id ns ++ [nd.id])
  rw [ZhR,List.length_map,Nat.zero_add];rfl
 have l1:(rowE (ns ++ [nd])).length=ns.length+1:=by simp [rowE]
 have l2:(rowS p (ns ++ [nd])).length=ns.length+1:=by simp [rowS]
 rw [Zac,hst,ZaF,ZcD,e1,e2,Zag (by rw [l1];omega),Zag (by rw [l2];omega),show mfind (aOf p room ns).places (L.arr .u8 32 nd.en.Id)=some none by
  show mfind (idMap 0 (ids ns)) (L.arr .u8 32 nd.id)=_
  rw [Zhb,hid'];rfl]
 show some _=_
 rw [Zhc,List.length_append,List.length_singleton,ZaB (by omega) (by omega),show ((ns.length+1:Nat):Int)-1=(ns.length:Int) by omega,e3]
 simp only [List.set_set]
 rfl
theorem keep_eq (hN:300≤N) {st:LL} {i:Nat} {p:Zae} {room:Int} {ns:List Nd} (hst:st[i]? = some (aOf p room ns).lo) (hl:ns.length≤512) {k:Nat} (hk:k<ns.length) (hw:isN ns[k].wk) (hlen:ns[k].ch.length≤600)
  {h:Zai} (nd:Nd) (hch:nd.ch=ns[k].ch ++ [h]) (hah:nd.ah=(k:Int)) (hwk:nd.wk=wkAdd ns[k].wk (wkBits h.Bits)) (hid':place 0 (ids ns) (hid h)=none) :
  ZaU N (some i) h (k:Int) (spotA p nd.ch) st=some ((ns.length:Int),st.set i (aOf p room (ns ++ [nd])).lo):=by
 have hd:=nd.hd_snoc hch
 unfold ZaU
 rw [Zgz hN,Zac,if_pos (by simp<;>omega),Zac,hst,ZaF,ZcD,show (aOf p room ns).list=rowE ns from rfl,Zhc,Zag (by omega),Zag (by omega),Int.toNat_natCast,Nat.zero_add,Zmc hk,ZaF,Zfo,show (ns[k].en).Work=nw ns[k].wk from rfl,Zlq (by omega) hw (Zgk _),Zac,show (ns[k].en).Height=(ns[k].ch.length:Int)-1 from rfl,ZaB (by omega) (by omega)]
 have e:ZbM.mk h (spotA p nd.ch).Prev (k:Int) ((ns[k].ch.length:Int)-1+1) (nw (wkAdd ns[k].wk (wkBits h.Bits)))=nd.en:=by
  unfold Nd.en Nd.id
  rw [hd,hch,Zjf,hah,hwk,List.length_append,List.length_singleton]
  congr 1;omega
 rw [e]
 refine ZnJ hst hl nd ?_
 unfold Nd.id;rw [hd];exact hid'
theorem keep0_eq (hN:300≤N) {st:LL} {i:Nat} {p:Zae} {room:Int} (hst:st[i]? = some (aOf p room []).lo) {h:Zai} (nd:Nd) (hch:nd.ch = [h]) (hah:nd.ah = -1) (hwk:nd.wk=wkBits h.Bits) :
  ZaU N (some i) h (-1) (spotA p nd.ch) st=some (0,st.set i (aOf p room [nd]).lo):=by
 have hd:nd.hd=h:=nd.hd_snoc (c:=[]) hch
 unfold ZaU
 rw [Zgz hN,Zac,if_neg (by simp)]
 have e:ZbM.mk h (spotA p nd.ch).Prev (-1) 0 (nw (wkBits h.Bits))=nd.en:=by
  unfold Nd.en Nd.id
  rw [hd,hch,show (spotA p [h]).Prev=hid h from Zjf p [] h,hah,hwk];rfl
 rw [e]
 exact ZnJ (ns:=[]) hst (by simp) nd rfl
def chAt (ns:List Nd) (k:Nat):List Zai:=(ns[k]?.map Nd.ch).getD []
def wkAt (ns:List Nd) (k:Nat):Int:=(ns[k]?.map Nd.wk).getD 0
theorem ZhD {ns:List Nd} {k:Nat} (h:k<ns.length):chAt ns k=ns[k].ch:=by simp [chAt,h]
theorem Zlr {ns:List Nd} {k:Nat} (h:k<ns.length):wkAt ns k=ns[k].wk:=by simp [wkAt,h]
def nodeOn (ns:List Nd) (k:Nat) (h:Zai):Nd:=⟨chAt ns k ++ [h],(k:Int),wkAdd (wkAt ns k) (wkBits h.Bits)⟩
def addT (p:Zae) (gs:List Zci) (cs:List ZbN) (room:Int) (ns:List Nd) (h:Zai) (now:Int):Int×Int×Int×List Nd:=
 if hgood h=false then (-1,1,8,ns) else
 match place 0 (ids ns) (hid h) with
 | some k=>((k:Int),0,0,ns)
 | none=>match place 0 (ids ns) h.Prev with
  | none=>(-1,2,5,ns)
  | some k=>if checkS p gs cs (spotA p (chAt ns k)) h now≠0 then (-1,checkS p gs cs (spotA p (chAt ns k)) h now,8,ns)
   else if room≤(ns.length:Int) then (-1,0,6,ns) else ((ns.length:Int),0,0,ns ++ [nodeOn ns k h])
theorem ZjJ {st:LL} {i:Nat} {x:List L} (h:st[i]? = some x):st.set i x=st:=by
 apply List.ext_getElem?
 intro j
 by_cases e:i=j
 ·subst e
  obtain ⟨hi,e⟩:=List.getElem?_eq_some_iff.1 h
  rw [List.getElem?_set_self hi,h]
 ·rw [List.getElem?_set_ne e]
theorem Znh (p:Zae) (c:List Zai):wfS (spotA p c)=true:=by
 have h : ∀l:List Zai,∃ts:List Int,(spotA p l).Times=rowI ts∧ts.length≤11:=by
  refine ZjP ⟨[],rfl,by simp⟩ (fun l h ih=>?_)
  unfold spotA at *
  rw [List.foldl_append]
  exact ⟨_,rfl,by simp;omega⟩
 obtain ⟨ts,h1,h2⟩:=h c
 simp only [wfS,h1,isI_row,Bool.true_and,decide_eq_true_eq,Zdd]
 omega
theorem Add_eq (hN:500≤N) {st:LL} {i:Nat} {p:Zae} {gs:List Zci} {cs:List ZbN} (hg:p.Gates=rowG gs) (hc:p.Checks=rowC cs) (lg:gs.length≤400) (lc:cs.length≤400) {room:Int} (hroom:room≤512) {ns:List Nd} (ht:Tree ns) (hst:st[i]? = some (aOf p room ns).lo)
  {h:Zai} (hh:WfH h) (now:Int) (hnow : -1152921504606846976≤now∧now≤9223372036854775807) :
  ZaG N (some i) h now st=some ((addT p gs cs room ns h now).1,(addT p gs cs room ns h now).2.1,(addT p gs cs room ns h now).2.2.1,st.set i (aOf p room (addT p gs cs room ns h now).2.2.2).lo):=by
 have ss:=ZjJ hst
 unfold ZaG addT
 rw [if_neg (c:=Option.isNone (some i)=true) (by simp),Zeb,Zac]
 cases hgd:hgood h with
 | false=>rw [if_pos (by rfl),if_pos (c:=false=false) rfl];dsimp only;rw [ss]
 | true=>
  rw [if_neg (c:=(!true)=true) (by simp),if_neg (c:=true=false) (by simp),Zac,hst,ZaF,ZcD,ZeF hN hh.w,Zac,show (aOf p room ns).places=idMap 0 (ids ns) from rfl,Zhb]
  cases e1:place 0 (ids ns) (hid h) with
  | some k=>
   show ZaG.p1 N i now (k:Int) true h st=_
   unfold ZaG.p1
   rw [if_pos rfl];dsimp only;rw [ss]
  | none=>
   show ZaG.p1 N i now 0 false h st=_
   unfold ZaG.p1
   rw [if_neg (by simp),hst,ZaF,ZcD,show (aOf p room ns).places=idMap 0 (ids ns) from rfl,Zhb]
   cases e2:place 0 (ids ns) h.Prev with
   | none=>
    show ZaG.p2 N i now 0 false h st=_
    unfold ZaG.p2
    rw [if_pos (by rfl)];dsimp only;rw [ss]
   | some k=>
    show ZaG.p2 N i now (k:Int) true h st=_
    obtain ⟨_,hk,_⟩:=ZeL e2
    have hk':k<ns.length:=by simpa [ids] using hk
    have sw:=Znh p ns[k].ch
    have isT:isI (spotA p ns[k].ch).Times=true:=by simp only [wfS,Bool.and_eq_true] at sw;exact sw.1
    unfold ZaG.p2
    dsimp only
    rw [if_neg (c:=(!true)=true) (by simp),hst,ZaF,ZcD,show (aOf p room ns).spots=rowS p ns from rfl,len_rowS,Zag (by omega),Zag (by omega),Int.toNat_natCast,Nat.zero_add,rowS_get hk',ZaF,ZhX,show (aOf p room ns).rules=p from rfl,ZjK hN hg hc lg lc hh.w isT now hnow,Zac,ZhD hk']
    by_cases h4:checkS p gs cs (spotA p ns[k].ch) h now=0
    ·rw [if_neg (c:=(checkS p gs cs (spotA p ns[k].ch) h now != 0)=true) (by simp [h4]),if_neg (c:=checkS p gs cs (spotA p ns[k].ch) h now≠0) (by simp [h4]),show (aOf p room ns).list=rowE ns from rfl,Zhc,show (aOf p room ns).room=room from rfl]
     by_cases h5:room≤(ns.length:Int)
     ·rw [if_pos (by simpa using h5),if_pos h5];dsimp only;rw [ss]
     ·rw [if_neg (by simpa using h5),if_neg h5,ZfT hN hh.w sw,Zac]
      have be:behind p (spotA p ns[k].ch) h=spotA p (nodeOn ns k h).ch:=by
       unfold nodeOn spotA
       rw [ZhD hk',List.foldl_append];rfl
      have hm:=List.getElem_mem hk'
      have sm:=ht.small
      have cl:=(ht.ch _ hm).2
      rw [be,keep_eq (by omega) hst ht.small hk' (ht.wk _ hm) (by omega) (nodeOn ns k h) (by unfold nodeOn;rw [ZhD hk']) rfl (by unfold nodeOn;rw [Zlr hk']) e1,Zac]
    ·rw [if_pos (c:=(checkS p gs cs (spotA p ns[k].ch) h now != 0)=true) (by simpa using h4),if_pos (c:=checkS p gs cs (spotA p ns[k].ch) h now≠0) h4];dsimp only;rw [ss]
noncomputable def rowIds (l:List (List Int)):LL:=l.map fun x=>[L.arr .u8 32 x]
noncomputable def rowW (l:List Int):LL:=l.map fun x=>[L.arr .u64 4 (nw x)]
noncomputable def rOf (p:Zae) (room:Int) (ns:List Nd):Zaa:=⟨p,rowH (ns.map Nd.hd),rowIds (ids ns),rowI (ns.map Nd.ah),rowW (ns.map Nd.wk),room⟩
theorem Zex {l:List (List Int)} {i:Nat} (h:i<l.length):(rowIds l)[i]? = some [L.arr .u8 32 l[i]]:=by simp [rowIds,h]
theorem rowW_get {l:List Int} {i:Nat} (h:i<l.length):(rowW l)[i]? = some [L.arr .u64 4 (nw l[i])]:=by simp [rowW,h]
@[simp] theorem Zep (l:List (List Int)):len (rowIds l)=(l.length:Int):=by simp [len,rowIds]
@[simp] theorem len_rowW (l:List Int):len (rowW l)=(l.length:Int):=by simp [len,rowW]
@[simp] theorem Zgs (l:List Zai):len (rowH l)=(l.length:Int):=by simp [len]
theorem Zjr (i:Nat) (y:List Int) (l:List (List Int)) (x:List Int):place i (y::l) x=if x=y then some i else place (i+1) l x:=rfl
def placeI (o:Option Nat):Int:=match o with
 | some k=>(k:Int)
 | none=>-1
theorem ZgW {st:LL} {i:Nat} {p:Zae} {room:Int} {ns:List Nd} (hN:ns.length<N) (hl:ns.length≤512) (hst:st[i]? = some (rOf p room ns).lo) (x:List Int) :
  ZaV N (some i) x st=some (placeI (place 0 (ids ns) x),st):=by
 unfold ZaV
 rw [Zac,hst,ZaF,Zcu]
 have li:(ids ns).length=ns.length:=by simp [ids]
 refine ZbH (fun m (v:Int)=>∃k:Nat,k+m=ns.length∧v=(k:Int)∧place 0 (ids ns) x=place k ((ids ns).drop k) x) ?_ N ns.length 0 ⟨0,by omega,rfl,by rw [List.drop_zero]⟩ hN
 rintro G m _ ⟨k,hk,rfl,hp⟩ hG
 unfold ZaV.p1
 rw [show (rOf p room ns).Ids=rowIds (ids ns) from rfl,Zep,li]
 by_cases hlt:k<ns.length
 ·have hk':k<(ids ns).length:=by omega
  rw [List.drop_eq_getElem_cons hk'] at hp
  rw [Zjr] at hp
  rw [if_pos (by simp<;>omega),Zag (by omega),hst,ZaF,Zcu,show (rOf p room ns).Ids=rowIds (ids ns) from rfl,Int.toNat_natCast,Nat.zero_add,Zex hk',ZaF,Zdw,ZaB (by omega) (by omega)]
  by_cases he:x=(ids ns)[k]
  ·rw [if_pos he] at hp
   rw [if_pos (by simp [he]),hp];rfl
  ·rw [if_neg he] at hp
   rw [if_neg (by simpa using fun e=>he e.symm)]
   exact hG (m-1) _ (by omega) ⟨k+1,by omega,by omega,hp⟩
 ·rw [if_neg (by simp<;>omega),hp,List.drop_of_length_le (by omega)];rfl
theorem ZiV {p:Zae} {room:Int} {ns:List Nd} (ht:Tree ns) (hN:ns.length+2≤N) {k:Nat} (hk:k<ns.length):ZaO N (rOf p room ns) (k:Int)=some (rowH (chAt ns k)):=by
 have sm:=ht.small
 unfold ZaO
 rw [ZhD hk]
 refine ZbH (fun m (x:LL×Int)=>∃out:List Zai,x=(rowH out,(m:Int)-1)∧m≤ns.length∧((m=0∧out=ns[k].ch)∨∃h:0<m∧m-1<ns.length,ns[m-1].ch++out=ns[k].ch)) ?_ N (k+1) _ ⟨[],by simp;rfl,by omega,.inr ⟨⟨by omega,by omega⟩,by simp⟩⟩ (by omega)
 rintro G m _ ⟨out,rfl,hm,ho⟩ hG
 unfold ZaO.p1
 dsimp only
 rcases ho with ⟨rfl,rfl⟩ | ⟨⟨h0,h1⟩,ho⟩
 ·rw [if_neg (by simp)]
 ·obtain ⟨j,rfl⟩ : ∃j,m=j+1:=⟨m-1,by omega⟩
  simp only [Nat.add_sub_cancel] at ho h1
  have hj:j<(ns.map Nd.hd).length:=by simp;omega
  have hj2:j<(ns.map Nd.ah).length:=by simp;omega
  have cl:=congrArg List.length ho
  rw [List.length_append] at cl
  have cb:=(ht.ch _ (List.getElem_mem hk)).2
  rw [show (rOf p room ns).List_=rowH (ns.map Nd.hd) from rfl,show (rOf p room ns).Ahead=rowI (ns.map Nd.ah) from rfl,show ((j+1:Nat):Int)-1=(j:Int) by omega,if_pos (by simp),Zgs,Zdj,Zag (by omega),Zag (by omega),Int.toNat_natCast,ZgS hj,ZaF,Zdz,Zag (by rw [List.length_append,Ziu];simp;omega),Zag (by omega),ZfD hj2,ZaF,ZcP,List.getElem_map,List.getElem_map]
  have e : [ns[j].hd.ls]++rowH out=rowH (ns[j].hd::out):=rfl
  rw [e]
  have nl:=ht.ch _ (List.getElem_mem h1)
  rcases ht.ah j h1 with ⟨z,a,c⟩ | ⟨q,hq,a,c⟩
  ·have c1:ns[j].ch = [ns[j].hd]:=by
    unfold Nd.hd
    match hch:ns[j].ch,c with
    | [x],_=>rfl
   rw [a]
   rw [c1] at ho
   exact hG 0 _ (by omega) ⟨_,rfl,by omega,.inl ⟨rfl,ho⟩⟩
  ·rw [a]
   rw [c,List.append_assoc] at ho
   exact hG (q+1) _ (by omega) ⟨_,by rw [show ((q+1:Nat):Int)-1=(q:Int) by omega],by omega,.inr ⟨⟨by omega,by omega⟩,by simpa using ho⟩⟩
theorem ZnZ (p:Zae) (gs:List Zci) (cs:List ZbN) (s:ZaN) (h:Zai) (now:Int):0≤checkS p gs cs s h now:=by
 unfold checkS;repeat' split
 all_goals omega
theorem ZkJ (hN:900≤N) {st:LL} {i:Nat} {p:Zae} {gs:List Zci} {cs:List ZbN} (hg:p.Gates=rowG gs) (hc:p.Checks=rowC cs) (lg:gs.length≤400) (lc:cs.length≤400) {room:Int} (hroom:room≤512) {ns:List Nd} (ht:Tree ns) (hlen:ns.length≤200) (hst:st[i]? = some (rOf p room ns).lo)
  {h:Zai} (hh:WfH h) (now:Int) (hnow:0≤now∧now≤9223372036854775807) :
  ZcB N (some i) h now st=some ((addT p gs cs room ns h now).1,(addT p gs cs room ns h now).2.1,(addT p gs cs room ns h now).2.2.1,st.set i (rOf p room (addT p gs cs room ns h now).2.2.2).lo):=by
 have ss:=ZjJ hst
 unfold ZcB addT
 rw [Zgo,Zac]
 cases hgd:hgood h with
 | false=>rw [if_pos (by rfl),if_pos (c:=false=false) rfl];dsimp only;rw [ss]
 | true=>
  rw [if_neg (c:=(!true)=true) (by simp),if_neg (c:=true=false) (by simp),Zgn (by omega) h hh.w,Zac,ZgW (by omega) ht.small hst,Zac]
  dsimp only
  cases e1:place 0 (ids ns) (hid h) with
  | some k=>
   rw [show placeI (some k)=(k:Int) from rfl,if_pos (by simp)]
   dsimp only;rw [ss]
  | none=>
   rw [show placeI none = -1 from rfl,if_neg (by simp),ZgW (by omega) ht.small hst,Zac]
   dsimp only
   cases e2:place 0 (ids ns) h.Prev with
   | none=>
    rw [show placeI none = -1 from rfl,if_pos (by simp)]
    dsimp only;rw [ss]
   | some k=>
    obtain ⟨_,hk,_⟩:=ZeL e2
    have hk':k<ns.length:=by simpa [ids] using hk
    have hm:=List.getElem_mem hk'
    have cl:=ht.ch _ hm
    have c0:0<ns[k].ch.length:=List.length_pos_iff.2 cl.1
    dsimp only
    rw [show placeI (some k)=(k:Int) from rfl,if_neg (by simp<;>omega),Zac,hst,ZaF,Zcu,ZiV ht (by omega) hk',Zac,ZhD hk',Zag (by simp [plainRow,rowH,Zai.ls,L.plain]),show (rOf p room ns).Rules=p from rfl,ZiW hN hg lg hc lc ns[k].ch c0 (by omega) (fun x hx=>(ht.wf _ hm x hx).w) hh.w now hnow,Zac]
    have nn:=ZnZ p gs cs (spotA p ns[k].ch) h now
    by_cases h4:checkS p gs cs (spotA p ns[k].ch) h now=0
    ·rw [if_neg (c:=decide (checkS p gs cs (spotA p ns[k].ch) h now>0)=true) (by simp<;>omega),if_neg (c:=checkS p gs cs (spotA p ns[k].ch) h now≠0) (by simp [h4]),show (rOf p room ns).List_=rowH (ns.map Nd.hd) from rfl,Zgs,List.length_map,show (rOf p room ns).Room=room from rfl]
     by_cases h5:room≤(ns.length:Int)
     ·rw [if_pos (by simpa using h5),if_pos h5];dsimp only;rw [ss]
     ·have hd:=(nodeOn ns k h).hd_snoc rfl
      have i1:rowH (ns.map Nd.hd) ++ [h.ls]=rowH ((ns ++ [nodeOn ns k h]).map Nd.hd):=by simp [rowH,hd]
      have i2:rowIds (ids ns) ++ [[L.arr .u8 32 (hid h)]]=rowIds (ids (ns ++ [nodeOn ns k h])):=by simp [rowIds,ids,Nd.id,hd]
      have i3:rowW (ns.map Nd.wk) ++ [[L.arr .u64 4 (nw (wkAdd ns[k].wk (wkBits h.Bits)))]]=rowW ((ns ++ [nodeOn ns k h]).map Nd.wk):=by simp [rowW,nodeOn,Zlr hk']
      have i4:rowI (ns.map Nd.ah) ++ [[L.int .i64 (k:Int)]]=rowI ((ns ++ [nodeOn ns k h]).map Nd.ah):=by simp [rowI,nodeOn]
      have kw:k<(ns.map Nd.wk).length:=by simp;omega
      have sm:=ht.small
      rw [if_neg (by simpa using h5),if_neg h5,show (rOf p room ns).Ids=rowIds (ids ns) from rfl,show (rOf p room ns).Works=rowW (ns.map Nd.wk) from rfl,show (rOf p room ns).Ahead=rowI (ns.map Nd.ah) from rfl,i1,i2,i4,Zag (by rw [Ziu,List.length_map,List.length_append,List.length_singleton];omega),Zag (by simp [rowIds,ids];omega),Zag (by omega),len_rowW,Zag (by rw [List.length_map];omega),Int.toNat_natCast,Nat.zero_add,rowW_get kw,ZaF,List.getElem_map,Zlj,ZfY (by omega),Zac,ZkK (by omega) (ht.wk _ hm) (Zgk _),Zac,i3,Zag (by simp [rowW];omega),Zag (by rw [Zdd,List.length_map,List.length_append,List.length_singleton];omega),Zgs,List.length_map,List.length_append,List.length_singleton,ZaB (by omega) (by omega)]
      simp only [List.set_set]
      rw [show ((ns.length+1:Nat):Int)-1=(ns.length:Int) by omega]
      rfl
    ·rw [if_pos (c:=decide (checkS p gs cs (spotA p ns[k].ch) h now>0)=true) (by simp<;>omega),if_pos (c:=checkS p gs cs (spotA p ns[k].ch) h now≠0) h4];dsimp only;rw [ss]
theorem Tree.one_node {g:Zai} (hg:WfH g):Tree [⟨[g],-1,wkBits g.Bits⟩] where
 small:=by simp
 ch:=fun n hn=>by cases List.mem_singleton.1 hn;simp
 wf:=fun n hn x hx=>by cases List.mem_singleton.1 hn;cases List.mem_singleton.1 hx;exact hg
 wk:=fun n hn=>by cases List.mem_singleton.1 hn;exact Zgk _
 ah:=fun i h=>.inl ⟨by simpa using h,by simp at h;subst h;rfl,by simp at h;subst h;rfl⟩
 one:=by simp [ids]
theorem Tree.grow {ns:List Nd} (ht:Tree ns) {k:Nat} (hk:k<ns.length) {h:Zai} (hh:WfH h) (hs:ns.length<512) (hid':place 0 (ids ns) (hid h)=none):Tree (ns ++ [nodeOn ns k h]):=by
 have hm:=List.getElem_mem hk
 have cl:=ht.ch _ hm
 have hc:(nodeOn ns k h).ch=ns[k].ch ++ [h]:=by unfold nodeOn;rw [ZhD hk]
 have hd:=(nodeOn ns k h).hd_snoc rfl
 refine ⟨by simp;omega,?_,?_,?_,?_,?_⟩
 ·intro n hn
  rcases List.mem_append.1 hn with hn | hn
  ·have:=ht.ch n hn;exact ⟨this.1,by simp;omega⟩
  ·cases List.mem_singleton.1 hn
   rw [hc];exact ⟨by simp,by simp;omega⟩
 ·intro n hn x hx
  rcases List.mem_append.1 hn with hn | hn
  ·exact ht.wf n hn x hx
  ·cases List.mem_singleton.1 hn
   rw [hc] at hx
   rcases List.mem_append.1 hx with hx | hx
   ·exact ht.wf _ hm x hx
   ·cases List.mem_singleton.1 hx;exact hh
 ·intro n hn
  rcases List.mem_append.1 hn with hn | hn
  ·exact ht.wk n hn
  ·cases List.mem_singleton.1 hn
   unfold nodeOn;rw [Zlr hk]
   exact Zna (ht.wk _ hm) (Zgk _)
 ·intro i hi
  by_cases hlt:i<ns.length
  ·rw [List.getElem_append_left hlt]
   rcases ht.ah i hlt with a | ⟨q,hq,a,b⟩
   ·exact .inl a
   ·exact .inr ⟨q,hq,a,by rw [List.getElem_append_left (by omega)];exact b⟩
  ·have:i=ns.length:=by simp at hi;omega
   subst this
   refine .inr ⟨k,hk,?_,?_⟩
   ·rw [List.getElem_append_right (by omega)];simp [nodeOn]
   ·rw [List.getElem_append_right (by omega),List.getElem_append_left hk]
    simp only [Nat.sub_self,List.getElem_singleton]
    rw [hc,hd]
 ·have np:=Zjq hid'
  unfold ids at *
  rw [List.map_append,List.nodup_append]
  refine ⟨ht.one,by simp,?_⟩
  intro a ha b hb
  simp only [List.map_cons,List.map_nil,List.mem_singleton] at hb
  subst hb
  intro e
  unfold Nd.id at e
  rw [hd] at e
  exact np (by rw [←e];exact ha)
theorem Zgy (p:Zae) (gs:List Zci) (cs:List ZbN) (room:Int) (ns:List Nd) (h:Zai) (now:Int) :
  (addT p gs cs room ns h now).2.2.2=ns∨∃k:Nat,k<ns.length∧hgood h=true∧place 0 (ids ns) (hid h)=none∧checkS p gs cs (spotA p (chAt ns k)) h now=0∧(ns.length:Int)<room ∧
   addT p gs cs room ns h now=((ns.length:Int),0,0,ns ++ [nodeOn ns k h]):=by
 unfold addT
 by_cases hg:hgood h=false
 ·rw [if_pos hg];exact .inl rfl
 rw [if_neg hg]
 cases e1:place 0 (ids ns) (hid h) with
 | some k=>exact .inl rfl
 | none=>
  dsimp only
  cases e2:place 0 (ids ns) h.Prev with
  | none=>exact .inl rfl
  | some k=>
   dsimp only
   obtain ⟨_,hk,_⟩:=ZeL e2
   have hk':k<ns.length:=by simpa [ids] using hk
   by_cases h1:checkS p gs cs (spotA p (chAt ns k)) h now=0
   ·rw [if_neg (by simp [h1])]
    by_cases h2:room≤(ns.length:Int)
    ·rw [if_pos h2];exact .inl rfl
    ·rw [if_neg h2]
     exact .inr ⟨k,hk',by simpa using hg,rfl,h1,by omega,rfl⟩
   ·rw [if_pos h1];exact .inl rfl
theorem Zom {p:Zae} {gs:List Zci} {cs:List ZbN} {room:Int} (hr:room≤512) {ns:List Nd} (ht:Tree ns) {h:Zai} (hh:WfH h) (now:Int):Tree (addT p gs cs room ns h now).2.2.2:=by
 rcases Zgy p gs cs room ns h now with e | ⟨k,hk,_,hi,_,hl,e⟩
 ·rw [e];exact ht
 ·rw [e];exact ht.grow hk hh (by omega) hi
theorem addT_len (p:Zae) (gs:List Zci) (cs:List ZbN) (room:Int) (ns:List Nd) (h:Zai) (now:Int):ns.length≤(addT p gs cs room ns h now).2.2.2.length∧(addT p gs cs room ns h now).2.2.2.length≤ns.length+1:=by
 rcases Zgy p gs cs room ns h now with e | ⟨k,hk,_,hi,_,hl,e⟩
 ·rw [e];omega
 ·rw [e];simp
def roomOf (room:Int):Int:=if (512:Int)<(if (1:Int)>room then 1 else room) then 512 else (if (1:Int)>room then 1 else room)
def rootN (p:Zae):Nd:=⟨[p.Genesis],-1,wkBits p.Genesis.Bits⟩
theorem set_last (st:LL) (a b:List L):(st ++ [a]).set st.length b=st ++ [b]:=by simp
theorem New_eq (hN:500≤N) {p:Zae} {gs:List Zci} {cs:List ZbN} (hg:p.Gates=rowG gs) (hc:p.Checks=rowC cs) (lg:gs.length≤400) (lc:cs.length≤400) (hp:WfP p) (room:Int) (st:LL) :
  ZdZ N p room st=if rgood p gs cs=true then some (some st.length,0,st ++ [(aOf p (roomOf room) [rootN p]).lo]) else some (none,1,st):=by
 unfold ZdZ
 rw [Zkz hN hg lg hc lc,Zac]
 cases hgd:rgood p gs cs with
 | false=>rfl
 | true=>
  have pp:({p with Gates:=[]++p.Gates,Checks:=[]++p.Checks}:Zae)=p:=rfl
  rw [if_neg (c:=(!true)=true) (by simp),pp,Zag (by rw [hg,List.nil_append,Zly];omega),Zag (by rw [hc,List.nil_append,Zlz];omega),ZiU hN hp.h.w,Zac]
  have hst:(st ++ [(aOf p (roomOf room) []).lo])[st.length]? = some (aOf p (roomOf room) []).lo:=by simp
  have k:=keep0_eq (N:=N) (by omega) hst (h:=p.Genesis) (rootN p) rfl rfl rfl
  rw [set_last] at k
  rw [if_pos (c:=true=true) rfl]
  show optE (ZaU N (some st.length) p.Genesis (-1) (spotA p (rootN p).ch) (st ++ [(aOf p (roomOf room) []).lo])) _=_
  rw [k,Zac]
theorem ZkI (hN:900≤N) {p:Zae} (hp:WfP p) (room:Int) (st:LL):ZdS N p room st=some (some st.length,st ++ [(rOf p (roomOf room) [rootN p]).lo]):=by
 unfold ZdS
 rw [Zgn (by omega) _ hp.h.w,Zac,ZfY (by omega),Zac]
 rfl
theorem Zot (p:Zae) (room:Int) (ns:List Nd) (x:List Int):Zcd N (aOf p room ns) x=some (placeI (place 0 (ids ns) x)):=by
 unfold Zcd
 rw [show (aOf p room ns).places=idMap 0 (ids ns) from rfl,Zhb]
 cases place 0 (ids ns) x<;>rfl
theorem Zox (p:Zae) (room:Int) {ns:List Nd} {k:Nat} (hk:k<ns.length):ZbU N (aOf p room ns) (k:Int)=some (ns[k].en,true):=by
 unfold ZbU Zcw
 rw [show (aOf p room ns).list=rowE ns from rfl,Zhc,if_pos (by simp),Zac,if_neg (by simp<;>omega),Zag (by omega),Zag (by omega),Int.toNat_natCast,Zmc hk,ZaF,Zfo]
theorem Zow (p:Zae) (room:Int) {ns:List Nd} {k:Int} (hk:k<0∨(ns.length:Int)≤k):ZbU N (aOf p room ns) k=some (ZbM.mk (Zai.mk 0 (List.replicate 32 0) (List.replicate 32 0) 0 0 0) (List.replicate 32 0) (-1) 0 (List.replicate 4 0),false):=by
 unfold ZbU Zcw
 rw [show (aOf p room ns).list=rowE ns from rfl,Zhc]
 by_cases h:k≥0
 ·rw [if_pos (by simpa using h),Zac,if_pos (by simp<;>omega)]
 ·rw [if_neg (by simpa using h),Zac,if_pos (by rfl)]
theorem Ziz : ∀{l:List (List Int)} {i k:Nat} (hk:k<l.length),l.Nodup→place i l l[k]=some (i+k)
 | y::l,i,0,_,_=>by simp [place]
 | y::l,i,k+1,hk,hn=>by
  have hk':k<l.length:=by simpa using hk
  rw [List.nodup_cons] at hn
  rw [List.getElem_cons_succ,Zjr,if_neg (fun e=>hn.1 (by rw [←e];exact List.getElem_mem hk')),Ziz hk' hn.2]
  congr 1;omega
end Go.Dn.F
set_option maxRecDepth 100000
namespace Go.Dn.F
open Go.Dn Go.Proofs
variable {N:Nat}
abbrev tysCm:List Ty:=[.int .i64,.arr .u8 32,.arr .u8 32,.int .i64,.int .i64,.int .i64,.int .i64]
end Go.Dn.F
set_option maxRecDepth 40000
namespace Go.Dn.F
open Go.Dn Go.Proofs
variable {N:Nat}
def rowF (ns:List Nd):Nat→Nat→List Nat
 | 0,k=>[k]
 | f+1,k=>match ns[k]? with
  | some n=>if n.ah<0 then [k] else rowF ns f n.ah.toNat ++ [k]
  | none=>[k]
def rowP (ns:List Nd) (k:Nat):List Nat:=rowF ns k k
theorem Znw {ns:List Nd} (ht:Tree ns) : ∀(k f g:Nat),k<ns.length→k≤f→k≤g→rowF ns f k=rowF ns g k:=by
 intro k
 induction k using Nat.strongRecOn with
 | ind k ih=>
  intro f g hk hf hg
  rcases ht.ah k hk with ⟨z,a,c⟩ | ⟨q,hq,a,c⟩
  ·have e : ∀f,rowF ns f k = [k]:=fun f=>by
    cases f with
    | zero=>rfl
    | succ f=>unfold rowF;rw [List.getElem?_eq_getElem hk];dsimp only;rw [a,if_pos (by omega)]
   rw [e,e]
  ·obtain ⟨f,rfl⟩ : ∃x,f=x+1:=⟨f-1,by omega⟩
   obtain ⟨g,rfl⟩ : ∃x,g=x+1:=⟨g-1,by omega⟩
   unfold rowF
   rw [List.getElem?_eq_getElem hk]
   dsimp only
   rw [a,if_neg (by omega),if_neg (by omega),Int.toNat_natCast,ih q hq f g (by omega) (by omega) (by omega)]
theorem Zns {ns:List Nd} {k:Nat} (hk:k<ns.length) (a:ns[k].ah = -1):rowP ns k = [k]:=by
 unfold rowP
 cases k with
 | zero=>rfl
 | succ f=>unfold rowF;rw [List.getElem?_eq_getElem hk];dsimp only;rw [a,if_pos (by omega)]
theorem ZkC {ns:List Nd} (ht:Tree ns) {k q:Nat} (hk:k<ns.length) (hq:q<k) (a:ns[k].ah=(q:Int)):rowP ns k=rowP ns q ++ [k]:=by
 obtain ⟨f,rfl⟩ : ∃x,k=x+1:=⟨k-1,by omega⟩
 unfold rowP
 rw [rowF,List.getElem?_eq_getElem hk]
 dsimp only
 rw [a,if_neg (by omega),Int.toNat_natCast,Znw ht q f q (by omega) (by omega) (by omega)]
theorem Zew {ns:List Nd} (ht:Tree ns) {k:Nat} (hk:k<ns.length) :
  (k=0∧ns[k].ah = -1∧rowP ns k = [k]∧ns[k].ch.length=1)∨∃q,q<k∧ns[k].ah=(q:Int)∧rowP ns k=rowP ns q ++ [k]∧∃hq:q<ns.length,ns[k].ch=ns[q].ch ++ [ns[k].hd]:=by
 rcases ht.ah k hk with ⟨z,a,c⟩ | ⟨q,hq,a,c⟩
 ·exact .inl ⟨z,a,Zns hk a,c⟩
 ·exact .inr ⟨q,hq,a,ZkC ht hk hq a,by omega,c⟩
theorem ZeU {ns:List Nd} (ht:Tree ns) : ∀{k:Nat} (hk:k<ns.length),(rowP ns k).length=ns[k].ch.length:=by
 intro k
 induction k using Nat.strongRecOn with
 | ind k ih=>
  intro hk
  rcases Zew ht hk with ⟨z,a,e,c⟩ | ⟨q,hq,a,e,hq',c⟩
  ·rw [e,c];rfl
  ·rw [e,c,List.length_append,List.length_append,ih q hq hq'];rfl
theorem ZkD {ns:List Nd} (ht:Tree ns) {k:Nat} (hk:k<ns.length):(rowP ns k)[(rowP ns k).length-1]? = some k:=by
 rcases Zew ht hk with ⟨z,a,e,c⟩ | ⟨q,hq,a,e,hq',c⟩
 ·rw [e];rfl
 ·rw [e];simp
theorem ZgQ {ns:List Nd} (ht:Tree ns) {k:Nat} (hk:k<ns.length):0<(rowP ns k).length:=by
 rcases Zew ht hk with ⟨z,a,e,c⟩ | ⟨q,hq,a,e,hq',c⟩<;>rw [e]<;>simp
theorem Znt {ns:List Nd} (ht:Tree ns) : ∀{k:Nat},k<ns.length→∀x∈rowP ns k,x≤k:=by
 intro k
 induction k using Nat.strongRecOn with
 | ind k ih=>
  intro hk x hx
  rcases Zew ht hk with ⟨z,a,e,c⟩ | ⟨q,hq,a,e,hq',c⟩
  ·rw [e] at hx;simp at hx;omega
  ·rw [e] at hx
   rcases List.mem_append.1 hx with hx | hx
   ·have:=ih q hq hq' x hx;omega
   ·simp at hx;omega
theorem ZgP {ns:List Nd} (ht:Tree ns) : ∀{k:Nat},k<ns.length→∀{h x:Nat},(rowP ns k)[h]? = some x→x<ns.length∧rowP ns x=(rowP ns k).take (h+1):=by
 intro k
 induction k using Nat.strongRecOn with
 | ind k ih=>
  intro hk h x hx
  rcases Zew ht hk with ⟨z,a,e,c⟩ | ⟨q,hq,a,e,hq',c⟩
  ·rw [e] at hx ⊢
   cases h with
   | zero=>cases hx;exact ⟨hk,by rw [e];rfl⟩
   | succ h=>cases hx
  ·rw [e] at hx ⊢
   by_cases hlt:h<(rowP ns q).length
   ·rw [List.getElem?_append_left hlt] at hx
    obtain ⟨h1,h2⟩:=ih q hq hq' hx
    exact ⟨h1,by rw [h2,List.take_append_of_le_length (by omega)]⟩
   ·rw [List.getElem?_append_right (by omega)] at hx
    have e0:h-(rowP ns q).length=0:=by
     cases e1:h-(rowP ns q).length with
     | zero=>rfl
     | succ n=>rw [e1] at hx;cases hx
    rw [e0] at hx
    cases hx
    exact ⟨hk,by rw [e,List.take_of_length_le (by simp;omega)]⟩
theorem rowP_at {ns:List Nd} (ht:Tree ns) {k h x:Nat} (hk:k<ns.length) (hx:(rowP ns k)[h]? = some x) : ∃h':x<ns.length,ns[x].ch.length=h+1:=by
 obtain ⟨h1,h2⟩:=ZgP ht hk hx
 refine ⟨h1,?_⟩
 have hl:h<(rowP ns k).length:=(List.getElem?_eq_some_iff.1 hx).1
 rw [←ZeU ht h1,h2,List.length_take];omega
theorem ZjN {ns:List Nd} (ht:Tree ns) {k x:Nat} (hk:k<ns.length) (hx:x∈rowP ns k) : ∃h':x<ns.length,(rowP ns k)[ns[x].ch.length-1]? = some x:=by
 obtain ⟨h,hx⟩:=List.mem_iff_getElem?.1 hx
 obtain ⟨h1,h2⟩:=rowP_at ht hk hx
 exact ⟨h1,by rw [h2];exact hx⟩
theorem Znr {ns:List Nd} (ht:Tree ns) : ∀{k:Nat},k<ns.length→(rowP ns k)[0]? = some 0:=by
 intro k
 induction k using Nat.strongRecOn with
 | ind k ih=>
  intro hk
  rcases Zew ht hk with ⟨z,a,e,c⟩ | ⟨q,hq,a,e,hq',c⟩
  ·rw [e,z];rfl
  ·rw [e,List.getElem?_append_left (ZgQ ht hq')];exact ih q hq hq'
theorem Znv (ns:List Nd) (nd:Nd) (ht:Tree ns) : ∀(k f:Nat),k<ns.length→rowF (ns ++ [nd]) f k=rowF ns f k:=by
 intro k
 induction k using Nat.strongRecOn with
 | ind k ih=>
  intro f hk
  cases f with
  | zero=>rfl
  | succ f=>
   unfold rowF
   rw [List.getElem?_append_left hk,List.getElem?_eq_getElem hk]
   dsimp only
   rcases ht.ah k hk with ⟨z,a,c⟩ | ⟨q,hq,a,c⟩
   ·rw [a,if_pos (by omega),if_pos (by omega)]
   ·rw [a,if_neg (by omega),if_neg (by omega),Int.toNat_natCast,ih q hq f (by omega)]
theorem ZgR {ns:List Nd} (nd:Nd) (ht:Tree ns) {k:Nat} (hk:k<ns.length):rowP (ns ++ [nd]) k=rowP ns k:=Znv ns nd ht k k hk
def natI (l:List Nat):List Int:=l.map (fun x:Nat=>(x:Int))
theorem ZfX {p:Zae} {room:Int} {ns:List Nd} (ht:Tree ns) (hN:ns.length+2≤N) {k:Nat} (hk:k<ns.length):ZaE N (rOf p room ns) (k:Int)=some (rowI (natI (rowP ns k))):=by
 have sm:=ht.small
 unfold ZaE
 have lk:=ZeU ht hk
 have cb:=(ht.ch _ (List.getElem_mem hk)).2
 have key:loopN (ZaE.p1 N (rOf p room ns)) N ([],(k:Int))=some (rowI (natI (rowP ns k))):=by
  refine ZbH (fun m (s:LL×Int)=>∃(q:Nat) (c:List Nat),q=m∧s=(rowI (natI c),(q:Int)-1)∧((q=0∧c=rowP ns k)∨∃h:0<q∧q-1<ns.length,rowP ns (q-1)++c=rowP ns k)) ?_ N (k+1) _ ⟨k+1,[],rfl,by rw [show ((k+1:Nat):Int)-1=(k:Int) by omega];rfl,.inr ⟨⟨by omega,by omega⟩,by simp⟩⟩ (by omega)
  rintro G m _ ⟨q,c,rfl,rfl,ho⟩ hG
  unfold ZaE.p1
  dsimp only
  rcases ho with ⟨rfl,rfl⟩ | ⟨⟨h0,h1⟩,ho⟩
  ·rw [if_neg (by simp)]
  ·obtain ⟨j,rfl⟩ : ∃j,q=j+1:=⟨q-1,by omega⟩
   simp only [Nat.add_sub_cancel] at ho h1
   have hj2:j<(ns.map Nd.ah).length:=by simp;omega
   have lo:=congrArg List.length ho
   rw [List.length_append,lk] at lo
   have e1 : [(j:Int)]++natI c=natI (j::c):=rfl
   rw [show (rOf p room ns).Ahead=rowI (ns.map Nd.ah) from rfl,show ((j+1:Nat):Int)-1=(j:Int) by omega,if_pos (by simp),ZhZ,ZfE,e1,Zag (by rw [Zdd];simp [natI];omega),Zag (by omega),Zdj,Zag (by omega),Int.toNat_natCast,ZfD hj2,ZaF,ZcP,List.getElem_map]
   rcases Zew ht h1 with ⟨z,a,e,cl⟩ | ⟨q,hq,a,e,hq',cl⟩
   ·rw [a]
    exact hG 0 _ (by omega) ⟨0,_,rfl,rfl,.inl ⟨rfl,by rw [←ho,e];rfl⟩⟩
   ·rw [a]
    exact hG (q+1) _ (by omega) ⟨q+1,_,rfl,by rw [show ((q+1:Nat):Int)-1=(q:Int) by omega],.inr ⟨⟨by omega,by simp;omega⟩,by simp only [Nat.add_sub_cancel];rw [←ho,e];simp⟩⟩
 exact key
noncomputable def tOf (p:Zae) (room:Int) (ns:List Nd) (lp:List Int):Zau:=⟨aOf p room ns,rowI lp⟩
structure Leaps (ns:List Nd) (lp:List Int):Prop where
 len:lp.length≤ns.length
 ok : ∀(i:Nat) (v:Int),lp[i]? = some v→v = -1∨∃x:Nat,v=(x:Int)∧x≠i∧x∈rowP ns i
def hZ (ns:List Nd) (k:Int):Int:=if 0≤k∧k<(ns.length:Int) then ((ns[k.toNat]?.map Nd.ch).getD []).length-1 else -1
theorem ZmP {ns:List Nd} {k:Nat} (hk:k<ns.length):hZ ns (k:Int)=(ns[k].ch.length:Int)-1:=by
 unfold hZ;rw [if_pos (by omega),Int.toNat_natCast,List.getElem?_eq_getElem hk];rfl
theorem ZlO {ns:List Nd} {k:Int} (hk:k<0∨(ns.length:Int)≤k):hZ ns k = -1:=by
 unfold hZ;rw [if_neg (by omega)]
theorem ZjI (p:Zae) (room:Int) {ns:List Nd} (lp:List Int) {k:Nat} (hk:k<ns.length):Zbx N (tOf p room ns lp) (k:Int)=some (ns[k].en,true):=by
 unfold Zbx
 rw [show (tOf p room ns lp).store=aOf p room ns from rfl,Zox p room hk,Zac]
theorem Zkx (p:Zae) (room:Int) {ns:List Nd} (lp:List Int) {k:Int} (hk:k<0∨(ns.length:Int)≤k) : ∃e,Zbx N (tOf p room ns lp) k=some (e,false):=by
 unfold Zbx
 rw [show (tOf p room ns lp).store=aOf p room ns from rfl,Zow p room hk,Zac]
 exact ⟨_,rfl⟩
theorem Zgf (p:Zae) (room:Int) (ns:List Nd) (lp:List Int) (k:Int):ZaT N (tOf p room ns lp) k=some (hZ ns k):=by
 unfold ZaT
 by_cases h:0≤k∧k<(ns.length:Int)
 ·obtain ⟨j,rfl⟩ : ∃j:Nat,k=(j:Int):=⟨k.toNat,by omega⟩
  have hj:j<ns.length:=by omega
  rw [ZjI p room lp hj,Zac]
  dsimp only
  rw [if_neg (by simp),ZmP hj];rfl
 ·obtain ⟨e,h1⟩:=Zkx (N:=N) p room (ns:=ns) lp (k:=k) (by omega)
  rw [h1,Zac]
  dsimp only
  rw [if_pos (by rfl),ZlO (by omega)]
def ancZ (ns:List Nd) (k h:Int):Int:=if 0≤k∧k<(ns.length:Int)∧0≤h then ((rowP ns k.toNat)[h.toNat]?.map fun (x:Nat)=>(x:Int)).getD (-1) else -1
theorem Zol {ns:List Nd} {k h x:Nat} (hk:k<ns.length) (hx:(rowP ns k)[h]? = some x):ancZ ns (k:Int) (h:Int)=(x:Int):=by
 unfold ancZ;rw [if_pos (by omega),Int.toNat_natCast,Int.toNat_natCast,hx];rfl
theorem ZkA {ns:List Nd} (ht:Tree ns) {k x y:Nat} (hk:k<ns.length) (hx:x∈rowP ns k) (hy:y∈rowP ns x):y∈rowP ns k:=by
 obtain ⟨h,hx⟩:=List.mem_iff_getElem?.1 hx
 obtain ⟨_,e⟩:=ZgP ht hk hx
 rw [e] at hy
 exact List.mem_of_mem_take hy
theorem row_lt {ns:List Nd} (ht:Tree ns) {x y:Nat} (hx:x<ns.length) (hy:y∈rowP ns x) (hne:y≠x) : ∃h:y<ns.length,ns[y].ch.length<ns[x].ch.length:=by
 obtain ⟨h,e⟩:=ZjN ht hx hy
 refine ⟨h,?_⟩
 have hl:=(List.getElem?_eq_some_iff.1 e).1
 have ll:=ZkD ht hx
 have e2:=ZeU ht hx
 have p1:=List.length_pos_iff.2 (ht.ch _ (List.getElem_mem h)).1
 rcases Nat.lt_or_ge ns[y].ch.length ns[x].ch.length with h3 | h3
 ·exact h3
 ·rw [show ns[y].ch.length-1=(rowP ns x).length-1 by omega,ll] at e
  cases e;exact absurd rfl hne
theorem Zmb {ns:List Nd} (ht:Tree ns) {k:Nat} (hk:k<ns.length):k∈rowP ns k:=List.mem_of_getElem? (ZkD ht hk)
theorem Znq {ns:List Nd} (ht:Tree ns) {k q:Nat} (hk:k<ns.length) (hq:q<k) (e:rowP ns k=rowP ns q ++ [k]):q∈rowP ns k:=by
 rw [e];exact List.mem_append.2 (.inl (Zmb ht (by omega)))
theorem ZgJ (hN:600≤N) {p:Zae} {room:Int} {ns:List Nd} {lp:List Int} (ht:Tree ns) (hl:Leaps ns lp) (k h:Int) (hb:k<(lp.length:Int)∨ns.length≤lp.length):Zaq N (tOf p room ns lp) k h=some (ancZ ns k h):=by
 have sm:=ht.small
 unfold Zaq
 rw [Zgf,Zac]
 by_cases h0:h<0
 ·rw [if_pos (by simpa using h0)];unfold ancZ;rw [if_neg (by omega)]
 rw [if_neg (by simpa using h0)]
 by_cases hk0:k<0∨(ns.length:Int)≤k
 ·rw [ZlO (by omega),if_pos (by simp;omega)];unfold ancZ;rw [if_neg (by omega)]
 obtain ⟨k,rfl⟩ : ∃j:Nat,k=(j:Int):=⟨k.toNat,by omega⟩
 obtain ⟨h,rfl⟩ : ∃j:Nat,h=(j:Int):=⟨h.toNat,by omega⟩
 have hk:k<ns.length:=by omega
 have lk:=ZeU ht hk
 have lb:=(ht.ch _ (List.getElem_mem hk)).2
 rw [ZmP hk]
 by_cases h1:(h:Int)>(ns[k].ch.length:Int)-1
 ·rw [if_pos (by simpa using h1)];unfold ancZ
  rw [if_pos (by omega),Int.toNat_natCast,Int.toNat_natCast,List.getElem?_eq_none (by omega)];rfl
 rw [if_neg (by simpa using h1)]
 have hh:h<(rowP ns k).length:=by omega
 obtain ⟨t,et⟩ : ∃t,(rowP ns k)[h]? = some t:=⟨_,List.getElem?_eq_getElem hh⟩
 rw [Zol hk et]
 refine ZbH (fun m (s:Int×Int)=>∃(x:Nat) (hx:x<ns.length),m=ns[x].ch.length∧s=((x:Int),(ns[x].ch.length:Int)-1)∧x∈rowP ns k∧h+1≤ns[x].ch.length) ?_ N ns[k].ch.length _ ⟨k,hk,rfl,rfl,Zmb ht hk,by omega⟩ (by omega)
 rintro G m _ ⟨x,hx,rfl,rfl,hm,hle⟩ hG
 unfold Zaq.p1 Zaq.p2
 dsimp only
 by_cases hgt:(ns[x].ch.length:Int)-1>(h:Int)
 ·have hx2:x<lp.length:=by
   have:=Znt ht hk x hm
   omega
  rw [if_pos (by simpa using hgt),ZjI p room lp hx,Zac]
  dsimp only
  rw [show (tOf p room ns lp).leaps=rowI lp from rfl,Zag (by omega),Zdj,Zag (by omega),Int.toNat_natCast,ZfD hx2,ZaF,ZcP,show (ns[x].en).Ahead=ns[x].ah from rfl]
  rcases Zew ht hx with ⟨z,a,e,c⟩ | ⟨q,hq,a,e,hq',c⟩
  ·omega
  ·have cl:=congrArg List.length c
   rw [List.length_append,List.length_singleton] at cl
   have toq:G ((q:Int),(ns[q].ch.length:Int)-1)=some (t:Int):=hG ns[q].ch.length _ (by omega) ⟨q,hq',rfl,rfl,ZkA ht hk hm (Znq ht hx hq e),by omega⟩
   rcases hl.ok x lp[x] (List.getElem?_eq_getElem hx2) with v | ⟨y,v,hne,hy⟩
   ·rw [v,if_neg (by simp),a,Zgf,Zac,ZmP hq'];exact toq
   ·obtain ⟨hy',hyl⟩:=row_lt ht hx hy hne
    rw [v,if_pos (by simp<;>omega),Zgf,Zac,ZmP hy']
    by_cases h3:(ns[y].ch.length:Int)-1≥(h:Int)
    ·rw [if_pos (by simpa using h3),Zac]
     exact hG ns[y].ch.length _ hyl ⟨y,hy',rfl,rfl,ZkA ht hk hm hy,by omega⟩
    ·rw [if_neg (by simpa using h3),a,Zgf,Zac,ZmP hq'];exact toq
 ·obtain ⟨h3,e3⟩:=ZjN ht hk hm
  rw [show ns[x].ch.length-1=h by omega,et] at e3
  cases e3
  rw [if_neg (by simpa using hgt)]
def withinB (ns:List Nd) (k o:Int):Bool:=decide (0≤k∧k<(ns.length:Int)∧0≤o∧o<(ns.length:Int)∧k.toNat∈rowP ns o.toNat)
theorem Zop (hN:600≤N) {p:Zae} {room:Int} {ns:List Nd} {lp:List Int} (ht:Tree ns) (hl:Leaps ns lp) (hb:ns.length≤lp.length) (k o:Int):Zcv N (tOf p room ns lp) k o=some (withinB ns k o):=by
 unfold Zcv
 rw [Zgf,Zac]
 by_cases hk0:k<0∨(ns.length:Int)≤k
 ·rw [ZlO (by omega),if_neg (by simp)]
  unfold withinB;rw [decide_eq_false (by omega)]
 obtain ⟨k,rfl⟩ : ∃j:Nat,k=(j:Int):=⟨k.toNat,by omega⟩
 have hk:k<ns.length:=by omega
 have pk:=List.length_pos_iff.2 (ht.ch _ (List.getElem_mem hk)).1
 rw [ZmP hk,if_pos (by simp;omega),ZgJ hN ht hl _ _ (.inr hb),Zac]
 congr 1
 unfold withinB ancZ
 by_cases ho:o<0∨(ns.length:Int)≤o
 ·rw [if_neg (by omega),decide_eq_false (by omega)]
  simp<;>omega
 obtain ⟨o,rfl⟩ : ∃j:Nat,o=(j:Int):=⟨o.toNat,by omega⟩
 have ho':o<ns.length:=by omega
 rw [if_pos (by omega),Int.toNat_natCast,Int.toNat_natCast,show ((ns[k].ch.length:Int)-1).toNat=ns[k].ch.length-1 by omega]
 by_cases hm:k∈rowP ns o
 ·obtain ⟨h1,h2⟩:=ZjN ht ho' hm
  rw [h2,decide_eq_true ⟨by omega,by omega,by omega,by omega,hm⟩];simp
 ·rw [decide_eq_false (fun h=>hm h.2.2.2.2)]
  cases e:(rowP ns o)[ns[k].ch.length-1]? with
  | none=>simp<;>omega
  | some y=>
   have:y≠k:=fun h=>hm (by rw [←h];exact List.mem_of_getElem? e)
   simp<;>omega
end Go.Dn.F
set_option maxRecDepth 100000
namespace Go.Dn.F
open Go.Dn Go.Proofs
variable {N:Nat}
def GoodT (ns:List Nd):Prop:=∀n∈ns,hgood n.hd=true
theorem ZmD {p:Zae} {gs:List Zci} {cs:List ZbN} (h:rgood p gs cs=true):GoodT [rootN p]:=by
 intro n hn
 cases List.mem_singleton.1 hn
 unfold rgood at h
 simp only [Bool.and_eq_true] at h
 exact h.1.1.2
theorem ZnB (ns:List Nd) (k:Nat) (h:Zai):(nodeOn ns k h).hd=h:=Nd.hd_snoc (c:=chAt ns k) rfl
theorem Zoo {p:Zae} {gs:List Zci} {cs:List ZbN} {room:Int} {ns:List Nd} (hg:GoodT ns) (h:Zai) (now:Int):GoodT (addT p gs cs room ns h now).2.2.2:=by
 rcases Zgy p gs cs room ns h now with e | ⟨k,hk,hh,_,_,_,e⟩
 ·rw [e];exact hg
 ·rw [e]
  intro n hn
  rcases List.mem_append.1 hn with hn | hn
  ·exact hg n hn
  ·cases List.mem_singleton.1 hn;rw [ZnB];exact hh
end Go.Dn.F
set_option maxRecDepth 40000
namespace Go.Dn.F
open Go.Dn Go.Proofs
variable {N:Nat}
noncomputable def tree2 (ia:Nat) (lp:List Int):List L:=[L.ptr (some ia),L.own true 1 (rowI lp)]
structure TreeAt (st:LL) (ia it:Nat) (p:Zae) (room:Int) (ns:List Nd) (lp:List Int):Prop where
 a:st[ia]? = some (aOf p room ns).lo
 t:st[it]? = some (tree2 ia lp)
 ne:ia≠it
 lv:Leaps ns lp
 len:lp.length=ns.length
 tr:Tree ns
theorem skH_eq (h:Int) : ∃x,ZdD N h=some x:=by
 unfold ZdD Zdo
 by_cases h1:h<2
 ·rw [if_pos (by simpa using h1)];exact ⟨_,rfl⟩
 rw [if_neg (by simpa using h1)]
 by_cases h2:bitsOf .and .i64 h 1=0
 ·rw [if_pos (by simpa using h2)];exact ⟨_,rfl⟩
 ·rw [if_neg (by simpa using h2)];exact ⟨_,rfl⟩
theorem ZmW (p:Zae) (gs:List Zci) (cs:List ZbN) (room:Int) (ns:List Nd) (h:Zai) (now:Int) :
  ((addT p gs cs room ns h now).2.2.2=ns∧((addT p gs cs room ns h now).2.2.1≠0∨∃k:Nat,k<ns.length∧(addT p gs cs room ns h now).1=(k:Int)))∨∃k:Nat,k<ns.length∧place 0 (ids ns) (hid h)=none∧(ns.length:Int)<room ∧
   addT p gs cs room ns h now=((ns.length:Int),0,0,ns ++ [nodeOn ns k h]):=by
 unfold addT
 by_cases hg:hgood h=false
 ·rw [if_pos hg];exact .inl ⟨rfl,.inl (by simp)⟩
 rw [if_neg hg]
 cases e1:place 0 (ids ns) (hid h) with
 | some k=>
  obtain ⟨_,hk,_⟩:=ZeL e1
  have hk':k<ns.length:=by simpa [ids] using hk
  exact .inl ⟨rfl,.inr ⟨k,hk',rfl⟩⟩
 | none=>
  dsimp only
  cases e2:place 0 (ids ns) h.Prev with
  | none=>exact .inl ⟨rfl,.inl (by simp)⟩
  | some k=>
   dsimp only
   obtain ⟨_,hk,_⟩:=ZeL e2
   have hk':k<ns.length:=by simpa [ids] using hk
   by_cases h1:checkS p gs cs (spotA p (chAt ns k)) h now=0
   ·rw [if_neg (by simp [h1])]
    by_cases h2:room≤(ns.length:Int)
    ·rw [if_pos h2];exact .inl ⟨rfl,.inl (by simp)⟩
    ·rw [if_neg h2]
     exact .inr ⟨k,hk',rfl,by omega,rfl⟩
   ·rw [if_pos h1];exact .inl ⟨rfl,.inl (by simp)⟩
theorem Leaps.grow {ns:List Nd} {lp:List Int} (ht:Tree ns) (hl:Leaps ns lp) (hlen:lp.length=ns.length) {nd:Nd} (ht':Tree (ns ++ [nd])) {k:Nat} (hk:k<ns.length) (ha:nd.ah=(k:Int)) (h:Int):Leaps (ns ++ [nd]) (lp ++ [ancZ (ns ++ [nd]) (k:Int) h]) where
 len:=by simp [hlen]
 ok:=fun i v hv=>by
  by_cases hi:i<lp.length
  ·rw [List.getElem?_append_left hi] at hv
   rcases hl.ok i v hv with h1 | ⟨x,h1,h2,h3⟩
   ·exact .inl h1
   ·exact .inr ⟨x,h1,h2,by rw [ZgR nd ht (by omega)];exact h3⟩
  ·have e0:i=ns.length:=by
    have:=(List.getElem?_eq_some_iff.1 hv).1
    simp at this;omega
   subst e0
   rw [List.getElem?_append_right (by omega),hlen,Nat.sub_self] at hv
   cases hv
   have hn:ns.length<(ns ++ [nd]).length:=by simp
   have ea:(ns ++ [nd])[ns.length].ah=(k:Int):=by simpa using ha
   rw [ZkC ht' hn hk ea,ZgR nd ht hk]
   unfold ancZ
   by_cases hc:0≤(k:Int)∧(k:Int)<((ns ++ [nd]).length:Int)∧0≤h
   ·rw [if_pos hc,Int.toNat_natCast,ZgR nd ht hk]
    cases e:(rowP ns k)[h.toNat]? with
    | none=>exact .inl rfl
    | some y=>
     have hy:=List.mem_of_getElem? e
     have:=Znt ht hk y hy
     exact .inr ⟨y,rfl,by omega,List.mem_append.2 (.inl hy)⟩
   ·rw [if_neg hc];exact .inl rfl
theorem skAdd_eq (hN:600≤N) {st:LL} {ia it:Nat} {p:Zae} {gs:List Zci} {cs:List ZbN} (hg:p.Gates=rowG gs) (hc:p.Checks=rowC cs) (lg:gs.length≤400) (lc:cs.length≤400) {room:Int} (hroom:room≤512) {ns:List Nd} {lp:List Int} (T:TreeAt st ia it p room ns lp)
  {h:Zai} (hh:WfH h) (now:Int) (hnow : -1152921504606846976≤now∧now≤9223372036854775807) :
  ∃lp' st',ZbL N (some it) h now st=some ((addT p gs cs room ns h now).1,(addT p gs cs room ns h now).2.1,(addT p gs cs room ns h now).2.2.1,st')∧TreeAt st' ia it p room (addT p gs cs room ns h now).2.2.2 lp'∧(∀j,j≠ia→j≠it→st'[j]? = st[j]?):=by
 have ht':=Zom (p:=p) (gs:=gs) (cs:=cs) hroom T.tr hh now
 unfold ZbL ZbL.p1
 rw [if_neg (c:=Option.isNone (some it)=true) (by simp),Zac,T.t,ZaF]
 unfold tree2
 rw [ZdW,Add_eq (by omega) hg hc lg lc hroom T.tr T.a hh now hnow,Zac]
 dsimp only
 rcases ZmW p gs cs room ns h now with ⟨e,e1⟩ | ⟨k,hk,hpl,hlr,e⟩
 ·rw [e,ZjJ T.a]
  refine ⟨lp,st,?_,T,fun j _ _=>rfl⟩
  by_cases h6:(addT p gs cs room ns h now).2.2.1=0
  ·rcases e1 with e1 | ⟨k,hk,e1⟩
   ·exact absurd h6 e1
   ·rw [if_pos (by simpa using h6),T.t,ZaF]
    unfold tree2
    rw [ZdW,if_neg (by rw [e1,Zdj,T.len];simp;omega)]
  ·rw [if_neg (by simpa using h6)]
 ·rw [e] at ht' ⊢
  dsimp only at ht' ⊢
  have t2:(st.set ia (aOf p room (ns ++ [nodeOn ns k h])).lo)[it]? = some (tree2 ia lp):=by
   rw [List.getElem?_set_ne T.ne];exact T.t
  have a2:(st.set ia (aOf p room (ns ++ [nodeOn ns k h])).lo)[ia]? = some (aOf p room (ns ++ [nodeOn ns k h])).lo:=List.getElem?_set_self (List.getElem?_eq_some_iff.1 T.a).1
  have hit:=(List.getElem?_eq_some_iff.1 t2).1
  have hn:ns.length<(ns ++ [nodeOn ns k h]).length:=by simp
  have en:(ns ++ [nodeOn ns k h])[ns.length]=nodeOn ns k h:=by simp
  obtain ⟨hx,eh⟩:=skH_eq (N:=N) ((ns ++ [nodeOn ns k h])[ns.length].en).Height
  have lv:Leaps (ns ++ [nodeOn ns k h]) lp:=⟨by rw [T.len];simp,fun i v hv=>by
   have hi:=(List.getElem?_eq_some_iff.1 hv).1
   rcases T.lv.ok i v hv with h1 | ⟨x,h1,h2,h3⟩
   ·exact .inl h1
   ·exact .inr ⟨x,h1,h2,by rw [ZgR _ T.tr (by rw [←T.len];exact hi)];exact h3⟩⟩
  have sm:=T.tr.small
  rw [if_pos (by rfl),t2,ZaF]
  unfold tree2
  rw [ZdW,if_pos (by rw [Zdj,T.len];simp),Zac,a2,ZaF,ZcD,Zox p room hn,Zac]
  dsimp only
  rw [eh,Zac,show ((ns ++ [nodeOn ns k h])[ns.length].en).Ahead=(ns ++ [nodeOn ns k h])[ns.length].ah from rfl,en,show (nodeOn ns k h).ah=(k:Int) from rfl,show (Zau.mk (aOf p room (ns ++ [nodeOn ns k h])) (rowI lp))=tOf p room (ns ++ [nodeOn ns k h]) lp from rfl,ZgJ hN ht' lv _ _ (.inl (by rw [T.len];omega)),Zac,ZhZ,ZfE,Zag (by rw [Zdd,List.length_append,List.length_singleton,T.len];omega),List.set_set]
  refine ⟨_,_,rfl,⟨?_,?_,T.ne,T.lv.grow T.tr T.len ht' hk rfl hx,by simp [T.len],ht'⟩,fun j h1 h2=>?_⟩
  ·rw [List.getElem?_set_ne (Ne.symm T.ne)];exact a2
  ·exact List.getElem?_set_self hit
  ·rw [List.getElem?_set_ne (Ne.symm h2),List.getElem?_set_ne (Ne.symm h1)]
theorem skNew_eq (hN:500≤N) {p:Zae} {gs:List Zci} {cs:List ZbN} (hg:p.Gates=rowG gs) (hc:p.Checks=rowC cs) (lg:gs.length≤400) (lc:cs.length≤400) (hp:WfP p) (room:Int) (st:LL) :
  ZeB N p room st=if rgood p gs cs=true then some (some (st.length+1),0,(st ++ [(aOf p (roomOf room) [rootN p]).lo]) ++ [tree2 st.length [-1]]) else some (none,1,st):=by
 unfold ZeB
 rw [New_eq hN hg hc lg lc hp]
 cases rgood p gs cs with
 | false=>rfl
 | true=>
  rw [if_pos rfl,Zac,if_pos (c:=true=true) rfl]
  dsimp only
  rw [if_neg (by simp),List.length_append,List.length_singleton]
  rfl
theorem skNew_at {p:Zae} (hp:WfP p) (room:Int) (st:LL):TreeAt ((st ++ [(aOf p room [rootN p]).lo]) ++ [tree2 st.length [-1]]) st.length (st.length+1) p room [rootN p] [-1] where
 a:=by rw [List.getElem?_append_left (by simp)];simp
 t:=by rw [List.getElem?_append_right (by simp)];simp
 ne:=by omega
 lv:=⟨by simp,fun i v hv=>by
  cases i with
  | zero=>cases hv;exact .inl rfl
  | succ i=>cases hv⟩
 len:=rfl
 tr:=Tree.one_node hp.h
theorem TreeAt.app {st:LL} {ia it:Nat} {p:Zae} {room:Int} {ns:List Nd} {lp:List Int} (T:TreeAt st ia it p room ns lp) (x:LL):TreeAt (st++x) ia it p room ns lp where
 a:=by rw [List.getElem?_append_left (List.getElem?_eq_some_iff.1 T.a).1];exact T.a
 t:=by rw [List.getElem?_append_left (List.getElem?_eq_some_iff.1 T.t).1];exact T.t
 ne:=T.ne
 lv:=T.lv
 len:=T.len
 tr:=T.tr
end Go.Dn.F
set_option maxRecDepth 100000
namespace Go.Dn.F
open Go.Dn Go.Proofs
variable {N:Nat}
structure Grown (st:LL) (ia it im:Nat) (p:Zae) (ns:List Nd) (lp:List Int):Prop where
 T:TreeAt st ia it p 100 ns lp
 m:st[im]? = some (rOf p 100 ns).lo
 pos:1≤ns.length
 small:ns.length≤41
 good:GoodT ns
 root:ns[0]? = some (rootN p)
theorem Zon {p:Zae} {gs:List Zci} {cs:List ZbN} {room:Int} {ns:List Nd} {x:Nd} (hx:ns[0]? = some x) (h:Zai) (now:Int):(addT p gs cs room ns h now).2.2.2[0]? = some x:=by
 rcases Zgy p gs cs room ns h now with e | ⟨k,hk,_,_,_,_,e⟩
 ·rw [e];exact hx
 ·rw [e];dsimp only;rw [List.getElem?_append_left (by omega)];exact hx
structure WfC14 (c:Zbm):Prop where
 h:WfH c.Header
 n:i64R c.Now
noncomputable def rowC14 (l:List Zbm):LL:=l.map Zbm.ls
theorem Zjk {l:List Zbm} {i:Nat} (h:i<l.length):(rowC14 l)[i]? = some l[i].ls:=by simp [rowC14,h]
@[simp] theorem Zjx (l:List Zbm):len (rowC14 l)=(l.length:Int):=by simp [len,rowC14]
@[simp] theorem ZjO (l:List Zbm):(rowC14 l).length=l.length:=by simp [rowC14]
theorem open_C14 {xs:LL} (h : ∀x∈xs,LTys tysCm x) : ∃l,xs=rowC14 l∧∀x∈l,WfC14 x:=
 decode fun x hx=>by
  obtain ⟨_,_,rfl,h1,h⟩:=(h x hx).cons_inv
  obtain ⟨_,_,rfl,h2,h⟩:=h.cons_inv
  obtain ⟨_,_,rfl,h3,h⟩:=h.cons_inv
  obtain ⟨_,_,rfl,h4,h⟩:=h.cons_inv
  obtain ⟨_,_,rfl,h5,h⟩:=h.cons_inv
  obtain ⟨_,_,rfl,h6,h⟩:=h.cons_inv
  obtain ⟨_,_,rfl,h7,h⟩:=h.cons_inv
  cases h.nil_inv
  obtain ⟨a1,rfl,w1⟩:=h1.int_inv
  obtain ⟨a2,rfl,k2,w2⟩:=h2.arr_inv
  obtain ⟨a3,rfl,k3,w3⟩:=h3.arr_inv
  obtain ⟨a4,rfl,w4⟩:=h4.int_inv
  obtain ⟨a5,rfl,w5⟩:=h5.int_inv
  obtain ⟨a6,rfl,w6⟩:=h6.int_inv
  obtain ⟨a7,rfl,w7⟩:=h7.int_inv
  refine ⟨⟨⟨a1,a2,a3,a4,a5,a6⟩,a7⟩,rfl,⟨⟨ZeM w1,?_,ZeM w4,ZeM w5,ZeM w6⟩,ZeM w7⟩⟩
  simp only [wfH,Bool.and_eq_true]
  exact ⟨ZlU k2 w2,ZlU k3 w3⟩
theorem ZmR {p:Zae} (hp:WfP p) (l:List Zbm) (hl:l.length+900≤N) (hb:l.length≤maxLen) : ∃b,ZbV N p (rowC14 l)=some b∧(b=false→(∀x∈l,0≤x.Now)∧l.length≤40∧∃gs cs,p.Gates=rowG gs∧p.Checks=rowC cs∧gs.length≤400∧cs.length≤400∧rgood p gs cs=true):=by
 unfold ZbV
 have hm:maxLen=9223372036854775807:=rfl
 refine Zhz (fun m (v:Int)=>∃k:Nat,k+m=l.length∧v=(k:Int)∧∀x∈l.take k,0≤x.Now) ?_ N l.length 0 ⟨0,by omega,rfl,by simp⟩ (by omega)
 rintro G m _ ⟨k,hk,rfl,ha⟩ hG
 unfold ZbV.p1
 rw [Zjx]
 by_cases hlt:k<l.length
 ·rw [if_pos (by simp<;>omega),Zag (by omega),Int.toNat_natCast,Zjk hlt,ZaF,Zet,ZaB (by omega) (by omega)]
  by_cases h:l[k].Now<0
  ·rw [if_pos (by simpa using h)];exact ⟨true,rfl,fun h=>by cases h⟩
  ·rw [if_neg (by simpa using h)]
   refine hG (m-1) _ (by omega) ⟨k+1,by omega,by omega,fun x hx=>?_⟩
   rw [List.take_succ_eq_append_getElem hlt] at hx
   rcases List.mem_append.1 hx with hx | hx
   ·exact ha x hx
   ·cases List.mem_singleton.1 hx;omega
 ·rw [if_neg (by simp<;>omega)]
  rw [List.take_of_length_le (by omega)] at ha
  by_cases h1:len p.Gates>20
  ·rw [if_pos (by simpa using h1)];exact ⟨true,rfl,fun h=>by cases h⟩
  rw [if_neg (by simpa using h1)]
  by_cases h2:len p.Checks>20
  ·rw [if_pos (by simpa using h2)];exact ⟨true,rfl,fun h=>by cases h⟩
  rw [if_neg (by simpa using h2)]
  by_cases h3:(l.length:Int)>40
  ·rw [if_pos (by simpa using h3)];exact ⟨true,rfl,fun h=>by cases h⟩
  rw [if_neg (by simpa using h3)]
  obtain ⟨gs,eg⟩:=open_G hp.g
  obtain ⟨cs,ec⟩:=open_K hp.c
  have lg:gs.length≤400:=by simp [len,eg] at h1;omega
  have lc:cs.length≤400:=by simp [len,ec] at h2;omega
  rw [ZjU (by omega) eg lg ec lc,Zac]
  refine ⟨_,rfl,fun h=>⟨ha,by omega,gs,cs,eg,ec,lg,lc,by simpa using h⟩⟩
theorem ZmQ (hN:1000≤N) {p:Zae} (hp:WfP p) {gs:List Zci} {cs:List ZbN} (hg:p.Gates=rowG gs) (hc:p.Checks=rowC cs) (lg:gs.length≤400) (lc:cs.length≤400) (hgd:rgood p gs cs=true)
  (l:List Zbm) (hl : ∀x∈l,WfC14 x) (h40:l.length≤40) (hn : ∀x∈l,0≤x.Now) (st:LL) :
  ∃ia it im ns lp st',ZbP N p (rowC14 l) st=some (some it,some im,st')∧Grown st' ia it im p ns lp:=by
 unfold ZbP
 rw [skNew_eq (by omega) hg hc lg lc hp,hgd,if_pos rfl,Zac]
 dsimp only
 rw [ZkI (by omega) hp,Zac,show roomOf 100=100 from rfl]
 dsimp only
 have T0:=(skNew_at hp 100 st).app [(rOf p 100 [rootN p]).lo]
 have m0:(st ++ [(aOf p 100 [rootN p]).lo] ++ [tree2 st.length [-1]] ++ [(rOf p 100 [rootN p]).lo]:LL)[st.length+2]? = some (rOf p 100 [rootN p]).lo:=by
  rw [List.getElem?_append_right (by simp)];simp
 have e3:(st ++ [(aOf p 100 [rootN p]).lo] ++ [tree2 st.length [-1]]:LL).length=st.length+2:=by simp
 rw [e3]
 have key : ∃r,loopN (ZbP.p1 N (some (st.length+1)) (some (st.length+2)) (rowC14 l)) N (0,st ++ [(aOf p 100 [rootN p]).lo] ++ [tree2 st.length [-1]] ++ [(rOf p 100 [rootN p]).lo])=some r∧∃ns lp st',r=(some (st.length+1),some (st.length+2),st')∧Grown st' st.length (st.length+1) (st.length+2) p ns lp:=by
  generalize (st ++ [(aOf p 100 [rootN p]).lo] ++ [tree2 st.length [-1]] ++ [(rOf p 100 [rootN p]).lo]:LL)=s0 at T0 m0 ⊢
  generalize st.length=n at T0 m0 ⊢
  refine Zhz (Q:=fun r:(Option Nat)×(Option Nat)×LL=>∃ns lp st',r=(some (n+1),some (n+2),st')∧Grown st' n (n+1) (n+2) p ns lp) (fun m (s:Int×LL)=>∃(j:Nat) (ns:List Nd) (lp:List Int) (st':LL),s=((j:Int),st')∧j+m=l.length∧ns.length≤j+1∧Grown st' n (n+1) (n+2) p ns lp) ?_ N l.length _ ⟨0,[rootN p],[-1],s0,rfl,by omega,by simp,T0,m0,by simp,by simp,ZmD hgd,rfl⟩ (by omega)
  rintro G m _ ⟨j,ns,lp,st,rfl,hj,h1,Gr⟩ hG
  have T:=Gr.T
  have ht:=T.tr
  have sm:=Gr.small
  have ps:=Gr.pos
  unfold ZbP.p1
  dsimp only
  rw [Zjx]
  by_cases hlt:j<l.length
  ·have wx:=hl _ (List.getElem_mem hlt)
   have nx:=hn _ (List.getElem_mem hlt)
   have rx:=wx.n
   unfold i64R at rx
   have l1:=addT_len p gs cs 100 ns l[j].Header l[j].Now
   obtain ⟨lp',st',ea,T',keep⟩:=skAdd_eq (N:=N) (by omega) hg hc lg lc (by omega) T wx.h l[j].Now (by omega)
   have m':st'[n+2]? = some (rOf p 100 ns).lo:=by rw [keep _ (by omega) (by omega)];exact Gr.m
   rw [if_pos (by simp<;>omega),Zag (by omega),Int.toNat_natCast,Zjk hlt,ZaF,Zet,ea,Zac]
   dsimp only
   rw [ZkJ (by omega) hg hc lg lc (by omega) ht (by omega) m' wx.h _ (by omega),Zac]
   dsimp only
   rw [ZaB (by omega) (by omega)]
   refine hG (m-1) _ (by omega) ⟨j+1,_,lp',_,by rw [Int.natCast_add];rfl,by omega,by omega,⟨⟨?_,?_,T'.ne,T'.lv,T'.len,T'.tr⟩,?_,by omega,by omega,Zoo Gr.good _ _,Zon Gr.root _ _⟩⟩
   ·rw [List.getElem?_set_ne (by omega)];exact T'.a
   ·rw [List.getElem?_set_ne (by omega)];exact T'.t
   ·exact List.getElem?_set_self (List.getElem?_eq_some_iff.1 m').1
  ·rw [if_neg (by simp<;>omega)]
   exact ⟨_,rfl,ns,lp,st,rfl,Gr⟩
 obtain ⟨r,e,ns,lp,st',rfl,Gr⟩:=key
 exact ⟨st.length,st.length+1,st.length+2,ns,lp,st',e,Gr⟩
theorem alive14 (hN:1000≤N):Zdx N=some true:=by
 obtain ⟨n,rfl⟩ : ∃n,N=n+10:=⟨N-10,by omega⟩
 kernel_rfl
def htsF:Nat→Nat→Int→Int→List Int
 | 0,_,_,_=>[]
 | f+1,c,step,h=>if h<0 then [] else h::(if 10<c+1 then htsF f (c+1) (step*2) (h-step*2) else htsF f (c+1) step (h-step))
def hts (h:Nat):List Int:=if 0<(htsF 60 0 1 (h:Int)).getLast?.getD 0 then htsF 60 0 1 (h:Int) ++ [0] else htsF 60 0 1 (h:Int)
theorem ZlR (n:Nat):(List.range 41).map (fun h:Nat=>Zaz (n+60) (h:Int))=(List.range 41).map (fun h:Nat=>some (rowI (hts h))):=by kernel_rfl
theorem ZmY (hN:60≤N) {h:Nat} (hh:h<41):Zaz N (h:Int)=some (rowI (hts h)):=by
 obtain ⟨n,rfl⟩ : ∃n,N=n+60:=⟨N-60,by omega⟩
 have:=congrArg (fun l=>l[h]?) (ZlR n)
 simpa [hh] using this
def decr:List Int→Bool
 | a::b::t=>decide (b<a)&&decr (b::t)
 | _=>true
theorem hts_all:(List.range 41).all (fun h:Nat=>decide ((hts h).length≤32)&&((hts h).head? == some (h:Int))&&decr (hts h)&&(hts h).all (fun x=>decide (0≤x∧x≤(h:Int))))=true:=by kernel_rfl
theorem ZnO {h:Nat} (hh:h<41):(hts h).length≤32∧(hts h).head? = some (h:Int)∧decr (hts h)=true∧∀x∈hts h,0≤x∧x≤(h:Int):=by
 have:=List.all_eq_true.1 hts_all h (List.mem_range.2 hh)
 simp only [Bool.and_eq_true,decide_eq_true_eq,beq_iff_eq,List.all_eq_true] at this
 exact ⟨this.1.1.1,this.1.1.2,this.1.2,this.2⟩
def pAt (ns:List Nd) (i:Nat) (h:Int):Nat:=(rowP ns i)[h.toNat]?.getD 0
def idK (ns:List Nd) (k:Nat):List Int:=(ids ns)[k]?.getD []
theorem idK_eq {ns:List Nd} {k:Nat} (hk:k<ns.length):idK ns k=ns[k].id:=by simp [idK,ids,hk]
theorem Zfj (l:List (List Int)):plainRow (rowIds l)=true:=by simp [plainRow,rowIds,L.plain]
def loc (ns:List Nd) (i:Nat):List (List Int):=(hts (((rowP ns i).length)-1)).map fun h=>idK ns (pAt ns i h)
theorem pAt_eq {ns:List Nd} {i:Nat} {h:Int} (h0:0≤h) (h1:h<((rowP ns i).length:Int)):(rowP ns i)[h.toNat]? = some (pAt ns i h):=by
 unfold pAt;rw [List.getElem?_eq_getElem (by omega)];rfl
theorem ZmX (hN:600≤N) {p:Zae} {room:Int} {ns:List Nd} {lp:List Int} (ht:Tree ns) (hl:Leaps ns lp) (hlen:lp.length=ns.length) (h41:ns.length≤41) {i:Nat} (hi:i<ns.length) :
  ZaW N (tOf p room ns lp) (i:Int)=some (rowIds (loc ns i)):=by
 unfold ZaW
 have li:=ZeU ht hi
 have bi:=(ht.ch _ (List.getElem_mem hi)).2
 have pi:=ZgQ ht hi
 obtain ⟨o1,o2,o3,o4⟩:=ZnO (h:=(rowP ns i).length-1) (by omega)
 rw [ZjI p room lp hi,Zac]
 dsimp only
 rw [if_neg (by simp),show (ns[i].en).Height=(((rowP ns i).length-1:Nat):Int) by rw [show (ns[i].en).Height=(ns[i].ch.length:Int)-1 from rfl];omega,ZmY (by omega) (by omega),Zac]
 unfold loc
 generalize hts ((rowP ns i).length-1)=hs at o1 o4 ⊢
 refine ZbH (fun m (s:LL×Int)=>∃j:Nat,j+m=hs.length∧s=(rowIds ((hs.take j).map fun h=>idK ns (pAt ns i h)),(j:Int))) ?_ N hs.length _ ⟨0,by omega,rfl⟩ (by omega)
 rintro G m _ ⟨j,hj,rfl⟩ hG
 unfold ZaW.p1
 dsimp only
 rw [Zdj]
 by_cases hlt:j<hs.length
 ·obtain ⟨r1,r2⟩:=o4 _ (List.getElem_mem hlt)
  have pe:=pAt_eq (ns:=ns) (i:=i) r1 (by omega)
  have hk:=(ZgP ht hi pe).1
  have e1:ancZ ns (i:Int) hs[j]=(pAt ns i hs[j]:Int):=by
   have:=Zol hi pe
   rwa [show ((hs[j].toNat:Nat):Int)=hs[j] by omega] at this
  rw [if_pos (by simp<;>omega),Zag (by omega),Nat.zero_add,Int.toNat_natCast,ZfD hlt,ZaF,ZcP,ZgJ hN ht hl _ _ (.inr (by omega)),Zac,e1,ZjI p room lp hk,Zac]
  dsimp only
  have e2:rowIds ((hs.take j).map fun h=>idK ns (pAt ns i h)) ++ [[L.arr .u8 32 (ns[pAt ns i hs[j]].en).Id]]=rowIds ((hs.take (j+1)).map fun h=>idK ns (pAt ns i h)):=by
   rw [List.take_succ_eq_append_getElem hlt,List.map_append,rowIds,rowIds,List.map_append]
   simp only [List.map_cons,List.map_nil]
   rw [idK_eq hk];rfl
  rw [e2,Zag (by simp [rowIds];omega),ZaB (by omega) (by omega)]
  exact hG (m-1) _ (by omega) ⟨j+1,by omega,by rw [Int.natCast_add];rfl⟩
 ·rw [if_neg (by simp<;>omega),List.take_of_length_le (by omega)]
@[simp] theorem ZgG (l:List Nat):(natI l).length=l.length:=by simp [natI]
theorem Zmi {l:List Nat} {i:Nat} (h:i<l.length):(rowI (natI l))[i]? = some [L.int .i64 ((l[i]:Nat):Int)]:=by simp [rowI,natI,h]
def forkZ (ns:List Nd) (tip:Int):List (List Int)→Nat
 | []=>0
 | x::t=>match place 0 (ids ns) x with
  | some k=>if withinB ns (k:Int) tip=true then k else forkZ ns tip t
  | none=>forkZ ns tip t
theorem Zos (hN:600≤N) {p:Zae} {room:Int} {ns:List Nd} {lp:List Int} (ht:Tree ns) (hl:Leaps ns lp) (hlen:lp.length=ns.length) (tip:Int) (names:List (List Int)) (h40:names.length≤512) :
  Zbu N (tOf p room ns lp) tip (rowIds names)=some (forkZ ns tip names:Int):=by
 unfold Zbu
 refine ZbH (fun m (s:Int)=>∃j:Nat,j+m=names.length∧s=(j:Int)∧forkZ ns tip (names.drop j)=forkZ ns tip names) ?_ N names.length _ ⟨0,by omega,rfl,rfl⟩ (by omega)
 rintro G m _ ⟨j,hj,rfl,e⟩ hG
 unfold Zbu.p1 ZcJ
 rw [Zep]
 by_cases hlt:j<names.length
 ·rw [List.drop_eq_getElem_cons hlt,forkZ] at e
  rw [if_pos (by simp<;>omega),Zag (by omega),Int.toNat_natCast,Zex hlt,ZaF,Zdw,show (tOf p room ns lp).store=aOf p room ns from rfl,Zot,Zac,Zac,Zop hN ht hl (by omega),Zac,ZaB (by omega) (by omega)]
  cases e1:place 0 (ids ns) names[j] with
  | none=>
   rw [e1] at e
   have:withinB ns (placeI none) tip=false:=by
    show withinB ns (-1) tip=false
    unfold withinB;rw [decide_eq_false (by omega)]
   rw [this,if_neg (by simp)]
   exact hG (m-1) _ (by omega) ⟨j+1,by omega,by omega,e⟩
  | some k=>
   rw [e1] at e
   dsimp only at e
   rw [show placeI (some k)=(k:Int) from rfl]
   cases e2:withinB ns (k:Int) tip with
   | true=>
    rw [e2,if_pos rfl] at e
    rw [if_pos rfl,←e]
   | false=>
    rw [e2] at e
    rw [if_neg (by simp)] at e
    rw [if_neg (by simp)]
    exact hG (m-1) _ (by omega) ⟨j+1,by omega,by omega,e⟩
 ·rw [List.drop_of_length_le (by omega),forkZ] at e
  rw [if_neg (by simp<;>omega),←e];rfl
theorem Zgt {ns:List Nd} {tip:Int} (h:tip<0∨(ns.length:Int)≤tip) : ∀names,forkZ ns tip names=0
 | []=>rfl
 | x::t=>by
  unfold forkZ
  cases place 0 (ids ns) x with
  | none=>exact Zgt h t
  | some k=>
   have:withinB ns (k:Int) tip=false:=by unfold withinB;rw [decide_eq_false (by omega)]
   dsimp only
   rw [this,if_neg (by simp)]
   exact Zgt h t
theorem place_is {ns:List Nd} (ht:Tree ns) {k:Nat} (hk:k<(ids ns).length) {x:List Int} (e:(ids ns)[k]=x):place 0 (ids ns) x=some k:=by
 have:=Ziz (i:=0) hk ht.one
 rw [Nat.zero_add,e] at this;exact this
theorem ZgV (hN:600≤N) {p:Zae} {room:Int} {ns:List Nd} (ht:Tree ns) (tip:Int) (names:List (List Int)) (h40:names.length≤512) :
  ZaP N (rOf p room ns) tip (rowIds names)=some (forkZ ns tip names:Int):=by
 have sm:=ht.small
 have ll:(rOf p room ns).List_=rowH (ns.map Nd.hd):=rfl
 have li:(ids ns).length=ns.length:=by simp [ids]
 unfold ZaP
 rw [ll,Zgs,List.length_map]
 by_cases h1:tip<0
 ·rw [if_pos (by simpa using h1),Zgt (.inl h1)];rfl
 rw [if_neg (by simpa using h1)]
 by_cases h2:tip≥(ns.length:Int)
 ·rw [if_pos (by simpa using h2),Zgt (.inr h2)];rfl
 rw [if_neg (by simpa using h2)]
 obtain ⟨t,rfl⟩ : ∃j:Nat,tip=(j:Int):=⟨tip.toNat,by omega⟩
 have hk:t<ns.length:=by omega
 have lt:=ZeU ht hk
 have bt:=(ht.ch _ (List.getElem_mem hk)).2
 refine ZbH (fun m (s:Int)=>∃j:Nat,j+m=names.length∧s=(j:Int)∧forkZ ns (t:Int) (names.drop j)=forkZ ns (t:Int) names) ?_ N names.length _ ⟨0,by omega,rfl,rfl⟩ (by omega)
 rintro G m _ ⟨j,hj,rfl,e⟩ hG
 unfold ZaP.p1
 rw [Zep]
 by_cases hlt:j<names.length
 ·rw [List.drop_eq_getElem_cons hlt,forkZ] at e
  rw [if_pos (by simp<;>omega),Zag (by omega),Int.toNat_natCast,Zex hlt,ZaF,Zdw,ZfX ht (by omega) hk,Zac,Zag (Zgm _)]
  refine ZbH (fun m' (s:Int)=>∃i:Nat,i+m'=(rowP ns t).length∧s=(i:Int)∧∀z,z∈(rowP ns t).take i→(ids ns)[z]? ≠ some names[j]) ?_ N (rowP ns t).length _ ⟨0,by omega,rfl,by simp⟩ (by omega)
  rintro G2 m' _ ⟨i,hi,rfl,hno⟩ hG2
  unfold ZaP.p2
  rw [Zdj,ZgG]
  by_cases hil:i<(rowP ns t).length
  ·have hz:=(ZgP ht hk (List.getElem?_eq_getElem hil)).1
   have hz2:(rowP ns t)[i]<(ids ns).length:=by omega
   rw [if_pos (by simp<;>omega),Zag (by omega),Nat.zero_add,Int.toNat_natCast,Zmi hil,ZaF,ZcP,Zag (by omega),show (rOf p room ns).Ids=rowIds (ids ns) from rfl,Zep,Zag (by omega),Int.toNat_natCast,Zex hz2,ZaF,Zdw,ZaB (by omega) (by omega)]
   by_cases hx:(ids ns)[(rowP ns t)[i]]=names[j]
   ·rw [place_is ht hz2 hx] at e
    have hw:withinB ns (((rowP ns t)[i]:Nat):Int) (t:Int)=true:=by
     unfold withinB
     rw [decide_eq_true_eq,Int.toNat_natCast,Int.toNat_natCast]
     exact ⟨by omega,by omega,by omega,by omega,List.getElem_mem hil⟩
    dsimp only at e
    rw [hw,if_pos rfl] at e
    rw [if_pos (by simp [hx]),←e]
   ·rw [if_neg (by simpa using hx)]
    refine hG2 (m'-1) _ (by omega) ⟨i+1,by omega,by omega,fun z hz3=>?_⟩
    rw [List.take_succ_eq_append_getElem hil] at hz3
    rcases List.mem_append.1 hz3 with hz3 | hz3
    ·exact hno z hz3
    ·cases List.mem_singleton.1 hz3
     rw [List.getElem?_eq_getElem hz2]
     exact fun h=>hx (Option.some.inj h)
  ·rw [List.take_of_length_le (by omega)] at hno
   rw [if_neg (by simp<;>omega),ZaB (by omega) (by omega)]
   refine hG (m-1) _ (by omega) ⟨j+1,by omega,by omega,?_⟩
   rw [←e]
   cases e1:place 0 (ids ns) names[j] with
   | none=>rfl
   | some k=>
    dsimp only
    obtain ⟨_,k1,k2⟩:=ZeL e1
    simp only [Nat.sub_zero] at k1 k2
    cases e2:withinB ns (k:Int) (t:Int) with
    | false=>rw [if_neg (by simp)]
    | true=>
     unfold withinB at e2
     rw [decide_eq_true_eq] at e2
     have:=e2.2.2.2.2
     rw [Int.toNat_natCast,Int.toNat_natCast] at this
     exact absurd (by rw [List.getElem?_eq_getElem k1,k2]) (hno k this)
 ·rw [List.drop_of_length_le (by omega),forkZ] at e
  rw [if_neg (by simp<;>omega),←e];rfl
abbrev tysHash:List Ty:=[.arr .u8 32]
theorem Znz {ls:List L} (h:LTys tysHash ls) : ∃x:List Int,ls = [L.arr .u8 32 x]:=by
 obtain ⟨_,_,rfl,h1,h⟩:=h.cons_inv
 cases h.nil_inv
 obtain ⟨a,rfl,_,_⟩:=h1.arr_inv
 exact ⟨a,rfl⟩
theorem open_Ids {xs:LL} (h : ∀x∈xs,LTys tysHash x) : ∃l:List (List Int),xs=rowIds l:=by
 induction xs with
 | nil=>exact ⟨[],rfl⟩
 | cons x xs ih=>
  obtain ⟨l,rfl⟩:=ih fun y hy=>h y (List.mem_cons_of_mem _ hy)
  obtain ⟨a,rfl⟩:=Znz (h x List.mem_cons_self)
  exact ⟨a::l,rfl⟩
theorem Zhw (n:Nat):(List.range 41).map (fun h:Nat=>ZaC (n+60) (h:Int))=(List.range 41).map (fun h:Nat=>some (rowI (hts h))):=by kernel_rfl
theorem ZhV (hN:60≤N) {h:Nat} (hh:h<41):ZaC N (h:Int)=some (rowI (hts h)):=by
 obtain ⟨n,rfl⟩ : ∃n,N=n+60:=⟨N-60,by omega⟩
 have:=congrArg (fun l=>l[h]?) (Zhw n)
 simpa [hh] using this
theorem ZnP:(List.range 41).all (fun h:Nat=>(hts h).getLast? == some 0)=true:=by kernel_rfl
theorem hts_last {h:Nat} (hh:h<41):(hts h).getLast? = some 0:=by
 have:=List.all_eq_true.1 ZnP h (List.mem_range.2 hh)
 simpa using this
def locZ (ns:List Nd) (k:Int):List (List Int):=if 0≤k∧k<(ns.length:Int) then loc ns k.toNat else []
theorem Zlp (hN:600≤N) {p:Zae} {room:Int} {ns:List Nd} {lp:List Int} (ht:Tree ns) (hl:Leaps ns lp) (hlen:lp.length=ns.length) (h41:ns.length≤41) (k:Int) :
  ZaW N (tOf p room ns lp) k=some (rowIds (locZ ns k)):=by
 unfold locZ
 by_cases h:0≤k∧k<(ns.length:Int)
 ·obtain ⟨k,rfl⟩ : ∃j:Nat,k=(j:Int):=⟨k.toNat,by omega⟩
  rw [if_pos h,Int.toNat_natCast,ZmX hN ht hl hlen h41 (by omega)]
 ·rw [if_neg h]
  unfold ZaW
  obtain ⟨e,h1⟩:=Zkx (N:=N) p room (ns:=ns) lp (k:=k) (by omega)
  rw [h1,Zac]
  rfl
theorem ZfW (hN:600≤N) {p:Zae} {room:Int} {ns:List Nd} (ht:Tree ns) (h41:ns.length≤41) (k:Int) :
  Zbb N (rOf p room ns) k=some (rowIds (locZ ns k)):=by
 have ll:(rOf p room ns).List_=rowH (ns.map Nd.hd):=rfl
 have lli:(rOf p room ns).Ids=rowIds (ids ns):=rfl
 have li:(ids ns).length=ns.length:=by simp [ids]
 unfold Zbb locZ
 rw [ll,Zgs,List.length_map]
 by_cases h1:k<0
 ·rw [if_pos (by simpa using h1),if_neg (by omega)];rfl
 rw [if_neg (by simpa using h1)]
 by_cases h2:k≥(ns.length:Int)
 ·rw [if_pos (by simpa using h2),if_neg (by omega)];rfl
 rw [if_neg (by simpa using h2),if_pos (by omega)]
 obtain ⟨i,rfl⟩ : ∃j:Nat,k=(j:Int):=⟨k.toNat,by omega⟩
 have hi:i<ns.length:=by omega
 have lr:=ZeU ht hi
 have bi:=(ht.ch _ (List.getElem_mem hi)).2
 have pi:=ZgQ ht hi
 obtain ⟨o1,o2,o3,o4⟩:=ZnO (h:=(rowP ns i).length-1) (by omega)
 rw [ZfX ht (by omega) hi,Zac,Zag (Zgm _),Zdj,ZgG,ZaB (by omega) (by omega),show ((rowP ns i).length:Int)-1=(((rowP ns i).length-1:Nat):Int) by omega,ZhV (by omega) (by omega),Zac,Int.toNat_natCast]
 unfold loc
 generalize hts ((rowP ns i).length-1)=hs at o1 o4 ⊢
 refine ZbH (fun m (s:LL×Int)=>∃j:Nat,j+m=hs.length∧s=(rowIds ((hs.take j).map fun h=>idK ns (pAt ns i h)),(j:Int))) ?_ N hs.length _ ⟨0,by omega,rfl⟩ (by omega)
 rintro G m _ ⟨j,hj,rfl⟩ hG
 unfold Zbb.p1
 dsimp only
 rw [Zdj]
 by_cases hlt:j<hs.length
 ·obtain ⟨r1,r2⟩:=o4 _ (List.getElem_mem hlt)
  have pe:=pAt_eq (ns:=ns) (i:=i) r1 (by omega)
  have hz:=(ZgP ht hi pe).1
  have hl:hs[j].toNat<(rowP ns i).length:=by omega
  have ez:(rowP ns i)[hs[j].toNat]=pAt ns i hs[j]:=by rw [List.getElem?_eq_getElem hl] at pe;exact Option.some.inj pe
  have hz2:pAt ns i hs[j]<(ids ns).length:=by omega
  have e3:(ids ns)[pAt ns i hs[j]]=idK ns (pAt ns i hs[j]):=by simp [idK,hz2]
  rw [if_pos (by simp<;>omega),Zag (by omega),Nat.zero_add,Int.toNat_natCast,ZfD hlt,ZaF,ZcP,Zag (by omega),Zdj,ZgG,Zag (by omega),Nat.zero_add,Zmi hl,ZaF,ZcP,ez,Zag (by omega),lli,Zep,Zag (by omega),Int.toNat_natCast,Zex hz2,ZaF,Zdw,e3]
  have e2:rowIds ((hs.take j).map fun h=>idK ns (pAt ns i h)) ++ [[L.arr .u8 32 (idK ns (pAt ns i hs[j]))]]=rowIds ((hs.take (j+1)).map fun h=>idK ns (pAt ns i h)):=by
   rw [List.take_succ_eq_append_getElem hlt,List.map_append,rowIds,rowIds,List.map_append];rfl
  rw [e2,Zag (by simp [rowIds];omega),ZaB (by omega) (by omega)]
  exact hG (m-1) _ (by omega) ⟨j+1,by omega,by rw [Int.natCast_add];rfl⟩
 ·rw [if_neg (by simp<;>omega),List.take_of_length_le (by omega)]
theorem ZhN {l:List (List Int)} (hN:l.length<N) (hl:l.length≤1000:=by omega):Zbc N (rowIds l) (rowIds l)=some true:=by
 unfold Zbc
 rw [if_neg (by simp)]
 refine ZbH (fun m (s:Int)=>∃j:Nat,j+m=l.length∧s=(j:Int)) ?_ N l.length _ ⟨0,by omega,rfl⟩ hN
 rintro G m _ ⟨j,hj,rfl⟩ hG
 unfold Zbc.p1
 rw [Zep]
 by_cases hlt:j<l.length
 ·rw [if_pos (by simp<;>omega),Zag (by omega),Int.toNat_natCast,Zex hlt,ZaF,Zdw,Zag (by omega),ZaF,Zdw,if_neg (by simp),ZaB (by omega) (by omega)]
  exact hG (m-1) _ (by omega) ⟨j+1,by omega,by omega⟩
 ·rw [if_neg (by simp<;>omega)]
theorem Zmk {ns:List Nd} (ht:Tree ns) (h41:ns.length≤41) (k:Int):(locZ ns k).length≤32:=by
 unfold locZ
 split
 ·have hi:k.toNat<ns.length:=by omega
  have lr:=ZeU ht hi
  have bi:=(ht.ch _ (List.getElem_mem hi)).2
  have pi:=ZgQ ht hi
  have:=(ZnO (h:=(rowP ns k.toNat).length-1) (by omega)).1
  simpa [loc] using this
 ·simp
theorem ZmG (N:Nat) {h:Zai} (hw:wfH h=true) (hN:500≤N) (st:LL):ZbT N none [h.ls] st=some (0,-1,st):=by
 unfold ZbT
 obtain ⟨n,rfl⟩ : ∃n,N=n+1:=⟨N-1,by omega⟩
 rw [Zas]
 unfold ZbT.p1
 dsimp only
 rw [if_pos (by rfl),Zag (by omega),show ([h.ls]:LL)[Int.toNat 0]? = some h.ls from rfl,ZaF,Zdz,ZeF hN hw,Zac]
 rfl
theorem ZkQ (hN:600≤N) (names:List (List Int)) (h40:names.length≤512) (st:LL):ZbY N none 0 (rowIds names) st=some (0,st):=by
 unfold ZbY
 refine ZbH (fun m (s:Int×LL)=>∃j:Nat,j+m=names.length∧s=((j:Int),st)) ?_ N names.length _ ⟨0,by omega,rfl⟩ (by omega)
 rintro G m _ ⟨j,hj,rfl⟩ hG
 unfold ZbY.p1
 dsimp only
 rw [Zep]
 by_cases hlt:j<names.length
 ·rw [if_pos (by simp<;>omega),Zag (by omega),Int.toNat_natCast,Zex hlt,ZaF,Zdw,show ZcK N none names[j] st=some (-1,st) from rfl,Zac]
  dsimp only
  rw [show ZcI N none (-1) 0 st=some (false,st) from rfl,Zac]
  dsimp only
  rw [if_neg (by simp),ZaB (by omega) (by omega)]
  exact hG (m-1) _ (by omega) ⟨j+1,by omega,by rw [Int.natCast_add];rfl⟩
 ·rw [if_neg (by simp<;>omega)]
theorem ZlI (hN:600≤N) (names:List (List Int)) (h40:names.length≤512) (stop:List Int) (st:LL):ZaX N none 0 (rowIds names) stop 5 st=some ([],st):=by
 unfold ZaX
 rw [show Zbw N none 0 st=some ([],st) by
  obtain ⟨n,rfl⟩ : ∃n,N=n+1:=⟨N-1,by omega⟩
  kernel_rfl,Zac]
 dsimp only
 rw [ZkQ hN names h40,Zac]
 dsimp only
 obtain ⟨n,rfl⟩ : ∃n,N=n+1:=⟨N-1,by omega⟩
 kernel_rfl
theorem Zja {p:Zae} (hp:WfP p) (l:List Zbm) (hl : ∀x∈l,WfC14 x) (hb:l.length≤maxLen) (at_ tip:Int) (names:List (List Int)) :
  ∃st,ZaZ (l.length+1000) p (rowC14 l) at_ tip (rowIds names) []=some (true,st):=by
 unfold ZaZ
 rw [alive14 (by omega),Zac,if_neg (by simp)]
 obtain ⟨b,e,hgr⟩:=ZmR (N:=l.length+1000) hp l (by omega) hb
 rw [e,Zac]
 cases b with
 | true=>rw [if_pos rfl];exact ⟨_,rfl⟩
 | false=>
  obtain ⟨hn,h40,gs,cs,eg,ec,lg,lc,hgd⟩:=hgr rfl
  rw [if_neg (by simp),Zep]
  by_cases hq40:(names.length:Int)>40
  ·rw [if_pos (by simpa using hq40)];exact ⟨_,rfl⟩
  rw [if_neg (by simpa using hq40)]
  generalize hN:l.length+1000=N
  obtain ⟨ia,it,im,ns,lp,st,eg,Gr⟩:=ZmQ (N:=N) (by omega) hp eg ec lg lc hgd l hl h40 hn []
  have sm:=Gr.small
  have ht:=Gr.T.tr
  have Tt:=Gr.T.t
  have ps:=Gr.pos
  unfold tree2 at Tt
  have ll:(rOf p 100 ns).List_=rowH (ns.map Nd.hd):=rfl
  rw [eg,Zac]
  dsimp only
  rw [Zac,Gr.m,ZaF,Zcu]
  refine ⟨st,?_⟩
  refine ZbH (fun m (s:(Option Nat)×Int)=>∃i:Nat,i+m=ns.length∧s=(some it,(i:Int))) ?_ N ns.length _ ⟨0,by omega,rfl⟩ (by omega)
  rintro G m _ ⟨i,him,rfl⟩ hG
  unfold ZaZ.p1
  dsimp only
  rw [ll,Zgs,List.length_map]
  by_cases hi:i<ns.length
  ·have zl:=Zmk ht sm (i:Int)
   have lr:=ZeU ht hi
   have bi:=(ht.ch _ (List.getElem_mem hi)).2
   have pi:=ZgQ ht hi
   have ez:locZ ns (i:Int)=loc ns i:=by unfold locZ;rw [if_pos (by omega),Int.toNat_natCast]
   have hs0:=hts_last (h:=(rowP ns i).length-1) (by omega)
   have hpos:0<(hts ((rowP ns i).length-1)).length:=List.length_pos_iff.2 fun h=>by rw [h] at hs0;cases hs0
   have zl2:(loc ns i).length≤32:=by rw [←ez];exact zl
   have ell:(loc ns i).length=(hts ((rowP ns i).length-1)).length:=by simp [loc]
   have elast:(loc ns i)[(loc ns i).length-1]'(by omega)=hid p.Genesis:=by
    rw [List.getLast?_eq_getElem?,List.getElem?_eq_getElem (by omega)] at hs0
    have h0:=Option.some.inj hs0
    have:(loc ns i)[(loc ns i).length-1]'(by omega)=idK ns (pAt ns i 0):=by
     rw [←h0];simp [loc]
    rw [this]
    have p0:pAt ns i 0=0:=by
     unfold pAt;rw [show (0:Int).toNat=0 from rfl,Znr ht hi];rfl
    have r0:=Gr.root
    rw [List.getElem?_eq_getElem (by omega)] at r0
    rw [p0,idK_eq (by omega),Option.some.inj r0];rfl
   rw [if_pos (by simp<;>omega),Zac,Tt,ZaF,ZdW,Zac,Gr.T.a,ZaF,ZcD,show (Zau.mk (aOf p 100 ns) (rowI lp))=tOf p 100 ns lp from rfl,Zlp (by omega) ht Gr.T.lv Gr.T.len sm,Zac,Zag (Zfj _),Gr.m,ZaF,Zcu,ZfW (by omega) ht sm,Zac,Zag (Zfj _),ZhN (by omega),Zac,if_neg (by simp),Zep,ez,ZaB (by omega) (by omega),Zag (by omega),Zag (by omega),Nat.zero_add,show (((loc ns i).length:Int)-1).toNat=(loc ns i).length-1 by omega,Zex (by omega),ZaF,Zdw,elast,Zgn (by omega) _ hp.h.w,Zac,if_neg (by simp),Zos (by omega) ht Gr.T.lv Gr.T.len _ _ (by omega),Zac,ZgV (by omega) ht _ _ (by omega),Zac,if_neg (by simp),ZaB (by omega) (by omega)]
   exact hG (m-1) _ (by omega) ⟨i+1,by omega,by rw [Int.natCast_add];rfl⟩
  ·have zl:=Zmk ht sm at_
   rw [if_neg (by simp<;>omega),ZmG N hp.h.w (by omega),Zac]
   dsimp only
   rw [Zac,Tt,ZaF,ZdW,Zac,Gr.T.a,ZaF,ZcD,show (Zau.mk (aOf p 100 ns) (rowI lp))=tOf p 100 ns lp from rfl,Zlp (by omega) ht Gr.T.lv Gr.T.len sm,Zac,Zag (Zfj _),Gr.m,ZaF,Zcu,ZfW (by omega) ht sm,Zac,Zag (Zfj _),ZhN (by omega),Zac,if_pos rfl,Zos (by omega) ht Gr.T.lv Gr.T.len _ _ (by omega),Zac,ZgV (by omega) ht _ _ (by omega),Zac,if_pos (by simp),show ZbA N none 0 st=some ([],st) from rfl,Zac]
   dsimp only
   rw [if_pos (by rfl),ZkQ (by omega) names (by omega),Zac]
   dsimp only
   rw [if_pos (by rfl),ZlI (by omega) names (by omega),Zac]
   rfl
theorem LocateNames_true {ls:List L} (xs:LL) (at_ tip:Int) (ys:LL) (h0:LTys tysP ls) (h1 : ∀x∈xs,LTys tysCm x) (l1:xs.length≤maxLen) (w2:(Lit.int .i64 at_).wf=true) (w3:(Lit.int .i64 tip).wf=true) (h3 : ∀x∈ys,LTys tysHash x) (l3:ys.length≤maxLen) :
  ∃st,Snd Tryz.prog 8 [.agg ls,.one (.sl 69 xs),.one (.int .i64 at_),.one (.int .i64 tip),.one (.sl 32 ys)] [] [.one (.bool true)] st:=by
 obtain ⟨p,rfl,hp⟩:=open_P h0
 obtain ⟨l,rfl,hl⟩:=open_C14 h1
 obtain ⟨names,rfl⟩:=open_Ids h3
 obtain ⟨st,h⟩:=Zja hp l hl (by rw [ZjO] at l1;exact l1) at_ tip names
 exact ⟨st,ZaZ.snd h⟩
end Go.Dn.F
