/- A tree of headers, as a row of nodes, each with its whole chain; the program's arena of such a tree. -/
import Derived.Test.YtcgdbcfflaphhaaGreatDoorNum
import Derived.Test.YtcgdbcfflaphhaaGreatDoorRul
set_option linter.unusedSimpArgs false
set_option linter.unusedVariables false
set_option maxRecDepth 40000
namespace Go.Dn.F
open Go.Dn Go.Proofs
variable {N:Nat}
structure Nd where
 ch:List Zai
 ah:Int
 wk:Int
def h0:Zai:=⟨0,List.replicate 32 0,List.replicate 32 0,0,0,0⟩
def Nd.hd (n:Nd):Zai:=n.ch.getLast?.getD h0
def Nd.id (n:Nd):List Int:=hid n.hd
noncomputable def Nd.en (n:Nd):ZbO:=⟨n.hd,n.id,n.ah,(n.ch.length:Int)-1,nw n.wk⟩
noncomputable def rowE (ns:List Nd):LL:=ns.map fun n=>n.en.ls
noncomputable def rowS (p:Zae) (ns:List Nd):LL:=ns.map fun n=>(spotA p n.ch).ls
def idMap:Nat→List (List Int)→LM
 | _,[]=>[]
 | i,x::l=>(L.arr .u8 32 x,L.int .i64 (i:Int))::idMap (i+1) l
def ids (ns:List Nd):List (List Int):=ns.map Nd.id
def place:Nat→List (List Int)→List Int→Option Nat
 | _,[],_=>none
 | i,y::l,x=>if x=y then some i else place (i+1) l x
theorem ZhW : ∀(l:List (List Int)) (i:Nat) (x:List Int),mfind (idMap i l) (L.arr .u8 32 x)=some ((place i l x).map fun k=>(k-i,L.int .i64 (k:Int)))
 | [],i,x=>rfl
 | y::l,i,x=>by
  rw [idMap,mfind]
  simp only [keyEq,and_self,if_true]
  unfold place
  by_cases h:x=y
  ·subst h;simp
  ·rw [show (x==y)=false by simpa using h,if_neg h,ZhW l (i+1) x]
   cases e:place (i+1) l x with
   | none=>rfl
   | some k=>
    have : ∀(l:List (List Int)) (i k:Nat),place i l x=some k→i≤k:=by
     intro l
     induction l with
     | nil=>intro i k h;cases h
     | cons z l ih=>
      intro i k h
      unfold place at h
      split at h
      ·cases h;omega
      ·have:=ih _ _ h;omega
    have:=this l (i+1) k e
    simp only [Option.map_some]
    rw [show k-(i+1)+1=k-i by omega]
theorem ZhG : ∀(l:List (List Int)) (i:Nat) (x:List Int),idMap i (l ++ [x])=idMap i l ++ [(L.arr .u8 32 x,L.int .i64 ((i+l.length:Nat):Int))]
 | [],i,x=>rfl
 | y::l,i,x=>by rw [List.cons_append,idMap,ZhG l (i+1) x,idMap,List.length_cons,show i+1+l.length=i+(l.length+1) by omega];rfl
theorem ZeU : ∀{l:List (List Int)} {i k:Nat} {x:List Int},place i l x=some k→i≤k∧∃h:k-i<l.length,l[k-i]=x
 | y::l,i,k,x,h=>by
  unfold place at h
  split at h
  ·rename_i e;cases h;exact ⟨by omega,by simp,by simp [e]⟩
  ·obtain ⟨h1,h2,h3⟩:=ZeU h
   refine ⟨by omega,by simp;omega,?_⟩
   have:k-i=(k-(i+1))+1:=by omega
   simp only [this,List.getElem_cons_succ];exact h3
theorem Zjj : ∀{l:List (List Int)} {i:Nat} {x:List Int},place i l x=none→x∉l
 | [],_,_,_=>by simp
 | y::l,i,x,h=>by
  unfold place at h
  split at h
  ·cases h
  ·rename_i e;simp [e,Zjj h]
noncomputable def aOf (p:Zae) (room:Int) (ns:List Nd):Zax:=⟨p,rowE ns,rowS p ns,idMap 0 (ids ns),room⟩
theorem ZlU {ns:List Nd} {i:Nat} (h:i<ns.length):(rowE ns)[i]? = some ns[i].en.ls:=by simp [rowE,h]
theorem rowS_get {p:Zae} {ns:List Nd} {i:Nat} (h:i<ns.length):(rowS p ns)[i]? = some (spotA p ns[i].ch).ls:=by simp [rowS,h]
@[simp] theorem Zgp (ns:List Nd):len (rowE ns)=(ns.length:Int):=by simp [len,rowE]
@[simp] theorem len_rowS (p:Zae) (ns:List Nd):len (rowS p ns)=(ns.length:Int):=by simp [len,rowS]
structure Tree (ns:List Nd):Prop where
 small:ns.length≤512
 ch : ∀n∈ns,n.ch ≠ []∧n.ch.length≤ns.length
 wf : ∀n∈ns,∀x∈n.ch,WfH x
 wk : ∀n∈ns,isN n.wk
 ah : ∀(i:Nat) (h:i<ns.length),(i=0∧ns[i].ah = -1∧ns[i].ch.length=1)∨∃(k:Nat) (hk:k<i),ns[i].ah=(k:Int)∧ns[i].ch=ns[k].ch ++ [ns[i].hd]
 one:(ids ns).Nodup
theorem Nd.hd_snoc {n:Nd} {c:List Zai} {h:Zai} (e:n.ch=c ++ [h]):n.hd=h:=by unfold Nd.hd;rw [e];simp
theorem ZiY (p:Zae) (c:List Zai) (h:Zai):(spotA p (c ++ [h])).Prev=hid h:=by
 unfold spotA;rw [List.foldl_append];rfl
theorem Zny {st:LL} {i:Nat} {p:Zae} {room:Int} {ns:List Nd} (hst:st[i]? = some (aOf p room ns).lo) (hl:ns.length≤512) (nd:Nd) (hid':place 0 (ids ns) nd.id=none) :
  ZaT.p1 N (some i) (spotA p nd.ch) nd.en st=some ((ns.length:Int),st.set i (aOf p room (ns ++ [nd])).lo):=by
 unfold ZaT.p1
 have e1:(aOf p room ns).list ++ [nd.en.ls]=rowE (ns ++ [nd]):=by show rowE ns++_=_;simp [rowE]
 have e2:(aOf p room ns).spots ++ [(spotA p nd.ch).ls]=rowS p (ns ++ [nd]):=by show rowS p ns++_=_;simp [rowS]
 have e3:(aOf p room ns).places ++ [(L.arr .u8 32 nd.en.Id,L.int .i64 (ns.length:Int))]=idMap 0 (ids (ns ++ [nd])):=by
  show idMap 0 (ids ns)++_=_
  unfold ids
  rw [List.map_append]
  show _=idMap 0 (List.map Nd.id ns ++ [nd.id])
  rw [ZhG,List.length_map,Nat.zero_add];rfl
 have l1:(rowE (ns ++ [nd])).length=ns.length+1:=by simp [rowE]
 have l2:(rowS p (ns ++ [nd])).length=ns.length+1:=by simp [rowS]
 rw [Zad,hst,ZaG,Zcd,e1,e2,Zah (by rw [l1];omega),Zah (by rw [l2];omega),show mfind (aOf p room ns).places (L.arr .u8 32 nd.en.Id)=some none by
  show mfind (idMap 0 (ids ns)) (L.arr .u8 32 nd.id)=_
  rw [ZhW,hid'];rfl]
 show some _=_
 rw [Zgp,List.length_append,List.length_singleton,ZaC (by omega) (by omega),show ((ns.length+1:Nat):Int)-1=(ns.length:Int) by omega,e3]
 simp only [List.set_set]
 rfl
theorem keep_eq (hN:300≤N) {st:LL} {i:Nat} {p:Zae} {room:Int} {ns:List Nd} (hst:st[i]? = some (aOf p room ns).lo) (hl:ns.length≤512) {k:Nat} (hk:k<ns.length) (hw:isN ns[k].wk) (hlen:ns[k].ch.length≤600)
  {h:Zai} (nd:Nd) (hch:nd.ch=ns[k].ch ++ [h]) (hah:nd.ah=(k:Int)) (hwk:nd.wk=wkAdd ns[k].wk (wkBits h.Bits)) (hid':place 0 (ids ns) (hid h)=none) :
  ZaT N (some i) h (k:Int) (spotA p nd.ch) st=some ((ns.length:Int),st.set i (aOf p room (ns ++ [nd])).lo):=by
 have hd:=nd.hd_snoc hch
 unfold ZaT
 rw [Zgv hN,Zad,if_pos (by simp<;>omega),Zad,hst,ZaG,Zcd,show (aOf p room ns).list=rowE ns from rfl,Zgp,Zah (by omega),Zah (by omega),Int.toNat_natCast,Nat.zero_add,ZlU hk,ZaG,Zfj,show (ns[k].en).Work=nw ns[k].wk from rfl,Zle (by omega) hw (Zgi _),Zad,show (ns[k].en).Height=(ns[k].ch.length:Int)-1 from rfl,ZaC (by omega) (by omega)]
 have e:ZbO.mk h (spotA p nd.ch).Prev (k:Int) ((ns[k].ch.length:Int)-1+1) (nw (wkAdd ns[k].wk (wkBits h.Bits)))=nd.en:=by
  unfold Nd.en Nd.id
  rw [hd,hch,ZiY,hah,hwk,List.length_append,List.length_singleton]
  congr 1;omega
 rw [e]
 refine Zny hst hl nd ?_
 unfold Nd.id;rw [hd];exact hid'
theorem keep0_eq (hN:300≤N) {st:LL} {i:Nat} {p:Zae} {room:Int} (hst:st[i]? = some (aOf p room []).lo) {h:Zai} (nd:Nd) (hch:nd.ch = [h]) (hah:nd.ah = -1) (hwk:nd.wk=wkBits h.Bits) :
  ZaT N (some i) h (-1) (spotA p nd.ch) st=some (0,st.set i (aOf p room [nd]).lo):=by
 have hd:nd.hd=h:=nd.hd_snoc (c:=[]) hch
 unfold ZaT
 rw [Zgv hN,Zad,if_neg (by simp)]
 have e:ZbO.mk h (spotA p nd.ch).Prev (-1) 0 (nw (wkBits h.Bits))=nd.en:=by
  unfold Nd.en Nd.id
  rw [hd,hch,show (spotA p [h]).Prev=hid h from ZiY p [] h,hah,hwk];rfl
 rw [e]
 exact Zny (ns:=[]) hst (by simp) nd rfl
def chAt (ns:List Nd) (k:Nat):List Zai:=(ns[k]?.map Nd.ch).getD []
def wkAt (ns:List Nd) (k:Nat):Int:=(ns[k]?.map Nd.wk).getD 0
theorem Zht {ns:List Nd} {k:Nat} (h:k<ns.length):chAt ns k=ns[k].ch:=by simp [chAt,h]
theorem Zlf {ns:List Nd} {k:Nat} (h:k<ns.length):wkAt ns k=ns[k].wk:=by simp [wkAt,h]
def nodeOn (ns:List Nd) (k:Nat) (h:Zai):Nd:=⟨chAt ns k ++ [h],(k:Int),wkAdd (wkAt ns k) (wkBits h.Bits)⟩
def addT (p:Zae) (gs:List Zcb) (cs:List ZbF) (room:Int) (ns:List Nd) (h:Zai) (now:Int):Int×Int×Int×List Nd:=
 if hgood h=false then (-1,1,8,ns) else
 match place 0 (ids ns) (hid h) with
 | some k=>((k:Int),0,0,ns)
 | none=>match place 0 (ids ns) h.Prev with
  | none=>(-1,2,5,ns)
  | some k=>if checkS p gs cs (spotA p (chAt ns k)) h now≠0 then (-1,checkS p gs cs (spotA p (chAt ns k)) h now,8,ns)
   else if room≤(ns.length:Int) then (-1,0,6,ns) else ((ns.length:Int),0,0,ns ++ [nodeOn ns k h])
theorem ZjA {st:LL} {i:Nat} {x:List L} (h:st[i]? = some x):st.set i x=st:=by
 apply List.ext_getElem?
 intro j
 by_cases e:i=j
 ·subst e
  obtain ⟨hi,e⟩:=List.getElem?_eq_some_iff.1 h
  rw [List.getElem?_set_self hi,h]
 ·rw [List.getElem?_set_ne e]
theorem ZmW (p:Zae) (c:List Zai):wfS (spotA p c)=true:=by
 have h : ∀l:List Zai,∃ts:List Int,(spotA p l).Times=rowI ts∧ts.length≤11:=by
  refine ZjF ⟨[],rfl,by simp⟩ (fun l h ih=>?_)
  unfold spotA at *
  rw [List.foldl_append]
  exact ⟨_,rfl,by simp;omega⟩
 obtain ⟨ts,h1,h2⟩:=h c
 simp only [wfS,h1,isI_row,Bool.true_and,decide_eq_true_eq,Zda]
 omega
theorem Add_eq (hN:500≤N) {st:LL} {i:Nat} {p:Zae} {gs:List Zcb} {cs:List ZbF} (hg:p.Gates=rowG gs) (hc:p.Checks=rowC cs) (lg:gs.length≤400) (lc:cs.length≤400) {room:Int} (hroom:room≤512) {ns:List Nd} (ht:Tree ns) (hst:st[i]? = some (aOf p room ns).lo)
  {h:Zai} (hh:WfH h) (now:Int) (hnow : -1152921504606846976≤now∧now≤9223372036854775807) :
  ZaD N (some i) h now st=some ((addT p gs cs room ns h now).1,(addT p gs cs room ns h now).2.1,(addT p gs cs room ns h now).2.2.1,st.set i (aOf p room (addT p gs cs room ns h now).2.2.2).lo):=by
 have ss:=ZjA hst
 unfold ZaD addT
 rw [if_neg (c:=Option.isNone (some i)=true) (by simp),Zea,Zad]
 cases hgd:hgood h with
 | false=>rw [if_pos (by rfl),if_pos (c:=false=false) rfl];dsimp only;rw [ss]
 | true=>
  rw [if_neg (c:=(!true)=true) (by simp),if_neg (c:=true=false) (by simp),Zad,hst,ZaG,Zcd,ZeR hN hh.w,Zad,show (aOf p room ns).places=idMap 0 (ids ns) from rfl,ZhW]
  cases e1:place 0 (ids ns) (hid h) with
  | some k=>
   show ZaD.p1 N i now (k:Int) true h st=_
   unfold ZaD.p1
   rw [if_pos rfl];dsimp only;rw [ss]
  | none=>
   show ZaD.p1 N i now 0 false h st=_
   unfold ZaD.p1
   rw [if_neg (by simp),hst,ZaG,Zcd,show (aOf p room ns).places=idMap 0 (ids ns) from rfl,ZhW]
   cases e2:place 0 (ids ns) h.Prev with
   | none=>
    show ZaD.p2 N i now 0 false h st=_
    unfold ZaD.p2
    rw [if_pos (by rfl)];dsimp only;rw [ss]
   | some k=>
    show ZaD.p2 N i now (k:Int) true h st=_
    obtain ⟨_,hk,_⟩:=ZeU e2
    have hk':k<ns.length:=by simpa [ids] using hk
    have sw:=ZmW p ns[k].ch
    have isT:isI (spotA p ns[k].ch).Times=true:=by simp only [wfS,Bool.and_eq_true] at sw;exact sw.1
    unfold ZaD.p2
    dsimp only
    rw [if_neg (c:=(!true)=true) (by simp),hst,ZaG,Zcd,show (aOf p room ns).spots=rowS p ns from rfl,len_rowS,Zah (by omega),Zah (by omega),Int.toNat_natCast,Nat.zero_add,rowS_get hk',ZaG,ZhM,show (aOf p room ns).rules=p from rfl,ZjB hN hg hc lg lc hh.w isT now hnow,Zad,Zht hk']
    by_cases h4:checkS p gs cs (spotA p ns[k].ch) h now=0
    ·rw [if_neg (c:=(checkS p gs cs (spotA p ns[k].ch) h now != 0)=true) (by simp [h4]),if_neg (c:=checkS p gs cs (spotA p ns[k].ch) h now≠0) (by simp [h4]),show (aOf p room ns).list=rowE ns from rfl,Zgp,show (aOf p room ns).room=room from rfl]
     by_cases h5:room≤(ns.length:Int)
     ·rw [if_pos (by simpa using h5),if_pos h5];dsimp only;rw [ss]
     ·rw [if_neg (by simpa using h5),if_neg h5,ZfT hN hh.w sw,Zad]
      have be:behind p (spotA p ns[k].ch) h=spotA p (nodeOn ns k h).ch:=by
       unfold nodeOn spotA
       rw [Zht hk',List.foldl_append];rfl
      have hm:=List.getElem_mem hk'
      have sm:=ht.small
      have cl:=(ht.ch _ hm).2
      rw [be,keep_eq (by omega) hst ht.small hk' (ht.wk _ hm) (by omega) (nodeOn ns k h) (by unfold nodeOn;rw [Zht hk']) rfl (by unfold nodeOn;rw [Zlf hk']) e1,Zad]
    ·rw [if_pos (c:=(checkS p gs cs (spotA p ns[k].ch) h now != 0)=true) (by simpa using h4),if_pos (c:=checkS p gs cs (spotA p ns[k].ch) h now≠0) h4];dsimp only;rw [ss]
noncomputable def rowIds (l:List (List Int)):LL:=l.map fun x=>[L.arr .u8 32 x]
noncomputable def rowW (l:List Int):LL:=l.map fun x=>[L.arr .u64 4 (nw x)]
noncomputable def rOf (p:Zae) (room:Int) (ns:List Nd):Zaa:=⟨p,rowH (ns.map Nd.hd),rowIds (ids ns),rowI (ns.map Nd.ah),rowW (ns.map Nd.wk),room⟩
theorem Zmt {l:List (List Int)} {i:Nat} (h:i<l.length):(rowIds l)[i]? = some [L.arr .u8 32 l[i]]:=by simp [rowIds,h]
theorem rowW_get {l:List Int} {i:Nat} (h:i<l.length):(rowW l)[i]? = some [L.arr .u64 4 (nw l[i])]:=by simp [rowW,h]
@[simp] theorem ZmE (l:List (List Int)):len (rowIds l)=(l.length:Int):=by simp [len,rowIds]
@[simp] theorem len_rowW (l:List Int):len (rowW l)=(l.length:Int):=by simp [len,rowW]
@[simp] theorem Zgo (l:List Zai):len (rowH l)=(l.length:Int):=by simp [len]
theorem Zmw (i:Nat) (y:List Int) (l:List (List Int)) (x:List Int):place i (y::l) x=if x=y then some i else place (i+1) l x:=rfl
def placeI (o:Option Nat):Int:=match o with
 | some k=>(k:Int)
 | none=>-1
theorem ZgQ {st:LL} {i:Nat} {p:Zae} {room:Int} {ns:List Nd} (hN:ns.length<N) (hl:ns.length≤512) (hst:st[i]? = some (rOf p room ns).lo) (x:List Int) :
  ZaU N (some i) x st=some (placeI (place 0 (ids ns) x),st):=by
 unfold ZaU
 rw [Zad,hst,ZaG,Zcw]
 have li:(ids ns).length=ns.length:=by simp [ids]
 refine ZbJ (fun m (v:Int)=>∃k:Nat,k+m=ns.length∧v=(k:Int)∧place 0 (ids ns) x=place k ((ids ns).drop k) x) ?_ N ns.length 0 ⟨0,by omega,rfl,by rw [List.drop_zero]⟩ hN
 rintro G m _ ⟨k,hk,rfl,hp⟩ hG
 unfold ZaU.p1
 rw [show (rOf p room ns).Ids=rowIds (ids ns) from rfl,ZmE,li]
 by_cases hlt:k<ns.length
 ·have hk':k<(ids ns).length:=by omega
  rw [List.drop_eq_getElem_cons hk'] at hp
  rw [Zmw] at hp
  rw [if_pos (by simp<;>omega),Zah (by omega),hst,ZaG,Zcw,show (rOf p room ns).Ids=rowIds (ids ns) from rfl,Int.toNat_natCast,Nat.zero_add,Zmt hk',ZaG,ZhI,ZaC (by omega) (by omega)]
  by_cases he:x=(ids ns)[k]
  ·rw [if_pos he] at hp
   rw [if_pos (by simp [he]),hp];rfl
  ·rw [if_neg he] at hp
   rw [if_neg (by simpa using fun e=>he e.symm)]
   exact hG (m-1) _ (by omega) ⟨k+1,by omega,by omega,hp⟩
 ·rw [if_neg (by simp<;>omega),hp,List.drop_of_length_le (by omega)];rfl
theorem ZiP {p:Zae} {room:Int} {ns:List Nd} (ht:Tree ns) (hN:ns.length+2≤N) {k:Nat} (hk:k<ns.length):ZaN N (rOf p room ns) (k:Int)=some (rowH (chAt ns k)):=by
 have sm:=ht.small
 unfold ZaN
 rw [Zht hk]
 refine ZbJ (fun m (x:LL×Int)=>∃out:List Zai,x=(rowH out,(m:Int)-1)∧m≤ns.length∧((m=0∧out=ns[k].ch)∨∃h:0<m∧m-1<ns.length,ns[m-1].ch++out=ns[k].ch)) ?_ N (k+1) _ ⟨[],by simp;rfl,by omega,.inr ⟨⟨by omega,by omega⟩,by simp⟩⟩ (by omega)
 rintro G m _ ⟨out,rfl,hm,ho⟩ hG
 unfold ZaN.p1
 dsimp only
 rcases ho with ⟨rfl,rfl⟩ | ⟨⟨h0,h1⟩,ho⟩
 ·rw [if_neg (by simp)]
 ·obtain ⟨j,rfl⟩ : ∃j,m=j+1:=⟨m-1,by omega⟩
  simp only [Nat.add_sub_cancel] at ho h1
  have hj:j<(ns.map Nd.hd).length:=by simp;omega
  have hj2:j<(ns.map Nd.ah).length:=by simp;omega
  have cl:=congrArg List.length ho
  rw [List.length_append] at cl
  have cb:=(ht.ch _ (List.getElem_mem hk)).2
  rw [show (rOf p room ns).List_=rowH (ns.map Nd.hd) from rfl,show (rOf p room ns).Ahead=rowI (ns.map Nd.ah) from rfl,show ((j+1:Nat):Int)-1=(j:Int) by omega,if_pos (by simp),Zgo,ZcW,Zah (by omega),Zah (by omega),Int.toNat_natCast,ZgM hj,ZaG,ZdP,Zah (by rw [List.length_append,Zip];simp;omega),Zah (by omega),ZgL hj2,ZaG,ZcK,List.getElem_map,List.getElem_map]
  have e : [ns[j].hd.ls]++rowH out=rowH (ns[j].hd::out):=rfl
  rw [e]
  have nl:=ht.ch _ (List.getElem_mem h1)
  rcases ht.ah j h1 with ⟨z,a,c⟩ | ⟨q,hq,a,c⟩
  ·have c1:ns[j].ch = [ns[j].hd]:=by
    unfold Nd.hd
    match hch:ns[j].ch,c with
    | [x],_=>rfl
   rw [a]
   rw [c1] at ho
   exact hG 0 _ (by omega) ⟨_,rfl,by omega,.inl ⟨rfl,ho⟩⟩
  ·rw [a]
   rw [c,List.append_assoc] at ho
   exact hG (q+1) _ (by omega) ⟨_,by rw [show ((q+1:Nat):Int)-1=(q:Int) by omega],by omega,.inr ⟨⟨by omega,by omega⟩,by simpa using ho⟩⟩
theorem ZnM (p:Zae) (gs:List Zcb) (cs:List ZbF) (s:ZaM) (h:Zai) (now:Int):0≤checkS p gs cs s h now:=by
 unfold checkS;repeat' split
 all_goals omega
theorem Zkz (hN:900≤N) {st:LL} {i:Nat} {p:Zae} {gs:List Zcb} {cs:List ZbF} (hg:p.Gates=rowG gs) (hc:p.Checks=rowC cs) (lg:gs.length≤400) (lc:cs.length≤400) {room:Int} (hroom:room≤512) {ns:List Nd} (ht:Tree ns) (hlen:ns.length≤200) (hst:st[i]? = some (rOf p room ns).lo)
  {h:Zai} (hh:WfH h) (now:Int) (hnow:0≤now∧now≤9223372036854775807) :
  Zcx N (some i) h now st=some ((addT p gs cs room ns h now).1,(addT p gs cs room ns h now).2.1,(addT p gs cs room ns h now).2.2.1,st.set i (rOf p room (addT p gs cs room ns h now).2.2.2).lo):=by
 have ss:=ZjA hst
 unfold Zcx addT
 rw [Zgk,Zad]
 cases hgd:hgood h with
 | false=>rw [if_pos (by rfl),if_pos (c:=false=false) rfl];dsimp only;rw [ss]
 | true=>
  rw [if_neg (c:=(!true)=true) (by simp),if_neg (c:=true=false) (by simp),ZgP (by omega) h hh.w,Zad,ZgQ (by omega) ht.small hst,Zad]
  dsimp only
  cases e1:place 0 (ids ns) (hid h) with
  | some k=>
   rw [show placeI (some k)=(k:Int) from rfl,if_pos (by simp)]
   dsimp only;rw [ss]
  | none=>
   rw [show placeI none = -1 from rfl,if_neg (by simp),ZgQ (by omega) ht.small hst,Zad]
   dsimp only
   cases e2:place 0 (ids ns) h.Prev with
   | none=>
    rw [show placeI none = -1 from rfl,if_pos (by simp)]
    dsimp only;rw [ss]
   | some k=>
    obtain ⟨_,hk,_⟩:=ZeU e2
    have hk':k<ns.length:=by simpa [ids] using hk
    have hm:=List.getElem_mem hk'
    have cl:=ht.ch _ hm
    have c0:0<ns[k].ch.length:=List.length_pos_iff.2 cl.1
    dsimp only
    rw [show placeI (some k)=(k:Int) from rfl,if_neg (by simp<;>omega),Zad,hst,ZaG,Zcw,ZiP ht (by omega) hk',Zad,Zht hk',Zah (by simp [plainRow,rowH,Zai.ls,L.plain]),show (rOf p room ns).Rules=p from rfl,ZiQ hN hg lg hc lc ns[k].ch c0 (by omega) (fun x hx=>(ht.wf _ hm x hx).w) hh.w now hnow,Zad]
    have nn:=ZnM p gs cs (spotA p ns[k].ch) h now
    by_cases h4:checkS p gs cs (spotA p ns[k].ch) h now=0
    ·rw [if_neg (c:=decide (checkS p gs cs (spotA p ns[k].ch) h now>0)=true) (by simp<;>omega),if_neg (c:=checkS p gs cs (spotA p ns[k].ch) h now≠0) (by simp [h4]),show (rOf p room ns).List_=rowH (ns.map Nd.hd) from rfl,Zgo,List.length_map,show (rOf p room ns).Room=room from rfl]
     by_cases h5:room≤(ns.length:Int)
     ·rw [if_pos (by simpa using h5),if_pos h5];dsimp only;rw [ss]
     ·have hd:=(nodeOn ns k h).hd_snoc rfl
      have i1:rowH (ns.map Nd.hd) ++ [h.ls]=rowH ((ns ++ [nodeOn ns k h]).map Nd.hd):=by simp [rowH,hd]
      have i2:rowIds (ids ns) ++ [[L.arr .u8 32 (hid h)]]=rowIds (ids (ns ++ [nodeOn ns k h])):=by simp [rowIds,ids,Nd.id,hd]
      have i3:rowW (ns.map Nd.wk) ++ [[L.arr .u64 4 (nw (wkAdd ns[k].wk (wkBits h.Bits)))]]=rowW ((ns ++ [nodeOn ns k h]).map Nd.wk):=by simp [rowW,nodeOn,Zlf hk']
      have i4:rowI (ns.map Nd.ah) ++ [[L.int .i64 (k:Int)]]=rowI ((ns ++ [nodeOn ns k h]).map Nd.ah):=by simp [rowI,nodeOn]
      have kw:k<(ns.map Nd.wk).length:=by simp;omega
      have sm:=ht.small
      rw [if_neg (by simpa using h5),if_neg h5,show (rOf p room ns).Ids=rowIds (ids ns) from rfl,show (rOf p room ns).Works=rowW (ns.map Nd.wk) from rfl,show (rOf p room ns).Ahead=rowI (ns.map Nd.ah) from rfl,i1,i2,i4,Zah (by rw [Zip,List.length_map,List.length_append,List.length_singleton];omega),Zah (by simp [rowIds,ids];omega),Zah (by omega),len_rowW,Zah (by rw [List.length_map];omega),Int.toNat_natCast,Nat.zero_add,rowW_get kw,ZaG,List.getElem_map,ZkY,ZfX (by omega),Zad,ZkA (by omega) (ht.wk _ hm) (Zgi _),Zad,i3,Zah (by simp [rowW];omega),Zah (by rw [Zda,List.length_map,List.length_append,List.length_singleton];omega),Zgo,List.length_map,List.length_append,List.length_singleton,ZaC (by omega) (by omega)]
      simp only [List.set_set]
      rw [show ((ns.length+1:Nat):Int)-1=(ns.length:Int) by omega]
      rfl
    ·rw [if_pos (c:=decide (checkS p gs cs (spotA p ns[k].ch) h now>0)=true) (by simp<;>omega),if_pos (c:=checkS p gs cs (spotA p ns[k].ch) h now≠0) h4];dsimp only;rw [ss]
theorem Tree.one_node {g:Zai} (hg:WfH g):Tree [⟨[g],-1,wkBits g.Bits⟩] where
 small:=by simp
 ch:=fun n hn=>by cases List.mem_singleton.1 hn;simp
 wf:=fun n hn x hx=>by cases List.mem_singleton.1 hn;cases List.mem_singleton.1 hx;exact hg
 wk:=fun n hn=>by cases List.mem_singleton.1 hn;exact Zgi _
 ah:=fun i h=>.inl ⟨by simpa using h,by simp at h;subst h;rfl,by simp at h;subst h;rfl⟩
 one:=by simp [ids]
theorem Tree.grow {ns:List Nd} (ht:Tree ns) {k:Nat} (hk:k<ns.length) {h:Zai} (hh:WfH h) (hs:ns.length<512) (hid':place 0 (ids ns) (hid h)=none):Tree (ns ++ [nodeOn ns k h]):=by
 have hm:=List.getElem_mem hk
 have cl:=ht.ch _ hm
 have hc:(nodeOn ns k h).ch=ns[k].ch ++ [h]:=by unfold nodeOn;rw [Zht hk]
 have hd:=(nodeOn ns k h).hd_snoc rfl
 refine ⟨by simp;omega,?_,?_,?_,?_,?_⟩
 ·intro n hn
  rcases List.mem_append.1 hn with hn | hn
  ·have:=ht.ch n hn;exact ⟨this.1,by simp;omega⟩
  ·cases List.mem_singleton.1 hn
   rw [hc];exact ⟨by simp,by simp;omega⟩
 ·intro n hn x hx
  rcases List.mem_append.1 hn with hn | hn
  ·exact ht.wf n hn x hx
  ·cases List.mem_singleton.1 hn
   rw [hc] at hx
   rcases List.mem_append.1 hx with hx | hx
   ·exact ht.wf _ hm x hx
   ·cases List.mem_singleton.1 hx;exact hh
 ·intro n hn
  rcases List.mem_append.1 hn with hn | hn
  ·exact ht.wk n hn
  ·cases List.mem_singleton.1 hn
   unfold nodeOn;rw [Zlf hk]
   exact ZmP (ht.wk _ hm) (Zgi _)
 ·intro i hi
  by_cases hlt:i<ns.length
  ·rw [List.getElem_append_left hlt]
   rcases ht.ah i hlt with a | ⟨q,hq,a,b⟩
   ·exact .inl a
   ·exact .inr ⟨q,hq,a,by rw [List.getElem_append_left (by omega)];exact b⟩
  ·have:i=ns.length:=by simp at hi;omega
   subst this
   refine .inr ⟨k,hk,?_,?_⟩
   ·rw [List.getElem_append_right (by omega)];simp [nodeOn]
   ·rw [List.getElem_append_right (by omega),List.getElem_append_left hk]
    simp only [Nat.sub_self,List.getElem_singleton]
    rw [hc,hd]
 ·have np:=Zjj hid'
  unfold ids at *
  rw [List.map_append,List.nodup_append]
  refine ⟨ht.one,by simp,?_⟩
  intro a ha b hb
  simp only [List.map_cons,List.map_nil,List.mem_singleton] at hb
  subst hb
  intro e
  unfold Nd.id at e
  rw [hd] at e
  exact np (by rw [←e];exact ha)
theorem Zgu (p:Zae) (gs:List Zcb) (cs:List ZbF) (room:Int) (ns:List Nd) (h:Zai) (now:Int) :
  (addT p gs cs room ns h now).2.2.2=ns∨∃k:Nat,k<ns.length∧hgood h=true∧place 0 (ids ns) (hid h)=none∧checkS p gs cs (spotA p (chAt ns k)) h now=0∧(ns.length:Int)<room ∧
   addT p gs cs room ns h now=((ns.length:Int),0,0,ns ++ [nodeOn ns k h]):=by
 unfold addT
 by_cases hg:hgood h=false
 ·rw [if_pos hg];exact .inl rfl
 rw [if_neg hg]
 cases e1:place 0 (ids ns) (hid h) with
 | some k=>exact .inl rfl
 | none=>
  dsimp only
  cases e2:place 0 (ids ns) h.Prev with
  | none=>exact .inl rfl
  | some k=>
   dsimp only
   obtain ⟨_,hk,_⟩:=ZeU e2
   have hk':k<ns.length:=by simpa [ids] using hk
   by_cases h1:checkS p gs cs (spotA p (chAt ns k)) h now=0
   ·rw [if_neg (by simp [h1])]
    by_cases h2:room≤(ns.length:Int)
    ·rw [if_pos h2];exact .inl rfl
    ·rw [if_neg h2]
     exact .inr ⟨k,hk',by simpa using hg,rfl,h1,by omega,rfl⟩
   ·rw [if_pos h1];exact .inl rfl
theorem ZnY {p:Zae} {gs:List Zcb} {cs:List ZbF} {room:Int} (hr:room≤512) {ns:List Nd} (ht:Tree ns) {h:Zai} (hh:WfH h) (now:Int):Tree (addT p gs cs room ns h now).2.2.2:=by
 rcases Zgu p gs cs room ns h now with e | ⟨k,hk,_,hi,_,hl,e⟩
 ·rw [e];exact ht
 ·rw [e];exact ht.grow hk hh (by omega) hi
theorem addT_len (p:Zae) (gs:List Zcb) (cs:List ZbF) (room:Int) (ns:List Nd) (h:Zai) (now:Int):ns.length≤(addT p gs cs room ns h now).2.2.2.length∧(addT p gs cs room ns h now).2.2.2.length≤ns.length+1:=by
 rcases Zgu p gs cs room ns h now with e | ⟨k,hk,_,hi,_,hl,e⟩
 ·rw [e];omega
 ·rw [e];simp
def roomOf (room:Int):Int:=if (512:Int)<(if (1:Int)>room then 1 else room) then 512 else (if (1:Int)>room then 1 else room)
def rootN (p:Zae):Nd:=⟨[p.Genesis],-1,wkBits p.Genesis.Bits⟩
theorem set_last (st:LL) (a b:List L):(st ++ [a]).set st.length b=st ++ [b]:=by simp
theorem New_eq (hN:500≤N) {p:Zae} {gs:List Zcb} {cs:List ZbF} (hg:p.Gates=rowG gs) (hc:p.Checks=rowC cs) (lg:gs.length≤400) (lc:cs.length≤400) (hp:WfP p) (room:Int) (st:LL) :
  ZdY N p room st=if rgood p gs cs=true then some (some st.length,0,st ++ [(aOf p (roomOf room) [rootN p]).lo]) else some (none,1,st):=by
 unfold ZdY
 rw [Zkp hN hg lg hc lc,Zad]
 cases hgd:rgood p gs cs with
 | false=>rfl
 | true=>
  have pp:({p with Gates:=[]++p.Gates,Checks:=[]++p.Checks}:Zae)=p:=rfl
  rw [if_neg (c:=(!true)=true) (by simp),pp,Zah (by rw [hg,List.nil_append,Zln];omega),Zah (by rw [hc,List.nil_append,Zlo];omega),ZiO hN hp.h.w,Zad]
  have hst:(st ++ [(aOf p (roomOf room) []).lo])[st.length]? = some (aOf p (roomOf room) []).lo:=by simp
  have k:=keep0_eq (N:=N) (by omega) hst (h:=p.Genesis) (rootN p) rfl rfl rfl
  rw [set_last] at k
  rw [if_pos (c:=true=true) rfl]
  show optE (ZaT N (some st.length) p.Genesis (-1) (spotA p (rootN p).ch) (st ++ [(aOf p (roomOf room) []).lo])) _=_
  rw [k,Zad]
theorem Zky (hN:900≤N) {p:Zae} (hp:WfP p) (room:Int) (st:LL):ZdR N p room st=some (some st.length,st ++ [(rOf p (roomOf room) [rootN p]).lo]):=by
 unfold ZdR
 rw [ZgP (by omega) _ hp.h.w,Zad,ZfX (by omega),Zad]
 rfl
theorem Zmn (p:Zae) (room:Int) (ns:List Nd):Zch N (aOf p room ns)=some (ns.length:Int):=by
 unfold Zch;rw [show (aOf p room ns).list=rowE ns from rfl,Zgp]
theorem Zoh (p:Zae) (room:Int) {ns:List Nd} {k:Nat} (hk:k<ns.length):ZbL N (aOf p room ns) (k:Int)=some (ns[k].en,true):=by
 unfold ZbL ZbE
 rw [show (aOf p room ns).list=rowE ns from rfl,Zgp,if_pos (by simp),Zad,if_neg (by simp<;>omega),Zah (by omega),Zah (by omega),Int.toNat_natCast,ZlU hk,ZaG,Zfj]
theorem Zog (p:Zae) (room:Int) {ns:List Nd} {k:Int} (hk:k<0∨(ns.length:Int)≤k):ZbL N (aOf p room ns) k=some (ZbO.mk (Zai.mk 0 (List.replicate 32 0) (List.replicate 32 0) 0 0 0) (List.replicate 32 0) (-1) 0 (List.replicate 4 0),false):=by
 unfold ZbL ZbE
 rw [show (aOf p room ns).list=rowE ns from rfl,Zgp]
 by_cases h:k≥0
 ·rw [if_pos (by simpa using h),Zad,if_pos (by simp<;>omega)]
 ·rw [if_neg (by simpa using h),Zad,if_pos (by rfl)]
end Go.Dn.F
set_option maxRecDepth 100000
namespace Go.Dn.F
open Go.Dn Go.Proofs
variable {N:Nat}
abbrev tysCm:List Ty:=[.int .i64,.arr .u8 32,.arr .u8 32,.int .i64,.int .i64,.int .i64,.int .i64]
def pA:Zae:=⟨545259519,4,10,0,false,[],[],List.replicate 4 0,List.replicate 4 0,h0⟩
theorem h0_wf:WfH h0:=⟨by unfold i64R h0;simp,by unfold wfH h0;decide,by unfold i64R h0;simp,by unfold i64R h0;simp,by unfold i64R h0;simp⟩
theorem pA_wf:WfP pA where
 l:=by unfold i64R pA;simp
 i:=by unfold i64R pA;simp
 s:=by unfold i64R pA;simp
 f:=by unfold i64R pA;simp
 g:=by unfold pA;simp
 gl:=by unfold pA;simp
 c:=by unfold pA;simp
 cl:=by unfold pA;simp
 m:=by unfold pA;exact ⟨rfl,fun x hx=>by obtain ⟨_,rfl⟩:=List.mem_replicate.1 hx;decide⟩
 r:=by unfold pA;exact ⟨rfl,fun x hx=>by obtain ⟨_,rfl⟩:=List.mem_replicate.1 hx;decide⟩
 h:=h0_wf
end Go.Dn.F
set_option maxRecDepth 40000
namespace Go.Dn.F
open Go.Dn Go.Proofs
variable {N:Nat}
def rowF (ns:List Nd):Nat→Nat→List Nat
 | 0,k=>[k]
 | f+1,k=>match ns[k]? with
  | some n=>if n.ah<0 then [k] else rowF ns f n.ah.toNat ++ [k]
  | none=>[k]
def rowP (ns:List Nd) (k:Nat):List Nat:=rowF ns k k
theorem Znm {ns:List Nd} (ht:Tree ns) : ∀(k f g:Nat),k<ns.length→k≤f→k≤g→rowF ns f k=rowF ns g k:=by
 intro k
 induction k using Nat.strongRecOn with
 | ind k ih=>
  intro f g hk hf hg
  rcases ht.ah k hk with ⟨z,a,c⟩ | ⟨q,hq,a,c⟩
  ·have e : ∀f,rowF ns f k = [k]:=fun f=>by
    cases f with
    | zero=>rfl
    | succ f=>unfold rowF;rw [List.getElem?_eq_getElem hk];dsimp only;rw [a,if_pos (by omega)]
   rw [e,e]
  ·obtain ⟨f,rfl⟩ : ∃x,f=x+1:=⟨f-1,by omega⟩
   obtain ⟨g,rfl⟩ : ∃x,g=x+1:=⟨g-1,by omega⟩
   unfold rowF
   rw [List.getElem?_eq_getElem hk]
   dsimp only
   rw [a,if_neg (by omega),if_neg (by omega),Int.toNat_natCast,ih q hq f g (by omega) (by omega) (by omega)]
theorem Znh {ns:List Nd} {k:Nat} (hk:k<ns.length) (a:ns[k].ah = -1):rowP ns k = [k]:=by
 unfold rowP
 cases k with
 | zero=>rfl
 | succ f=>unfold rowF;rw [List.getElem?_eq_getElem hk];dsimp only;rw [a,if_pos (by omega)]
theorem Zks {ns:List Nd} (ht:Tree ns) {k q:Nat} (hk:k<ns.length) (hq:q<k) (a:ns[k].ah=(q:Int)):rowP ns k=rowP ns q ++ [k]:=by
 obtain ⟨f,rfl⟩ : ∃x,k=x+1:=⟨k-1,by omega⟩
 unfold rowP
 rw [rowF,List.getElem?_eq_getElem hk]
 dsimp only
 rw [a,if_neg (by omega),Int.toNat_natCast,Znm ht q f q (by omega) (by omega) (by omega)]
theorem Zeu {ns:List Nd} (ht:Tree ns) {k:Nat} (hk:k<ns.length) :
  (k=0∧ns[k].ah = -1∧rowP ns k = [k]∧ns[k].ch.length=1)∨∃q,q<k∧ns[k].ah=(q:Int)∧rowP ns k=rowP ns q ++ [k]∧∃hq:q<ns.length,ns[k].ch=ns[q].ch ++ [ns[k].hd]:=by
 rcases ht.ah k hk with ⟨z,a,c⟩ | ⟨q,hq,a,c⟩
 ·exact .inl ⟨z,a,Znh hk a,c⟩
 ·exact .inr ⟨q,hq,a,Zks ht hk hq a,by omega,c⟩
theorem ZfB {ns:List Nd} (ht:Tree ns) : ∀{k:Nat} (hk:k<ns.length),(rowP ns k).length=ns[k].ch.length:=by
 intro k
 induction k using Nat.strongRecOn with
 | ind k ih=>
  intro hk
  rcases Zeu ht hk with ⟨z,a,e,c⟩ | ⟨q,hq,a,e,hq',c⟩
  ·rw [e,c];rfl
  ·rw [e,c,List.length_append,List.length_append,ih q hq hq'];rfl
theorem ZgJ {ns:List Nd} (ht:Tree ns) {k:Nat} (hk:k<ns.length):(rowP ns k)[(rowP ns k).length-1]? = some k:=by
 rcases Zeu ht hk with ⟨z,a,e,c⟩ | ⟨q,hq,a,e,hq',c⟩
 ·rw [e];rfl
 ·rw [e];simp
theorem ZlS {ns:List Nd} (ht:Tree ns) {k:Nat} (hk:k<ns.length):0<(rowP ns k).length:=by
 rcases Zeu ht hk with ⟨z,a,e,c⟩ | ⟨q,hq,a,e,hq',c⟩<;>rw [e]<;>simp
theorem Zni {ns:List Nd} (ht:Tree ns) : ∀{k:Nat},k<ns.length→∀x∈rowP ns k,x≤k:=by
 intro k
 induction k using Nat.strongRecOn with
 | ind k ih=>
  intro hk x hx
  rcases Zeu ht hk with ⟨z,a,e,c⟩ | ⟨q,hq,a,e,hq',c⟩
  ·rw [e] at hx;simp at hx;omega
  ·rw [e] at hx
   rcases List.mem_append.1 hx with hx | hx
   ·have:=ih q hq hq' x hx;omega
   ·simp at hx;omega
theorem ZhP {ns:List Nd} (ht:Tree ns) : ∀{k:Nat},k<ns.length→∀{h x:Nat},(rowP ns k)[h]? = some x→x<ns.length∧rowP ns x=(rowP ns k).take (h+1):=by
 intro k
 induction k using Nat.strongRecOn with
 | ind k ih=>
  intro hk h x hx
  rcases Zeu ht hk with ⟨z,a,e,c⟩ | ⟨q,hq,a,e,hq',c⟩
  ·rw [e] at hx ⊢
   cases h with
   | zero=>cases hx;exact ⟨hk,by rw [e];rfl⟩
   | succ h=>cases hx
  ·rw [e] at hx ⊢
   by_cases hlt:h<(rowP ns q).length
   ·rw [List.getElem?_append_left hlt] at hx
    obtain ⟨h1,h2⟩:=ih q hq hq' hx
    exact ⟨h1,by rw [h2,List.take_append_of_le_length (by omega)]⟩
   ·rw [List.getElem?_append_right (by omega)] at hx
    have e0:h-(rowP ns q).length=0:=by
     cases e1:h-(rowP ns q).length with
     | zero=>rfl
     | succ n=>rw [e1] at hx;cases hx
    rw [e0] at hx
    cases hx
    exact ⟨hk,by rw [e,List.take_of_length_le (by simp;omega)]⟩
theorem Znj {ns:List Nd} (ht:Tree ns) {k h x:Nat} (hk:k<ns.length) (hx:(rowP ns k)[h]? = some x) : ∃h':x<ns.length,ns[x].ch.length=h+1:=by
 obtain ⟨h1,h2⟩:=ZhP ht hk hx
 refine ⟨h1,?_⟩
 have hl:h<(rowP ns k).length:=(List.getElem?_eq_some_iff.1 hx).1
 rw [←ZfB ht h1,h2,List.length_take];omega
theorem ZhQ {ns:List Nd} (ht:Tree ns) {k x:Nat} (hk:k<ns.length) (hx:x∈rowP ns k) : ∃h':x<ns.length,(rowP ns k)[ns[x].ch.length-1]? = some x:=by
 obtain ⟨h,hx⟩:=List.mem_iff_getElem?.1 hx
 obtain ⟨h1,h2⟩:=Znj ht hk hx
 exact ⟨h1,by rw [h2];exact hx⟩
theorem Znl (ns:List Nd) (nd:Nd) (ht:Tree ns) : ∀(k f:Nat),k<ns.length→rowF (ns ++ [nd]) f k=rowF ns f k:=by
 intro k
 induction k using Nat.strongRecOn with
 | ind k ih=>
  intro f hk
  cases f with
  | zero=>rfl
  | succ f=>
   unfold rowF
   rw [List.getElem?_append_left hk,List.getElem?_eq_getElem hk]
   dsimp only
   rcases ht.ah k hk with ⟨z,a,c⟩ | ⟨q,hq,a,c⟩
   ·rw [a,if_pos (by omega),if_pos (by omega)]
   ·rw [a,if_neg (by omega),if_neg (by omega),Int.toNat_natCast,ih q hq f (by omega)]
theorem ZgK {ns:List Nd} (nd:Nd) (ht:Tree ns) {k:Nat} (hk:k<ns.length):rowP (ns ++ [nd]) k=rowP ns k:=Znl ns nd ht k k hk
def natI (l:List Nat):List Int:=l.map (fun x:Nat=>(x:Int))
theorem ZfW {p:Zae} {room:Int} {ns:List Nd} (ht:Tree ns) (hN:ns.length+2≤N) {k:Nat} (hk:k<ns.length):ZaE N (rOf p room ns) (k:Int)=some (rowI (natI (rowP ns k))):=by
 have sm:=ht.small
 unfold ZaE
 have lk:=ZfB ht hk
 have cb:=(ht.ch _ (List.getElem_mem hk)).2
 have key:loopN (ZaE.p1 N (rOf p room ns)) N ([],(k:Int))=some (rowI (natI (rowP ns k))):=by
  refine ZbJ (fun m (s:LL×Int)=>∃(q:Nat) (c:List Nat),q=m∧s=(rowI (natI c),(q:Int)-1)∧((q=0∧c=rowP ns k)∨∃h:0<q∧q-1<ns.length,rowP ns (q-1)++c=rowP ns k)) ?_ N (k+1) _ ⟨k+1,[],rfl,by rw [show ((k+1:Nat):Int)-1=(k:Int) by omega];rfl,.inr ⟨⟨by omega,by omega⟩,by simp⟩⟩ (by omega)
  rintro G m _ ⟨q,c,rfl,rfl,ho⟩ hG
  unfold ZaE.p1
  dsimp only
  rcases ho with ⟨rfl,rfl⟩ | ⟨⟨h0,h1⟩,ho⟩
  ·rw [if_neg (by simp)]
  ·obtain ⟨j,rfl⟩ : ∃j,q=j+1:=⟨q-1,by omega⟩
   simp only [Nat.add_sub_cancel] at ho h1
   have hj2:j<(ns.map Nd.ah).length:=by simp;omega
   have lo:=congrArg List.length ho
   rw [List.length_append,lk] at lo
   have e1 : [(j:Int)]++natI c=natI (j::c):=rfl
   rw [show (rOf p room ns).Ahead=rowI (ns.map Nd.ah) from rfl,show ((j+1:Nat):Int)-1=(j:Int) by omega,if_pos (by simp),ZhR,ZfC,e1,Zah (by rw [Zda];simp [natI];omega),Zah (by omega),ZcW,Zah (by omega),Int.toNat_natCast,ZgL hj2,ZaG,ZcK,List.getElem_map]
   rcases Zeu ht h1 with ⟨z,a,e,cl⟩ | ⟨q,hq,a,e,hq',cl⟩
   ·rw [a]
    exact hG 0 _ (by omega) ⟨0,_,rfl,rfl,.inl ⟨rfl,by rw [←ho,e];rfl⟩⟩
   ·rw [a]
    exact hG (q+1) _ (by omega) ⟨q+1,_,rfl,by rw [show ((q+1:Nat):Int)-1=(q:Int) by omega],.inr ⟨⟨by omega,by simp;omega⟩,by simp only [Nat.add_sub_cancel];rw [←ho,e];simp⟩⟩
 exact key
noncomputable def tOf (p:Zae) (room:Int) (ns:List Nd) (lp:List Int):Zao:=⟨aOf p room ns,rowI lp⟩
structure Leaps (ns:List Nd) (lp:List Int):Prop where
 len:lp.length≤ns.length
 ok : ∀(i:Nat) (v:Int),lp[i]? = some v→v = -1∨∃x:Nat,v=(x:Int)∧x≠i∧x∈rowP ns i
def hZ (ns:List Nd) (k:Int):Int:=if 0≤k∧k<(ns.length:Int) then ((ns[k.toNat]?.map Nd.ch).getD []).length-1 else -1
theorem ZlC {ns:List Nd} {k:Nat} (hk:k<ns.length):hZ ns (k:Int)=(ns[k].ch.length:Int)-1:=by
 unfold hZ;rw [if_pos (by omega),Int.toNat_natCast,List.getElem?_eq_getElem hk];rfl
theorem ZjX {ns:List Nd} {k:Int} (hk:k<0∨(ns.length:Int)≤k):hZ ns k = -1:=by
 unfold hZ;rw [if_neg (by omega)]
theorem Zlk (p:Zae) (room:Int) {ns:List Nd} (lp:List Int) {k:Nat} (hk:k<ns.length):ZbP N (tOf p room ns lp) (k:Int)=some (ns[k].en,true):=by
 unfold ZbP
 rw [show (tOf p room ns lp).store=aOf p room ns from rfl,Zoh p room hk,Zad]
theorem ZmX (p:Zae) (room:Int) {ns:List Nd} (lp:List Int) {k:Int} (hk:k<0∨(ns.length:Int)≤k) : ∃e,ZbP N (tOf p room ns lp) k=some (e,false):=by
 unfold ZbP
 rw [show (tOf p room ns lp).store=aOf p room ns from rfl,Zog p room hk,Zad]
 exact ⟨_,rfl⟩
theorem Zfu (p:Zae) (room:Int) (ns:List Nd) (lp:List Int) (k:Int):ZaO N (tOf p room ns lp) k=some (hZ ns k):=by
 unfold ZaO
 by_cases h:0≤k∧k<(ns.length:Int)
 ·obtain ⟨j,rfl⟩ : ∃j:Nat,k=(j:Int):=⟨k.toNat,by omega⟩
  have hj:j<ns.length:=by omega
  rw [Zlk p room lp hj,Zad]
  dsimp only
  rw [if_neg (by simp),ZlC hj];rfl
 ·obtain ⟨e,h1⟩:=ZmX (N:=N) p room (ns:=ns) lp (k:=k) (by omega)
  rw [h1,Zad]
  dsimp only
  rw [if_pos (by rfl),ZjX (by omega)]
def ancZ (ns:List Nd) (k h:Int):Int:=if 0≤k∧k<(ns.length:Int)∧0≤h then ((rowP ns k.toNat)[h.toNat]?.map fun (x:Nat)=>(x:Int)).getD (-1) else -1
theorem ZlF {ns:List Nd} {k h x:Nat} (hk:k<ns.length) (hx:(rowP ns k)[h]? = some x):ancZ ns (k:Int) (h:Int)=(x:Int):=by
 unfold ancZ;rw [if_pos (by omega),Int.toNat_natCast,Int.toNat_natCast,hx];rfl
theorem Zkq {ns:List Nd} (ht:Tree ns) {k x y:Nat} (hk:k<ns.length) (hx:x∈rowP ns k) (hy:y∈rowP ns x):y∈rowP ns k:=by
 obtain ⟨h,hx⟩:=List.mem_iff_getElem?.1 hx
 obtain ⟨_,e⟩:=ZhP ht hk hx
 rw [e] at hy
 exact List.mem_of_mem_take hy
theorem row_lt {ns:List Nd} (ht:Tree ns) {x y:Nat} (hx:x<ns.length) (hy:y∈rowP ns x) (hne:y≠x) : ∃h:y<ns.length,ns[y].ch.length<ns[x].ch.length:=by
 obtain ⟨h,e⟩:=ZhQ ht hx hy
 refine ⟨h,?_⟩
 have hl:=(List.getElem?_eq_some_iff.1 e).1
 have ll:=ZgJ ht hx
 have e2:=ZfB ht hx
 have p1:=List.length_pos_iff.2 (ht.ch _ (List.getElem_mem h)).1
 rcases Nat.lt_or_ge ns[y].ch.length ns[x].ch.length with h3 | h3
 ·exact h3
 ·rw [show ns[y].ch.length-1=(rowP ns x).length-1 by omega,ll] at e
  cases e;exact absurd rfl hne
theorem ZlR {ns:List Nd} (ht:Tree ns) {k:Nat} (hk:k<ns.length):k∈rowP ns k:=List.mem_of_getElem? (ZgJ ht hk)
theorem Zng {ns:List Nd} (ht:Tree ns) {k q:Nat} (hk:k<ns.length) (hq:q<k) (e:rowP ns k=rowP ns q ++ [k]):q∈rowP ns k:=by
 rw [e];exact List.mem_append.2 (.inl (ZlR ht (by omega)))
theorem ZfJ (hN:600≤N) {p:Zae} {room:Int} {ns:List Nd} {lp:List Int} (ht:Tree ns) (hl:Leaps ns lp) (k h:Int) (hb:k<(lp.length:Int)∨ns.length≤lp.length):Zan N (tOf p room ns lp) k h=some (ancZ ns k h):=by
 have sm:=ht.small
 unfold Zan
 rw [Zfu,Zad]
 by_cases h0:h<0
 ·rw [if_pos (by simpa using h0)];unfold ancZ;rw [if_neg (by omega)]
 rw [if_neg (by simpa using h0)]
 by_cases hk0:k<0∨(ns.length:Int)≤k
 ·rw [ZjX (by omega),if_pos (by simp;omega)];unfold ancZ;rw [if_neg (by omega)]
 obtain ⟨k,rfl⟩ : ∃j:Nat,k=(j:Int):=⟨k.toNat,by omega⟩
 obtain ⟨h,rfl⟩ : ∃j:Nat,h=(j:Int):=⟨h.toNat,by omega⟩
 have hk:k<ns.length:=by omega
 have lk:=ZfB ht hk
 have lb:=(ht.ch _ (List.getElem_mem hk)).2
 rw [ZlC hk]
 by_cases h1:(h:Int)>(ns[k].ch.length:Int)-1
 ·rw [if_pos (by simpa using h1)];unfold ancZ
  rw [if_pos (by omega),Int.toNat_natCast,Int.toNat_natCast,List.getElem?_eq_none (by omega)];rfl
 rw [if_neg (by simpa using h1)]
 have hh:h<(rowP ns k).length:=by omega
 obtain ⟨t,et⟩ : ∃t,(rowP ns k)[h]? = some t:=⟨_,List.getElem?_eq_getElem hh⟩
 rw [ZlF hk et]
 refine ZbJ (fun m (s:Int×Int)=>∃(x:Nat) (hx:x<ns.length),m=ns[x].ch.length∧s=((x:Int),(ns[x].ch.length:Int)-1)∧x∈rowP ns k∧h+1≤ns[x].ch.length) ?_ N ns[k].ch.length _ ⟨k,hk,rfl,rfl,ZlR ht hk,by omega⟩ (by omega)
 rintro G m _ ⟨x,hx,rfl,rfl,hm,hle⟩ hG
 unfold Zan.p1 Zan.p2
 dsimp only
 by_cases hgt:(ns[x].ch.length:Int)-1>(h:Int)
 ·have hx2:x<lp.length:=by
   have:=Zni ht hk x hm
   omega
  rw [if_pos (by simpa using hgt),Zlk p room lp hx,Zad]
  dsimp only
  rw [show (tOf p room ns lp).leaps=rowI lp from rfl,Zah (by omega),ZcW,Zah (by omega),Int.toNat_natCast,ZgL hx2,ZaG,ZcK,show (ns[x].en).Ahead=ns[x].ah from rfl]
  rcases Zeu ht hx with ⟨z,a,e,c⟩ | ⟨q,hq,a,e,hq',c⟩
  ·omega
  ·have cl:=congrArg List.length c
   rw [List.length_append,List.length_singleton] at cl
   have toq:G ((q:Int),(ns[q].ch.length:Int)-1)=some (t:Int):=hG ns[q].ch.length _ (by omega) ⟨q,hq',rfl,rfl,Zkq ht hk hm (Zng ht hx hq e),by omega⟩
   rcases hl.ok x lp[x] (List.getElem?_eq_getElem hx2) with v | ⟨y,v,hne,hy⟩
   ·rw [v,if_neg (by simp),a,Zfu,Zad,ZlC hq'];exact toq
   ·obtain ⟨hy',hyl⟩:=row_lt ht hx hy hne
    rw [v,if_pos (by simp<;>omega),Zfu,Zad,ZlC hy']
    by_cases h3:(ns[y].ch.length:Int)-1≥(h:Int)
    ·rw [if_pos (by simpa using h3),Zad]
     exact hG ns[y].ch.length _ hyl ⟨y,hy',rfl,rfl,Zkq ht hk hm hy,by omega⟩
    ·rw [if_neg (by simpa using h3),a,Zfu,Zad,ZlC hq'];exact toq
 ·obtain ⟨h3,e3⟩:=ZhQ ht hk hm
  rw [show ns[x].ch.length-1=h by omega,et] at e3
  cases e3
  rw [if_neg (by simpa using hgt)]
def withinB (ns:List Nd) (k o:Int):Bool:=decide (0≤k∧k<(ns.length:Int)∧0≤o∧o<(ns.length:Int)∧k.toNat∈rowP ns o.toNat)
theorem Zob (hN:600≤N) {p:Zae} {room:Int} {ns:List Nd} {lp:List Int} (ht:Tree ns) (hl:Leaps ns lp) (hb:ns.length≤lp.length) (k o:Int):ZbR N (tOf p room ns lp) k o=some (withinB ns k o):=by
 unfold ZbR
 rw [Zfu,Zad]
 by_cases hk0:k<0∨(ns.length:Int)≤k
 ·rw [ZjX (by omega),if_neg (by simp)]
  unfold withinB;rw [decide_eq_false (by omega)]
 obtain ⟨k,rfl⟩ : ∃j:Nat,k=(j:Int):=⟨k.toNat,by omega⟩
 have hk:k<ns.length:=by omega
 have pk:=List.length_pos_iff.2 (ht.ch _ (List.getElem_mem hk)).1
 rw [ZlC hk,if_pos (by simp;omega),ZfJ hN ht hl _ _ (.inr hb),Zad]
 congr 1
 unfold withinB ancZ
 by_cases ho:o<0∨(ns.length:Int)≤o
 ·rw [if_neg (by omega),decide_eq_false (by omega)]
  simp<;>omega
 obtain ⟨o,rfl⟩ : ∃j:Nat,o=(j:Int):=⟨o.toNat,by omega⟩
 have ho':o<ns.length:=by omega
 rw [if_pos (by omega),Int.toNat_natCast,Int.toNat_natCast,show ((ns[k].ch.length:Int)-1).toNat=ns[k].ch.length-1 by omega]
 by_cases hm:k∈rowP ns o
 ·obtain ⟨h1,h2⟩:=ZhQ ht ho' hm
  rw [h2,decide_eq_true ⟨by omega,by omega,by omega,by omega,hm⟩];simp
 ·rw [decide_eq_false (fun h=>hm h.2.2.2.2)]
  cases e:(rowP ns o)[ns[k].ch.length-1]? with
  | none=>simp<;>omega
  | some y=>
   have:y≠k:=fun h=>hm (by rw [←h];exact List.mem_of_getElem? e)
   simp<;>omega
end Go.Dn.F
set_option maxRecDepth 100000
namespace Go.Dn.F
open Go.Dn Go.Proofs
variable {N:Nat}
def GoodT (ns:List Nd):Prop:=∀n∈ns,hgood n.hd=true
theorem Zmu {p:Zae} {gs:List Zcb} {cs:List ZbF} (h:rgood p gs cs=true):GoodT [rootN p]:=by
 intro n hn
 cases List.mem_singleton.1 hn
 unfold rgood at h
 simp only [Bool.and_eq_true] at h
 exact h.1.1.2
theorem Znq (ns:List Nd) (k:Nat) (h:Zai):(nodeOn ns k h).hd=h:=Nd.hd_snoc (c:=chAt ns k) rfl
theorem Zoa {p:Zae} {gs:List Zcb} {cs:List ZbF} {room:Int} {ns:List Nd} (hg:GoodT ns) (h:Zai) (now:Int):GoodT (addT p gs cs room ns h now).2.2.2:=by
 rcases Zgu p gs cs room ns h now with e | ⟨k,hk,hh,_,_,_,e⟩
 ·rw [e];exact hg
 ·rw [e]
  intro n hn
  rcases List.mem_append.1 hn with hn | hn
  ·exact hg n hn
  ·cases List.mem_singleton.1 hn;rw [Znq];exact hh
end Go.Dn.F
set_option maxRecDepth 40000
namespace Go.Dn.F
open Go.Dn Go.Proofs
variable {N:Nat}
noncomputable def tree2 (ia:Nat) (lp:List Int):List L:=[L.ptr (some ia),L.own true 1 (rowI lp)]
structure TreeAt (st:LL) (ia it:Nat) (p:Zae) (room:Int) (ns:List Nd) (lp:List Int):Prop where
 a:st[ia]? = some (aOf p room ns).lo
 t:st[it]? = some (tree2 ia lp)
 ne:ia≠it
 lv:Leaps ns lp
 len:lp.length=ns.length
 tr:Tree ns
theorem skH_eq (h:Int) : ∃x,Zcy N h=some x:=by
 unfold Zcy Zdl
 by_cases h1:h<2
 ·rw [if_pos (by simpa using h1)];exact ⟨_,rfl⟩
 rw [if_neg (by simpa using h1)]
 by_cases h2:bitsOf .and .i64 h 1=0
 ·rw [if_pos (by simpa using h2)];exact ⟨_,rfl⟩
 ·rw [if_neg (by simpa using h2)];exact ⟨_,rfl⟩
theorem ZmN (p:Zae) (gs:List Zcb) (cs:List ZbF) (room:Int) (ns:List Nd) (h:Zai) (now:Int) :
  ((addT p gs cs room ns h now).2.2.2=ns∧((addT p gs cs room ns h now).2.2.1≠0∨∃k:Nat,k<ns.length∧(addT p gs cs room ns h now).1=(k:Int)))∨∃k:Nat,k<ns.length∧place 0 (ids ns) (hid h)=none∧(ns.length:Int)<room ∧
   addT p gs cs room ns h now=((ns.length:Int),0,0,ns ++ [nodeOn ns k h]):=by
 unfold addT
 by_cases hg:hgood h=false
 ·rw [if_pos hg];exact .inl ⟨rfl,.inl (by simp)⟩
 rw [if_neg hg]
 cases e1:place 0 (ids ns) (hid h) with
 | some k=>
  obtain ⟨_,hk,_⟩:=ZeU e1
  have hk':k<ns.length:=by simpa [ids] using hk
  exact .inl ⟨rfl,.inr ⟨k,hk',rfl⟩⟩
 | none=>
  dsimp only
  cases e2:place 0 (ids ns) h.Prev with
  | none=>exact .inl ⟨rfl,.inl (by simp)⟩
  | some k=>
   dsimp only
   obtain ⟨_,hk,_⟩:=ZeU e2
   have hk':k<ns.length:=by simpa [ids] using hk
   by_cases h1:checkS p gs cs (spotA p (chAt ns k)) h now=0
   ·rw [if_neg (by simp [h1])]
    by_cases h2:room≤(ns.length:Int)
    ·rw [if_pos h2];exact .inl ⟨rfl,.inl (by simp)⟩
    ·rw [if_neg h2]
     exact .inr ⟨k,hk',rfl,by omega,rfl⟩
   ·rw [if_pos h1];exact .inl ⟨rfl,.inl (by simp)⟩
theorem Leaps.grow {ns:List Nd} {lp:List Int} (ht:Tree ns) (hl:Leaps ns lp) (hlen:lp.length=ns.length) {nd:Nd} (ht':Tree (ns ++ [nd])) {k:Nat} (hk:k<ns.length) (ha:nd.ah=(k:Int)) (h:Int):Leaps (ns ++ [nd]) (lp ++ [ancZ (ns ++ [nd]) (k:Int) h]) where
 len:=by simp [hlen]
 ok:=fun i v hv=>by
  by_cases hi:i<lp.length
  ·rw [List.getElem?_append_left hi] at hv
   rcases hl.ok i v hv with h1 | ⟨x,h1,h2,h3⟩
   ·exact .inl h1
   ·exact .inr ⟨x,h1,h2,by rw [ZgK nd ht (by omega)];exact h3⟩
  ·have e0:i=ns.length:=by
    have:=(List.getElem?_eq_some_iff.1 hv).1
    simp at this;omega
   subst e0
   rw [List.getElem?_append_right (by omega),hlen,Nat.sub_self] at hv
   cases hv
   have hn:ns.length<(ns ++ [nd]).length:=by simp
   have ea:(ns ++ [nd])[ns.length].ah=(k:Int):=by simpa using ha
   rw [Zks ht' hn hk ea,ZgK nd ht hk]
   unfold ancZ
   by_cases hc:0≤(k:Int)∧(k:Int)<((ns ++ [nd]).length:Int)∧0≤h
   ·rw [if_pos hc,Int.toNat_natCast,ZgK nd ht hk]
    cases e:(rowP ns k)[h.toNat]? with
    | none=>exact .inl rfl
    | some y=>
     have hy:=List.mem_of_getElem? e
     have:=Zni ht hk y hy
     exact .inr ⟨y,rfl,by omega,List.mem_append.2 (.inl hy)⟩
   ·rw [if_neg hc];exact .inl rfl
theorem skAdd_eq (hN:600≤N) {st:LL} {ia it:Nat} {p:Zae} {gs:List Zcb} {cs:List ZbF} (hg:p.Gates=rowG gs) (hc:p.Checks=rowC cs) (lg:gs.length≤400) (lc:cs.length≤400) {room:Int} (hroom:room≤512) {ns:List Nd} {lp:List Int} (T:TreeAt st ia it p room ns lp)
  {h:Zai} (hh:WfH h) (now:Int) (hnow : -1152921504606846976≤now∧now≤9223372036854775807) :
  ∃lp' st',Zbs N (some it) h now st=some ((addT p gs cs room ns h now).1,(addT p gs cs room ns h now).2.1,(addT p gs cs room ns h now).2.2.1,st')∧TreeAt st' ia it p room (addT p gs cs room ns h now).2.2.2 lp'∧(∀j,j≠ia→j≠it→st'[j]? = st[j]?):=by
 have ht':=ZnY (p:=p) (gs:=gs) (cs:=cs) hroom T.tr hh now
 unfold Zbs Zbs.p1
 rw [if_neg (c:=Option.isNone (some it)=true) (by simp),Zad,T.t,ZaG]
 unfold tree2
 rw [ZcV,Add_eq (by omega) hg hc lg lc hroom T.tr T.a hh now hnow,Zad]
 dsimp only
 rcases ZmN p gs cs room ns h now with ⟨e,e1⟩ | ⟨k,hk,hpl,hlr,e⟩
 ·rw [e,ZjA T.a]
  refine ⟨lp,st,?_,T,fun j _ _=>rfl⟩
  by_cases h6:(addT p gs cs room ns h now).2.2.1=0
  ·rcases e1 with e1 | ⟨k,hk,e1⟩
   ·exact absurd h6 e1
   ·rw [if_pos (by simpa using h6),T.t,ZaG]
    unfold tree2
    rw [ZcV,if_neg (by rw [e1,ZcW,T.len];simp;omega)]
  ·rw [if_neg (by simpa using h6)]
 ·rw [e] at ht' ⊢
  dsimp only at ht' ⊢
  have t2:(st.set ia (aOf p room (ns ++ [nodeOn ns k h])).lo)[it]? = some (tree2 ia lp):=by
   rw [List.getElem?_set_ne T.ne];exact T.t
  have a2:(st.set ia (aOf p room (ns ++ [nodeOn ns k h])).lo)[ia]? = some (aOf p room (ns ++ [nodeOn ns k h])).lo:=List.getElem?_set_self (List.getElem?_eq_some_iff.1 T.a).1
  have hit:=(List.getElem?_eq_some_iff.1 t2).1
  have hn:ns.length<(ns ++ [nodeOn ns k h]).length:=by simp
  have en:(ns ++ [nodeOn ns k h])[ns.length]=nodeOn ns k h:=by simp
  obtain ⟨hx,eh⟩:=skH_eq (N:=N) ((ns ++ [nodeOn ns k h])[ns.length].en).Height
  have lv:Leaps (ns ++ [nodeOn ns k h]) lp:=⟨by rw [T.len];simp,fun i v hv=>by
   have hi:=(List.getElem?_eq_some_iff.1 hv).1
   rcases T.lv.ok i v hv with h1 | ⟨x,h1,h2,h3⟩
   ·exact .inl h1
   ·exact .inr ⟨x,h1,h2,by rw [ZgK _ T.tr (by rw [←T.len];exact hi)];exact h3⟩⟩
  have sm:=T.tr.small
  rw [if_pos (by rfl),t2,ZaG]
  unfold tree2
  rw [ZcV,if_pos (by rw [ZcW,T.len];simp),Zad,a2,ZaG,Zcd,Zoh p room hn,Zad]
  dsimp only
  rw [eh,Zad,show ((ns ++ [nodeOn ns k h])[ns.length].en).Ahead=(ns ++ [nodeOn ns k h])[ns.length].ah from rfl,en,show (nodeOn ns k h).ah=(k:Int) from rfl,show (Zao.mk (aOf p room (ns ++ [nodeOn ns k h])) (rowI lp))=tOf p room (ns ++ [nodeOn ns k h]) lp from rfl,ZfJ hN ht' lv _ _ (.inl (by rw [T.len];omega)),Zad,ZhR,ZfC,Zah (by rw [Zda,List.length_append,List.length_singleton,T.len];omega),List.set_set]
  refine ⟨_,_,rfl,⟨?_,?_,T.ne,T.lv.grow T.tr T.len ht' hk rfl hx,by simp [T.len],ht'⟩,fun j h1 h2=>?_⟩
  ·rw [List.getElem?_set_ne (Ne.symm T.ne)];exact a2
  ·exact List.getElem?_set_self hit
  ·rw [List.getElem?_set_ne (Ne.symm h2),List.getElem?_set_ne (Ne.symm h1)]
theorem ZlN (hN:500≤N) {p:Zae} {gs:List Zcb} {cs:List ZbF} (hg:p.Gates=rowG gs) (hc:p.Checks=rowC cs) (lg:gs.length≤400) (lc:cs.length≤400) (hp:WfP p) (room:Int) (st:LL) :
  Zel N p room st=if rgood p gs cs=true then some (some (st.length+1),0,(st ++ [(aOf p (roomOf room) [rootN p]).lo]) ++ [tree2 st.length [-1]]) else some (none,1,st):=by
 unfold Zel
 rw [New_eq hN hg hc lg lc hp]
 cases rgood p gs cs with
 | false=>rfl
 | true=>
  rw [if_pos rfl,Zad,if_pos (c:=true=true) rfl]
  dsimp only
  rw [if_neg (by simp),List.length_append,List.length_singleton]
  rfl
theorem ZlO {p:Zae} (hp:WfP p) (room:Int) (st:LL):TreeAt ((st ++ [(aOf p room [rootN p]).lo]) ++ [tree2 st.length [-1]]) st.length (st.length+1) p room [rootN p] [-1] where
 a:=by rw [List.getElem?_append_left (by simp)];simp
 t:=by rw [List.getElem?_append_right (by simp)];simp
 ne:=by omega
 lv:=⟨by simp,fun i v hv=>by
  cases i with
  | zero=>cases hv;exact .inl rfl
  | succ i=>cases hv⟩
 len:=rfl
 tr:=Tree.one_node hp.h
theorem TreeAt.app {st:LL} {ia it:Nat} {p:Zae} {room:Int} {ns:List Nd} {lp:List Int} (T:TreeAt st ia it p room ns lp) (x:LL):TreeAt (st++x) ia it p room ns lp where
 a:=by rw [List.getElem?_append_left (List.getElem?_eq_some_iff.1 T.a).1];exact T.a
 t:=by rw [List.getElem?_append_left (List.getElem?_eq_some_iff.1 T.t).1];exact T.t
 ne:=T.ne
 lv:=T.lv
 len:=T.len
 tr:=T.tr
end Go.Dn.F
set_option maxRecDepth 100000
namespace Go.Dn.F
open Go.Dn Go.Proofs
variable {N:Nat}
structure Grown (st:LL) (ia it im:Nat) (p:Zae) (ns:List Nd) (lp:List Int):Prop where
 T:TreeAt st ia it p 100 ns lp
 m:st[im]? = some (rOf p 100 ns).lo
 pos:1≤ns.length
 small:ns.length≤41
 good:GoodT ns
 root:ns[0]? = some (rootN p)
theorem ZnZ {p:Zae} {gs:List Zcb} {cs:List ZbF} {room:Int} {ns:List Nd} {x:Nd} (hx:ns[0]? = some x) (h:Zai) (now:Int):(addT p gs cs room ns h now).2.2.2[0]? = some x:=by
 rcases Zgu p gs cs room ns h now with e | ⟨k,hk,_,_,_,_,e⟩
 ·rw [e];exact hx
 ·rw [e];dsimp only;rw [List.getElem?_append_left (by omega)];exact hx
structure WfC13 (c:Zbn):Prop where
 h:WfH c.Header
 n:i64R c.Now
noncomputable def rowC13 (l:List Zbn):LL:=l.map Zbn.ls
theorem Zjd {l:List Zbn} {i:Nat} (h:i<l.length):(rowC13 l)[i]? = some l[i].ls:=by simp [rowC13,h]
@[simp] theorem Zjp (l:List Zbn):len (rowC13 l)=(l.length:Int):=by simp [len,rowC13]
@[simp] theorem ZjE (l:List Zbn):(rowC13 l).length=l.length:=by simp [rowC13]
theorem open_C13 {xs:LL} (h : ∀x∈xs,LTys tysCm x) : ∃l,xs=rowC13 l∧∀x∈l,WfC13 x:=
 decode fun x hx=>by
  obtain ⟨_,_,rfl,h1,h⟩:=(h x hx).cons_inv
  obtain ⟨_,_,rfl,h2,h⟩:=h.cons_inv
  obtain ⟨_,_,rfl,h3,h⟩:=h.cons_inv
  obtain ⟨_,_,rfl,h4,h⟩:=h.cons_inv
  obtain ⟨_,_,rfl,h5,h⟩:=h.cons_inv
  obtain ⟨_,_,rfl,h6,h⟩:=h.cons_inv
  obtain ⟨_,_,rfl,h7,h⟩:=h.cons_inv
  cases h.nil_inv
  obtain ⟨a1,rfl,w1⟩:=h1.int_inv
  obtain ⟨a2,rfl,k2,w2⟩:=h2.arr_inv
  obtain ⟨a3,rfl,k3,w3⟩:=h3.arr_inv
  obtain ⟨a4,rfl,w4⟩:=h4.int_inv
  obtain ⟨a5,rfl,w5⟩:=h5.int_inv
  obtain ⟨a6,rfl,w6⟩:=h6.int_inv
  obtain ⟨a7,rfl,w7⟩:=h7.int_inv
  refine ⟨⟨⟨a1,a2,a3,a4,a5,a6⟩,a7⟩,rfl,⟨⟨ZeI w1,?_,ZeI w4,ZeI w5,ZeI w6⟩,ZeI w7⟩⟩
  simp only [wfH,Bool.and_eq_true]
  exact ⟨ZlI k2 w2,ZlI k3 w3⟩
theorem ZmI {p:Zae} (hp:WfP p) (l:List Zbn) (hl:l.length+900≤N) (hb:l.length≤maxLen) : ∃b,ZbM N p (rowC13 l)=some b∧(b=false→(∀x∈l,0≤x.Now)∧l.length≤40∧∃gs cs,p.Gates=rowG gs∧p.Checks=rowC cs∧gs.length≤400∧cs.length≤400∧rgood p gs cs=true):=by
 unfold ZbM
 have hm:maxLen=9223372036854775807:=rfl
 refine Zhp (fun m (v:Int)=>∃k:Nat,k+m=l.length∧v=(k:Int)∧∀x∈l.take k,0≤x.Now) ?_ N l.length 0 ⟨0,by omega,rfl,by simp⟩ (by omega)
 rintro G m _ ⟨k,hk,rfl,ha⟩ hG
 unfold ZbM.p1
 rw [Zjp]
 by_cases hlt:k<l.length
 ·rw [if_pos (by simp<;>omega),Zah (by omega),Int.toNat_natCast,Zjd hlt,ZaG,Zer,ZaC (by omega) (by omega)]
  by_cases h:l[k].Now<0
  ·rw [if_pos (by simpa using h)];exact ⟨true,rfl,fun h=>by cases h⟩
  ·rw [if_neg (by simpa using h)]
   refine hG (m-1) _ (by omega) ⟨k+1,by omega,by omega,fun x hx=>?_⟩
   rw [List.take_succ_eq_append_getElem hlt] at hx
   rcases List.mem_append.1 hx with hx | hx
   ·exact ha x hx
   ·cases List.mem_singleton.1 hx;omega
 ·rw [if_neg (by simp<;>omega)]
  rw [List.take_of_length_le (by omega)] at ha
  by_cases h1:len p.Gates>20
  ·rw [if_pos (by simpa using h1)];exact ⟨true,rfl,fun h=>by cases h⟩
  rw [if_neg (by simpa using h1)]
  by_cases h2:len p.Checks>20
  ·rw [if_pos (by simpa using h2)];exact ⟨true,rfl,fun h=>by cases h⟩
  rw [if_neg (by simpa using h2)]
  by_cases h3:(l.length:Int)>40
  ·rw [if_pos (by simpa using h3)];exact ⟨true,rfl,fun h=>by cases h⟩
  rw [if_neg (by simpa using h3)]
  obtain ⟨gs,eg⟩:=open_G hp.g
  obtain ⟨cs,ec⟩:=open_K hp.c
  have lg:gs.length≤400:=by simp [len,eg] at h1;omega
  have lc:cs.length≤400:=by simp [len,ec] at h2;omega
  rw [ZjK (by omega) eg lg ec lc,Zad]
  refine ⟨_,rfl,fun h=>⟨ha,by omega,gs,cs,eg,ec,lg,lc,by simpa using h⟩⟩
theorem ZmH (hN:1000≤N) {p:Zae} (hp:WfP p) {gs:List Zcb} {cs:List ZbF} (hg:p.Gates=rowG gs) (hc:p.Checks=rowC cs) (lg:gs.length≤400) (lc:cs.length≤400) (hgd:rgood p gs cs=true)
  (l:List Zbn) (hl : ∀x∈l,WfC13 x) (h40:l.length≤40) (hn : ∀x∈l,0≤x.Now) (st:LL) :
  ∃ia it im ns lp st',ZbH N p (rowC13 l) st=some (some it,some im,true,st')∧Grown st' ia it im p ns lp:=by
 unfold ZbH
 rw [ZlN (by omega) hg hc lg lc hp,hgd,if_pos rfl,Zad]
 dsimp only
 rw [Zky (by omega) hp,Zad,show roomOf 100=100 from rfl]
 dsimp only
 have T0:=(ZlO hp 100 st).app [(rOf p 100 [rootN p]).lo]
 have m0:(st ++ [(aOf p 100 [rootN p]).lo] ++ [tree2 st.length [-1]] ++ [(rOf p 100 [rootN p]).lo]:LL)[st.length+2]? = some (rOf p 100 [rootN p]).lo:=by
  rw [List.getElem?_append_right (by simp)];simp
 have e3:(st ++ [(aOf p 100 [rootN p]).lo] ++ [tree2 st.length [-1]]:LL).length=st.length+2:=by simp
 rw [e3]
 have key : ∃r,loopN (ZbH.p1 N (some (st.length+1)) (some (st.length+2)) (rowC13 l)) N (true,0,st ++ [(aOf p 100 [rootN p]).lo] ++ [tree2 st.length [-1]] ++ [(rOf p 100 [rootN p]).lo])=some r∧∃ns lp st',r=(some (st.length+1),some (st.length+2),true,st')∧Grown st' st.length (st.length+1) (st.length+2) p ns lp:=by
  generalize (st ++ [(aOf p 100 [rootN p]).lo] ++ [tree2 st.length [-1]] ++ [(rOf p 100 [rootN p]).lo]:LL)=s0 at T0 m0 ⊢
  generalize st.length=n at T0 m0 ⊢
  refine Zhp (Q:=fun r:(Option Nat)×(Option Nat)×Bool×LL=>∃ns lp st',r=(some (n+1),some (n+2),true,st')∧Grown st' n (n+1) (n+2) p ns lp) (fun m (s:Bool×Int×LL)=>∃(j:Nat) (ns:List Nd) (lp:List Int) (st':LL),s=(true,(j:Int),st')∧j+m=l.length∧ns.length≤j+1∧Grown st' n (n+1) (n+2) p ns lp) ?_ N l.length _ ⟨0,[rootN p],[-1],s0,rfl,by omega,by simp,T0,m0,by simp,by simp,Zmu hgd,rfl⟩ (by omega)
  rintro G m _ ⟨j,ns,lp,st,rfl,hj,h1,Gr⟩ hG
  have T:=Gr.T
  have ht:=T.tr
  have sm:=Gr.small
  have ps:=Gr.pos
  unfold ZbH.p1
  dsimp only
  rw [Zjp]
  by_cases hlt:j<l.length
  ·have wx:=hl _ (List.getElem_mem hlt)
   have nx:=hn _ (List.getElem_mem hlt)
   have rx:=wx.n
   unfold i64R at rx
   have l1:=addT_len p gs cs 100 ns l[j].Header l[j].Now
   obtain ⟨lp',st',ea,T',keep⟩:=skAdd_eq (N:=N) (by omega) hg hc lg lc (by omega) T wx.h l[j].Now (by omega)
   have m':st'[n+2]? = some (rOf p 100 ns).lo:=by rw [keep _ (by omega) (by omega)];exact Gr.m
   rw [if_pos (by simp<;>omega),Zah (by omega),Int.toNat_natCast,Zjd hlt,ZaG,Zer,ea,Zad]
   dsimp only
   rw [Zkz (by omega) hg hc lg lc (by omega) ht (by omega) m' wx.h _ (by omega),Zad]
   dsimp only
   rw [if_pos rfl,if_pos (by simp),if_pos (by simp),ZaC (by omega) (by omega)]
   refine hG (m-1) _ (by omega) ⟨j+1,_,lp',_,by rw [Int.natCast_add,beq_self_eq_true];rfl,by omega,by omega,⟨⟨?_,?_,T'.ne,T'.lv,T'.len,T'.tr⟩,?_,by omega,by omega,Zoa Gr.good _ _,ZnZ Gr.root _ _⟩⟩
   ·rw [List.getElem?_set_ne (by omega)];exact T'.a
   ·rw [List.getElem?_set_ne (by omega)];exact T'.t
   ·exact List.getElem?_set_self (List.getElem?_eq_some_iff.1 m').1
  ·rw [if_neg (by simp<;>omega)]
   exact ⟨_,rfl,ns,lp,st,rfl,Gr⟩
 obtain ⟨r,e,ns,lp,st',rfl,Gr⟩:=key
 exact ⟨st.length,st.length+1,st.length+2,ns,lp,st',e,Gr⟩
theorem alive13 (hN:1000≤N) : ∃st,Zdk N []=some (true,st):=by
 unfold Zdk
 rw [show (Zae.mk 545259519 4 10 0 false [] [] (List.replicate 4 0) (List.replicate 4 0) (Zai.mk 0 (List.replicate 32 0) (List.replicate 32 0) 0 0 0))=pA from rfl,ZlN (by omega) (p:=pA) (gs:=[]) (cs:=[]) rfl rfl (by simp) (by simp) pA_wf 5 [],if_pos (by kernel_rfl),Zad,show roomOf 5=5 from rfl]
 dsimp only
 have T:=ZlO pA_wf 5 []
 generalize (([] ++ [(aOf pA 5 [rootN pA]).lo]) ++ [tree2 ([]:LL).length [-1]]:LL)=st at T ⊢
 have Tt:=T.t
 unfold tree2 at Tt
 have ea:ancZ [rootN pA] 0 0=0:=rfl
 rw [if_pos (by rfl),Zad,Tt,ZaG,ZcV,Zad,T.a,ZaG,Zcd,show (Zao.mk (aOf pA 5 [rootN pA]) (rowI [-1]))=tOf pA 5 [rootN pA] [-1] from rfl]
 unfold Zcq
 rw [show (tOf pA 5 [rootN pA] [-1]).store=aOf pA 5 [rootN pA] from rfl,Zmn,Zad,Zad,if_pos (by rfl),ZfJ (by omega) T.tr T.lv _ _ (.inr (by simp)),Zad,ea,if_pos (by rfl),show Zcy N 8=some 0 by kernel_rfl,Zad,if_pos (by rfl),show Zcy N 7=some 1 by kernel_rfl,Zad]
 exact ⟨_,rfl⟩
def htsF:Nat→Nat→Int→Int→List Int
 | 0,_,_,_=>[]
 | f+1,c,step,h=>if h<0 then [] else h::(if 10<c+1 then htsF f (c+1) (step*2) (h-step*2) else htsF f (c+1) step (h-step))
def hts (h:Nat):List Int:=if 0<(htsF 60 0 1 (h:Int)).getLast?.getD 0 then htsF 60 0 1 (h:Int) ++ [0] else htsF 60 0 1 (h:Int)
@[simp] theorem ZeH (l:List Nat):(natI l).length=l.length:=by simp [natI]
theorem ZhV {l:List Nat} {i:Nat} (h:i<l.length):(rowI (natI l))[i]? = some [L.int .i64 ((l[i]:Nat):Int)]:=by simp [rowI,natI,h]
theorem ahead_at {ns:List Nd} (ht:Tree ns) {k m x:Nat} (hk:k<ns.length) (hx:(rowP ns k)[m+1]? = some x) : ∃(h:x<ns.length) (q:Nat),ns[x].ah=(q:Int)∧(rowP ns k)[m]? = some q:=by
 obtain ⟨h1,h2⟩:=ZhP ht hk hx
 obtain ⟨_,h3⟩:=Znj ht hk hx
 refine ⟨h1,?_⟩
 rcases Zeu ht h1 with ⟨z,a,e,c⟩ | ⟨q,hq,a,e,hq',c⟩
 ·omega
 ·refine ⟨q,a,?_⟩
  have l1:=ZfB ht h1
  have l2:=ZgJ ht hq'
  have e1:(rowP ns x)[m]? = (rowP ns k)[m]? := by rw [h2,List.getElem?_take_of_lt (by omega)]
  rw [←e1,e,List.getElem?_append_left (by have:=congrArg List.length e;simp at this;omega)]
  have:=congrArg List.length e
  simp at this
  rw [show (rowP ns q).length-1=m by omega] at l2
  exact l2
def pathS (ns:List Nd) (k:Int):List Nat:=if 0≤k∧k<(ns.length:Int) then (rowP ns k.toNat).drop 1 else []
theorem ZlT (l:List Int) (i:Nat) (x:Int):(rowI l).set i [L.int .i64 x]=rowI (l.set i x):=by simp [rowI,List.map_set]
theorem Path_eq (hN:600≤N) {p:Zae} {room:Int} {ns:List Nd} {lp:List Int} (ht:Tree ns) (k:Int):Zbc N (tOf p room ns lp) k=some (rowI (natI (pathS ns k))):=by
 have sm:=ht.small
 unfold Zbc pathS
 rw [Zfu,Zad]
 by_cases hk0:k<0∨(ns.length:Int)≤k
 ·rw [ZjX hk0,if_neg (c:=0≤k∧k<(ns.length:Int)) (by omega),show (if (0:Int) > -1 then (0:Int) else -1)=0 from rfl,Zah (by omega),Zah (by omega),Zah (by omega),ZaC (by simp) (by simp)]
  obtain ⟨n,rfl⟩ : ∃n,N=n+1:=⟨N-1,by omega⟩
  rw [Zau]
  unfold Zbc.p1
  dsimp only
  rw [if_neg (by simp),show (if (0:Int) > -1 then (0:Int) else -1)=0 from rfl,Zah (by simp)]
  rfl
 obtain ⟨k,rfl⟩ : ∃j:Nat,k=(j:Int):=⟨k.toNat,by omega⟩
 have hk:k<ns.length:=by omega
 have lk:=ZfB ht hk
 have pk:=ZlS ht hk
 have bk:=(ht.ch _ (List.getElem_mem hk)).2
 obtain ⟨n,hn⟩ : ∃n,(rowP ns k).length=n+1:=⟨(rowP ns k).length-1,by omega⟩
 have e0:(if (0:Int)>hZ ns (k:Int) then (0:Int) else hZ ns (k:Int))=(n:Int):=by
  rw [ZlC hk,if_neg (by omega)];omega
 rw [if_pos (c:=0≤(k:Int)∧(k:Int)<(ns.length:Int)) (by omega),Int.toNat_natCast]
 unfold Zbc.p1
 simp only [e0,Int.toNat_natCast]
 rw [Zah (by omega),Zah (by omega),Zah (by omega),ZaC (by omega) (by omega),show List.replicate n [L.int .i64 0]=rowI (List.replicate n 0) by simp [rowI]]
 refine ZbJ (fun m' (s:Int×Int×LL)=>∃(m x:Nat),m=m'∧m≤n∧s=((x:Int),(m:Int)-1,rowI (List.replicate m 0++natI ((rowP ns k).drop (m+1))))∧(rowP ns k)[m]? = some x) ?_ N n _ ⟨n,k,rfl,Nat.le_refl _,?_,?_⟩ (by omega)
 ·rintro G m' _ ⟨m,x,rfl,hm,rfl,hx⟩ hG
  dsimp only
  cases m with
  | zero=>
   rw [if_neg (by simp),Zah (by simp [hn]),List.take_of_length_le (by simp [hn])]
   rfl
  | succ m=>
   obtain ⟨h1,q,a,eq⟩:=ahead_at ht hk hx
   rw [show ((m+1:Nat):Int)-1=(m:Int) by omega,if_pos (by simp),Zah (by omega),Zah (by omega),Zlk p room lp h1,Zad]
   dsimp only
   rw [show (ns[x].en).Ahead=ns[x].ah from rfl,a,Nat.zero_add,Int.toNat_natCast,ZlT,ZaC (by omega) (by omega)]
   refine hG m _ (by omega) ⟨m,q,rfl,by omega,?_,eq⟩
   have hlt:m+1<(rowP ns k).length:=(List.getElem?_eq_some_iff.1 hx).1
   have e1:(rowP ns k).drop (m+1)=x::(rowP ns k).drop (m+1+1):=by
    rw [List.drop_eq_getElem_cons hlt]
    congr 1
    exact (List.getElem?_eq_some_iff.1 hx).2
   have e2:(List.replicate (m+1) (0:Int)++natI ((rowP ns k).drop (m+1+1))).set m (x:Int)=List.replicate m 0++natI ((rowP ns k).drop (m+1)):=by
    rw [e1,List.replicate_succ',List.append_assoc,List.set_append_right _ _ (by simp)]
    simp [natI]
   rw [e2]
 ·rw [show n+1=(rowP ns k).length by omega,List.drop_length]
  simp [natI]
 ·have:=ZgJ ht hk
  rwa [show (rowP ns k).length-1=n by omega] at this
theorem is13_eq (p:Zae) (room:Int) (ns:List Nd) (k:Int):ZdB N (rOf p room ns) k=some (decide (0≤k∧k<(ns.length:Int))):=by
 unfold ZdB
 have ll:(rOf p room ns).List_=rowH (ns.map Nd.hd):=rfl
 rw [ll,Zgo,List.length_map]
 by_cases h:k≥0
 ·rw [if_pos (by simpa using h)];congr 1;simp;omega
 ·rw [if_neg (by simpa using h)];congr 1;rw [decide_eq_false (by omega)]
theorem Zkx (hN:600≤N) {p:Zae} {room:Int} {ns:List Nd} (ht:Tree ns) (k h:Int):Zct N (rOf p room ns) k h=some (ancZ ns k h):=by
 have sm:=ht.small
 unfold Zct
 rw [is13_eq,Zad]
 by_cases hk0:k<0∨(ns.length:Int)≤k
 ·rw [if_pos (by simp;omega)];unfold ancZ;rw [if_neg (by omega)]
 obtain ⟨k,rfl⟩ : ∃j:Nat,k=(j:Int):=⟨k.toNat,by omega⟩
 have hk:k<ns.length:=by omega
 rw [if_neg (by simp;omega),ZfW ht (by omega) hk,Zad,Zah (Zfo _),ZcW,ZeH]
 by_cases h0:h<0
 ·rw [if_pos (by simpa using h0)];unfold ancZ;rw [if_neg (by omega)]
 rw [if_neg (by simpa using h0)]
 obtain ⟨h,rfl⟩ : ∃j:Nat,h=(j:Int):=⟨h.toNat,by omega⟩
 by_cases h1:(h:Int)≥((rowP ns k).length:Int)
 ·rw [if_pos (by simpa using h1)];unfold ancZ
  rw [if_pos (by omega),Int.toNat_natCast,Int.toNat_natCast,List.getElem?_eq_none (by omega)];rfl
 have hl:h<(rowP ns k).length:=by omega
 rw [if_neg (by simpa using h1),Zah (by omega),Zah (by omega),Nat.zero_add,Int.toNat_natCast,ZhV hl,ZaG,ZcK,ZlF hk (List.getElem?_eq_getElem hl)]
theorem ZhO {p:Zae} (hp:WfP p) (l:List Zbn) (hl : ∀x∈l,WfC13 x) (hb:l.length≤maxLen) (at_ height:Int) :
  ∃st,Zak (l.length+1000) p (rowC13 l) at_ height []=some (true,st):=by
 unfold Zak
 obtain ⟨s1,al⟩:=alive13 (N:=l.length+1000) (by omega)
 rw [al,Zad]
 dsimp only
 rw [if_neg (by simp)]
 obtain ⟨b,e,hgr⟩:=ZmI (N:=l.length+1000) hp l (by omega) hb
 rw [e,Zad]
 cases b with
 | true=>rw [if_pos rfl];exact ⟨_,rfl⟩
 | false=>
  obtain ⟨hn,h40,gs,cs,eg,ec,lg,lc,hgd⟩:=hgr rfl
  rw [if_neg (by simp)]
  obtain ⟨N,hN⟩ : ∃N,l.length+1000=N+1:=⟨l.length+999,rfl⟩
  rw [hN]
  obtain ⟨ia,it,im,ns,lp,st,eg,Gr⟩:=ZmH (N:=N+1) (by omega) hp eg ec lg lc hgd l hl h40 hn s1
  have sm:=Gr.small
  have ht:=Gr.T.tr
  have Tt:=Gr.T.t
  unfold tree2 at Tt
  have ll:(rOf p 100 ns).List_=rowH (ns.map Nd.hd):=rfl
  have A : ∀k h,Zan (N+1) (Zao.mk (aOf p 100 ns) (rowI lp)) k h=some (ancZ ns k h):=fun k h=>ZfJ (by omega) ht Gr.T.lv k h (.inr (by rw [Gr.T.len];omega))
  have W : ∀k h,ZbR (N+1) (Zao.mk (aOf p 100 ns) (rowI lp)) k h=some (withinB ns k h):=fun k h=>Zob (by omega) ht Gr.T.lv (by rw [Gr.T.len];omega) k h
  rw [eg,Zad]
  dsimp only
  rw [if_neg (by simp),Zad,Tt,ZaG,ZcV,Zad,Gr.T.a,ZaG,Zcd]
  unfold Zcq
  rw [Zmn,Zad,Zad,Zad,Gr.m,ZaG,Zcw,ll,Zgo,List.length_map,if_neg (by simp),A,Zad,Zkx (by omega) ht,Zad,if_neg (by simp)]
  refine ⟨st,?_⟩
  refine ZbJ (fun m (s:Int)=>∃i:Nat,i+m=ns.length∧s=(i:Int)) ?_ (N+1) ns.length _ ⟨0,by omega,rfl⟩ (by omega)
  rintro G m _ ⟨i,him,rfl⟩ hG
  unfold Zak.p1
  rw [ll,Zgo,List.length_map]
  by_cases hi:i<ns.length
  ·have li:=ZfB ht hi
   have bi:=(ht.ch _ (List.getElem_mem hi)).2
   have pi:=ZlS ht hi
   have ep:pathS ns (i:Int)=(rowP ns i).drop 1:=by unfold pathS;rw [if_pos (by omega),Int.toNat_natCast]
   rw [if_pos (by simp<;>omega),Gr.m,ZaG,Zcw,ZfW ht (by omega) hi,Zad,Zah (Zfo _),Tt,ZaG,ZcV,Zad,Gr.T.a,ZaG,Zcd,show (Zao.mk (aOf p 100 ns) (rowI lp))=tOf p 100 ns lp from rfl,Path_eq (by omega) ht,Zad,Zah (Zfo _),ZcW,ZeH,ZcW,ZeH,ep,List.length_drop,ZaC (by omega) (by omega),if_neg (by simp;omega)]
   refine ZbJ (fun m' (s:Int)=>∃k:Nat,k+m'=(rowP ns i).length∧s=(k:Int)) ?_ (N+1) (rowP ns i).length _ ⟨0,by omega,rfl⟩ (by omega)
   rintro G2 m' _ ⟨k,hk,rfl⟩ hG2
   unfold Zak.p2
   rw [ZcW,ZeH]
   by_cases hkl:k<(rowP ns i).length
   ·have ek:=List.getElem?_eq_getElem hkl
    have hz:=(ZhP ht hi ek).1
    have w:withinB ns (((rowP ns i)[k]:Nat):Int) (i:Int)=true:=by
     unfold withinB
     rw [decide_eq_true_eq,Int.toNat_natCast,Int.toNat_natCast]
     exact ⟨by omega,by omega,by omega,by omega,List.getElem_mem hkl⟩
    rw [if_pos (by simp<;>omega),Tt,ZaG,ZcV,Zad,Gr.T.a,ZaG,Zcd,A,Zad,ZlF hi ek,Zah (by omega),Nat.zero_add,Int.toNat_natCast,ZhV hkl,ZaG,ZcK,if_neg (by simp),W,Zad,w,if_neg (by simp),ZaC (n:=(k:Int)+1) (by omega) (by omega)]
    have nxt:G2 ((k:Int)+1)=some (true,st):=hG2 (m'-1) _ (by omega) ⟨k+1,by omega,by omega⟩
    by_cases h0:(k:Int)>0
    ·obtain ⟨q,rfl⟩ : ∃q,k=q+1:=⟨k-1,by omega⟩
     have hq:q<((rowP ns i).drop 1).length:=by rw [List.length_drop];omega
     have eq:((rowP ns i).drop 1)[q]=(rowP ns i)[q+1]:=by rw [List.getElem_drop];congr 1;omega
     rw [if_pos (by simp),ZaC (by omega) (by omega),show ((q+1:Nat):Int)-1=(q:Int) by omega,Zah (by omega),ZcW,ZeH,List.length_drop,Zah (by omega),Nat.zero_add,Int.toNat_natCast,ZhV hq,ZaG,ZcK,eq,if_neg (by simp)]
     exact nxt
    ·rw [if_neg (by simpa using h0)];exact nxt
   ·rw [if_neg (by simp<;>omega)]
    refine ZbJ (fun m2 (s:Bool×Int)=>∃k:Nat,k+m2=(rowP ns i).length∧s=(decide (at_∈natI ((rowP ns i).take k)),(k:Int))) ?_ (N+1) (rowP ns i).length _ ⟨0,by omega,by simp [natI]⟩ (by omega)
    rintro G3 m2 _ ⟨k,hk,rfl⟩ hG3
    unfold Zak.p3
    dsimp only
    rw [ZcW,ZeH]
    by_cases hkl:k<(rowP ns i).length
    ·have et:natI ((rowP ns i).take (k+1))=natI ((rowP ns i).take k) ++ [(((rowP ns i)[k]:Nat):Int)]:=by
      rw [List.take_succ_eq_append_getElem hkl];exact List.map_append
     rw [if_pos (by simp<;>omega),Zah (by omega),Nat.zero_add,Int.toNat_natCast,ZhV hkl,ZaG,ZcK,ZaC (by omega) (by omega)]
     by_cases hin:at_∈natI ((rowP ns i).take k)
     ·rw [if_pos (by simpa using hin)]
      refine hG3 (m2-1) _ (by omega) ⟨k+1,by omega,?_⟩
      rw [et,decide_eq_true (List.mem_append.2 (.inl hin)),Int.natCast_add];rfl
     ·rw [if_neg (by simpa using hin)]
      refine hG3 (m2-1) _ (by omega) ⟨k+1,by omega,?_⟩
      have e5:((((rowP ns i)[k]:Nat):Int)==at_)=decide (at_∈natI ((rowP ns i).take k) ++ [(((rowP ns i)[k]:Nat):Int)]):=by
       by_cases hq:at_=(((rowP ns i)[k]:Nat):Int)
       ·rw [decide_eq_true (List.mem_append.2 (.inr (List.mem_singleton.2 hq))),hq];simp
       ·rw [decide_eq_false (fun h=>by
         rcases List.mem_append.1 h with h | h
         ·exact hin h
         ·exact hq (List.mem_singleton.1 h))]
        simp;omega
      rw [et,Int.natCast_add,e5];rfl
    ·have ew:withinB ns at_ (i:Int)=decide (at_∈natI ((rowP ns i).take k)):=by
      rw [List.take_of_length_le (by omega)]
      unfold withinB natI
      rw [decide_eq_decide,Int.toNat_natCast]
      constructor
      ·rintro ⟨h1,h2,h3,h4,h5⟩
       exact List.mem_map.2 ⟨at_.toNat,h5,by omega⟩
      ·intro h
       obtain ⟨x,hx,rfl⟩:=List.mem_map.1 h
       obtain ⟨hx1,_⟩:=ZhQ ht hi hx
       exact ⟨by omega,by omega,by omega,by omega,by rw [Int.toNat_natCast];exact hx⟩
     have a1:ancZ ns (i:Int) ((rowP ns i).length:Int) = -1:=by
      unfold ancZ
      rw [if_pos (by omega),Int.toNat_natCast,Int.toNat_natCast,List.getElem?_eq_none (by omega)];rfl
     have a2:ancZ ns (i:Int) (-1) = -1:=by unfold ancZ;rw [if_neg (by omega)]
     rw [if_neg (by simp<;>omega),Tt,ZaG,ZcV,Zad,Gr.T.a,ZaG,Zcd,W,Zad,ew,if_neg (by simp),A,Zad,a1,if_neg (by simp),A,Zad,a2,if_neg (by simp),ZaC (by omega) (by omega)]
     exact hG (m-1) _ (by omega) ⟨i+1,by omega,by omega⟩
  ·rw [if_neg (by simp<;>omega)]
   kernel_rfl
theorem SkipAncestors_true {ls:List L} (xs:LL) (k h:Int) (h0:LTys tysP ls) (h1 : ∀x∈xs,LTys tysCm x) (l1:xs.length≤maxLen) (w2:(Lit.int .i64 k).wf=true) (w3:(Lit.int .i64 h).wf=true) :
  ∃st,Snd Tryz.prog 7 [.agg ls,.one (.sl 69 xs),.one (.int .i64 k),.one (.int .i64 h)] [] [.one (.bool true)] st:=by
 obtain ⟨p,rfl,hp⟩:=open_P h0
 obtain ⟨l,rfl,hl⟩:=open_C13 h1
 obtain ⟨st,h⟩:=ZhO hp l hl (by rw [ZjE] at l1;exact l1) k h
 exact ⟨st,Zak.snd h⟩
end Go.Dn.F
