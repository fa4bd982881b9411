/- A tree of headers, as a row of nodes, each with its whole chain; the program's arena of such a tree. -/
import Derived.Test.YtbplamjmmjnibaaGreatDoorNum
import Derived.Test.YtbplamjmmjnibaaGreatDoorRul
set_option linter.unusedSimpArgs false
set_option linter.unusedVariables false
set_option maxRecDepth 40000
namespace Go.Dn.F
open Go.Dn Go.Proofs
variable {N:Nat}
structure Nd where
 ch:List Zam
 ah:Int
 wk:Int
def h0:Zam:=⟨0,List.replicate 32 0,List.replicate 32 0,0,0,0⟩
def Nd.hd (n:Nd):Zam:=n.ch.getLast?.getD h0
def Nd.id (n:Nd):List Int:=hid n.hd
noncomputable def Nd.en (n:Nd):ZbG:=⟨n.hd,n.id,n.ah,(n.ch.length:Int)-1,nw n.wk⟩
noncomputable def rowE (ns:List Nd):LL:=ns.map fun n=>n.en.ls
noncomputable def rowS (p:Zal) (ns:List Nd):LL:=ns.map fun n=>(spotA p n.ch).ls
def idMap:Nat→List (List Int)→LM
 | _,[]=>[]
 | i,x::l=>(L.arr .u8 32 x,L.int .i64 (i:Int))::idMap (i+1) l
def ids (ns:List Nd):List (List Int):=ns.map Nd.id
def place:Nat→List (List Int)→List Int→Option Nat
 | _,[],_=>none
 | i,y::l,x=>if x=y then some i else place (i+1) l x
theorem Zfd : ∀(l:List (List Int)) (i:Nat) (x:List Int),mfind (idMap i l) (L.arr .u8 32 x)=some ((place i l x).map fun k=>(k-i,L.int .i64 (k:Int)))
 | [],i,x=>rfl
 | y::l,i,x=>by
  rw [idMap,mfind]
  simp only [keyEq,and_self,if_true]
  unfold place
  by_cases h:x=y
  ·subst h;simp
  ·rw [show (x==y)=false by simpa using h,if_neg h,Zfd l (i+1) x]
   cases e:place (i+1) l x with
   | none=>rfl
   | some k=>
    have : ∀(l:List (List Int)) (i k:Nat),place i l x=some k→i≤k:=by
     intro l
     induction l with
     | nil=>intro i k h;cases h
     | cons z l ih=>
      intro i k h
      unfold place at h
      split at h
      ·cases h;omega
      ·have:=ih _ _ h;omega
    have:=this l (i+1) k e
    simp only [Option.map_some]
    rw [show k-(i+1)+1=k-i by omega]
theorem ZfT : ∀(l:List (List Int)) (i:Nat) (x:List Int),idMap i (l ++ [x])=idMap i l ++ [(L.arr .u8 32 x,L.int .i64 ((i+l.length:Nat):Int))]
 | [],i,x=>rfl
 | y::l,i,x=>by rw [List.cons_append,idMap,ZfT l (i+1) x,idMap,List.length_cons,show i+1+l.length=i+(l.length+1) by omega];rfl
theorem Zfz : ∀{l:List (List Int)} {i k:Nat} {x:List Int},place i l x=some k→i≤k∧∃h:k-i<l.length,l[k-i]=x
 | y::l,i,k,x,h=>by
  unfold place at h
  split at h
  ·rename_i e;cases h;exact ⟨by omega,by simp,by simp [e]⟩
  ·obtain ⟨h1,h2,h3⟩:=Zfz h
   refine ⟨by omega,by simp;omega,?_⟩
   have:k-i=(k-(i+1))+1:=by omega
   simp only [this,List.getElem_cons_succ];exact h3
theorem Zhf : ∀{l:List (List Int)} {i:Nat} {x:List Int},place i l x=none→x∉l
 | [],_,_,_=>by simp
 | y::l,i,x,h=>by
  unfold place at h
  split at h
  ·cases h
  ·rename_i e;simp [e,Zhf h]
noncomputable def aOf (p:Zal) (room:Int) (ns:List Nd):Zan:=⟨p,rowE ns,rowS p ns,idMap 0 (ids ns),room⟩
theorem Zjs {ns:List Nd} {i:Nat} (h:i<ns.length):(rowE ns)[i]? = some ns[i].en.ls:=by simp [rowE,h]
theorem rowS_get {p:Zal} {ns:List Nd} {i:Nat} (h:i<ns.length):(rowS p ns)[i]? = some (spotA p ns[i].ch).ls:=by simp [rowS,h]
@[simp] theorem Zfe (ns:List Nd):len (rowE ns)=(ns.length:Int):=by simp [len,rowE]
@[simp] theorem len_rowS (p:Zal) (ns:List Nd):len (rowS p ns)=(ns.length:Int):=by simp [len,rowS]
structure Tree (ns:List Nd):Prop where
 small:ns.length≤512
 ch : ∀n∈ns,n.ch ≠ []∧n.ch.length≤ns.length
 wf : ∀n∈ns,∀x∈n.ch,WfH x
 wk : ∀n∈ns,isN n.wk
 ah : ∀(i:Nat) (h:i<ns.length),(i=0∧ns[i].ah = -1∧ns[i].ch.length=1)∨∃(k:Nat) (hk:k<i),ns[i].ah=(k:Int)∧ns[i].ch=ns[k].ch ++ [ns[i].hd]
 one:(ids ns).Nodup
theorem Nd.hd_snoc {n:Nd} {c:List Zam} {h:Zam} (e:n.ch=c ++ [h]):n.hd=h:=by unfold Nd.hd;rw [e];simp
theorem ZgY (p:Zal) (c:List Zam) (h:Zam):(spotA p (c ++ [h])).Prev=hid h:=by
 unfold spotA;rw [List.foldl_append];rfl
theorem ZkF {st:LL} {i:Nat} {p:Zal} {room:Int} {ns:List Nd} (hst:st[i]? = some (aOf p room ns).lo) (hl:ns.length≤512) (nd:Nd) (hid':place 0 (ids ns) nd.id=none) :
  ZaD.p1 N (some i) (spotA p nd.ch) nd.en st=some ((ns.length:Int),st.set i (aOf p room (ns ++ [nd])).lo):=by
 unfold ZaD.p1
 have e1:(aOf p room ns).list ++ [nd.en.ls]=rowE (ns ++ [nd]):=by show rowE ns++_=_;simp [rowE]
 have e2:(aOf p room ns).spots ++ [(spotA p nd.ch).ls]=rowS p (ns ++ [nd]):=by show rowS p ns++_=_;simp [rowS]
 have e3:(aOf p room ns).places ++ [(L.arr .u8 32 nd.en.Id,L.int .i64 (ns.length:Int))]=idMap 0 (ids (ns ++ [nd])):=by
  show idMap 0 (ids ns)++_=_
  unfold ids
  rw [List.map_append]
  show _=idMap 0 (List.map Nd.id ns ++ [nd.id])
  rw [ZfT,List.length_map,Nat.zero_add];rfl
 have l1:(rowE (ns ++ [nd])).length=ns.length+1:=by simp [rowE]
 have l2:(rowS p (ns ++ [nd])).length=ns.length+1:=by simp [rowS]
 rw [Zad,hst,ZaQ,Zbs,e1,e2,Zak (by rw [l1];omega),Zak (by rw [l2];omega),show mfind (aOf p room ns).places (L.arr .u8 32 nd.en.Id)=some none by
  show mfind (idMap 0 (ids ns)) (L.arr .u8 32 nd.id)=_
  rw [Zfd,hid'];rfl]
 show some _=_
 rw [Zfe,List.length_append,List.length_singleton,ZaG (by omega) (by omega),show ((ns.length+1:Nat):Int)-1=(ns.length:Int) by omega,e3]
 simp only [List.set_set]
 rfl
theorem keep_eq (hN:300≤N) {st:LL} {i:Nat} {p:Zal} {room:Int} {ns:List Nd} (hst:st[i]? = some (aOf p room ns).lo) (hl:ns.length≤512) {k:Nat} (hk:k<ns.length) (hw:isN ns[k].wk) (hlen:ns[k].ch.length≤600)
  {h:Zam} (nd:Nd) (hch:nd.ch=ns[k].ch ++ [h]) (hah:nd.ah=(k:Int)) (hwk:nd.wk=wkAdd ns[k].wk (wkBits h.Bits)) (hid':place 0 (ids ns) (hid h)=none) :
  ZaD N (some i) h (k:Int) (spotA p nd.ch) st=some ((ns.length:Int),st.set i (aOf p room (ns ++ [nd])).lo):=by
 have hd:=nd.hd_snoc hch
 unfold ZaD
 rw [ZeL hN,Zad,if_pos (by simp<;>omega),Zad,hst,ZaQ,Zbs,show (aOf p room ns).list=rowE ns from rfl,Zfe,Zak (by omega),Zak (by omega),Int.toNat_natCast,Nat.zero_add,Zjs hk,ZaQ,ZdQ,show (ns[k].en).Work=nw ns[k].wk from rfl,ZiP (by omega) hw (Zft _),Zad,show (ns[k].en).Height=(ns[k].ch.length:Int)-1 from rfl,ZaG (by omega) (by omega)]
 have e:ZbG.mk h (spotA p nd.ch).Prev (k:Int) ((ns[k].ch.length:Int)-1+1) (nw (wkAdd ns[k].wk (wkBits h.Bits)))=nd.en:=by
  unfold Nd.en Nd.id
  rw [hd,hch,ZgY,hah,hwk,List.length_append,List.length_singleton]
  congr 1;omega
 rw [e]
 refine ZkF hst hl nd ?_
 unfold Nd.id;rw [hd];exact hid'
theorem keep0_eq (hN:300≤N) {st:LL} {i:Nat} {p:Zal} {room:Int} (hst:st[i]? = some (aOf p room []).lo) {h:Zam} (nd:Nd) (hch:nd.ch = [h]) (hah:nd.ah = -1) (hwk:nd.wk=wkBits h.Bits) :
  ZaD N (some i) h (-1) (spotA p nd.ch) st=some (0,st.set i (aOf p room [nd]).lo):=by
 have hd:nd.hd=h:=nd.hd_snoc (c:=[]) hch
 unfold ZaD
 rw [ZeL hN,Zad,if_neg (by simp)]
 have e:ZbG.mk h (spotA p nd.ch).Prev (-1) 0 (nw (wkBits h.Bits))=nd.en:=by
  unfold Nd.en Nd.id
  rw [hd,hch,show (spotA p [h]).Prev=hid h from ZgY p [] h,hah,hwk];rfl
 rw [e]
 exact ZkF (ns:=[]) hst (by simp) nd rfl
def chAt (ns:List Nd) (k:Nat):List Zam:=(ns[k]?.map Nd.ch).getD []
def wkAt (ns:List Nd) (k:Nat):Int:=(ns[k]?.map Nd.wk).getD 0
theorem ZhM {ns:List Nd} {k:Nat} (h:k<ns.length):chAt ns k=ns[k].ch:=by simp [chAt,h]
theorem Zkh {ns:List Nd} {k:Nat} (h:k<ns.length):wkAt ns k=ns[k].wk:=by simp [wkAt,h]
def nodeOn (ns:List Nd) (k:Nat) (h:Zam):Nd:=⟨chAt ns k ++ [h],(k:Int),wkAdd (wkAt ns k) (wkBits h.Bits)⟩
def addT (p:Zal) (gs:List ZbJ) (cs:List Zbw) (room:Int) (ns:List Nd) (h:Zam) (now:Int):Int×Int×Int×List Nd:=
 if hgood h=false then (-1,1,8,ns) else
 match place 0 (ids ns) (hid h) with
 | some k=>((k:Int),0,0,ns)
 | none=>match place 0 (ids ns) h.Prev with
  | none=>(-1,2,5,ns)
  | some k=>if checkS p gs cs (spotA p (chAt ns k)) h now≠0 then (-1,checkS p gs cs (spotA p (chAt ns k)) h now,8,ns)
   else if room≤(ns.length:Int) then (-1,0,6,ns) else ((ns.length:Int),0,0,ns ++ [nodeOn ns k h])
theorem set_same {st:LL} {i:Nat} {x:List L} (h:st[i]? = some x):st.set i x=st:=by
 apply List.ext_getElem?
 intro j
 by_cases e:i=j
 ·subst e
  obtain ⟨hi,e⟩:=List.getElem?_eq_some_iff.1 h
  rw [List.getElem?_set_self hi,h]
 ·rw [List.getElem?_set_ne e]
theorem Zkp (p:Zal) (c:List Zam):wfS (spotA p c)=true:=by
 have h : ∀l:List Zam,∃ts:List Int,(spotA p l).Times=rowI ts∧ts.length≤11:=by
  refine rev_ind ⟨[],rfl,by simp⟩ (fun l h ih=>?_)
  unfold spotA at *
  rw [List.foldl_append]
  exact ⟨_,rfl,by simp;omega⟩
 obtain ⟨ts,h1,h2⟩:=h c
 simp only [wfS,h1,isI_row,Bool.true_and,decide_eq_true_eq,ZeR]
 omega
theorem Add_eq (hN:500≤N) {st:LL} {i:Nat} {p:Zal} {gs:List ZbJ} {cs:List Zbw} (hg:p.Gates=rowG gs) (hc:p.Checks=rowC cs) (lg:gs.length≤400) (lc:cs.length≤400) {room:Int} (hroom:room≤512) {ns:List Nd} (ht:Tree ns) (hst:st[i]? = some (aOf p room ns).lo)
  {h:Zam} (hh:WfH h) (now:Int) (hnow : -1152921504606846976≤now∧now≤9223372036854775807) :
  Zaq N (some i) h now st=some ((addT p gs cs room ns h now).1,(addT p gs cs room ns h now).2.1,(addT p gs cs room ns h now).2.2.1,st.set i (aOf p room (addT p gs cs room ns h now).2.2.2).lo):=by
 have ss:=set_same hst
 unfold Zaq addT
 rw [if_neg (c:=Option.isNone (some i)=true) (by simp),ZcG,Zad]
 cases hgd:hgood h with
 | false=>rw [if_pos (by rfl),if_pos (c:=false=false) rfl];dsimp only;rw [ss]
 | true=>
  rw [if_neg (c:=(!true)=true) (by simp),if_neg (c:=true=false) (by simp),Zad,hst,ZaQ,Zbs,Zdy hN hh.w,Zad,show (aOf p room ns).places=idMap 0 (ids ns) from rfl,Zfd]
  cases e1:place 0 (ids ns) (hid h) with
  | some k=>
   show Zaq.p1 N i now (k:Int) true h st=_
   unfold Zaq.p1
   rw [if_pos rfl];dsimp only;rw [ss]
  | none=>
   show Zaq.p1 N i now 0 false h st=_
   unfold Zaq.p1
   rw [if_neg (by simp),hst,ZaQ,Zbs,show (aOf p room ns).places=idMap 0 (ids ns) from rfl,Zfd]
   cases e2:place 0 (ids ns) h.Prev with
   | none=>
    show Zaq.p2 N i now 0 false h st=_
    unfold Zaq.p2
    rw [if_pos (by rfl)];dsimp only;rw [ss]
   | some k=>
    show Zaq.p2 N i now (k:Int) true h st=_
    obtain ⟨_,hk,_⟩:=Zfz e2
    have hk':k<ns.length:=by simpa [ids] using hk
    have sw:=Zkp p ns[k].ch
    have isT:isI (spotA p ns[k].ch).Times=true:=by simp only [wfS,Bool.and_eq_true] at sw;exact sw.1
    unfold Zaq.p2
    dsimp only
    rw [if_neg (c:=(!true)=true) (by simp),hst,ZaQ,Zbs,show (aOf p room ns).spots=rowS p ns from rfl,len_rowS,Zak (by omega),Zak (by omega),Int.toNat_natCast,Nat.zero_add,rowS_get hk',ZaQ,ZfY,show (aOf p room ns).rules=p from rfl,Zhp hN hg hc lg lc hh.w isT now hnow,Zad,ZhM hk']
    by_cases h4:checkS p gs cs (spotA p ns[k].ch) h now=0
    ·rw [if_neg (c:=(checkS p gs cs (spotA p ns[k].ch) h now != 0)=true) (by simp [h4]),if_neg (c:=checkS p gs cs (spotA p ns[k].ch) h now≠0) (by simp [h4]),show (aOf p room ns).list=rowE ns from rfl,Zfe,show (aOf p room ns).room=room from rfl]
     by_cases h5:room≤(ns.length:Int)
     ·rw [if_pos (by simpa using h5),if_pos h5];dsimp only;rw [ss]
     ·rw [if_neg (by simpa using h5),if_neg h5,Zep hN hh.w sw,Zad]
      have be:behind p (spotA p ns[k].ch) h=spotA p (nodeOn ns k h).ch:=by
       unfold nodeOn spotA
       rw [ZhM hk',List.foldl_append];rfl
      have hm:=List.getElem_mem hk'
      have sm:=ht.small
      have cl:=(ht.ch _ hm).2
      rw [be,keep_eq (by omega) hst ht.small hk' (ht.wk _ hm) (by omega) (nodeOn ns k h) (by unfold nodeOn;rw [ZhM hk']) rfl (by unfold nodeOn;rw [Zkh hk']) e1,Zad]
    ·rw [if_pos (c:=(checkS p gs cs (spotA p ns[k].ch) h now != 0)=true) (by simpa using h4),if_pos (c:=checkS p gs cs (spotA p ns[k].ch) h now≠0) h4];dsimp only;rw [ss]
theorem ZjR (i:Nat) (y:List Int) (l:List (List Int)) (x:List Int):place i (y::l) x=if x=y then some i else place (i+1) l x:=rfl
def placeI (o:Option Nat):Int:=match o with
 | some k=>(k:Int)
 | none=>-1
theorem Tree.one_node {g:Zam} (hg:WfH g):Tree [⟨[g],-1,wkBits g.Bits⟩] where
 small:=by simp
 ch:=fun n hn=>by cases List.mem_singleton.1 hn;simp
 wf:=fun n hn x hx=>by cases List.mem_singleton.1 hn;cases List.mem_singleton.1 hx;exact hg
 wk:=fun n hn=>by cases List.mem_singleton.1 hn;exact Zft _
 ah:=fun i h=>.inl ⟨by simpa using h,by simp at h;subst h;rfl,by simp at h;subst h;rfl⟩
 one:=by simp [ids]
theorem Tree.grow {ns:List Nd} (ht:Tree ns) {k:Nat} (hk:k<ns.length) {h:Zam} (hh:WfH h) (hs:ns.length<512) (hid':place 0 (ids ns) (hid h)=none):Tree (ns ++ [nodeOn ns k h]):=by
 have hm:=List.getElem_mem hk
 have cl:=ht.ch _ hm
 have hc:(nodeOn ns k h).ch=ns[k].ch ++ [h]:=by unfold nodeOn;rw [ZhM hk]
 have hd:=(nodeOn ns k h).hd_snoc rfl
 refine ⟨by simp;omega,?_,?_,?_,?_,?_⟩
 ·intro n hn
  rcases List.mem_append.1 hn with hn | hn
  ·have:=ht.ch n hn;exact ⟨this.1,by simp;omega⟩
  ·cases List.mem_singleton.1 hn
   rw [hc];exact ⟨by simp,by simp;omega⟩
 ·intro n hn x hx
  rcases List.mem_append.1 hn with hn | hn
  ·exact ht.wf n hn x hx
  ·cases List.mem_singleton.1 hn
   rw [hc] at hx
   rcases List.mem_append.1 hx with hx | hx
   ·exact ht.wf _ hm x hx
   ·cases List.mem_singleton.1 hx;exact hh
 ·intro n hn
  rcases List.mem_append.1 hn with hn | hn
  ·exact ht.wk n hn
  ·cases List.mem_singleton.1 hn
   unfold nodeOn;rw [Zkh hk]
   exact Zki (ht.wk _ hm) (Zft _)
 ·intro i hi
  by_cases hlt:i<ns.length
  ·rw [List.getElem_append_left hlt]
   rcases ht.ah i hlt with a | ⟨q,hq,a,b⟩
   ·exact .inl a
   ·exact .inr ⟨q,hq,a,by rw [List.getElem_append_left (by omega)];exact b⟩
  ·have:i=ns.length:=by simp at hi;omega
   subst this
   refine .inr ⟨k,hk,?_,?_⟩
   ·rw [List.getElem_append_right (by omega)];simp [nodeOn]
   ·rw [List.getElem_append_right (by omega),List.getElem_append_left hk]
    simp only [Nat.sub_self,List.getElem_singleton]
    rw [hc,hd]
 ·have np:=Zhf hid'
  unfold ids at *
  rw [List.map_append,List.nodup_append]
  refine ⟨ht.one,by simp,?_⟩
  intro a ha b hb
  simp only [List.map_cons,List.map_nil,List.mem_singleton] at hb
  subst hb
  intro e
  unfold Nd.id at e
  rw [hd] at e
  exact np (by rw [←e];exact ha)
theorem ZeK (p:Zal) (gs:List ZbJ) (cs:List Zbw) (room:Int) (ns:List Nd) (h:Zam) (now:Int) :
  (addT p gs cs room ns h now).2.2.2=ns∨∃k:Nat,k<ns.length∧hgood h=true∧place 0 (ids ns) (hid h)=none∧checkS p gs cs (spotA p (chAt ns k)) h now=0∧(ns.length:Int)<room ∧
   addT p gs cs room ns h now=((ns.length:Int),0,0,ns ++ [nodeOn ns k h]):=by
 unfold addT
 by_cases hg:hgood h=false
 ·rw [if_pos hg];exact .inl rfl
 rw [if_neg hg]
 cases e1:place 0 (ids ns) (hid h) with
 | some k=>exact .inl rfl
 | none=>
  dsimp only
  cases e2:place 0 (ids ns) h.Prev with
  | none=>exact .inl rfl
  | some k=>
   dsimp only
   obtain ⟨_,hk,_⟩:=Zfz e2
   have hk':k<ns.length:=by simpa [ids] using hk
   by_cases h1:checkS p gs cs (spotA p (chAt ns k)) h now=0
   ·rw [if_neg (by simp [h1])]
    by_cases h2:room≤(ns.length:Int)
    ·rw [if_pos h2];exact .inl rfl
    ·rw [if_neg h2]
     exact .inr ⟨k,hk',by simpa using hg,rfl,h1,by omega,rfl⟩
   ·rw [if_pos h1];exact .inl rfl
theorem ZiM {p:Zal} {gs:List ZbJ} {cs:List Zbw} {room:Int} (hr:room≤512) {ns:List Nd} (ht:Tree ns) {h:Zam} (hh:WfH h) (now:Int):Tree (addT p gs cs room ns h now).2.2.2:=by
 rcases ZeK p gs cs room ns h now with e | ⟨k,hk,_,hi,_,hl,e⟩
 ·rw [e];exact ht
 ·rw [e];exact ht.grow hk hh (by omega) hi
theorem ZhP (p:Zal) (gs:List ZbJ) (cs:List Zbw) (room:Int) (ns:List Nd) (h:Zam) (now:Int):ns.length≤(addT p gs cs room ns h now).2.2.2.length∧(addT p gs cs room ns h now).2.2.2.length≤ns.length+1:=by
 rcases ZeK p gs cs room ns h now with e | ⟨k,hk,_,hi,_,hl,e⟩
 ·rw [e];omega
 ·rw [e];simp
def roomOf (room:Int):Int:=if (512:Int)<(if (1:Int)>room then 1 else room) then 512 else (if (1:Int)>room then 1 else room)
def rootN (p:Zal):Nd:=⟨[p.Genesis],-1,wkBits p.Genesis.Bits⟩
theorem set_last (st:LL) (a b:List L):(st ++ [a]).set st.length b=st ++ [b]:=by simp
theorem Zlh (hN:500≤N) {p:Zal} {gs:List ZbJ} {cs:List Zbw} (hg:p.Gates=rowG gs) (hc:p.Checks=rowC cs) (lg:gs.length≤400) (lc:cs.length≤400) (hp:WfP p) (room:Int) (st:LL) :
  Zcn N p room st=if rgood p gs cs=true then some (some st.length,0,st ++ [(aOf p (roomOf room) [rootN p]).lo]) else some (none,1,st):=by
 unfold Zcn
 rw [Zia hN hg lg hc lc,Zad]
 cases hgd:rgood p gs cs with
 | false=>rfl
 | true=>
  have pp:({p with Gates:=[]++p.Gates,Checks:=[]++p.Checks}:Zal)=p:=rfl
  rw [if_neg (c:=(!true)=true) (by simp),pp,Zak (by rw [hg,List.nil_append,Zgu];omega),Zak (by rw [hc,List.nil_append,Zgv];omega),ZgR hN hp.h.w,Zad]
  have hst:(st ++ [(aOf p (roomOf room) []).lo])[st.length]? = some (aOf p (roomOf room) []).lo:=by simp
  have k:=keep0_eq (N:=N) (by omega) hst (h:=p.Genesis) (rootN p) rfl rfl rfl
  rw [set_last] at k
  rw [if_pos (c:=true=true) rfl]
  show optE (ZaD N (some st.length) p.Genesis (-1) (spotA p (rootN p).ch) (st ++ [(aOf p (roomOf room) []).lo])) _=_
  rw [k,Zad]
theorem Zfr (p:Zal) (room:Int) (ns:List Nd):Zaw N (aOf p room ns)=some (ns.length:Int):=by
 unfold Zaw;rw [show (aOf p room ns).list=rowE ns from rfl,Zfe]
theorem Zlf (p:Zal) (room:Int) (ns:List Nd):Zby N (aOf p room ns)=some room:=rfl
theorem Zlj (p:Zal) (room:Int) (ns:List Nd) (x:List Int):Zbz N (aOf p room ns) x=some (placeI (place 0 (ids ns) x)):=by
 unfold Zbz
 rw [show (aOf p room ns).places=idMap 0 (ids ns) from rfl,Zfd]
 cases place 0 (ids ns) x<;>rfl
theorem Zlm (p:Zal) (room:Int) {ns:List Nd} {k:Nat} (hk:k<ns.length):Zbr N (aOf p room ns) (k:Int)=some (ns[k].en,true):=by
 unfold Zbr ZbK
 rw [show (aOf p room ns).list=rowE ns from rfl,Zfe,if_pos (by simp),Zad,if_neg (by simp<;>omega),Zak (by omega),Zak (by omega),Int.toNat_natCast,Zjs hk,ZaQ,ZdQ]
end Go.Dn.F
set_option maxRecDepth 100000
namespace Go.Dn.F
open Go.Dn Go.Proofs
variable {N:Nat}
abbrev tysCm:List Ty:=[.int .i64,.arr .u8 32,.arr .u8 32,.int .i64,.int .i64,.int .i64,.int .i64]
structure WfCm (c:ZaV):Prop where
 h:WfH c.Header
 n:i64R c.Now
noncomputable def rowCm (l:List ZaV):LL:=l.map ZaV.ls
theorem Zif {l:List ZaV} {i:Nat} (h:i<l.length):(rowCm l)[i]? = some l[i].ls:=by simp [rowCm,h]
@[simp] theorem Ziu (l:List ZaV):len (rowCm l)=(l.length:Int):=by simp [len,rowCm]
@[simp] theorem Zie (l:List ZaV):(rowCm l).length=l.length:=by simp [rowCm]
theorem open_Cm {xs:LL} (h : ∀x∈xs,LTys tysCm x) : ∃l,xs=rowCm l∧∀x∈l,WfCm x:=
 decode fun x hx=>by
  obtain ⟨_,_,rfl,h1,h⟩:=(h x hx).cons_inv
  obtain ⟨_,_,rfl,h2,h⟩:=h.cons_inv
  obtain ⟨_,_,rfl,h3,h⟩:=h.cons_inv
  obtain ⟨_,_,rfl,h4,h⟩:=h.cons_inv
  obtain ⟨_,_,rfl,h5,h⟩:=h.cons_inv
  obtain ⟨_,_,rfl,h6,h⟩:=h.cons_inv
  obtain ⟨_,_,rfl,h7,h⟩:=h.cons_inv
  cases h.nil_inv
  obtain ⟨a1,rfl,w1⟩:=h1.int_inv
  obtain ⟨a2,rfl,k2,w2⟩:=h2.arr_inv
  obtain ⟨a3,rfl,k3,w3⟩:=h3.arr_inv
  obtain ⟨a4,rfl,w4⟩:=h4.int_inv
  obtain ⟨a5,rfl,w5⟩:=h5.int_inv
  obtain ⟨a6,rfl,w6⟩:=h6.int_inv
  obtain ⟨a7,rfl,w7⟩:=h7.int_inv
  refine ⟨⟨⟨a1,a2,a3,a4,a5,a6⟩,a7⟩,rfl,⟨⟨Zdm w1,?_,Zdm w4,Zdm w5,Zdm w6⟩,Zdm w7⟩⟩
  simp only [wfH,Bool.and_eq_true]
  exact ⟨Zjm k2 w2,Zjm k3 w3⟩
theorem Zka (p:Zal) (l:List ZaV) (hl:l.length<N) (hb:l.length≤maxLen) : ∃b,ZaZ N p (rowCm l)=some b∧(b=false→(∀x∈l,0≤x.Now)∧p.Gates.length≤20∧p.Checks.length≤20∧l.length≤40):=by
 unfold ZaZ
 have hm:maxLen=9223372036854775807:=rfl
 refine ZfB (fun m (v:Int)=>∃k:Nat,k+m=l.length∧v=(k:Int)∧∀x∈l.take k,0≤x.Now) ?_ N l.length 0 ⟨0,by omega,rfl,by simp⟩ hl
 rintro G m _ ⟨k,hk,rfl,ha⟩ hG
 unfold ZaZ.p1
 rw [Ziu]
 by_cases hlt:k<l.length
 ·rw [if_pos (by simp<;>omega),Zak (by omega),Int.toNat_natCast,Zif hlt,ZaQ,ZcW,ZaG (by omega) (by omega)]
  by_cases h:l[k].Now<0
  ·rw [if_pos (by simpa using h)];exact ⟨true,rfl,fun h=>by cases h⟩
  ·rw [if_neg (by simpa using h)]
   refine hG (m-1) _ (by omega) ⟨k+1,by omega,by omega,fun x hx=>?_⟩
   rw [List.take_succ_eq_append_getElem hlt] at hx
   rcases List.mem_append.1 hx with hx | hx
   ·exact ha x hx
   ·cases List.mem_singleton.1 hx;omega
 ·rw [if_neg (by simp<;>omega)]
  rw [List.take_of_length_le (by omega)] at ha
  by_cases h1:len p.Gates>20
  ·rw [if_pos (by simpa using h1)];exact ⟨true,rfl,fun h=>by cases h⟩
  rw [if_neg (by simpa using h1)]
  by_cases h2:len p.Checks>20
  ·rw [if_pos (by simpa using h2)];exact ⟨true,rfl,fun h=>by cases h⟩
  rw [if_neg (by simpa using h2)]
  refine ⟨_,rfl,fun h=>⟨ha,?_,?_,?_⟩⟩<;>simp [len] at h1 h2 h<;>omega
def pA:Zal:=⟨545259519,4,10,0,false,[],[],List.replicate 4 0,List.replicate 4 0,h0⟩
theorem h0_wf:WfH h0:=⟨by unfold i64R h0;simp,by unfold wfH h0;decide,by unfold i64R h0;simp,by unfold i64R h0;simp,by unfold i64R h0;simp⟩
theorem pA_wf:WfP pA where
 l:=by unfold i64R pA;simp
 i:=by unfold i64R pA;simp
 s:=by unfold i64R pA;simp
 f:=by unfold i64R pA;simp
 g:=by unfold pA;simp
 gl:=by unfold pA;simp
 c:=by unfold pA;simp
 cl:=by unfold pA;simp
 m:=by unfold pA;exact ⟨rfl,fun x hx=>by obtain ⟨_,rfl⟩:=List.mem_replicate.1 hx;decide⟩
 r:=by unfold pA;exact ⟨rfl,fun x hx=>by obtain ⟨_,rfl⟩:=List.mem_replicate.1 hx;decide⟩
 h:=h0_wf
theorem pA_new (hN:1000≤N):Zcn N pA 5 []=some (some 0,0,[(aOf pA 5 [rootN pA]).lo]):=by
 rw [Zlh (gs:=[]) (cs:=[]) (by omega) rfl rfl (by simp) (by simp) pA_wf 5 [],if_pos (by kernel_rfl)]
 rfl
theorem alive12 (hN:1000≤N):ZbM N []=some (true,[(aOf pA 5 [rootN pA]).lo]):=by
 unfold ZbM
 rw [show (Zal.mk 545259519 4 10 0 false [] [] (List.replicate 4 0) (List.replicate 4 0) (Zam.mk 0 (List.replicate 32 0) (List.replicate 32 0) 0 0 0))=pA from rfl,pA_new hN,Zad]
 dsimp only
 rw [if_pos (by rfl),Zad,show ([(aOf pA 5 [rootN pA]).lo]:LL)[0]? = some (aOf pA 5 [rootN pA]).lo from rfl,ZaQ,Zbs,Zfr,Zad,if_pos (by rfl),Zlf,Zad,if_pos (by rfl),show (Zam.mk 0 (List.replicate 32 0) (List.replicate 32 0) 0 0 0)=h0 from rfl,refId_eq (by omega) _ h0_wf.w,Zad,Zlj,Zad]
 have:place 0 (ids [rootN pA]) (hid h0)=some 0:=by
  show place 0 [hid h0] (hid h0)=some 0
  rw [ZjR,if_pos rfl]
 rw [this]
 rfl
theorem ZhF {st:LL} {i k:Nat} {a:List L} (hi:st[i]? = some a) (hk:k≠i) (x:List L):(st.set k x)[i]? = some a:=by
 rw [List.getElem?_set_ne hk];exact hi
theorem ZjE {st:LL} {i:Nat} {a:List L} (hi:st[i]? = some a) (x:List L):(st.set i x)[i]? = some x:=by
 obtain ⟨h,_⟩:=List.getElem?_eq_some_iff.1 hi
 exact List.getElem?_set_self h
theorem Zld (p:Zal) (gs:List ZbJ) (cs:List Zbw) {r1 r2:Int} {ns:List Nd} (h1:(ns.length:Int)<r1) (h2:(ns.length:Int)<r2) (h:Zam) (now:Int):addT p gs cs r1 ns h now=addT p gs cs r2 ns h now:=by
 unfold addT
 have e1 : ¬ r1≤(ns.length:Int):=by omega
 have e2 : ¬ r2≤(ns.length:Int):=by omega
 simp only [if_neg e1,if_neg e2]
theorem Zle (p:Zal) (gs:List ZbJ) (cs:List Zbw) {r:Int} {ns:List Nd} (h:Zam) (now:Int) (hf:(addT p gs cs r ns h now).2.2.1=6):r≤(ns.length:Int):=by
 unfold addT at hf
 by_cases hg:hgood h=false
 ·rw [if_pos hg] at hf;simp at hf
 rw [if_neg hg] at hf
 cases e1:place 0 (ids ns) (hid h) with
 | some k=>rw [e1] at hf;simp at hf
 | none=>
  rw [e1] at hf;dsimp only at hf
  cases e2:place 0 (ids ns) h.Prev with
  | none=>rw [e2] at hf;simp at hf
  | some k=>
   rw [e2] at hf;dsimp only at hf
   by_cases h1:checkS p gs cs (spotA p (chAt ns k)) h now=0
   ·rw [if_neg (by simp [h1])] at hf
    by_cases h2:r≤(ns.length:Int)
    ·exact h2
    ·rw [if_neg h2] at hf;simp at hf
   ·rw [if_pos h1] at hf;simp at hf
theorem Zlc {p:Zal} {gs:List ZbJ} {cs:List Zbw} {R:Nat} {ns:List Nd} (hl:ns.length<100) (h:Zam) (now:Int) :
  (addT p gs cs (R:Int) (ns.take R) h now).2.2.2=(addT p gs cs 100 ns h now).2.2.2.take R:=by
 by_cases hlt:ns.length<R
 ·rw [List.take_of_length_le (by omega:ns.length≤R),Zld p gs cs (r1:=(R:Int)) (r2:=100) (by omega) (by omega)]
  have:=(ZhP p gs cs 100 ns h now).2
  rw [List.take_of_length_le (by omega)]
 ·have lt:(ns.take R).length=R:=by rw [List.length_take];omega
  have e:(addT p gs cs (R:Int) (ns.take R) h now).2.2.2=ns.take R:=by
   rcases ZeK p gs cs (R:Int) (ns.take R) h now with e | ⟨k,_,_,_,_,hh,_⟩
   ·exact e
   ·rw [lt] at hh;omega
  rw [e]
  rcases ZeK p gs cs 100 ns h now with e | ⟨k,_,_,_,_,hh,e⟩
  ·rw [e]
  ·rw [e];rw [List.take_append_of_le_length (by omega)]
theorem ZiN (hN:1000≤N) {p:Zal} {R:Nat} {i k:Nat} {st:LL} {ns:List Nd} (hs:ns.length≤100) (ha:st[i]? = some (aOf p (R:Int) (ns.take R)).lo) (hb:st[k]? = some (aOf p 100 ns).lo) :
  loopN (Zau.p2 N (R:Int) st) N (some i,some k,0)=some (true,st):=by
 have lt:(ns.take R).length=min R ns.length:=List.length_take
 refine ZbT (fun m (s:(Option Nat)×(Option Nat)×Int)=>∃j:Nat,j+m=(ns.take R).length∧s=(some i,some k,(j:Int))) ?_ N (ns.take R).length _ ⟨0,by omega,rfl⟩ (by omega)
 rintro G m _ ⟨j,hj,rfl⟩ hG
 unfold Zau.p2
 dsimp only
 rw [Zad,ha,ZaQ,Zbs,Zfr,Zad]
 by_cases hlt:j<(ns.take R).length
 ·have hlt':j<ns.length:=by omega
  have e:(ns.take R)[j]=ns[j]:=List.getElem_take
  rw [if_pos (by simp<;>omega),Zlm p _ hlt,Zad]
  dsimp only
  rw [Zad,hb,ZaQ,Zbs,Zlm p _ hlt',Zad,e]
  dsimp only
  rw [if_neg (by simp),ZaG (by omega) (by omega)]
  exact hG (m-1) _ (by omega) ⟨j+1,by omega,by rw [Int.natCast_add];rfl⟩
 ·rw [if_neg (by simp<;>omega),Zad,hb,ZaQ,Zbs,Zfr,Zad,if_pos]
  rw [lt]
  by_cases h:(R:Int)<(ns.length:Int)
  ·rw [if_pos h];simp;omega
  ·rw [if_neg h];simp;omega
theorem ZiO {p:Zal} (hp:WfP p) (room:Int) (l:List ZaV) (hl : ∀x∈l,WfCm x) (hb:l.length≤maxLen) :
  ∃st,Zau (l.length+1000) p (rowCm l) room []=some (true,st):=by
 unfold Zau
 rw [alive12 (by omega),Zad]
 dsimp only
 rw [if_neg (by simp)]
 obtain ⟨b,e,hgr⟩:=Zka (N:=l.length+1000) p l (by omega) hb
 rw [e,Zad]
 cases b with
 | true=>rw [if_pos rfl];exact ⟨_,rfl⟩
 | false=>
  obtain ⟨hn,hG,hC,h40⟩:=hgr rfl
  obtain ⟨gs,eg⟩:=open_G hp.g
  obtain ⟨cs,ec⟩:=open_K hp.c
  have lg:gs.length≤400:=by rw [eg,Zgu] at hG;omega
  have lc:cs.length≤400:=by rw [ec,Zgv] at hC;omega
  generalize hN:l.length+1000=N
  rw [if_neg (by simp),Zht (by omega) eg lg ec lc,Zad]
  cases hgd:rgood p gs cs with
  | false=>rw [if_pos (by rfl)];exact ⟨_,rfl⟩
  | true=>
   rw [if_neg (by simp)]
   by_cases hr1:room<1
   ·rw [if_pos (by simpa using hr1)];exact ⟨_,rfl⟩
   rw [if_neg (by simpa using hr1)]
   by_cases hr2:room>40
   ·rw [if_pos (by simpa using hr2)];exact ⟨_,rfl⟩
   rw [if_neg (by simpa using hr2)]
   obtain ⟨R,rfl⟩ : ∃R:Nat,room=(R:Int):=⟨room.toNat,by omega⟩
   have ro:roomOf (R:Int)=(R:Int):=by unfold roomOf;split<;>split<;>omega
   unfold Zcq
   rw [Zlh (by omega) eg ec lg lc hp,hgd,if_pos rfl,Zad]
   dsimp only
   rw [Zad]
   dsimp only
   rw [Zlh (by omega) eg ec lg lc hp,hgd,if_pos rfl,Zad]
   dsimp only
   rw [Zad]
   dsimp only
   rw [show roomOf 100=100 from rfl,ro,show ([(aOf pA 5 [rootN pA]).lo] ++ [(aOf p (R:Int) [rootN p]).lo]:LL).length=2 from rfl,show ([(aOf pA 5 [rootN pA]).lo]:LL).length=1 from rfl]
   have ha:(([(aOf pA 5 [rootN pA]).lo] ++ [(aOf p (R:Int) [rootN p]).lo]) ++ [(aOf p 100 [rootN p]).lo]:LL)[1]? = some (aOf p (R:Int) ([rootN p].take R)).lo:=by
    rw [List.take_of_length_le (by simp;omega)];rfl
   have hb:(([(aOf pA 5 [rootN pA]).lo] ++ [(aOf p (R:Int) [rootN p]).lo]) ++ [(aOf p 100 [rootN p]).lo]:LL)[2]? = some (aOf p 100 [rootN p]).lo:=rfl
   have key : ∃r,loopN (Zau.p1 N (R:Int) (some 2) (rowCm l)) N (some 1,0,(([(aOf pA 5 [rootN pA]).lo] ++ [(aOf p (R:Int) [rootN p]).lo]) ++ [(aOf p 100 [rootN p]).lo]))=some r∧r.1=true:=by
    generalize (([(aOf pA 5 [rootN pA]).lo] ++ [(aOf p (R:Int) [rootN p]).lo]) ++ [(aOf p 100 [rootN p]).lo]:LL)=st at ha hb ⊢
    have ht0:Tree [rootN p]:=Tree.one_node hp.h
    have ht0':Tree ([rootN p].take R):=by rw [List.take_of_length_le (by simp;omega)];exact ht0
    refine ZfB (Q:=fun r:Bool×LL=>r.1=true) (fun m (s:(Option Nat)×Int×LL)=>∃(j:Nat) (ns:List Nd) (st:LL),s=(some 1,(j:Int),st)∧j+m=l.length∧ns.length≤j+1∧Tree ns∧Tree (ns.take R)∧st[1]? = some (aOf p (R:Int) (ns.take R)).lo∧st[2]? = some (aOf p 100 ns).lo) ?_ N l.length _ ⟨0,[rootN p],st,rfl,by omega,by simp,ht0,ht0',ha,hb⟩ (by omega)
    clear ht0 ht0' ha hb
    rintro G m _ ⟨j,ns,st,rfl,hj,h1,ht,ht2,ha,hb⟩ hG
    unfold Zau.p1
    dsimp only
    rw [Ziu]
    by_cases hlt:j<l.length
    ·have wx:=hl _ (List.getElem_mem hlt)
     have nx:=hn _ (List.getElem_mem hlt)
     have rx:=wx.n
     unfold i64R at rx
     have l1:=ZhP p gs cs 100 ns l[j].Header l[j].Now
     have l2:=ZhP p gs cs (R:Int) (ns.take R) l[j].Header l[j].Now
     have et:=Zlc (p:=p) (gs:=gs) (cs:=cs) (R:=R) (ns:=ns) (by omega) l[j].Header l[j].Now
     have t1:=ZiM (p:=p) (gs:=gs) (cs:=cs) (room:=100) (by omega) ht wx.h l[j].Now
     have t2:=ZiM (p:=p) (gs:=gs) (cs:=cs) (room:=(R:Int)) (by omega) ht2 wx.h l[j].Now
     have fu:=Zle p gs cs (r:=(R:Int)) (ns:=ns.take R) l[j].Header l[j].Now
     have lt:(ns.take R).length=min R ns.length:=List.length_take
     have lu:((addT p gs cs 100 ns l[j].Header l[j].Now).2.2.2.take R).length=min R (addT p gs cs 100 ns l[j].Header l[j].Now).2.2.2.length:=List.length_take
     rw [if_pos (by simp<;>omega),Zak (by omega),Int.toNat_natCast,Zif hlt,ZaQ,ZcW,Add_eq (by omega) eg ec lg lc (by omega) ht2 ha wx.h _ (by omega),Zad]
     dsimp only
     rw [Add_eq (by omega) eg ec lg lc (by omega) ht (ZhF hb (by omega) _) wx.h _ (by omega),Zad]
     dsimp only
     rw [et] at t2 ⊢
     have a1:((st.set 1 (aOf p (R:Int) ((addT p gs cs 100 ns l[j].Header l[j].Now).2.2.2.take R)).lo).set 2 (aOf p 100 (addT p gs cs 100 ns l[j].Header l[j].Now).2.2.2).lo)[1]? = some (aOf p (R:Int) ((addT p gs cs 100 ns l[j].Header l[j].Now).2.2.2.take R)).lo:=ZhF (ZjE ha _) (by omega) _
     have a2:((st.set 1 (aOf p (R:Int) ((addT p gs cs 100 ns l[j].Header l[j].Now).2.2.2.take R)).lo).set 2 (aOf p 100 (addT p gs cs 100 ns l[j].Header l[j].Now).2.2.2).lo)[2]? = some (aOf p 100 (addT p gs cs 100 ns l[j].Header l[j].Now).2.2.2).lo:=ZjE (ZhF hb (by omega) _) _
     rw [et] at l2
     by_cases h6:(addT p gs cs (R:Int) (ns.take R) l[j].Header l[j].Now).2.2.1=6
     ·have:=fu h6
      rw [if_pos (by simpa using h6),Zad,a1,ZaQ,Zbs,Zfr,Zad,if_neg (by simp<;>omega),if_neg (by simp<;>omega),ZaG (by omega) (by omega)]
      exact hG (m-1) _ (by omega) ⟨j+1,_,_,by rw [Int.natCast_add];rfl,by omega,by omega,t1,t2,a1,a2⟩
     ·rw [if_neg (by simpa using h6),Zad,a1,ZaQ,Zbs,Zfr,Zad,if_neg (by simp<;>omega),ZaG (by omega) (by omega)]
      exact hG (m-1) _ (by omega) ⟨j+1,_,_,by rw [Int.natCast_add];rfl,by omega,by omega,t1,t2,a1,a2⟩
    ·rw [if_neg (by simp<;>omega),ZiN (by omega) (by omega) ha hb]
     exact ⟨_,rfl,rfl⟩
   obtain ⟨⟨r1,r2⟩,h1,h2⟩:=key
   dsimp only at h2
   exact ⟨r2,by rw [h1,h2]⟩
theorem ArenaRoom_true {ls:List L} (xs:LL) (room:Int) (h0:LTys tysP ls) (h2 : ∀x∈xs,LTys tysCm x) (l2:xs.length≤maxLen) (w1:(Lit.int .i64 room).wf=true) :
  ∃st,Snd Tryz.prog 6 [.agg ls,.one (.sl 69 xs),.one (.int .i64 room)] [] [.one (.bool true)] st:=by
 obtain ⟨p,rfl,hp⟩:=open_P h0
 obtain ⟨l,rfl,hl⟩:=open_Cm h2
 obtain ⟨st,h⟩:=ZiO hp room l hl (by rw [Zie] at l2;exact l2)
 exact ⟨st,Zau.snd h⟩
end Go.Dn.F
