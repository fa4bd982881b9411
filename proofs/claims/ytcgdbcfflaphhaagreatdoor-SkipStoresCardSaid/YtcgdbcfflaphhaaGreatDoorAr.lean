/- A tree of headers, as a row of nodes, each with its whole chain; the program's arena of such a tree. -/
import Derived.Test.YtcgdbcfflaphhaaGreatDoorNum
import Derived.Test.YtcgdbcfflaphhaaGreatDoorRul
set_option linter.unusedSimpArgs false
set_option linter.unusedVariables false
set_option maxRecDepth 40000
namespace Go.Dn.F
open Go.Dn Go.Proofs
variable {N:Nat}
structure Nd where
 ch:List Zan
 ah:Int
 wk:Int
def h0:Zan:=⟨0,List.replicate 32 0,List.replicate 32 0,0,0,0⟩
def Nd.hd (n:Nd):Zan:=n.ch.getLast?.getD h0
def Nd.id (n:Nd):List Int:=hid n.hd
noncomputable def Nd.en (n:Nd):Zbl:=⟨n.hd,n.id,n.ah,(n.ch.length:Int)-1,nw n.wk⟩
noncomputable def rowE (ns:List Nd):LL:=ns.map fun n=>n.en.ls
noncomputable def rowS (p:Zag) (ns:List Nd):LL:=ns.map fun n=>(spotA p n.ch).ls
def idMap:Nat→List (List Int)→LM
 | _,[]=>[]
 | i,x::l=>(L.arr .u8 32 x,L.int .i64 (i:Int))::idMap (i+1) l
def ids (ns:List Nd):List (List Int):=ns.map Nd.id
def place:Nat→List (List Int)→List Int→Option Nat
 | _,[],_=>none
 | i,y::l,x=>if x=y then some i else place (i+1) l x
theorem Zfv : ∀(l:List (List Int)) (i:Nat) (x:List Int),mfind (idMap i l) (L.arr .u8 32 x)=some ((place i l x).map fun k=>(k-i,L.int .i64 (k:Int)))
 | [],i,x=>rfl
 | y::l,i,x=>by
  rw [idMap,mfind]
  simp only [keyEq,and_self,if_true]
  unfold place
  by_cases h:x=y
  ·subst h;simp
  ·rw [show (x==y)=false by simpa using h,if_neg h,Zfv l (i+1) x]
   cases e:place (i+1) l x with
   | none=>rfl
   | some k=>
    have : ∀(l:List (List Int)) (i k:Nat),place i l x=some k→i≤k:=by
     intro l
     induction l with
     | nil=>intro i k h;cases h
     | cons z l ih=>
      intro i k h
      unfold place at h
      split at h
      ·cases h;omega
      ·have:=ih _ _ h;omega
    have:=this l (i+1) k e
    simp only [Option.map_some]
    rw [show k-(i+1)+1=k-i by omega]
theorem Zge : ∀(l:List (List Int)) (i:Nat) (x:List Int),idMap i (l ++ [x])=idMap i l ++ [(L.arr .u8 32 x,L.int .i64 ((i+l.length:Nat):Int))]
 | [],i,x=>rfl
 | y::l,i,x=>by rw [List.cons_append,idMap,Zge l (i+1) x,idMap,List.length_cons,show i+1+l.length=i+(l.length+1) by omega];rfl
theorem Zen : ∀{l:List (List Int)} {i k:Nat} {x:List Int},place i l x=some k→i≤k∧∃h:k-i<l.length,l[k-i]=x
 | y::l,i,k,x,h=>by
  unfold place at h
  split at h
  ·rename_i e;cases h;exact ⟨by omega,by simp,by simp [e]⟩
  ·obtain ⟨h1,h2,h3⟩:=Zen h
   refine ⟨by omega,by simp;omega,?_⟩
   have:k-i=(k-(i+1))+1:=by omega
   simp only [this,List.getElem_cons_succ];exact h3
theorem Zhj : ∀{l:List (List Int)} {i:Nat} {x:List Int},place i l x=none→x∉l
 | [],_,_,_=>by simp
 | y::l,i,x,h=>by
  unfold place at h
  split at h
  ·cases h
  ·rename_i e;simp [e,Zhj h]
noncomputable def aOf (p:Zag) (room:Int) (ns:List Nd):Zal:=⟨p,rowE ns,rowS p ns,idMap 0 (ids ns),room⟩
theorem Zgk {ns:List Nd} {i:Nat} (h:i<ns.length):(rowE ns)[i]? = some ns[i].en.ls:=by simp [rowE,h]
theorem Zjs {p:Zag} {ns:List Nd} {i:Nat} (h:i<ns.length):(rowS p ns)[i]? = some (spotA p ns[i].ch).ls:=by simp [rowS,h]
@[simp] theorem ZdL (ns:List Nd):len (rowE ns)=(ns.length:Int):=by simp [len,rowE]
@[simp] theorem ZjB (p:Zag) (ns:List Nd):len (rowS p ns)=(ns.length:Int):=by simp [len,rowS]
structure Tree (ns:List Nd):Prop where
 small:ns.length≤512
 ch : ∀n∈ns,n.ch ≠ []∧n.ch.length≤ns.length
 wf : ∀n∈ns,∀x∈n.ch,WfH x
 wk : ∀n∈ns,isN n.wk
 ah : ∀(i:Nat) (h:i<ns.length),(i=0∧ns[i].ah = -1∧ns[i].ch.length=1)∨∃(k:Nat) (hk:k<i),ns[i].ah=(k:Int)∧ns[i].ch=ns[k].ch ++ [ns[i].hd]
 one:(ids ns).Nodup
theorem Nd.hd_snoc {n:Nd} {c:List Zan} {h:Zan} (e:n.ch=c ++ [h]):n.hd=h:=by unfold Nd.hd;rw [e];simp
theorem Zhd (p:Zag) (c:List Zan) (h:Zan):(spotA p (c ++ [h])).Prev=hid h:=by
 unfold spotA;rw [List.foldl_append];rfl
theorem ZkS {st:LL} {i:Nat} {p:Zag} {room:Int} {ns:List Nd} (hst:st[i]? = some (aOf p room ns).lo) (hl:ns.length≤512) (nd:Nd) (hid':place 0 (ids ns) nd.id=none) :
  ZaE.p1 N (some i) (spotA p nd.ch) nd.en st=some ((ns.length:Int),st.set i (aOf p room (ns ++ [nd])).lo):=by
 unfold ZaE.p1
 have e1:(aOf p room ns).list ++ [nd.en.ls]=rowE (ns ++ [nd]):=by show rowE ns++_=_;simp [rowE]
 have e2:(aOf p room ns).spots ++ [(spotA p nd.ch).ls]=rowS p (ns ++ [nd]):=by show rowS p ns++_=_;simp [rowS]
 have e3:(aOf p room ns).places ++ [(L.arr .u8 32 nd.en.Id,L.int .i64 (ns.length:Int))]=idMap 0 (ids (ns ++ [nd])):=by
  show idMap 0 (ids ns)++_=_
  unfold ids
  rw [List.map_append]
  show _=idMap 0 (List.map Nd.id ns ++ [nd.id])
  rw [Zge,List.length_map,Nat.zero_add];rfl
 have l1:(rowE (ns ++ [nd])).length=ns.length+1:=by simp [rowE]
 have l2:(rowS p (ns ++ [nd])).length=ns.length+1:=by simp [rowS]
 rw [Zab,hst,ZaD,ZaQ,e1,e2,Zam (by rw [l1];omega),Zam (by rw [l2];omega),show mfind (aOf p room ns).places (L.arr .u8 32 nd.en.Id)=some none by
  show mfind (idMap 0 (ids ns)) (L.arr .u8 32 nd.id)=_
  rw [Zfv,hid'];rfl]
 show some _=_
 rw [ZdL,List.length_append,List.length_singleton,ZaK (by omega) (by omega),show ((ns.length+1:Nat):Int)-1=(ns.length:Int) by omega,e3]
 simp only [List.set_set]
 rfl
theorem keep_eq (hN:300≤N) {st:LL} {i:Nat} {p:Zag} {room:Int} {ns:List Nd} (hst:st[i]? = some (aOf p room ns).lo) (hl:ns.length≤512) {k:Nat} (hk:k<ns.length) (hw:isN ns[k].wk) (hlen:ns[k].ch.length≤600)
  {h:Zan} (nd:Nd) (hch:nd.ch=ns[k].ch ++ [h]) (hah:nd.ah=(k:Int)) (hwk:nd.wk=wkAdd ns[k].wk (wkBits h.Bits)) (hid':place 0 (ids ns) (hid h)=none) :
  ZaE N (some i) h (k:Int) (spotA p nd.ch) st=some ((ns.length:Int),st.set i (aOf p room (ns ++ [nd])).lo):=by
 have hd:=nd.hd_snoc hch
 unfold ZaE
 rw [Zfa hN,Zab,if_pos (by simp<;>omega),Zab,hst,ZaD,ZaQ,show (aOf p room ns).list=rowE ns from rfl,ZdL,Zam (by omega),Zam (by omega),Int.toNat_natCast,Nat.zero_add,Zgk hk,ZaD,Zdb,show (ns[k].en).Work=nw ns[k].wk from rfl,ZiN (by omega) hw (ZfK _),Zab,show (ns[k].en).Height=(ns[k].ch.length:Int)-1 from rfl,ZaK (by omega) (by omega)]
 have e:Zbl.mk h (spotA p nd.ch).Prev (k:Int) ((ns[k].ch.length:Int)-1+1) (nw (wkAdd ns[k].wk (wkBits h.Bits)))=nd.en:=by
  unfold Nd.en Nd.id
  rw [hd,hch,Zhd,hah,hwk,List.length_append,List.length_singleton]
  congr 1;omega
 rw [e]
 refine ZkS hst hl nd ?_
 unfold Nd.id;rw [hd];exact hid'
theorem keep0_eq (hN:300≤N) {st:LL} {i:Nat} {p:Zag} {room:Int} (hst:st[i]? = some (aOf p room []).lo) {h:Zan} (nd:Nd) (hch:nd.ch = [h]) (hah:nd.ah = -1) (hwk:nd.wk=wkBits h.Bits) :
  ZaE N (some i) h (-1) (spotA p nd.ch) st=some (0,st.set i (aOf p room [nd]).lo):=by
 have hd:nd.hd=h:=nd.hd_snoc (c:=[]) hch
 unfold ZaE
 rw [Zfa hN,Zab,if_neg (by simp)]
 have e:Zbl.mk h (spotA p nd.ch).Prev (-1) 0 (nw (wkBits h.Bits))=nd.en:=by
  unfold Nd.en Nd.id
  rw [hd,hch,show (spotA p [h]).Prev=hid h from Zhd p [] h,hah,hwk];rfl
 rw [e]
 exact ZkS (ns:=[]) hst (by simp) nd rfl
def chAt (ns:List Nd) (k:Nat):List Zan:=(ns[k]?.map Nd.ch).getD []
def wkAt (ns:List Nd) (k:Nat):Int:=(ns[k]?.map Nd.wk).getD 0
theorem ZhP {ns:List Nd} {k:Nat} (h:k<ns.length):chAt ns k=ns[k].ch:=by simp [chAt,h]
theorem Zkm {ns:List Nd} {k:Nat} (h:k<ns.length):wkAt ns k=ns[k].wk:=by simp [wkAt,h]
def nodeOn (ns:List Nd) (k:Nat) (h:Zan):Nd:=⟨chAt ns k ++ [h],(k:Int),wkAdd (wkAt ns k) (wkBits h.Bits)⟩
def addT (p:Zag) (gs:List ZbL) (cs:List ZbD) (room:Int) (ns:List Nd) (h:Zan) (now:Int):Int×Int×Int×List Nd:=
 if hgood h=false then (-1,1,8,ns) else
 match place 0 (ids ns) (hid h) with
 | some k=>((k:Int),0,0,ns)
 | none=>match place 0 (ids ns) h.Prev with
  | none=>(-1,2,5,ns)
  | some k=>if checkS p gs cs (spotA p (chAt ns k)) h now≠0 then (-1,checkS p gs cs (spotA p (chAt ns k)) h now,8,ns)
   else if room≤(ns.length:Int) then (-1,0,6,ns) else ((ns.length:Int),0,0,ns ++ [nodeOn ns k h])
theorem Zjo {st:LL} {i:Nat} {x:List L} (h:st[i]? = some x):st.set i x=st:=by
 apply List.ext_getElem?
 intro j
 by_cases e:i=j
 ·subst e
  obtain ⟨hi,e⟩:=List.getElem?_eq_some_iff.1 h
  rw [List.getElem?_set_self hi,h]
 ·rw [List.getElem?_set_ne e]
theorem Zia (p:Zag) (c:List Zan):wfS (spotA p c)=true:=by
 have h : ∀l:List Zan,∃ts:List Int,(spotA p l).Times=rowI ts∧ts.length≤11:=by
  refine rev_ind ⟨[],rfl,by simp⟩ (fun l h ih=>?_)
  unfold spotA at *
  rw [List.foldl_append]
  exact ⟨_,rfl,by simp;omega⟩
 obtain ⟨ts,h1,h2⟩:=h c
 simp only [wfS,h1,isI_row,Bool.true_and,decide_eq_true_eq,Zev]
 omega
theorem Add_eq (hN:500≤N) {st:LL} {i:Nat} {p:Zag} {gs:List ZbL} {cs:List ZbD} (hg:p.Gates=rowG gs) (hc:p.Checks=rowC cs) (lg:gs.length≤400) (lc:cs.length≤400) {room:Int} (hroom:room≤512) {ns:List Nd} (ht:Tree ns) (hst:st[i]? = some (aOf p room ns).lo)
  {h:Zan} (hh:WfH h) (now:Int) (hnow : -1152921504606846976≤now∧now≤9223372036854775807) :
  Zas N (some i) h now st=some ((addT p gs cs room ns h now).1,(addT p gs cs room ns h now).2.1,(addT p gs cs room ns h now).2.2.1,st.set i (aOf p room (addT p gs cs room ns h now).2.2.2).lo):=by
 have ss:=Zjo hst
 unfold Zas addT
 rw [if_neg (c:=Option.isNone (some i)=true) (by simp),ZcY,Zab]
 cases hgd:hgood h with
 | false=>rw [if_pos (by rfl),if_pos (c:=false=false) rfl];dsimp only;rw [ss]
 | true=>
  rw [if_neg (c:=(!true)=true) (by simp),if_neg (c:=true=false) (by simp),Zab,hst,ZaD,ZaQ,ZdT hN hh.w,Zab,show (aOf p room ns).places=idMap 0 (ids ns) from rfl,Zfv]
  cases e1:place 0 (ids ns) (hid h) with
  | some k=>
   show Zas.p1 N i now (k:Int) true h st=_
   unfold Zas.p1
   rw [if_pos rfl];dsimp only;rw [ss]
  | none=>
   show Zas.p1 N i now 0 false h st=_
   unfold Zas.p1
   rw [if_neg (by simp),hst,ZaD,ZaQ,show (aOf p room ns).places=idMap 0 (ids ns) from rfl,Zfv]
   cases e2:place 0 (ids ns) h.Prev with
   | none=>
    show Zas.p2 N i now 0 false h st=_
    unfold Zas.p2
    rw [if_pos (by rfl)];dsimp only;rw [ss]
   | some k=>
    show Zas.p2 N i now (k:Int) true h st=_
    obtain ⟨_,hk,_⟩:=Zen e2
    have hk':k<ns.length:=by simpa [ids] using hk
    have sw:=Zia p ns[k].ch
    have isT:isI (spotA p ns[k].ch).Times=true:=by simp only [wfS,Bool.and_eq_true] at sw;exact sw.1
    unfold Zas.p2
    dsimp only
    rw [if_neg (c:=(!true)=true) (by simp),hst,ZaD,ZaQ,show (aOf p room ns).spots=rowS p ns from rfl,ZjB,Zam (by omega),Zam (by omega),Int.toNat_natCast,Nat.zero_add,Zjs hk',ZaD,ZeD,show (aOf p room ns).rules=p from rfl,Zhu hN hg hc lg lc hh.w isT now hnow,Zab,ZhP hk']
    by_cases h4:checkS p gs cs (spotA p ns[k].ch) h now=0
    ·rw [if_neg (c:=(checkS p gs cs (spotA p ns[k].ch) h now != 0)=true) (by simp [h4]),if_neg (c:=checkS p gs cs (spotA p ns[k].ch) h now≠0) (by simp [h4]),show (aOf p room ns).list=rowE ns from rfl,ZdL,show (aOf p room ns).room=room from rfl]
     by_cases h5:room≤(ns.length:Int)
     ·rw [if_pos (by simpa using h5),if_pos h5];dsimp only;rw [ss]
     ·rw [if_neg (by simpa using h5),if_neg h5,ZeI hN hh.w sw,Zab]
      have be:behind p (spotA p ns[k].ch) h=spotA p (nodeOn ns k h).ch:=by
       unfold nodeOn spotA
       rw [ZhP hk',List.foldl_append];rfl
      have hm:=List.getElem_mem hk'
      have sm:=ht.small
      have cl:=(ht.ch _ hm).2
      rw [be,keep_eq (by omega) hst ht.small hk' (ht.wk _ hm) (by omega) (nodeOn ns k h) (by unfold nodeOn;rw [ZhP hk']) rfl (by unfold nodeOn;rw [Zkm hk']) e1,Zab]
    ·rw [if_pos (c:=(checkS p gs cs (spotA p ns[k].ch) h now != 0)=true) (by simpa using h4),if_pos (c:=checkS p gs cs (spotA p ns[k].ch) h now≠0) h4];dsimp only;rw [ss]
def placeI (o:Option Nat):Int:=match o with
 | some k=>(k:Int)
 | none=>-1
theorem Tree.one_node {g:Zan} (hg:WfH g):Tree [⟨[g],-1,wkBits g.Bits⟩] where
 small:=by simp
 ch:=fun n hn=>by cases List.mem_singleton.1 hn;simp
 wf:=fun n hn x hx=>by cases List.mem_singleton.1 hn;cases List.mem_singleton.1 hx;exact hg
 wk:=fun n hn=>by cases List.mem_singleton.1 hn;exact ZfK _
 ah:=fun i h=>.inl ⟨by simpa using h,by simp at h;subst h;rfl,by simp at h;subst h;rfl⟩
 one:=by simp [ids]
theorem Tree.grow {ns:List Nd} (ht:Tree ns) {k:Nat} (hk:k<ns.length) {h:Zan} (hh:WfH h) (hs:ns.length<512) (hid':place 0 (ids ns) (hid h)=none):Tree (ns ++ [nodeOn ns k h]):=by
 have hm:=List.getElem_mem hk
 have cl:=ht.ch _ hm
 have hc:(nodeOn ns k h).ch=ns[k].ch ++ [h]:=by unfold nodeOn;rw [ZhP hk]
 have hd:=(nodeOn ns k h).hd_snoc rfl
 refine ⟨by simp;omega,?_,?_,?_,?_,?_⟩
 ·intro n hn
  rcases List.mem_append.1 hn with hn | hn
  ·have:=ht.ch n hn;exact ⟨this.1,by simp;omega⟩
  ·cases List.mem_singleton.1 hn
   rw [hc];exact ⟨by simp,by simp;omega⟩
 ·intro n hn x hx
  rcases List.mem_append.1 hn with hn | hn
  ·exact ht.wf n hn x hx
  ·cases List.mem_singleton.1 hn
   rw [hc] at hx
   rcases List.mem_append.1 hx with hx | hx
   ·exact ht.wf _ hm x hx
   ·cases List.mem_singleton.1 hx;exact hh
 ·intro n hn
  rcases List.mem_append.1 hn with hn | hn
  ·exact ht.wk n hn
  ·cases List.mem_singleton.1 hn
   unfold nodeOn;rw [Zkm hk]
   exact Zkn (ht.wk _ hm) (ZfK _)
 ·intro i hi
  by_cases hlt:i<ns.length
  ·rw [List.getElem_append_left hlt]
   rcases ht.ah i hlt with a | ⟨q,hq,a,b⟩
   ·exact .inl a
   ·exact .inr ⟨q,hq,a,by rw [List.getElem_append_left (by omega)];exact b⟩
  ·have:i=ns.length:=by simp at hi;omega
   subst this
   refine .inr ⟨k,hk,?_,?_⟩
   ·rw [List.getElem_append_right (by omega)];simp [nodeOn]
   ·rw [List.getElem_append_right (by omega),List.getElem_append_left hk]
    simp only [Nat.sub_self,List.getElem_singleton]
    rw [hc,hd]
 ·have np:=Zhj hid'
  unfold ids at *
  rw [List.map_append,List.nodup_append]
  refine ⟨ht.one,by simp,?_⟩
  intro a ha b hb
  simp only [List.map_cons,List.map_nil,List.mem_singleton] at hb
  subst hb
  intro e
  unfold Nd.id at e
  rw [hd] at e
  exact np (by rw [←e];exact ha)
theorem Zhr (p:Zag) (gs:List ZbL) (cs:List ZbD) (room:Int) (ns:List Nd) (h:Zan) (now:Int) :
  (addT p gs cs room ns h now).2.2.2=ns∨∃k:Nat,k<ns.length∧hgood h=true∧place 0 (ids ns) (hid h)=none∧checkS p gs cs (spotA p (chAt ns k)) h now=0∧(ns.length:Int)<room ∧
   addT p gs cs room ns h now=((ns.length:Int),0,0,ns ++ [nodeOn ns k h]):=by
 unfold addT
 by_cases hg:hgood h=false
 ·rw [if_pos hg];exact .inl rfl
 rw [if_neg hg]
 cases e1:place 0 (ids ns) (hid h) with
 | some k=>exact .inl rfl
 | none=>
  dsimp only
  cases e2:place 0 (ids ns) h.Prev with
  | none=>exact .inl rfl
  | some k=>
   dsimp only
   obtain ⟨_,hk,_⟩:=Zen e2
   have hk':k<ns.length:=by simpa [ids] using hk
   by_cases h1:checkS p gs cs (spotA p (chAt ns k)) h now=0
   ·rw [if_neg (by simp [h1])]
    by_cases h2:room≤(ns.length:Int)
    ·rw [if_pos h2];exact .inl rfl
    ·rw [if_neg h2]
     exact .inr ⟨k,hk',by simpa using hg,rfl,h1,by omega,rfl⟩
   ·rw [if_pos h1];exact .inl rfl
theorem Zlv {p:Zag} {gs:List ZbL} {cs:List ZbD} {room:Int} (hr:room≤512) {ns:List Nd} (ht:Tree ns) {h:Zan} (hh:WfH h) (now:Int):Tree (addT p gs cs room ns h now).2.2.2:=by
 rcases Zhr p gs cs room ns h now with e | ⟨k,hk,_,hi,_,hl,e⟩
 ·rw [e];exact ht
 ·rw [e];exact ht.grow hk hh (by omega) hi
theorem addT_len (p:Zag) (gs:List ZbL) (cs:List ZbD) (room:Int) (ns:List Nd) (h:Zan) (now:Int):ns.length≤(addT p gs cs room ns h now).2.2.2.length∧(addT p gs cs room ns h now).2.2.2.length≤ns.length+1:=by
 rcases Zhr p gs cs room ns h now with e | ⟨k,hk,_,hi,_,hl,e⟩
 ·rw [e];omega
 ·rw [e];simp
def roomOf (room:Int):Int:=if (512:Int)<(if (1:Int)>room then 1 else room) then 512 else (if (1:Int)>room then 1 else room)
theorem Zik (r:Int):1≤roomOf r∧roomOf r≤512:=by unfold roomOf;split<;>split<;>omega
def rootN (p:Zag):Nd:=⟨[p.Genesis],-1,wkBits p.Genesis.Bits⟩
theorem set_last (st:LL) (a b:List L):(st ++ [a]).set st.length b=st ++ [b]:=by simp
theorem New_eq (hN:500≤N) {p:Zag} {gs:List ZbL} {cs:List ZbD} (hg:p.Gates=rowG gs) (hc:p.Checks=rowC cs) (lg:gs.length≤400) (lc:cs.length≤400) (hp:WfP p) (room:Int) (st:LL) :
  ZcN N p room st=if rgood p gs cs=true then some (some st.length,0,st ++ [(aOf p (roomOf room) [rootN p]).lo]) else some (none,1,st):=by
 unfold ZcN
 rw [Zid hN hg lg hc lc,Zab]
 cases hgd:rgood p gs cs with
 | false=>rfl
 | true=>
  have pp:({p with Gates:=[]++p.Gates,Checks:=[]++p.Checks}:Zag)=p:=rfl
  rw [if_neg (c:=(!true)=true) (by simp),pp,Zam (by rw [hg,List.nil_append,Zgy];omega),Zam (by rw [hc,List.nil_append,Zgz];omega),ZgX hN hp.h.w,Zab]
  have hst:(st ++ [(aOf p (roomOf room) []).lo])[st.length]? = some (aOf p (roomOf room) []).lo:=by simp
  have k:=keep0_eq (N:=N) (by omega) hst (h:=p.Genesis) (rootN p) rfl rfl rfl
  rw [set_last] at k
  rw [if_pos (c:=true=true) rfl]
  show optE (ZaE N (some st.length) p.Genesis (-1) (spotA p (rootN p).ch) (st ++ [(aOf p (roomOf room) []).lo])) _=_
  rw [k,Zab]
theorem ZhU (p:Zag) (room:Int) (ns:List Nd):Zbi N (aOf p room ns)=some (ns.length:Int):=by
 unfold Zbi;rw [show (aOf p room ns).list=rowE ns from rfl,ZdL]
theorem Zlx (p:Zag) (room:Int) (ns:List Nd):Zbn N (aOf p room ns)=some room:=rfl
theorem ZlA (p:Zag) (room:Int) (ns:List Nd) (x:List Int):Zbh N (aOf p room ns) x=some (placeI (place 0 (ids ns) x)):=by
 unfold Zbh
 rw [show (aOf p room ns).places=idMap 0 (ids ns) from rfl,Zfv]
 cases place 0 (ids ns) x<;>rfl
theorem Zjf (p:Zag) (room:Int) {ns:List Nd} {k:Nat} (hk:k<ns.length):ZaW N (aOf p room ns) (k:Int)=some (ns[k].en,true):=by
 unfold ZaW ZaO
 rw [show (aOf p room ns).list=rowE ns from rfl,ZdL,if_pos (by simp),Zab,if_neg (by simp<;>omega),Zam (by omega),Zam (by omega),Int.toNat_natCast,Zgk hk,ZaD,Zdb]
theorem ZiM (p:Zag) (room:Int) {ns:List Nd} {k:Int} (hk:k<0∨(ns.length:Int)≤k):ZaW N (aOf p room ns) k=some (Zbl.mk (Zan.mk 0 (List.replicate 32 0) (List.replicate 32 0) 0 0 0) (List.replicate 32 0) (-1) 0 (List.replicate 4 0),false):=by
 unfold ZaW ZaO
 rw [show (aOf p room ns).list=rowE ns from rfl,ZdL]
 by_cases h:k≥0
 ·rw [if_pos (by simpa using h),Zab,if_pos (by simp<;>omega)]
 ·rw [if_neg (by simpa using h),Zab,if_pos (by rfl)]
end Go.Dn.F
set_option maxRecDepth 100000
namespace Go.Dn.F
open Go.Dn Go.Proofs
variable {N:Nat}
abbrev tysCm:List Ty:=[.int .i64,.arr .u8 32,.arr .u8 32,.int .i64,.int .i64,.int .i64,.int .i64]
def pA:Zag:=⟨545259519,4,10,0,false,[],[],List.replicate 4 0,List.replicate 4 0,h0⟩
theorem h0_wf:WfH h0:=⟨by unfold i64R h0;simp,by unfold wfH h0;decide,by unfold i64R h0;simp,by unfold i64R h0;simp,by unfold i64R h0;simp⟩
theorem pA_wf:WfP pA where
 l:=by unfold i64R pA;simp
 i:=by unfold i64R pA;simp
 s:=by unfold i64R pA;simp
 f:=by unfold i64R pA;simp
 g:=by unfold pA;simp
 gl:=by unfold pA;simp
 c:=by unfold pA;simp
 cl:=by unfold pA;simp
 m:=by unfold pA;exact ⟨rfl,fun x hx=>by obtain ⟨_,rfl⟩:=List.mem_replicate.1 hx;decide⟩
 r:=by unfold pA;exact ⟨rfl,fun x hx=>by obtain ⟨_,rfl⟩:=List.mem_replicate.1 hx;decide⟩
 h:=h0_wf
end Go.Dn.F
set_option maxRecDepth 40000
namespace Go.Dn.F
open Go.Dn Go.Proofs
variable {N:Nat}
def rowF (ns:List Nd):Nat→Nat→List Nat
 | 0,k=>[k]
 | f+1,k=>match ns[k]? with
  | some n=>if n.ah<0 then [k] else rowF ns f n.ah.toNat ++ [k]
  | none=>[k]
def rowP (ns:List Nd) (k:Nat):List Nat:=rowF ns k k
theorem ZkI {ns:List Nd} (ht:Tree ns) : ∀(k f g:Nat),k<ns.length→k≤f→k≤g→rowF ns f k=rowF ns g k:=by
 intro k
 induction k using Nat.strongRecOn with
 | ind k ih=>
  intro f g hk hf hg
  rcases ht.ah k hk with ⟨z,a,c⟩ | ⟨q,hq,a,c⟩
  ·have e : ∀f,rowF ns f k = [k]:=fun f=>by
    cases f with
    | zero=>rfl
    | succ f=>unfold rowF;rw [List.getElem?_eq_getElem hk];dsimp only;rw [a,if_pos (by omega)]
   rw [e,e]
  ·obtain ⟨f,rfl⟩ : ∃x,f=x+1:=⟨f-1,by omega⟩
   obtain ⟨g,rfl⟩ : ∃x,g=x+1:=⟨g-1,by omega⟩
   unfold rowF
   rw [List.getElem?_eq_getElem hk]
   dsimp only
   rw [a,if_neg (by omega),if_neg (by omega),Int.toNat_natCast,ih q hq f g (by omega) (by omega) (by omega)]
theorem ZkD {ns:List Nd} {k:Nat} (hk:k<ns.length) (a:ns[k].ah = -1):rowP ns k = [k]:=by
 unfold rowP
 cases k with
 | zero=>rfl
 | succ f=>unfold rowF;rw [List.getElem?_eq_getElem hk];dsimp only;rw [a,if_pos (by omega)]
theorem Zif {ns:List Nd} (ht:Tree ns) {k q:Nat} (hk:k<ns.length) (hq:q<k) (a:ns[k].ah=(q:Int)):rowP ns k=rowP ns q ++ [k]:=by
 obtain ⟨f,rfl⟩ : ∃x,k=x+1:=⟨k-1,by omega⟩
 unfold rowP
 rw [rowF,List.getElem?_eq_getElem hk]
 dsimp only
 rw [a,if_neg (by omega),Int.toNat_natCast,ZkI ht q f q (by omega) (by omega) (by omega)]
theorem Zem {ns:List Nd} (ht:Tree ns) {k:Nat} (hk:k<ns.length) :
  (k=0∧ns[k].ah = -1∧rowP ns k = [k]∧ns[k].ch.length=1)∨∃q,q<k∧ns[k].ah=(q:Int)∧rowP ns k=rowP ns q ++ [k]∧∃hq:q<ns.length,ns[k].ch=ns[q].ch ++ [ns[k].hd]:=by
 rcases ht.ah k hk with ⟨z,a,c⟩ | ⟨q,hq,a,c⟩
 ·exact .inl ⟨z,a,ZkD hk a,c⟩
 ·exact .inr ⟨q,hq,a,Zif ht hk hq a,by omega,c⟩
theorem Zhv {ns:List Nd} (ht:Tree ns) : ∀{k:Nat} (hk:k<ns.length),(rowP ns k).length=ns[k].ch.length:=by
 intro k
 induction k using Nat.strongRecOn with
 | ind k ih=>
  intro hk
  rcases Zem ht hk with ⟨z,a,e,c⟩ | ⟨q,hq,a,e,hq',c⟩
  ·rw [e,c];rfl
  ·rw [e,c,List.length_append,List.length_append,ih q hq hq'];rfl
theorem Zig {ns:List Nd} (ht:Tree ns) {k:Nat} (hk:k<ns.length):(rowP ns k)[(rowP ns k).length-1]? = some k:=by
 rcases Zem ht hk with ⟨z,a,e,c⟩ | ⟨q,hq,a,e,hq',c⟩
 ·rw [e];rfl
 ·rw [e];simp
theorem ZkE {ns:List Nd} (ht:Tree ns) : ∀{k:Nat},k<ns.length→∀x∈rowP ns k,x≤k:=by
 intro k
 induction k using Nat.strongRecOn with
 | ind k ih=>
  intro hk x hx
  rcases Zem ht hk with ⟨z,a,e,c⟩ | ⟨q,hq,a,e,hq',c⟩
  ·rw [e] at hx;simp at hx;omega
  ·rw [e] at hx
   rcases List.mem_append.1 hx with hx | hx
   ·have:=ih q hq hq' x hx;omega
   ·simp at hx;omega
theorem Zjt {ns:List Nd} (ht:Tree ns) : ∀{k:Nat},k<ns.length→∀{h x:Nat},(rowP ns k)[h]? = some x→x<ns.length∧rowP ns x=(rowP ns k).take (h+1):=by
 intro k
 induction k using Nat.strongRecOn with
 | ind k ih=>
  intro hk h x hx
  rcases Zem ht hk with ⟨z,a,e,c⟩ | ⟨q,hq,a,e,hq',c⟩
  ·rw [e] at hx ⊢
   cases h with
   | zero=>cases hx;exact ⟨hk,by rw [e];rfl⟩
   | succ h=>cases hx
  ·rw [e] at hx ⊢
   by_cases hlt:h<(rowP ns q).length
   ·rw [List.getElem?_append_left hlt] at hx
    obtain ⟨h1,h2⟩:=ih q hq hq' hx
    exact ⟨h1,by rw [h2,List.take_append_of_le_length (by omega)]⟩
   ·rw [List.getElem?_append_right (by omega)] at hx
    have e0:h-(rowP ns q).length=0:=by
     cases e1:h-(rowP ns q).length with
     | zero=>rfl
     | succ n=>rw [e1] at hx;cases hx
    rw [e0] at hx
    cases hx
    exact ⟨hk,by rw [e,List.take_of_length_le (by simp;omega)]⟩
theorem rowP_at {ns:List Nd} (ht:Tree ns) {k h x:Nat} (hk:k<ns.length) (hx:(rowP ns k)[h]? = some x) : ∃h':x<ns.length,ns[x].ch.length=h+1:=by
 obtain ⟨h1,h2⟩:=Zjt ht hk hx
 refine ⟨h1,?_⟩
 have hl:h<(rowP ns k).length:=(List.getElem?_eq_some_iff.1 hx).1
 rw [←Zhv ht h1,h2,List.length_take];omega
theorem Zju {ns:List Nd} (ht:Tree ns) {k x:Nat} (hk:k<ns.length) (hx:x∈rowP ns k) : ∃h':x<ns.length,(rowP ns k)[ns[x].ch.length-1]? = some x:=by
 obtain ⟨h,hx⟩:=List.mem_iff_getElem?.1 hx
 obtain ⟨h1,h2⟩:=rowP_at ht hk hx
 exact ⟨h1,by rw [h2];exact hx⟩
theorem ZkH (ns:List Nd) (nd:Nd) (ht:Tree ns) : ∀(k f:Nat),k<ns.length→rowF (ns ++ [nd]) f k=rowF ns f k:=by
 intro k
 induction k using Nat.strongRecOn with
 | ind k ih=>
  intro f hk
  cases f with
  | zero=>rfl
  | succ f=>
   unfold rowF
   rw [List.getElem?_append_left hk,List.getElem?_eq_getElem hk]
   dsimp only
   rcases ht.ah k hk with ⟨z,a,c⟩ | ⟨q,hq,a,c⟩
   ·rw [a,if_pos (by omega),if_pos (by omega)]
   ·rw [a,if_neg (by omega),if_neg (by omega),Int.toNat_natCast,ih q hq f (by omega)]
theorem Zfp {ns:List Nd} (nd:Nd) (ht:Tree ns) {k:Nat} (hk:k<ns.length):rowP (ns ++ [nd]) k=rowP ns k:=ZkH ns nd ht k k hk
noncomputable def tOf (p:Zag) (room:Int) (ns:List Nd) (lp:List Int):Zaj:=⟨aOf p room ns,rowI lp⟩
structure Leaps (ns:List Nd) (lp:List Int):Prop where
 len:lp.length≤ns.length
 ok : ∀(i:Nat) (v:Int),lp[i]? = some v→v = -1∨∃x:Nat,v=(x:Int)∧x≠i∧x∈rowP ns i
def hZ (ns:List Nd) (k:Int):Int:=if 0≤k∧k<(ns.length:Int) then ((ns[k.toNat]?.map Nd.ch).getD []).length-1 else -1
theorem Zlc {ns:List Nd} {k:Nat} (hk:k<ns.length):hZ ns (k:Int)=(ns[k].ch.length:Int)-1:=by
 unfold hZ;rw [if_pos (by omega),Int.toNat_natCast,List.getElem?_eq_getElem hk];rfl
theorem Zlb {ns:List Nd} {k:Int} (hk:k<0∨(ns.length:Int)≤k):hZ ns k = -1:=by
 unfold hZ;rw [if_neg (by omega)]
theorem Zkx (p:Zag) (room:Int) {ns:List Nd} (lp:List Int) {k:Nat} (hk:k<ns.length):Zbf N (tOf p room ns lp) (k:Int)=some (ns[k].en,true):=by
 unfold Zbf
 rw [show (tOf p room ns lp).store=aOf p room ns from rfl,Zjf p room hk,Zab]
theorem Zkw (p:Zag) (room:Int) {ns:List Nd} (lp:List Int) {k:Int} (hk:k<0∨(ns.length:Int)≤k) : ∃e,Zbf N (tOf p room ns lp) k=some (e,false):=by
 unfold Zbf
 rw [show (tOf p room ns lp).store=aOf p room ns from rfl,ZiM p room hk,Zab]
 exact ⟨_,rfl⟩
theorem Zfy (p:Zag) (room:Int) (ns:List Nd) (lp:List Int) (k:Int):ZaH N (tOf p room ns lp) k=some (hZ ns k):=by
 unfold ZaH
 by_cases h:0≤k∧k<(ns.length:Int)
 ·obtain ⟨j,rfl⟩ : ∃j:Nat,k=(j:Int):=⟨k.toNat,by omega⟩
  have hj:j<ns.length:=by omega
  rw [Zkx p room lp hj,Zab]
  dsimp only
  rw [if_neg (by simp),Zlc hj];rfl
 ·obtain ⟨e,h1⟩:=Zkw (N:=N) p room (ns:=ns) lp (k:=k) (by omega)
  rw [h1,Zab]
  dsimp only
  rw [if_pos (by rfl),Zlb (by omega)]
def ancZ (ns:List Nd) (k h:Int):Int:=if 0≤k∧k<(ns.length:Int)∧0≤h then ((rowP ns k.toNat)[h.toNat]?.map fun (x:Nat)=>(x:Int)).getD (-1) else -1
theorem ancZ_at {ns:List Nd} {k h x:Nat} (hk:k<ns.length) (hx:(rowP ns k)[h]? = some x):ancZ ns (k:Int) (h:Int)=(x:Int):=by
 unfold ancZ;rw [if_pos (by omega),Int.toNat_natCast,Int.toNat_natCast,hx];rfl
theorem Zie {ns:List Nd} (ht:Tree ns) {k x y:Nat} (hk:k<ns.length) (hx:x∈rowP ns k) (hy:y∈rowP ns x):y∈rowP ns k:=by
 obtain ⟨h,hx⟩:=List.mem_iff_getElem?.1 hx
 obtain ⟨_,e⟩:=Zjt ht hk hx
 rw [e] at hy
 exact List.mem_of_mem_take hy
theorem row_lt {ns:List Nd} (ht:Tree ns) {x y:Nat} (hx:x<ns.length) (hy:y∈rowP ns x) (hne:y≠x) : ∃h:y<ns.length,ns[y].ch.length<ns[x].ch.length:=by
 obtain ⟨h,e⟩:=Zju ht hx hy
 refine ⟨h,?_⟩
 have hl:=(List.getElem?_eq_some_iff.1 e).1
 have ll:=Zig ht hx
 have e2:=Zhv ht hx
 have p1:=List.length_pos_iff.2 (ht.ch _ (List.getElem_mem h)).1
 rcases Nat.lt_or_ge ns[y].ch.length ns[x].ch.length with h3 | h3
 ·exact h3
 ·rw [show ns[y].ch.length-1=(rowP ns x).length-1 by omega,ll] at e
  cases e;exact absurd rfl hne
theorem Zjr {ns:List Nd} (ht:Tree ns) {k:Nat} (hk:k<ns.length):k∈rowP ns k:=List.mem_of_getElem? (Zig ht hk)
theorem ZkC {ns:List Nd} (ht:Tree ns) {k q:Nat} (hk:k<ns.length) (hq:q<k) (e:rowP ns k=rowP ns q ++ [k]):q∈rowP ns k:=by
 rw [e];exact List.mem_append.2 (.inl (Zjr ht (by omega)))
theorem ZgU (hN:600≤N) {p:Zag} {room:Int} {ns:List Nd} {lp:List Int} (ht:Tree ns) (hl:Leaps ns lp) (k h:Int) (hb:k<(lp.length:Int)∨ns.length≤lp.length):Zao N (tOf p room ns lp) k h=some (ancZ ns k h):=by
 have sm:=ht.small
 unfold Zao
 rw [Zfy,Zab]
 by_cases h0:h<0
 ·rw [if_pos (by simpa using h0)];unfold ancZ;rw [if_neg (by omega)]
 rw [if_neg (by simpa using h0)]
 by_cases hk0:k<0∨(ns.length:Int)≤k
 ·rw [Zlb (by omega),if_pos (by simp;omega)];unfold ancZ;rw [if_neg (by omega)]
 obtain ⟨k,rfl⟩ : ∃j:Nat,k=(j:Int):=⟨k.toNat,by omega⟩
 obtain ⟨h,rfl⟩ : ∃j:Nat,h=(j:Int):=⟨h.toNat,by omega⟩
 have hk:k<ns.length:=by omega
 have lk:=Zhv ht hk
 have lb:=(ht.ch _ (List.getElem_mem hk)).2
 rw [Zlc hk]
 by_cases h1:(h:Int)>(ns[k].ch.length:Int)-1
 ·rw [if_pos (by simpa using h1)];unfold ancZ
  rw [if_pos (by omega),Int.toNat_natCast,Int.toNat_natCast,List.getElem?_eq_none (by omega)];rfl
 rw [if_neg (by simpa using h1)]
 have hh:h<(rowP ns k).length:=by omega
 obtain ⟨t,et⟩ : ∃t,(rowP ns k)[h]? = some t:=⟨_,List.getElem?_eq_getElem hh⟩
 rw [ancZ_at hk et]
 refine Zct (fun m (s:Int×Int)=>∃(x:Nat) (hx:x<ns.length),m=ns[x].ch.length∧s=((x:Int),(ns[x].ch.length:Int)-1)∧x∈rowP ns k∧h+1≤ns[x].ch.length) ?_ N ns[k].ch.length _ ⟨k,hk,rfl,rfl,Zjr ht hk,by omega⟩ (by omega)
 rintro G m _ ⟨x,hx,rfl,rfl,hm,hle⟩ hG
 unfold Zao.p1 Zao.p2
 dsimp only
 by_cases hgt:(ns[x].ch.length:Int)-1>(h:Int)
 ·have hx2:x<lp.length:=by
   have:=ZkE ht hk x hm
   omega
  rw [if_pos (by simpa using hgt),Zkx p room lp hx,Zab]
  dsimp only
  rw [show (tOf p room ns lp).leaps=rowI lp from rfl,Zam (by omega),Zfw,Zam (by omega),Int.toNat_natCast,Zjv hx2,ZaD,ZdV,show (ns[x].en).Ahead=ns[x].ah from rfl]
  rcases Zem ht hx with ⟨z,a,e,c⟩ | ⟨q,hq,a,e,hq',c⟩
  ·omega
  ·have cl:=congrArg List.length c
   rw [List.length_append,List.length_singleton] at cl
   have toq:G ((q:Int),(ns[q].ch.length:Int)-1)=some (t:Int):=hG ns[q].ch.length _ (by omega) ⟨q,hq',rfl,rfl,Zie ht hk hm (ZkC ht hx hq e),by omega⟩
   rcases hl.ok x lp[x] (List.getElem?_eq_getElem hx2) with v | ⟨y,v,hne,hy⟩
   ·rw [v,if_neg (by simp),a,Zfy,Zab,Zlc hq'];exact toq
   ·obtain ⟨hy',hyl⟩:=row_lt ht hx hy hne
    rw [v,if_pos (by simp<;>omega),Zfy,Zab,Zlc hy']
    by_cases h3:(ns[y].ch.length:Int)-1≥(h:Int)
    ·rw [if_pos (by simpa using h3),Zab]
     exact hG ns[y].ch.length _ hyl ⟨y,hy',rfl,rfl,Zie ht hk hm hy,by omega⟩
    ·rw [if_neg (by simpa using h3),a,Zfy,Zab,Zlc hq'];exact toq
 ·obtain ⟨h3,e3⟩:=Zju ht hk hm
  rw [show ns[x].ch.length-1=h by omega,et] at e3
  cases e3
  rw [if_neg (by simpa using hgt)]
end Go.Dn.F
set_option maxRecDepth 100000
namespace Go.Dn.F
open Go.Dn Go.Proofs
variable {N:Nat}
end Go.Dn.F
set_option maxRecDepth 40000
namespace Go.Dn.F
open Go.Dn Go.Proofs
variable {N:Nat}
noncomputable def tree2 (ia:Nat) (lp:List Int):List L:=[L.ptr (some ia),L.own true 1 (rowI lp)]
structure TreeAt (st:LL) (ia it:Nat) (p:Zag) (room:Int) (ns:List Nd) (lp:List Int):Prop where
 a:st[ia]? = some (aOf p room ns).lo
 t:st[it]? = some (tree2 ia lp)
 ne:ia≠it
 lv:Leaps ns lp
 len:lp.length=ns.length
 tr:Tree ns
theorem skH_eq (h:Int) : ∃x,ZbN N h=some x:=by
 unfold ZbN Zcr
 by_cases h1:h<2
 ·rw [if_pos (by simpa using h1)];exact ⟨_,rfl⟩
 rw [if_neg (by simpa using h1)]
 by_cases h2:bitsOf .and .i64 h 1=0
 ·rw [if_pos (by simpa using h2)];exact ⟨_,rfl⟩
 ·rw [if_neg (by simpa using h2)];exact ⟨_,rfl⟩
theorem Zkl (p:Zag) (gs:List ZbL) (cs:List ZbD) (room:Int) (ns:List Nd) (h:Zan) (now:Int) :
  ((addT p gs cs room ns h now).2.2.2=ns∧((addT p gs cs room ns h now).2.2.1≠0∨∃k:Nat,k<ns.length∧(addT p gs cs room ns h now).1=(k:Int)))∨∃k:Nat,k<ns.length∧place 0 (ids ns) (hid h)=none∧(ns.length:Int)<room ∧
   addT p gs cs room ns h now=((ns.length:Int),0,0,ns ++ [nodeOn ns k h]):=by
 unfold addT
 by_cases hg:hgood h=false
 ·rw [if_pos hg];exact .inl ⟨rfl,.inl (by simp)⟩
 rw [if_neg hg]
 cases e1:place 0 (ids ns) (hid h) with
 | some k=>
  obtain ⟨_,hk,_⟩:=Zen e1
  have hk':k<ns.length:=by simpa [ids] using hk
  exact .inl ⟨rfl,.inr ⟨k,hk',rfl⟩⟩
 | none=>
  dsimp only
  cases e2:place 0 (ids ns) h.Prev with
  | none=>exact .inl ⟨rfl,.inl (by simp)⟩
  | some k=>
   dsimp only
   obtain ⟨_,hk,_⟩:=Zen e2
   have hk':k<ns.length:=by simpa [ids] using hk
   by_cases h1:checkS p gs cs (spotA p (chAt ns k)) h now=0
   ·rw [if_neg (by simp [h1])]
    by_cases h2:room≤(ns.length:Int)
    ·rw [if_pos h2];exact .inl ⟨rfl,.inl (by simp)⟩
    ·rw [if_neg h2]
     exact .inr ⟨k,hk',rfl,by omega,rfl⟩
   ·rw [if_pos h1];exact .inl ⟨rfl,.inl (by simp)⟩
theorem Leaps.grow {ns:List Nd} {lp:List Int} (ht:Tree ns) (hl:Leaps ns lp) (hlen:lp.length=ns.length) {nd:Nd} (ht':Tree (ns ++ [nd])) {k:Nat} (hk:k<ns.length) (ha:nd.ah=(k:Int)) (h:Int):Leaps (ns ++ [nd]) (lp ++ [ancZ (ns ++ [nd]) (k:Int) h]) where
 len:=by simp [hlen]
 ok:=fun i v hv=>by
  by_cases hi:i<lp.length
  ·rw [List.getElem?_append_left hi] at hv
   rcases hl.ok i v hv with h1 | ⟨x,h1,h2,h3⟩
   ·exact .inl h1
   ·exact .inr ⟨x,h1,h2,by rw [Zfp nd ht (by omega)];exact h3⟩
  ·have e0:i=ns.length:=by
    have:=(List.getElem?_eq_some_iff.1 hv).1
    simp at this;omega
   subst e0
   rw [List.getElem?_append_right (by omega),hlen,Nat.sub_self] at hv
   cases hv
   have hn:ns.length<(ns ++ [nd]).length:=by simp
   have ea:(ns ++ [nd])[ns.length].ah=(k:Int):=by simpa using ha
   rw [Zif ht' hn hk ea,Zfp nd ht hk]
   unfold ancZ
   by_cases hc:0≤(k:Int)∧(k:Int)<((ns ++ [nd]).length:Int)∧0≤h
   ·rw [if_pos hc,Int.toNat_natCast,Zfp nd ht hk]
    cases e:(rowP ns k)[h.toNat]? with
    | none=>exact .inl rfl
    | some y=>
     have hy:=List.mem_of_getElem? e
     have:=ZkE ht hk y hy
     exact .inr ⟨y,rfl,by omega,List.mem_append.2 (.inl hy)⟩
   ·rw [if_neg hc];exact .inl rfl
theorem skAdd_eq (hN:600≤N) {st:LL} {ia it:Nat} {p:Zag} {gs:List ZbL} {cs:List ZbD} (hg:p.Gates=rowG gs) (hc:p.Checks=rowC cs) (lg:gs.length≤400) (lc:cs.length≤400) {room:Int} (hroom:room≤512) {ns:List Nd} {lp:List Int} (T:TreeAt st ia it p room ns lp)
  {h:Zan} (hh:WfH h) (now:Int) (hnow : -1152921504606846976≤now∧now≤9223372036854775807) :
  ∃lp' st',Zbd N (some it) h now st=some ((addT p gs cs room ns h now).1,(addT p gs cs room ns h now).2.1,(addT p gs cs room ns h now).2.2.1,st')∧TreeAt st' ia it p room (addT p gs cs room ns h now).2.2.2 lp'∧(∀j,j≠ia→j≠it→st'[j]? = st[j]?):=by
 have ht':=Zlv (p:=p) (gs:=gs) (cs:=cs) hroom T.tr hh now
 unfold Zbd Zbd.p1
 rw [if_neg (c:=Option.isNone (some it)=true) (by simp),Zab,T.t,ZaD]
 unfold tree2
 rw [ZbY,Add_eq (by omega) hg hc lg lc hroom T.tr T.a hh now hnow,Zab]
 dsimp only
 rcases Zkl p gs cs room ns h now with ⟨e,e1⟩ | ⟨k,hk,hpl,hlr,e⟩
 ·rw [e,Zjo T.a]
  refine ⟨lp,st,?_,T,fun j _ _=>rfl⟩
  by_cases h6:(addT p gs cs room ns h now).2.2.1=0
  ·rcases e1 with e1 | ⟨k,hk,e1⟩
   ·exact absurd h6 e1
   ·rw [if_pos (by simpa using h6),T.t,ZaD]
    unfold tree2
    rw [ZbY,if_neg (by rw [e1,Zfw,T.len];simp;omega)]
  ·rw [if_neg (by simpa using h6)]
 ·rw [e] at ht' ⊢
  dsimp only at ht' ⊢
  have t2:(st.set ia (aOf p room (ns ++ [nodeOn ns k h])).lo)[it]? = some (tree2 ia lp):=by
   rw [List.getElem?_set_ne T.ne];exact T.t
  have a2:(st.set ia (aOf p room (ns ++ [nodeOn ns k h])).lo)[ia]? = some (aOf p room (ns ++ [nodeOn ns k h])).lo:=List.getElem?_set_self (List.getElem?_eq_some_iff.1 T.a).1
  have hit:=(List.getElem?_eq_some_iff.1 t2).1
  have hn:ns.length<(ns ++ [nodeOn ns k h]).length:=by simp
  have en:(ns ++ [nodeOn ns k h])[ns.length]=nodeOn ns k h:=by simp
  obtain ⟨hx,eh⟩:=skH_eq (N:=N) ((ns ++ [nodeOn ns k h])[ns.length].en).Height
  have lv:Leaps (ns ++ [nodeOn ns k h]) lp:=⟨by rw [T.len];simp,fun i v hv=>by
   have hi:=(List.getElem?_eq_some_iff.1 hv).1
   rcases T.lv.ok i v hv with h1 | ⟨x,h1,h2,h3⟩
   ·exact .inl h1
   ·exact .inr ⟨x,h1,h2,by rw [Zfp _ T.tr (by rw [←T.len];exact hi)];exact h3⟩⟩
  have sm:=T.tr.small
  rw [if_pos (by rfl),t2,ZaD]
  unfold tree2
  rw [ZbY,if_pos (by rw [Zfw,T.len];simp),Zab,a2,ZaD,ZaQ,Zjf p room hn,Zab]
  dsimp only
  rw [eh,Zab,show ((ns ++ [nodeOn ns k h])[ns.length].en).Ahead=(ns ++ [nodeOn ns k h])[ns.length].ah from rfl,en,show (nodeOn ns k h).ah=(k:Int) from rfl,show (Zaj.mk (aOf p room (ns ++ [nodeOn ns k h])) (rowI lp))=tOf p room (ns ++ [nodeOn ns k h]) lp from rfl,ZgU hN ht' lv _ _ (.inl (by rw [T.len];omega)),Zab,rowI_one,ZiT,Zam (by rw [Zev,List.length_append,List.length_singleton,T.len];omega),List.set_set]
  refine ⟨_,_,rfl,⟨?_,?_,T.ne,T.lv.grow T.tr T.len ht' hk rfl hx,by simp [T.len],ht'⟩,fun j h1 h2=>?_⟩
  ·rw [List.getElem?_set_ne (Ne.symm T.ne)];exact a2
  ·exact List.getElem?_set_self hit
  ·rw [List.getElem?_set_ne (Ne.symm h2),List.getElem?_set_ne (Ne.symm h1)]
theorem Zjk (hN:500≤N) {p:Zag} {gs:List ZbL} {cs:List ZbD} (hg:p.Gates=rowG gs) (hc:p.Checks=rowC cs) (lg:gs.length≤400) (lc:cs.length≤400) (hp:WfP p) (room:Int) (st:LL) :
  Zdl N p room st=if rgood p gs cs=true then some (some (st.length+1),0,(st ++ [(aOf p (roomOf room) [rootN p]).lo]) ++ [tree2 st.length [-1]]) else some (none,1,st):=by
 unfold Zdl
 rw [New_eq hN hg hc lg lc hp]
 cases rgood p gs cs with
 | false=>rfl
 | true=>
  rw [if_pos rfl,Zab,if_pos (c:=true=true) rfl]
  dsimp only
  rw [if_neg (by simp),List.length_append,List.length_singleton]
  rfl
theorem Zjl {p:Zag} (hp:WfP p) (room:Int) (st:LL):TreeAt ((st ++ [(aOf p room [rootN p]).lo]) ++ [tree2 st.length [-1]]) st.length (st.length+1) p room [rootN p] [-1] where
 a:=by rw [List.getElem?_append_left (by simp)];simp
 t:=by rw [List.getElem?_append_right (by simp)];simp
 ne:=by omega
 lv:=⟨by simp,fun i v hv=>by
  cases i with
  | zero=>cases hv;exact .inl rfl
  | succ i=>cases hv⟩
 len:=rfl
 tr:=Tree.one_node hp.h
theorem TreeAt.app {st:LL} {ia it:Nat} {p:Zag} {room:Int} {ns:List Nd} {lp:List Int} (T:TreeAt st ia it p room ns lp) (x:LL):TreeAt (st++x) ia it p room ns lp where
 a:=by rw [List.getElem?_append_left (List.getElem?_eq_some_iff.1 T.a).1];exact T.a
 t:=by rw [List.getElem?_append_left (List.getElem?_eq_some_iff.1 T.t).1];exact T.t
 ne:=T.ne
 lv:=T.lv
 len:=T.len
 tr:=T.tr
end Go.Dn.F
set_option maxRecDepth 100000
namespace Go.Dn.F
open Go.Dn Go.Proofs
variable {N:Nat}
structure WfC13 (c:ZaR):Prop where
 h:WfH c.Header
 n:i64R c.Now
noncomputable def rowC13 (l:List ZaR):LL:=l.map ZaR.ls
theorem Zhg {l:List ZaR} {i:Nat} (h:i<l.length):(rowC13 l)[i]? = some l[i].ls:=by simp [rowC13,h]
@[simp] theorem Zhn (l:List ZaR):len (rowC13 l)=(l.length:Int):=by simp [len,rowC13]
@[simp] theorem Zhw (l:List ZaR):(rowC13 l).length=l.length:=by simp [rowC13]
theorem open_C13 {xs:LL} (h : ∀x∈xs,LTys tysCm x) : ∃l,xs=rowC13 l∧∀x∈l,WfC13 x:=
 decode fun x hx=>by
  obtain ⟨_,_,rfl,h1,h⟩:=(h x hx).cons_inv
  obtain ⟨_,_,rfl,h2,h⟩:=h.cons_inv
  obtain ⟨_,_,rfl,h3,h⟩:=h.cons_inv
  obtain ⟨_,_,rfl,h4,h⟩:=h.cons_inv
  obtain ⟨_,_,rfl,h5,h⟩:=h.cons_inv
  obtain ⟨_,_,rfl,h6,h⟩:=h.cons_inv
  obtain ⟨_,_,rfl,h7,h⟩:=h.cons_inv
  cases h.nil_inv
  obtain ⟨a1,rfl,w1⟩:=h1.int_inv
  obtain ⟨a2,rfl,k2,w2⟩:=h2.arr_inv
  obtain ⟨a3,rfl,k3,w3⟩:=h3.arr_inv
  obtain ⟨a4,rfl,w4⟩:=h4.int_inv
  obtain ⟨a5,rfl,w5⟩:=h5.int_inv
  obtain ⟨a6,rfl,w6⟩:=h6.int_inv
  obtain ⟨a7,rfl,w7⟩:=h7.int_inv
  refine ⟨⟨⟨a1,a2,a3,a4,a5,a6⟩,a7⟩,rfl,⟨⟨ZdI w1,?_,ZdI w4,ZdI w5,ZdI w6⟩,ZdI w7⟩⟩
  simp only [wfH,Bool.and_eq_true]
  exact ⟨Zjg k2 w2,Zjg k3 w3⟩
theorem Zkf {p:Zag} (hp:WfP p) (l:List ZaR) (hl:l.length+900≤N) (hb:l.length≤maxLen) : ∃b,Zbe N p (rowC13 l)=some b∧(b=false→(∀x∈l,0≤x.Now)∧l.length≤40∧∃gs cs,p.Gates=rowG gs∧p.Checks=rowC cs∧gs.length≤400∧cs.length≤400∧rgood p gs cs=true):=by
 unfold Zbe
 have hm:maxLen=9223372036854775807:=rfl
 refine ZeV (fun m (v:Int)=>∃k:Nat,k+m=l.length∧v=(k:Int)∧∀x∈l.take k,0≤x.Now) ?_ N l.length 0 ⟨0,by omega,rfl,by simp⟩ (by omega)
 rintro G m _ ⟨k,hk,rfl,ha⟩ hG
 unfold Zbe.p1
 rw [Zhn]
 by_cases hlt:k<l.length
 ·rw [if_pos (by simp<;>omega),Zam (by omega),Int.toNat_natCast,Zhg hlt,ZaD,Zds,ZaK (by omega) (by omega)]
  by_cases h:l[k].Now<0
  ·rw [if_pos (by simpa using h)];exact ⟨true,rfl,fun h=>by cases h⟩
  ·rw [if_neg (by simpa using h)]
   refine hG (m-1) _ (by omega) ⟨k+1,by omega,by omega,fun x hx=>?_⟩
   rw [List.take_succ_eq_append_getElem hlt] at hx
   rcases List.mem_append.1 hx with hx | hx
   ·exact ha x hx
   ·cases List.mem_singleton.1 hx;omega
 ·rw [if_neg (by simp<;>omega)]
  rw [List.take_of_length_le (by omega)] at ha
  by_cases h1:len p.Gates>20
  ·rw [if_pos (by simpa using h1)];exact ⟨true,rfl,fun h=>by cases h⟩
  rw [if_neg (by simpa using h1)]
  by_cases h2:len p.Checks>20
  ·rw [if_pos (by simpa using h2)];exact ⟨true,rfl,fun h=>by cases h⟩
  rw [if_neg (by simpa using h2)]
  by_cases h3:(l.length:Int)>40
  ·rw [if_pos (by simpa using h3)];exact ⟨true,rfl,fun h=>by cases h⟩
  rw [if_neg (by simpa using h3)]
  obtain ⟨gs,eg⟩:=open_G hp.g
  obtain ⟨cs,ec⟩:=open_K hp.c
  have lg:gs.length≤400:=by simp [len,eg] at h1;omega
  have lc:cs.length≤400:=by simp [len,ec] at h2;omega
  rw [Zhz (by omega) eg lg ec lc,Zab]
  refine ⟨_,rfl,fun h=>⟨ha,by omega,gs,cs,eg,ec,lg,lc,by simpa using h⟩⟩
theorem alive13 (hN:1000≤N) : ∃st,Zcq N []=some (true,st):=by
 unfold Zcq
 rw [show (Zag.mk 545259519 4 10 0 false [] [] (List.replicate 4 0) (List.replicate 4 0) (Zan.mk 0 (List.replicate 32 0) (List.replicate 32 0) 0 0 0))=pA from rfl,Zjk (by omega) (p:=pA) (gs:=[]) (cs:=[]) rfl rfl (by simp) (by simp) pA_wf 5 [],if_pos (by kernel_rfl),Zab,show roomOf 5=5 from rfl]
 dsimp only
 have T:=Zjl pA_wf 5 []
 generalize (([] ++ [(aOf pA 5 [rootN pA]).lo]) ++ [tree2 ([]:LL).length [-1]]:LL)=st at T ⊢
 have Tt:=T.t
 unfold tree2 at Tt
 have ea:ancZ [rootN pA] 0 0=0:=rfl
 rw [if_pos (by rfl),Zab,Tt,ZaD,ZbY,Zab,T.a,ZaD,ZaQ,show (Zaj.mk (aOf pA 5 [rootN pA]) (rowI [-1]))=tOf pA 5 [rootN pA] [-1] from rfl]
 unfold ZbI
 rw [show (tOf pA 5 [rootN pA] [-1]).store=aOf pA 5 [rootN pA] from rfl,ZhU,Zab,Zab,if_pos (by rfl),ZgU (by omega) T.tr T.lv _ _ (.inr (by simp)),Zab,ea,if_pos (by rfl),show ZbN N 8=some 0 by kernel_rfl,Zab,if_pos (by rfl),show ZbN N 7=some 1 by kernel_rfl,Zab]
 exact ⟨_,rfl⟩
def htsF:Nat→Nat→Int→Int→List Int
 | 0,_,_,_=>[]
 | f+1,c,step,h=>if h<0 then [] else h::(if 10<c+1 then htsF f (c+1) (step*2) (h-step*2) else htsF f (c+1) step (h-step))
def hts (h:Nat):List Int:=if 0<(htsF 60 0 1 (h:Int)).getLast?.getD 0 then htsF 60 0 1 (h:Int) ++ [0] else htsF 60 0 1 (h:Int)
theorem ZkV (p:Zag) (room:Int) (ns:List Nd) (k:Int):ZaO N (aOf p room ns) k=some (decide (0≤k∧k<(ns.length:Int))):=by
 unfold ZaO
 rw [show (aOf p room ns).list=rowE ns from rfl,ZdL]
 by_cases h:k≥0
 ·rw [if_pos (by simpa using h)];congr 1;simp;omega
 ·rw [if_neg (by simpa using h),decide_eq_false (by omega)]
theorem At_some (p:Zag) (room:Int) (ns:List Nd) (k:Int) : ∃r,ZaW N (aOf p room ns) k=some r:=by
 by_cases h:k<0∨(ns.length:Int)≤k
 ·exact ⟨_,ZiM p room h⟩
 ·obtain ⟨j,rfl⟩ : ∃j:Nat,k=(j:Int):=⟨k.toNat,by omega⟩
  exact ⟨_,Zjf p room (by omega)⟩
theorem Zgf (hN:10≤N) (p:Zag) (room:Int) {ns:List Nd} (ht:Tree ns) (x y:Int) : ∃b,ZaS N (aOf p room ns) x y=some b:=by
 unfold ZaS
 rw [ZkV,Zab]
 by_cases hx:x<0∨(ns.length:Int)≤x
 ·rw [if_pos (by simp;omega)];exact ⟨_,rfl⟩
 rw [if_neg (by simp;omega),ZkV,Zab]
 by_cases hy:y<0∨(ns.length:Int)≤y
 ·rw [if_pos (by simp;omega)];exact ⟨_,rfl⟩
 rw [if_neg (by simp;omega)]
 obtain ⟨a,rfl⟩ : ∃j:Nat,x=(j:Int):=⟨x.toNat,by omega⟩
 obtain ⟨b,rfl⟩ : ∃j:Nat,y=(j:Int):=⟨y.toNat,by omega⟩
 have ha:a<ns.length:=by omega
 have hb:b<ns.length:=by omega
 rw [show (aOf p room ns).list=rowE ns from rfl,ZdL,Zam (by omega),Zam (by omega),Int.toNat_natCast,Zgk ha,ZaD,Zdb,Zam (by omega),Zam (by omega),Int.toNat_natCast,Zgk hb,ZaD,Zdb,show (ns[a].en).Work=nw ns[a].wk from rfl,show (ns[b].en).Work=nw ns[b].wk from rfl,ZeA hN (ht.wk _ (List.getElem_mem ha)) (ht.wk _ (List.getElem_mem hb)),Zab]
 split
 ·exact ⟨_,rfl⟩
 ·split<;>exact ⟨_,rfl⟩
theorem Zlw (p:Zag) (ns:List Nd) (k:Int) : ∃(s:Zav) (b:Bool),∀(room:Int) (st:LL) (i:Nat),st[i]? = some (aOf p room ns).lo→Zbz N (some i) k st=some (s,b,st):=by
 by_cases h:k<0∨(ns.length:Int)≤k
 ·refine ⟨Zav.mk (ZbV.mk 0 0 0 0 0) (List.replicate 32 0) [],false,fun room st i hi=>?_⟩
  unfold Zbz ZbT
  rw [if_pos (by rfl)]
  by_cases h0:k≥0
  ·rw [if_pos (by simpa using h0),Zab,hi,ZaD,ZaQ,show (aOf p room ns).list=rowE ns from rfl,ZdL,decide_eq_false (by omega),Zab]
   dsimp only
   rw [if_pos (by rfl)]
  ·rw [if_neg (by simpa using h0),Zab]
   dsimp only
   rw [if_pos (by rfl)]
 ·obtain ⟨j,rfl⟩ : ∃j:Nat,k=(j:Int):=⟨k.toNat,by omega⟩
  have hj:j<ns.length:=by omega
  have sw:=Zia p ns[j].ch
  simp only [wfS,Bool.and_eq_true,decide_eq_true_eq] at sw
  refine ⟨{spotA p ns[j].ch with Times:=[]++(spotA p ns[j].ch).Times},true,fun room st i hi=>?_⟩
  unfold Zbz ZbT
  rw [if_pos (by rfl),if_pos (by simp),Zab,hi,ZaD,ZaQ,show (aOf p room ns).list=rowE ns from rfl,ZdL,decide_eq_true (by omega),Zab]
  dsimp only
  rw [if_neg (by simp),Zab,hi,ZaD,ZaQ,show (aOf p room ns).spots=rowS p ns from rfl,ZjB,Zam (by omega),Zam (by omega),Nat.zero_add,Int.toNat_natCast,Zjs hj,ZaD,ZeD,Zam (by rw [List.nil_append];omega)]
theorem ZhT {p:Zag} (hp:WfP p) (l:List ZaR) (hl : ∀x∈l,WfC13 x) (hb:l.length≤maxLen) (room:Int) (id_:List Int) :
  ∃st,Zat (l.length+1000) p (rowC13 l) room id_ []=some (true,st):=by
 unfold Zat
 obtain ⟨s1,al⟩:=alive13 (N:=l.length+1000) (by omega)
 rw [al,Zab]
 dsimp only
 rw [if_neg (by simp)]
 obtain ⟨b,e,hgr⟩:=Zkf (N:=l.length+1000) hp l (by omega) hb
 rw [e,Zab]
 cases b with
 | true=>rw [if_pos rfl];exact ⟨_,rfl⟩
 | false=>
  obtain ⟨hn,h40,gs,cs,eg,ec,lg,lc,hgd⟩:=hgr rfl
  rw [if_neg (by simp)]
  generalize hN:l.length+1000=N
  have rr:=Zik room
  rw [Zjk (by omega) eg ec lg lc hp,hgd,if_pos rfl,Zab]
  dsimp only
  rw [New_eq (by omega) eg ec lg lc hp,hgd,if_pos rfl,Zab]
  dsimp only
  generalize roomOf room=R at rr ⊢
  have T0:=(Zjl hp R s1).app [(aOf p R [rootN p]).lo]
  have e3:(s1 ++ [(aOf p R [rootN p]).lo] ++ [tree2 s1.length [-1]]:LL).length=s1.length+2:=by simp
  have b0:(s1 ++ [(aOf p R [rootN p]).lo] ++ [tree2 s1.length [-1]] ++ [(aOf p R [rootN p]).lo]:LL)[s1.length+2]? = some (aOf p R [rootN p]).lo:=by
   rw [List.getElem?_append_right (by simp)];simp
  rw [e3]
  generalize (s1 ++ [(aOf p R [rootN p]).lo] ++ [tree2 s1.length [-1]] ++ [(aOf p R [rootN p]).lo]:LL)=s0 at T0 b0 ⊢
  generalize s1.length=n at T0 b0 ⊢
  have key : ∃r,loopN (Zat.p1 N (some (n+1)) (some (n+2)) (rowC13 l) p id_) N (0,s0)=some r∧r.1=true:=by
   refine ZeV (Q:=fun r:Bool×LL=>r.1=true) (fun m (s:Int×LL)=>∃(j:Nat) (ns:List Nd) (lp:List Int) (st:LL),s=((j:Int),st)∧j+m=l.length∧ns.length≤j+1∧TreeAt st n (n+1) p R ns lp∧st[n+2]? = some (aOf p R ns).lo) ?_ N l.length _ ⟨0,[rootN p],[-1],s0,rfl,by omega,by simp,T0,b0⟩ (by omega)
   clear T0 b0
   rintro G m _ ⟨j,ns,lp,st,rfl,hj,h1,T,hb⟩ hG
   have ht:=T.tr
   unfold Zat.p1
   dsimp only
   rw [Zhn]
   by_cases hlt:j<l.length
   ·have wx:=hl _ (List.getElem_mem hlt)
    have nx:=hn _ (List.getElem_mem hlt)
    have rx:=wx.n
    unfold i64R at rx
    have l1:=addT_len p gs cs R ns l[j].Header l[j].Now
    obtain ⟨lp',st',ea,T',keep⟩:=skAdd_eq (N:=N) (by omega) eg ec lg lc rr.2 T wx.h l[j].Now (by omega)
    have b':st'[n+2]? = some (aOf p R ns).lo:=by rw [keep _ (by omega) (by omega)];exact hb
    rw [if_pos (by simp<;>omega),Zam (by omega),Int.toNat_natCast,Zhg hlt,ZaD,Zds,ea,Zab]
    dsimp only
    rw [Add_eq (by omega) eg ec lg lc rr.2 ht b' wx.h _ (by omega),Zab]
    dsimp only
    rw [if_neg (by simp),if_neg (by simp),if_neg (by simp),ZaK (by omega) (by omega)]
    refine hG (m-1) _ (by omega) ⟨j+1,_,lp',_,by rw [Int.natCast_add];rfl,by omega,by omega,⟨?_,?_,T'.ne,T'.lv,T'.len,T'.tr⟩,?_⟩
    ·rw [List.getElem?_set_ne (by omega)];exact T'.a
    ·rw [List.getElem?_set_ne (by omega)];exact T'.t
    ·exact List.getElem?_set_self (List.getElem?_eq_some_iff.1 b').1
   ·have sm:=ht.small
    have Tt:=T.t
    unfold tree2 at Tt
    rw [if_neg (by simp<;>omega)]
    refine ZeV (Q:=fun r:Bool×LL=>r.1=true) (fun m (s:(Option Nat)×(Option Nat)×Int×LL)=>∃i:Nat,i+m=ns.length+2∧s=(some (n+1),some (n+2),(i:Int)-1,st)) ?_ N (ns.length+2) _ ⟨0,by omega,rfl⟩ (by omega)
    rintro G2 m' _ ⟨i,hi,rfl⟩ hG2
    unfold Zat.p2 Zbf Zbu ZbI ZbR ZbS
    dsimp only
    rw [Zab,hb,ZaD,ZaQ,ZhU,Zab]
    by_cases hil:i<ns.length+2
    ·obtain ⟨⟨en,ok⟩,ea⟩:=At_some (N:=N) p R ns ((i:Int)-1)
     obtain ⟨s,sb,es⟩:=Zlw (N:=N) p ns ((i:Int)-1)
     obtain ⟨h1,e1⟩:=Zgf (N:=N) (by omega) p R ht ((i:Int)-1) 0
     obtain ⟨h2,e2⟩:=Zgf (N:=N) (by omega) p R ht 1 ((i:Int)-1)
     have et:ZbW N (some (n+1)) ((i:Int)-1) st=some (s,sb,st):=by
      unfold ZbW
      rw [if_neg (by simp),Zab,Tt,ZaD,ZbY,es R st n T.a,Zab]
     rw [if_pos (by simp<;>omega),Zab,Tt,ZaD,ZbY,Zab,T.a,ZaD,ZaQ]
     rw [ea,Zab]
     dsimp only
     rw [Zab]
     dsimp only
     rw [Zab]
     dsimp only
     rw [et,Zab]
     dsimp only
     rw [es R st (n+2) hb,Zab]
     dsimp only
     rw [if_neg (by simp),if_neg (by simp),if_neg (by simp),if_neg (by simp),if_neg (by simp),if_neg (by simp),Tt,ZaD,ZbY,Zab,T.a,ZaD,ZaQ]
     rw [e1,Zab,Zab,hb,ZaD,ZaQ,e1,Zab,if_neg (by simp)]
     rw [e2,Zab,Zab,Zab,if_neg (by simp),ZaK (by omega) (by omega)]
     exact hG2 (m'-1) _ (by omega) ⟨i+1,by omega,by rw [show ((i+1:Nat):Int)-1=(i:Int)-1+1 by omega]⟩
    ·have er:ZbH N (some (n+1)) st=some ({p with Gates:=[]++p.Gates,Checks:=[]++p.Checks},st):=by
      unfold ZbH ZbM
      rw [if_neg (by simp),Zab,Tt,ZaD,ZbY,if_neg (by simp),Zab,T.a,ZaD,ZaQ,show (aOf p R ns).rules=p from rfl,Zam (by rw [eg,List.nil_append,Zgy];omega),Zam (by rw [ec,List.nil_append,Zgz];omega),Zab]
     rw [if_neg (by simp<;>omega),Zab,Tt,ZaD,ZbY,Zab,T.a,ZaD,ZaQ]
     rw [ZhU,Zab,Zab,if_pos (by simp),Zlx,Zab,Zab,Zab,if_pos (by simp),ZlA,Zab,Zab,Zab,if_pos (by simp),er,Zab]
     dsimp only
     rw [if_pos (by simp),er,Zab]
     exact ⟨_,rfl,by simp⟩
  obtain ⟨⟨r1,r2⟩,h1,h2⟩:=key
  dsimp only at h2
  exact ⟨r2,by rw [h1,h2]⟩
theorem open_Id {ls:List L} (h:LTys [.arr .u8 32] ls) : ∃x:List Int,ls = [L.arr .u8 32 x]:=by
 obtain ⟨_,_,rfl,h1,h⟩:=h.cons_inv
 cases h.nil_inv
 obtain ⟨a,rfl,_,_⟩:=h1.arr_inv
 exact ⟨a,rfl⟩
theorem SkipStores_true {ls ss:List L} (xs:LL) (room:Int) (h0:LTys tysP ls) (h1 : ∀x∈xs,LTys tysCm x) (l1:xs.length≤maxLen) (w2:(Lit.int .i64 room).wf=true) (h3:LTys [.arr .u8 32] ss) :
  ∃st,Snd Tryz.prog 4 [.agg ls,.one (.sl 69 xs),.one (.int .i64 room),.agg ss] [] [.one (.bool true)] st:=by
 obtain ⟨p,rfl,hp⟩:=open_P h0
 obtain ⟨l,rfl,hl⟩:=open_C13 h1
 obtain ⟨x,rfl⟩:=open_Id h3
 obtain ⟨st,h⟩:=ZhT hp l hl (by rw [Zhw] at l1;exact l1) room x
 exact ⟨st,Zat.snd h⟩
end Go.Dn.F
