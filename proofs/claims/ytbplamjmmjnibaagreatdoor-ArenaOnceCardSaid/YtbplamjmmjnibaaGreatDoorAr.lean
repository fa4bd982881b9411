/- A tree of headers, as a row of nodes, each with its whole chain; the program's arena of such a tree. -/
import Derived.Test.YtbplamjmmjnibaaGreatDoorNum
import Derived.Test.YtbplamjmmjnibaaGreatDoorRul
set_option linter.unusedSimpArgs false
set_option linter.unusedVariables false
set_option maxRecDepth 40000
namespace Go.Dn.F
open Go.Dn Go.Proofs
variable {N:Nat}
structure Nd where
 ch:List Zan
 ah:Int
 wk:Int
def h0:Zan:=⟨0,List.replicate 32 0,List.replicate 32 0,0,0,0⟩
def Nd.hd (n:Nd):Zan:=n.ch.getLast?.getD h0
def Nd.id (n:Nd):List Int:=hid n.hd
noncomputable def Nd.en (n:Nd):ZbA:=⟨n.hd,n.id,n.ah,(n.ch.length:Int)-1,nw n.wk⟩
noncomputable def rowE (ns:List Nd):LL:=ns.map fun n=>n.en.ls
noncomputable def rowS (p:Zam) (ns:List Nd):LL:=ns.map fun n=>(spotA p n.ch).ls
def idMap:Nat→List (List Int)→LM
 | _,[]=>[]
 | i,x::l=>(L.arr .u8 32 x,L.int .i64 (i:Int))::idMap (i+1) l
def ids (ns:List Nd):List (List Int):=ns.map Nd.id
def place:Nat→List (List Int)→List Int→Option Nat
 | _,[],_=>none
 | i,y::l,x=>if x=y then some i else place (i+1) l x
theorem Zfc : ∀(l:List (List Int)) (i:Nat) (x:List Int),mfind (idMap i l) (L.arr .u8 32 x)=some ((place i l x).map fun k=>(k-i,L.int .i64 (k:Int)))
 | [],i,x=>rfl
 | y::l,i,x=>by
  rw [idMap,mfind]
  simp only [keyEq,and_self,if_true]
  unfold place
  by_cases h:x=y
  ·subst h;simp
  ·rw [show (x==y)=false by simpa using h,if_neg h,Zfc l (i+1) x]
   cases e:place (i+1) l x with
   | none=>rfl
   | some k=>
    have : ∀(l:List (List Int)) (i k:Nat),place i l x=some k→i≤k:=by
     intro l
     induction l with
     | nil=>intro i k h;cases h
     | cons z l ih=>
      intro i k h
      unfold place at h
      split at h
      ·cases h;omega
      ·have:=ih _ _ h;omega
    have:=this l (i+1) k e
    simp only [Option.map_some]
    rw [show k-(i+1)+1=k-i by omega]
theorem ZfQ : ∀(l:List (List Int)) (i:Nat) (x:List Int),idMap i (l ++ [x])=idMap i l ++ [(L.arr .u8 32 x,L.int .i64 ((i+l.length:Nat):Int))]
 | [],i,x=>rfl
 | y::l,i,x=>by rw [List.cons_append,idMap,ZfQ l (i+1) x,idMap,List.length_cons,show i+1+l.length=i+(l.length+1) by omega];rfl
theorem Zfw : ∀{l:List (List Int)} {i k:Nat} {x:List Int},place i l x=some k→i≤k∧∃h:k-i<l.length,l[k-i]=x
 | y::l,i,k,x,h=>by
  unfold place at h
  split at h
  ·rename_i e;cases h;exact ⟨by omega,by simp,by simp [e]⟩
  ·obtain ⟨h1,h2,h3⟩:=Zfw h
   refine ⟨by omega,by simp;omega,?_⟩
   have:k-i=(k-(i+1))+1:=by omega
   simp only [this,List.getElem_cons_succ];exact h3
theorem Zhd : ∀{l:List (List Int)} {i:Nat} {x:List Int},place i l x=none→x∉l
 | [],_,_,_=>by simp
 | y::l,i,x,h=>by
  unfold place at h
  split at h
  ·cases h
  ·rename_i e;simp [e,Zhd h]
noncomputable def aOf (p:Zam) (room:Int) (ns:List Nd):Zal:=⟨p,rowE ns,rowS p ns,idMap 0 (ids ns),room⟩
theorem Zjq {ns:List Nd} {i:Nat} (h:i<ns.length):(rowE ns)[i]? = some ns[i].en.ls:=by simp [rowE,h]
theorem rowS_get {p:Zam} {ns:List Nd} {i:Nat} (h:i<ns.length):(rowS p ns)[i]? = some (spotA p ns[i].ch).ls:=by simp [rowS,h]
@[simp] theorem ZeE (ns:List Nd):len (rowE ns)=(ns.length:Int):=by simp [len,rowE]
@[simp] theorem len_rowS (p:Zam) (ns:List Nd):len (rowS p ns)=(ns.length:Int):=by simp [len,rowS]
structure Tree (ns:List Nd):Prop where
 small:ns.length≤512
 ch : ∀n∈ns,n.ch ≠ []∧n.ch.length≤ns.length
 wf : ∀n∈ns,∀x∈n.ch,WfH x
 wk : ∀n∈ns,isN n.wk
 ah : ∀(i:Nat) (h:i<ns.length),(i=0∧ns[i].ah = -1∧ns[i].ch.length=1)∨∃(k:Nat) (hk:k<i),ns[i].ah=(k:Int)∧ns[i].ch=ns[k].ch ++ [ns[i].hd]
 one:(ids ns).Nodup
theorem Nd.hd_snoc {n:Nd} {c:List Zan} {h:Zan} (e:n.ch=c ++ [h]):n.hd=h:=by unfold Nd.hd;rw [e];simp
theorem ZgW (p:Zam) (c:List Zan) (h:Zan):(spotA p (c ++ [h])).Prev=hid h:=by
 unfold spotA;rw [List.foldl_append];rfl
theorem ZkG {st:LL} {i:Nat} {p:Zam} {room:Int} {ns:List Nd} (hst:st[i]? = some (aOf p room ns).lo) (hl:ns.length≤512) (nd:Nd) (hid':place 0 (ids ns) nd.id=none) :
  ZaE.p1 N (some i) (spotA p nd.ch) nd.en st=some ((ns.length:Int),st.set i (aOf p room (ns ++ [nd])).lo):=by
 unfold ZaE.p1
 have e1:(aOf p room ns).list ++ [nd.en.ls]=rowE (ns ++ [nd]):=by show rowE ns++_=_;simp [rowE]
 have e2:(aOf p room ns).spots ++ [(spotA p nd.ch).ls]=rowS p (ns ++ [nd]):=by show rowS p ns++_=_;simp [rowS]
 have e3:(aOf p room ns).places ++ [(L.arr .u8 32 nd.en.Id,L.int .i64 (ns.length:Int))]=idMap 0 (ids (ns ++ [nd])):=by
  show idMap 0 (ids ns)++_=_
  unfold ids
  rw [List.map_append]
  show _=idMap 0 (List.map Nd.id ns ++ [nd.id])
  rw [ZfQ,List.length_map,Nat.zero_add];rfl
 have l1:(rowE (ns ++ [nd])).length=ns.length+1:=by simp [rowE]
 have l2:(rowS p (ns ++ [nd])).length=ns.length+1:=by simp [rowS]
 rw [Zad,hst,ZaU,ZbD,e1,e2,Zak (by rw [l1];omega),Zak (by rw [l2];omega),show mfind (aOf p room ns).places (L.arr .u8 32 nd.en.Id)=some none by
  show mfind (idMap 0 (ids ns)) (L.arr .u8 32 nd.id)=_
  rw [Zfc,hid'];rfl]
 show some _=_
 rw [ZeE,List.length_append,List.length_singleton,ZaH (by omega) (by omega),show ((ns.length+1:Nat):Int)-1=(ns.length:Int) by omega,e3]
 simp only [List.set_set]
 rfl
theorem keep_eq (hN:300≤N) {st:LL} {i:Nat} {p:Zam} {room:Int} {ns:List Nd} (hst:st[i]? = some (aOf p room ns).lo) (hl:ns.length≤512) {k:Nat} (hk:k<ns.length) (hw:isN ns[k].wk) (hlen:ns[k].ch.length≤600)
  {h:Zan} (nd:Nd) (hch:nd.ch=ns[k].ch ++ [h]) (hah:nd.ah=(k:Int)) (hwk:nd.wk=wkAdd ns[k].wk (wkBits h.Bits)) (hid':place 0 (ids ns) (hid h)=none) :
  ZaE N (some i) h (k:Int) (spotA p nd.ch) st=some ((ns.length:Int),st.set i (aOf p room (ns ++ [nd])).lo):=by
 have hd:=nd.hd_snoc hch
 unfold ZaE
 rw [ZeK hN,Zad,if_pos (by simp<;>omega),Zad,hst,ZaU,ZbD,show (aOf p room ns).list=rowE ns from rfl,ZeE,Zak (by omega),Zak (by omega),Int.toNat_natCast,Nat.zero_add,Zjq hk,ZaU,ZdP,show (ns[k].en).Work=nw ns[k].wk from rfl,ZiM (by omega) hw (Zfq _),Zad,show (ns[k].en).Height=(ns[k].ch.length:Int)-1 from rfl,ZaH (by omega) (by omega)]
 have e:ZbA.mk h (spotA p nd.ch).Prev (k:Int) ((ns[k].ch.length:Int)-1+1) (nw (wkAdd ns[k].wk (wkBits h.Bits)))=nd.en:=by
  unfold Nd.en Nd.id
  rw [hd,hch,ZgW,hah,hwk,List.length_append,List.length_singleton]
  congr 1;omega
 rw [e]
 refine ZkG hst hl nd ?_
 unfold Nd.id;rw [hd];exact hid'
theorem keep0_eq (hN:300≤N) {st:LL} {i:Nat} {p:Zam} {room:Int} (hst:st[i]? = some (aOf p room []).lo) {h:Zan} (nd:Nd) (hch:nd.ch = [h]) (hah:nd.ah = -1) (hwk:nd.wk=wkBits h.Bits) :
  ZaE N (some i) h (-1) (spotA p nd.ch) st=some (0,st.set i (aOf p room [nd]).lo):=by
 have hd:nd.hd=h:=nd.hd_snoc (c:=[]) hch
 unfold ZaE
 rw [ZeK hN,Zad,if_neg (by simp)]
 have e:ZbA.mk h (spotA p nd.ch).Prev (-1) 0 (nw (wkBits h.Bits))=nd.en:=by
  unfold Nd.en Nd.id
  rw [hd,hch,show (spotA p [h]).Prev=hid h from ZgW p [] h,hah,hwk];rfl
 rw [e]
 exact ZkG (ns:=[]) hst (by simp) nd rfl
def chAt (ns:List Nd) (k:Nat):List Zan:=(ns[k]?.map Nd.ch).getD []
def wkAt (ns:List Nd) (k:Nat):Int:=(ns[k]?.map Nd.wk).getD 0
theorem ZhK {ns:List Nd} {k:Nat} (h:k<ns.length):chAt ns k=ns[k].ch:=by simp [chAt,h]
theorem Zkg {ns:List Nd} {k:Nat} (h:k<ns.length):wkAt ns k=ns[k].wk:=by simp [wkAt,h]
def nodeOn (ns:List Nd) (k:Nat) (h:Zan):Nd:=⟨chAt ns k ++ [h],(k:Int),wkAdd (wkAt ns k) (wkBits h.Bits)⟩
def addT (p:Zam) (gs:List ZbL) (cs:List Zbt) (room:Int) (ns:List Nd) (h:Zan) (now:Int):Int×Int×Int×List Nd:=
 if hgood h=false then (-1,1,8,ns) else
 match place 0 (ids ns) (hid h) with
 | some k=>((k:Int),0,0,ns)
 | none=>match place 0 (ids ns) h.Prev with
  | none=>(-1,2,5,ns)
  | some k=>if checkS p gs cs (spotA p (chAt ns k)) h now≠0 then (-1,checkS p gs cs (spotA p (chAt ns k)) h now,8,ns)
   else if room≤(ns.length:Int) then (-1,0,6,ns) else ((ns.length:Int),0,0,ns ++ [nodeOn ns k h])
theorem Zjp {st:LL} {i:Nat} {x:List L} (h:st[i]? = some x):st.set i x=st:=by
 apply List.ext_getElem?
 intro j
 by_cases e:i=j
 ·subst e
  obtain ⟨hi,e⟩:=List.getElem?_eq_some_iff.1 h
  rw [List.getElem?_set_self hi,h]
 ·rw [List.getElem?_set_ne e]
theorem Zko (p:Zam) (c:List Zan):wfS (spotA p c)=true:=by
 have h : ∀l:List Zan,∃ts:List Int,(spotA p l).Times=rowI ts∧ts.length≤11:=by
  refine rev_ind ⟨[],rfl,by simp⟩ (fun l h ih=>?_)
  unfold spotA at *
  rw [List.foldl_append]
  exact ⟨_,rfl,by simp;omega⟩
 obtain ⟨ts,h1,h2⟩:=h c
 simp only [wfS,h1,isI_row,Bool.true_and,decide_eq_true_eq,ZeQ]
 omega
theorem Add_eq (hN:500≤N) {st:LL} {i:Nat} {p:Zam} {gs:List ZbL} {cs:List Zbt} (hg:p.Gates=rowG gs) (hc:p.Checks=rowC cs) (lg:gs.length≤400) (lc:cs.length≤400) {room:Int} (hroom:room≤512) {ns:List Nd} (ht:Tree ns) (hst:st[i]? = some (aOf p room ns).lo)
  {h:Zan} (hh:WfH h) (now:Int) (hnow : -1152921504606846976≤now∧now≤9223372036854775807) :
  Zao N (some i) h now st=some ((addT p gs cs room ns h now).1,(addT p gs cs room ns h now).2.1,(addT p gs cs room ns h now).2.2.1,st.set i (aOf p room (addT p gs cs room ns h now).2.2.2).lo):=by
 have ss:=Zjp hst
 unfold Zao addT
 rw [if_neg (c:=Option.isNone (some i)=true) (by simp),ZcF,Zad]
 cases hgd:hgood h with
 | false=>rw [if_pos (by rfl),if_pos (c:=false=false) rfl];dsimp only;rw [ss]
 | true=>
  rw [if_neg (c:=(!true)=true) (by simp),if_neg (c:=true=false) (by simp),Zad,hst,ZaU,ZbD,Zdx hN hh.w,Zad,show (aOf p room ns).places=idMap 0 (ids ns) from rfl,Zfc]
  cases e1:place 0 (ids ns) (hid h) with
  | some k=>
   show Zao.p1 N i now (k:Int) true h st=_
   unfold Zao.p1
   rw [if_pos rfl];dsimp only;rw [ss]
  | none=>
   show Zao.p1 N i now 0 false h st=_
   unfold Zao.p1
   rw [if_neg (by simp),hst,ZaU,ZbD,show (aOf p room ns).places=idMap 0 (ids ns) from rfl,Zfc]
   cases e2:place 0 (ids ns) h.Prev with
   | none=>
    show Zao.p2 N i now 0 false h st=_
    unfold Zao.p2
    rw [if_pos (by rfl)];dsimp only;rw [ss]
   | some k=>
    show Zao.p2 N i now (k:Int) true h st=_
    obtain ⟨_,hk,_⟩:=Zfw e2
    have hk':k<ns.length:=by simpa [ids] using hk
    have sw:=Zko p ns[k].ch
    have isT:isI (spotA p ns[k].ch).Times=true:=by simp only [wfS,Bool.and_eq_true] at sw;exact sw.1
    unfold Zao.p2
    dsimp only
    rw [if_neg (c:=(!true)=true) (by simp),hst,ZaU,ZbD,show (aOf p room ns).spots=rowS p ns from rfl,len_rowS,Zak (by omega),Zak (by omega),Int.toNat_natCast,Nat.zero_add,rowS_get hk',ZaU,ZfV,show (aOf p room ns).rules=p from rfl,Zhp hN hg hc lg lc hh.w isT now hnow,Zad,ZhK hk']
    by_cases h4:checkS p gs cs (spotA p ns[k].ch) h now=0
    ·rw [if_neg (c:=(checkS p gs cs (spotA p ns[k].ch) h now != 0)=true) (by simp [h4]),if_neg (c:=checkS p gs cs (spotA p ns[k].ch) h now≠0) (by simp [h4]),show (aOf p room ns).list=rowE ns from rfl,ZeE,show (aOf p room ns).room=room from rfl]
     by_cases h5:room≤(ns.length:Int)
     ·rw [if_pos (by simpa using h5),if_pos h5];dsimp only;rw [ss]
     ·rw [if_neg (by simpa using h5),if_neg h5,Zeo hN hh.w sw,Zad]
      have be:behind p (spotA p ns[k].ch) h=spotA p (nodeOn ns k h).ch:=by
       unfold nodeOn spotA
       rw [ZhK hk',List.foldl_append];rfl
      have hm:=List.getElem_mem hk'
      have sm:=ht.small
      have cl:=(ht.ch _ hm).2
      rw [be,keep_eq (by omega) hst ht.small hk' (ht.wk _ hm) (by omega) (nodeOn ns k h) (by unfold nodeOn;rw [ZhK hk']) rfl (by unfold nodeOn;rw [Zkg hk']) e1,Zad]
    ·rw [if_pos (c:=(checkS p gs cs (spotA p ns[k].ch) h now != 0)=true) (by simpa using h4),if_pos (c:=checkS p gs cs (spotA p ns[k].ch) h now≠0) h4];dsimp only;rw [ss]
theorem Zhe (i:Nat) (y:List Int) (l:List (List Int)) (x:List Int):place i (y::l) x=if x=y then some i else place (i+1) l x:=rfl
def placeI (o:Option Nat):Int:=match o with
 | some k=>(k:Int)
 | none=>-1
theorem Tree.one_node {g:Zan} (hg:WfH g):Tree [⟨[g],-1,wkBits g.Bits⟩] where
 small:=by simp
 ch:=fun n hn=>by cases List.mem_singleton.1 hn;simp
 wf:=fun n hn x hx=>by cases List.mem_singleton.1 hn;cases List.mem_singleton.1 hx;exact hg
 wk:=fun n hn=>by cases List.mem_singleton.1 hn;exact Zfq _
 ah:=fun i h=>.inl ⟨by simpa using h,by simp at h;subst h;rfl,by simp at h;subst h;rfl⟩
 one:=by simp [ids]
theorem Tree.grow {ns:List Nd} (ht:Tree ns) {k:Nat} (hk:k<ns.length) {h:Zan} (hh:WfH h) (hs:ns.length<512) (hid':place 0 (ids ns) (hid h)=none):Tree (ns ++ [nodeOn ns k h]):=by
 have hm:=List.getElem_mem hk
 have cl:=ht.ch _ hm
 have hc:(nodeOn ns k h).ch=ns[k].ch ++ [h]:=by unfold nodeOn;rw [ZhK hk]
 have hd:=(nodeOn ns k h).hd_snoc rfl
 refine ⟨by simp;omega,?_,?_,?_,?_,?_⟩
 ·intro n hn
  rcases List.mem_append.1 hn with hn | hn
  ·have:=ht.ch n hn;exact ⟨this.1,by simp;omega⟩
  ·cases List.mem_singleton.1 hn
   rw [hc];exact ⟨by simp,by simp;omega⟩
 ·intro n hn x hx
  rcases List.mem_append.1 hn with hn | hn
  ·exact ht.wf n hn x hx
  ·cases List.mem_singleton.1 hn
   rw [hc] at hx
   rcases List.mem_append.1 hx with hx | hx
   ·exact ht.wf _ hm x hx
   ·cases List.mem_singleton.1 hx;exact hh
 ·intro n hn
  rcases List.mem_append.1 hn with hn | hn
  ·exact ht.wk n hn
  ·cases List.mem_singleton.1 hn
   unfold nodeOn;rw [Zkg hk]
   exact Zkh (ht.wk _ hm) (Zfq _)
 ·intro i hi
  by_cases hlt:i<ns.length
  ·rw [List.getElem_append_left hlt]
   rcases ht.ah i hlt with a | ⟨q,hq,a,b⟩
   ·exact .inl a
   ·exact .inr ⟨q,hq,a,by rw [List.getElem_append_left (by omega)];exact b⟩
  ·have:i=ns.length:=by simp at hi;omega
   subst this
   refine .inr ⟨k,hk,?_,?_⟩
   ·rw [List.getElem_append_right (by omega)];simp [nodeOn]
   ·rw [List.getElem_append_right (by omega),List.getElem_append_left hk]
    simp only [Nat.sub_self,List.getElem_singleton]
    rw [hc,hd]
 ·have np:=Zhd hid'
  unfold ids at *
  rw [List.map_append,List.nodup_append]
  refine ⟨ht.one,by simp,?_⟩
  intro a ha b hb
  simp only [List.map_cons,List.map_nil,List.mem_singleton] at hb
  subst hb
  intro e
  unfold Nd.id at e
  rw [hd] at e
  exact np (by rw [←e];exact ha)
theorem Zhl (p:Zam) (gs:List ZbL) (cs:List Zbt) (room:Int) (ns:List Nd) (h:Zan) (now:Int) :
  (addT p gs cs room ns h now).2.2.2=ns∨∃k:Nat,k<ns.length∧hgood h=true∧place 0 (ids ns) (hid h)=none∧checkS p gs cs (spotA p (chAt ns k)) h now=0∧(ns.length:Int)<room ∧
   addT p gs cs room ns h now=((ns.length:Int),0,0,ns ++ [nodeOn ns k h]):=by
 unfold addT
 by_cases hg:hgood h=false
 ·rw [if_pos hg];exact .inl rfl
 rw [if_neg hg]
 cases e1:place 0 (ids ns) (hid h) with
 | some k=>exact .inl rfl
 | none=>
  dsimp only
  cases e2:place 0 (ids ns) h.Prev with
  | none=>exact .inl rfl
  | some k=>
   dsimp only
   obtain ⟨_,hk,_⟩:=Zfw e2
   have hk':k<ns.length:=by simpa [ids] using hk
   by_cases h1:checkS p gs cs (spotA p (chAt ns k)) h now=0
   ·rw [if_neg (by simp [h1])]
    by_cases h2:room≤(ns.length:Int)
    ·rw [if_pos h2];exact .inl rfl
    ·rw [if_neg h2]
     exact .inr ⟨k,hk',by simpa using hg,rfl,h1,by omega,rfl⟩
   ·rw [if_pos h1];exact .inl rfl
theorem Zld {p:Zam} {gs:List ZbL} {cs:List Zbt} {room:Int} (hr:room≤512) {ns:List Nd} (ht:Tree ns) {h:Zan} (hh:WfH h) (now:Int):Tree (addT p gs cs room ns h now).2.2.2:=by
 rcases Zhl p gs cs room ns h now with e | ⟨k,hk,_,hi,_,hl,e⟩
 ·rw [e];exact ht
 ·rw [e];exact ht.grow hk hh (by omega) hi
def roomOf (room:Int):Int:=if (512:Int)<(if (1:Int)>room then 1 else room) then 512 else (if (1:Int)>room then 1 else room)
def rootN (p:Zam):Nd:=⟨[p.Genesis],-1,wkBits p.Genesis.Bits⟩
theorem set_last (st:LL) (a b:List L):(st ++ [a]).set st.length b=st ++ [b]:=by simp
theorem New_eq (hN:500≤N) {p:Zam} {gs:List ZbL} {cs:List Zbt} (hg:p.Gates=rowG gs) (hc:p.Checks=rowC cs) (lg:gs.length≤400) (lc:cs.length≤400) (hp:WfP p) (room:Int) (st:LL) :
  Zcn N p room st=if rgood p gs cs=true then some (some st.length,0,st ++ [(aOf p (roomOf room) [rootN p]).lo]) else some (none,1,st):=by
 unfold Zcn
 rw [ZhY hN hg lg hc lc,Zad]
 cases hgd:rgood p gs cs with
 | false=>rfl
 | true=>
  have pp:({p with Gates:=[]++p.Gates,Checks:=[]++p.Checks}:Zam)=p:=rfl
  rw [if_neg (c:=(!true)=true) (by simp),pp,Zak (by rw [hg,List.nil_append,Zgr];omega),Zak (by rw [hc,List.nil_append,Zgs];omega),ZgP hN hp.h.w,Zad]
  have hst:(st ++ [(aOf p (roomOf room) []).lo])[st.length]? = some (aOf p (roomOf room) []).lo:=by simp
  have k:=keep0_eq (N:=N) (by omega) hst (h:=p.Genesis) (rootN p) rfl rfl rfl
  rw [set_last] at k
  rw [if_pos (c:=true=true) rfl]
  show optE (ZaE N (some st.length) p.Genesis (-1) (spotA p (rootN p).ch) (st ++ [(aOf p (roomOf room) []).lo])) _=_
  rw [k,Zad]
theorem ZhN (p:Zam) (room:Int) (ns:List Nd):ZaI N (aOf p room ns)=some (ns.length:Int):=by
 unfold ZaI;rw [show (aOf p room ns).list=rowE ns from rfl,ZeE]
theorem Zlf (p:Zam) (room:Int) (ns:List Nd):Zbx N (aOf p room ns)=some room:=rfl
theorem Zli (p:Zam) (room:Int) (ns:List Nd) (x:List Int):Zby N (aOf p room ns) x=some (placeI (place 0 (ids ns) x)):=by
 unfold Zby
 rw [show (aOf p room ns).places=idMap 0 (ids ns) from rfl,Zfc]
 cases place 0 (ids ns) x<;>rfl
theorem Zlm (p:Zam) (room:Int) {ns:List Nd} {k:Nat} (hk:k<ns.length):Zaz N (aOf p room ns) (k:Int)=some (ns[k].en,true):=by
 unfold Zaz ZbE
 rw [show (aOf p room ns).list=rowE ns from rfl,ZeE,if_pos (by simp),Zad,if_neg (by simp<;>omega),Zak (by omega),Zak (by omega),Int.toNat_natCast,Zjq hk,ZaU,ZdP]
theorem Zll (p:Zam) (room:Int) {ns:List Nd} {k:Int} (hk:k<0∨(ns.length:Int)≤k):Zaz N (aOf p room ns) k=some (ZbA.mk (Zan.mk 0 (List.replicate 32 0) (List.replicate 32 0) 0 0 0) (List.replicate 32 0) (-1) 0 (List.replicate 4 0),false):=by
 unfold Zaz ZbE
 rw [show (aOf p room ns).list=rowE ns from rfl,ZeE]
 by_cases h:k≥0
 ·rw [if_pos (by simpa using h),Zad,if_pos (by simp<;>omega)]
 ·rw [if_neg (by simpa using h),Zad,if_pos (by rfl)]
theorem Zgw : ∀{l:List (List Int)} {i k:Nat} (hk:k<l.length),l.Nodup→place i l l[k]=some (i+k)
 | y::l,i,0,_,_=>by simp [place]
 | y::l,i,k+1,hk,hn=>by
  have hk':k<l.length:=by simpa using hk
  rw [List.nodup_cons] at hn
  rw [List.getElem_cons_succ,Zhe,if_neg (fun e=>hn.1 (by rw [←e];exact List.getElem_mem hk')),Zgw hk' hn.2]
  congr 1;omega
end Go.Dn.F
set_option maxRecDepth 100000
namespace Go.Dn.F
open Go.Dn Go.Proofs
variable {N:Nat}
abbrev tysCm:List Ty:=[.int .i64,.arr .u8 32,.arr .u8 32,.int .i64,.int .i64,.int .i64,.int .i64]
structure WfCm (c:ZaW):Prop where
 h:WfH c.Header
 n:i64R c.Now
noncomputable def rowCm (l:List ZaW):LL:=l.map ZaW.ls
theorem Zid {l:List ZaW} {i:Nat} (h:i<l.length):(rowCm l)[i]? = some l[i].ls:=by simp [rowCm,h]
@[simp] theorem Zis (l:List ZaW):len (rowCm l)=(l.length:Int):=by simp [len,rowCm]
@[simp] theorem Zic (l:List ZaW):(rowCm l).length=l.length:=by simp [rowCm]
theorem open_Cm {xs:LL} (h : ∀x∈xs,LTys tysCm x) : ∃l,xs=rowCm l∧∀x∈l,WfCm x:=
 decode fun x hx=>by
  obtain ⟨_,_,rfl,h1,h⟩:=(h x hx).cons_inv
  obtain ⟨_,_,rfl,h2,h⟩:=h.cons_inv
  obtain ⟨_,_,rfl,h3,h⟩:=h.cons_inv
  obtain ⟨_,_,rfl,h4,h⟩:=h.cons_inv
  obtain ⟨_,_,rfl,h5,h⟩:=h.cons_inv
  obtain ⟨_,_,rfl,h6,h⟩:=h.cons_inv
  obtain ⟨_,_,rfl,h7,h⟩:=h.cons_inv
  cases h.nil_inv
  obtain ⟨a1,rfl,w1⟩:=h1.int_inv
  obtain ⟨a2,rfl,k2,w2⟩:=h2.arr_inv
  obtain ⟨a3,rfl,k3,w3⟩:=h3.arr_inv
  obtain ⟨a4,rfl,w4⟩:=h4.int_inv
  obtain ⟨a5,rfl,w5⟩:=h5.int_inv
  obtain ⟨a6,rfl,w6⟩:=h6.int_inv
  obtain ⟨a7,rfl,w7⟩:=h7.int_inv
  refine ⟨⟨⟨a1,a2,a3,a4,a5,a6⟩,a7⟩,rfl,⟨⟨Zdl w1,?_,Zdl w4,Zdl w5,Zdl w6⟩,Zdl w7⟩⟩
  simp only [wfH,Bool.and_eq_true]
  exact ⟨Zjj k2 w2,Zjj k3 w3⟩
theorem ZjY (p:Zam) (l:List ZaW) (hl:l.length<N) (hb:l.length≤maxLen) : ∃b,Zbg N p (rowCm l)=some b∧(b=false→(∀x∈l,0≤x.Now)∧p.Gates.length≤20∧p.Checks.length≤20∧l.length≤40):=by
 unfold Zbg
 have hm:maxLen=9223372036854775807:=rfl
 refine Zfy (fun m (v:Int)=>∃k:Nat,k+m=l.length∧v=(k:Int)∧∀x∈l.take k,0≤x.Now) ?_ N l.length 0 ⟨0,by omega,rfl,by simp⟩ hl
 rintro G m _ ⟨k,hk,rfl,ha⟩ hG
 unfold Zbg.p1
 rw [Zis]
 by_cases hlt:k<l.length
 ·rw [if_pos (by simp<;>omega),Zak (by omega),Int.toNat_natCast,Zid hlt,ZaU,ZcV,ZaH (by omega) (by omega)]
  by_cases h:l[k].Now<0
  ·rw [if_pos (by simpa using h)];exact ⟨true,rfl,fun h=>by cases h⟩
  ·rw [if_neg (by simpa using h)]
   refine hG (m-1) _ (by omega) ⟨k+1,by omega,by omega,fun x hx=>?_⟩
   rw [List.take_succ_eq_append_getElem hlt] at hx
   rcases List.mem_append.1 hx with hx | hx
   ·exact ha x hx
   ·cases List.mem_singleton.1 hx;omega
 ·rw [if_neg (by simp<;>omega)]
  rw [List.take_of_length_le (by omega)] at ha
  by_cases h1:len p.Gates>20
  ·rw [if_pos (by simpa using h1)];exact ⟨true,rfl,fun h=>by cases h⟩
  rw [if_neg (by simpa using h1)]
  by_cases h2:len p.Checks>20
  ·rw [if_pos (by simpa using h2)];exact ⟨true,rfl,fun h=>by cases h⟩
  rw [if_neg (by simpa using h2)]
  refine ⟨_,rfl,fun h=>⟨ha,?_,?_,?_⟩⟩<;>simp [len] at h1 h2 h<;>omega
def pA:Zam:=⟨545259519,4,10,0,false,[],[],List.replicate 4 0,List.replicate 4 0,h0⟩
theorem h0_wf:WfH h0:=⟨by unfold i64R h0;simp,by unfold wfH h0;decide,by unfold i64R h0;simp,by unfold i64R h0;simp,by unfold i64R h0;simp⟩
theorem pA_wf:WfP pA where
 l:=by unfold i64R pA;simp
 i:=by unfold i64R pA;simp
 s:=by unfold i64R pA;simp
 f:=by unfold i64R pA;simp
 g:=by unfold pA;simp
 gl:=by unfold pA;simp
 c:=by unfold pA;simp
 cl:=by unfold pA;simp
 m:=by unfold pA;exact ⟨rfl,fun x hx=>by obtain ⟨_,rfl⟩:=List.mem_replicate.1 hx;decide⟩
 r:=by unfold pA;exact ⟨rfl,fun x hx=>by obtain ⟨_,rfl⟩:=List.mem_replicate.1 hx;decide⟩
 h:=h0_wf
theorem pA_new (hN:1000≤N):Zcn N pA 5 []=some (some 0,0,[(aOf pA 5 [rootN pA]).lo]):=by
 rw [New_eq (gs:=[]) (cs:=[]) (by omega) rfl rfl (by simp) (by simp) pA_wf 5 [],if_pos (by kernel_rfl)]
 rfl
theorem alive12 (hN:1000≤N):ZbT N []=some (true,[(aOf pA 5 [rootN pA]).lo]):=by
 unfold ZbT
 rw [show (Zam.mk 545259519 4 10 0 false [] [] (List.replicate 4 0) (List.replicate 4 0) (Zan.mk 0 (List.replicate 32 0) (List.replicate 32 0) 0 0 0))=pA from rfl,pA_new hN,Zad]
 dsimp only
 rw [if_pos (by rfl),Zad,show ([(aOf pA 5 [rootN pA]).lo]:LL)[0]? = some (aOf pA 5 [rootN pA]).lo from rfl,ZaU,ZbD,ZhN,Zad,if_pos (by rfl),Zlf,Zad,if_pos (by rfl),show (Zan.mk 0 (List.replicate 32 0) (List.replicate 32 0) 0 0 0)=h0 from rfl,refId_eq (by omega) _ h0_wf.w,Zad,Zli,Zad]
 have:place 0 (ids [rootN pA]) (hid h0)=some 0:=by
  show place 0 [hid h0] (hid h0)=some 0
  rw [Zhe,if_pos rfl]
 rw [this]
 rfl
def GoodT (ns:List Nd):Prop:=∀n∈ns,hgood n.hd=true
theorem ZjO {p:Zam} {gs:List ZbL} {cs:List Zbt} (h:rgood p gs cs=true):GoodT [rootN p]:=by
 intro n hn
 cases List.mem_singleton.1 hn
 unfold rgood at h
 simp only [Bool.and_eq_true] at h
 exact h.1.1.2
theorem Zkz (ns:List Nd) (k:Nat) (h:Zan):(nodeOn ns k h).hd=h:=Nd.hd_snoc (c:=chAt ns k) rfl
theorem Zle {p:Zam} {gs:List ZbL} {cs:List Zbt} {room:Int} {ns:List Nd} (hg:GoodT ns) (h:Zan) (now:Int):GoodT (addT p gs cs room ns h now).2.2.2:=by
 rcases Zhl p gs cs room ns h now with e | ⟨k,hk,hh,_,_,_,e⟩
 ·rw [e];exact hg
 ·rw [e]
  intro n hn
  rcases List.mem_append.1 hn with hn | hn
  ·exact hg n hn
  ·cases List.mem_singleton.1 hn;rw [Zkz];exact hh
theorem Tree.hd_wf {ns:List Nd} (ht:Tree ns) {k:Nat} (hk:k<ns.length):WfH ns[k].hd:=by
 have cm:=(ht.ch _ (List.getElem_mem hk)).1
 have:ns[k].hd∈ns[k].ch:=by
  unfold Nd.hd
  rw [List.getLast?_eq_some_getLast cm]
  exact List.getLast_mem cm
 exact ht.wf _ (List.getElem_mem hk) _ this
theorem Zkw {ns:List Nd} (ht:Tree ns) {k:Nat} (hk:k<ns.length):place 0 (ids ns) (hid ns[k].hd)=some k:=by
 have hk3:k<(ids ns).length:=by simp [ids];omega
 have:=Zgw (i:=0) hk3 ht.one
 rw [Nat.zero_add] at this
 rw [←this];congr 1;simp [ids,Nd.id]
theorem Zke {p:Zam} {gs:List ZbL} {cs:List Zbt} {room:Int} {ns:List Nd} (ht:Tree ns) (hg:GoodT ns) {k:Nat} (hk:k<ns.length) (now:Int):addT p gs cs room ns ns[k].hd now=((k:Int),0,0,ns):=by
 unfold addT
 rw [if_neg (by rw [hg _ (List.getElem_mem hk)];simp),Zkw ht hk]
theorem ZiK (hN:1000≤N) {p:Zam} {gs:List ZbL} {cs:List Zbt} (hg:p.Gates=rowG gs) (hc:p.Checks=rowC cs) (lg:gs.length≤400) (lc:cs.length≤400) {room:Int} (hroom:room≤512)
  {i:Nat} {st:LL} {ns:List Nd} (ht:Tree ns) (hgd:GoodT ns) (ha:st[i]? = some (aOf p room ns).lo) :
  loopN (Zau.p2 N i (ns.length:Int)) N (0,st)=some (true,st):=by
 have sm:=ht.small
 refine ZbS (fun m (s:Int×LL)=>∃k:Nat,k+m=ns.length∧s=((k:Int),st)) ?_ N ns.length _ ⟨0,by omega,rfl⟩ (by omega)
 rintro G m _ ⟨k,hk,rfl⟩ hG
 unfold Zau.p2
 dsimp only
 by_cases hlt:k<ns.length
 ·have cm:=ht.ch _ (List.getElem_mem hlt)
  rw [if_pos (by simp<;>omega),ha,ZaU,ZbD,Zlm p room hlt,Zad]
  dsimp only
  rw [show (ns[k].en).Header=ns[k].hd from rfl,Add_eq (by omega) hg hc lg lc hroom ht ha (ht.hd_wf hlt) _ (by omega),Zad,Zke ht hgd hlt]
  dsimp only
  rw [Zjp ha,if_neg (by simp),if_neg (by simp),if_neg (by simp),ha,ZaU,ZbD,ZhN,Zad,if_neg (by simp),show (ns[k].en).Ahead=ns[k].ah from rfl,show (ns[k].en).Height=(ns[k].ch.length:Int)-1 from rfl]
  rcases ht.ah k hlt with ⟨z,a,c⟩ | ⟨q,hq,a,c⟩
  ·subst z
   rw [a,Zll p room (.inl (by omega)),Zad]
   dsimp only
   rw [if_neg (by simp),if_pos (by rfl),if_neg (by simp),if_neg (by simp [c]),ZaH (by omega) (by omega)]
   exact hG (m-1) _ (by omega) ⟨1,by omega,rfl⟩
  ·have hq':q<ns.length:=by omega
   have cq:=ht.ch _ (List.getElem_mem hq')
   have:=congrArg List.length c
   rw [List.length_append,List.length_singleton] at this
   rw [a,Zlm p room hq',Zad]
   dsimp only
   rw [if_pos (by simp<;>omega),if_neg (by simp),show (ns[q].en).Height=(ns[q].ch.length:Int)-1 from rfl,ZaH (by omega) (by omega),if_neg (by simp<;>omega),if_neg (by simp<;>omega),ZaH (by omega) (by omega)]
   exact hG (m-1) _ (by omega) ⟨k+1,by omega,by rw [Int.natCast_add];rfl⟩
 ·rw [if_neg (by simp<;>omega)]
theorem ZiL {p:Zam} (hp:WfP p) (l:List ZaW) (hl : ∀x∈l,WfCm x) (hb:l.length≤maxLen) :
  ∃st,Zau (l.length+1000) p (rowCm l) []=some (true,st):=by
 unfold Zau
 rw [alive12 (by omega),Zad]
 dsimp only
 rw [if_neg (by simp)]
 obtain ⟨b,e,hgr⟩:=ZjY (N:=l.length+1000) p l (by omega) hb
 rw [e,Zad]
 cases b with
 | true=>rw [if_pos rfl];exact ⟨_,rfl⟩
 | false=>
  obtain ⟨hn,hG,hC,h40⟩:=hgr rfl
  obtain ⟨gs,eg⟩:=open_G hp.g
  obtain ⟨cs,ec⟩:=open_K hp.c
  have lg:gs.length≤400:=by rw [eg,Zgr] at hG;omega
  have lc:cs.length≤400:=by rw [ec,Zgs] at hC;omega
  generalize hN:l.length+1000=N
  rw [if_neg (by simp),Zht (by omega) eg lg ec lc,Zad]
  cases hgd:rgood p gs cs with
  | false=>rw [if_pos (by rfl)];exact ⟨_,rfl⟩
  | true=>
   rw [if_neg (by simp),New_eq (by omega) eg ec lg lc hp,hgd,if_pos rfl,Zad]
   dsimp only
   rw [show roomOf 100=100 from rfl,show ([(aOf pA 5 [rootN pA]).lo]:LL).length=1 from rfl]
   have ha:([(aOf pA 5 [rootN pA]).lo] ++ [(aOf p 100 [rootN p]).lo]:LL)[1]? = some (aOf p 100 [rootN p]).lo:=rfl
   generalize ([(aOf pA 5 [rootN pA]).lo] ++ [(aOf p 100 [rootN p]).lo]:LL)=st at ha ⊢
   have key : ∃r,loopN (Zau.p1 N (some 1) (rowCm l)) N (0,st)=some r∧r.1=true:=by
    refine Zfy (Q:=fun r:Bool×LL=>r.1=true) (fun m (s:Int×LL)=>∃(j:Nat) (ns:List Nd) (st:LL),s=((j:Int),st)∧j+m=l.length∧Tree ns∧GoodT ns∧st[1]? = some (aOf p 100 ns).lo) ?_ N l.length _ ⟨0,[rootN p],st,rfl,by omega,Tree.one_node hp.h,ZjO hgd,ha⟩ (by omega)
    rintro G m _ ⟨j,ns,st,rfl,hj,ht,hgt,ha⟩ hG
    unfold Zau.p1
    dsimp only
    rw [Zis]
    by_cases hlt:j<l.length
    ·have wx:=hl _ (List.getElem_mem hlt)
     have nx:=hn _ (List.getElem_mem hlt)
     have rx:=wx.n
     unfold i64R at rx
     rw [if_pos (by simp<;>omega),Zak (by omega),Int.toNat_natCast,Zid hlt,ZaU,ZcV,Add_eq (by omega) eg ec lg lc (by omega) ht ha wx.h _ (by omega),Zad]
     dsimp only
     rw [ZaH (by omega) (by omega)]
     exact hG (m-1) _ (by omega) ⟨j+1,_,_,by rw [Int.natCast_add];rfl,by omega,Zld (by omega) ht wx.h _,Zle hgt _ _,List.getElem?_set_self (List.getElem?_eq_some_iff.1 ha).1⟩
    ·rw [if_neg (by simp<;>omega),Zad,ha,ZaU,ZbD,ZhN,Zad,ZiK (by omega) eg ec lg lc (by omega) ht hgt ha]
     exact ⟨_,rfl,rfl⟩
   obtain ⟨⟨r1,r2⟩,h1,h2⟩:=key
   dsimp only at h2
   exact ⟨r2,by rw [h1,h2]⟩
theorem ArenaOnce_true {ls:List L} (xs:LL) (h0:LTys tysP ls) (h2 : ∀x∈xs,LTys tysCm x) (l2:xs.length≤maxLen) :
  ∃st,Snd Tryz.prog 5 [.agg ls,.one (.sl 69 xs)] [] [.one (.bool true)] st:=by
 obtain ⟨p,rfl,hp⟩:=open_P h0
 obtain ⟨l,rfl,hl⟩:=open_Cm h2
 obtain ⟨st,h⟩:=ZiL hp l hl (by rw [Zic] at l2;exact l2)
 exact ⟨st,Zau.snd h⟩
end Go.Dn.F
