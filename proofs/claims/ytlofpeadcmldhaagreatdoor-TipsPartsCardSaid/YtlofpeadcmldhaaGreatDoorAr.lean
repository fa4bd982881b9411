import Derived.Test.YtlofpeadcmldhaaGreatDoorNum
import Derived.Test.YtlofpeadcmldhaaGreatDoorRul
set_option linter.all false
open Go.Dn.L renaming int→zJ
open Int renaming toNat_natCast→zI
open List renaming replicate→zC,foldl_append→uY,map_append→uM,length_append→zR,length_singleton→yR,set_set→yX,getElem?_set_self→zN,getElem?_set_ne→zQ,getElem_mem→xD,getElem_append_left→uL,getElem_append_right→tV,mem_singleton→wL,getElem?_eq_getElem→zM,getElem?_append_left→zP,take_append_of_le_length→wQ,getElem?_append_right→zV,take_of_length_le→zY,mem_of_getElem?→wP,getElem?_eq_none→zK,mem_cons_of_mem→yB,mem_append→uA,getElem_take→uW,getElem_drop→uD,take→xA,drop→xJ,take_succ_eq_append_getElem→yI,take_length→tF
open Nat renaming zero_add→zX,strongRecOn→vK,le_refl→zG
set_option maxRecDepth 40000
namespace Go.Dn.F
open Go.Dn Go.Proofs
variable {N:Nat}
structure Nd where
 ch:List Zan
 ah:Int
 wk:Int
def h0:Zan:=⟨0,zC 32 0,zC 32 0,0,0,0⟩
def Nd.hd (n:Nd):Zan:=n.ch.getLast?.getD h0
def Nd.id (n:Nd):List Int:=hid n.hd
noncomputable def Nd.en (n:Nd):Zbu:=⟨n.hd,n.id,n.ah,(n.ch.length:Int)-1,nw n.wk⟩
noncomputable def Zgq (ns:List Nd):LL:=ns.map fun n=>n.en.ls
noncomputable def rowS (p:Zaj) (ns:List Nd):LL:=ns.map fun n=>(Zeb p n.ch).ls
def Zhp:Nat→List (List Int)→LM
 | _,[]=>[]
 | i,x::l=>(L.arr .u8 32 x,zJ .i64 (i:Int))::Zhp (i+1) l
def ids (ns:List Nd):List (List Int):=ns.map Nd.id
def ZdQ:Nat→List (List Int)→List Int→Option Nat
 | _,[],_=>none
 | i,y::l,x=>if x=y then some i else ZdQ (i+1) l x
theorem Zix : ∀(l:List (List Int)) (i:Nat) (x:List Int),ZeW (Zhp i l) (L.arr .u8 32 x)=some ((ZdQ i l x).map fun k=>(k-i,zJ .i64 (k:Int)))
 | [],i,x=>rfl
 | y::l,i,x=>by
  rw [Zhp,ZeW]
  simp only [ZjC,and_self,if_true]
  unfold ZdQ
  by_cases h:x=y
  ·subst h;simp
  ·rw [show (x==y)=false by simpa using h,if_neg h,Zix l (i+1) x]
   cases e:ZdQ (i+1) l x with
   | none=>rfl
   | some k=>
    have : ∀(l:List (List Int)) (i k:Nat),ZdQ i l x=some k→i≤k:=by
     intro l
     induction l with
     | nil=>intro i k h;cases h
     | cons z l ih=>
      intro i k h
      unfold ZdQ at h
      split at h
      ·cases h;omega
      ·have:=ih _ _ h;omega
    have:=this l (i+1) k e
    simp only [Option.map_some]
    rw [show k-(i+1)+1=k-i by omega]
theorem Zij : ∀(l:List (List Int)) (i:Nat) (x:List Int),Zhp i (l ++ [x])=Zhp i l ++ [(L.arr .u8 32 x,zJ .i64 ((i+l.length:Nat):Int))]
 | [],i,x=>rfl
 | y::l,i,x=>by rw [List.cons_append,Zhp,Zij l (i+1) x,Zhp,List.length_cons,show i+1+l.length=i+(l.length+1) by omega];rfl
theorem Zfo : ∀{l:List (List Int)} {i k:Nat} {x:List Int},ZdQ i l x=some k→i≤k∧∃h:k-i<l.length,l[k-i]=x
 | y::l,i,k,x,h=>by
  unfold ZdQ at h
  split at h
  ·rename_i e;cases h;exact ⟨by omega,by simp,by simp [e]⟩
  ·obtain ⟨h1,h2,h3⟩:=Zfo h
   refine ⟨by omega,by simp;omega,?_⟩
   have:k-i=(k-(i+1))+1:=by omega
   simp only [this,List.getElem_cons_succ];exact h3
theorem ZjP : ∀{l:List (List Int)} {i:Nat} {x:List Int},ZdQ i l x=none→x∉l
 | [],_,_,_=>by simp
 | y::l,i,x,h=>by
  unfold ZdQ at h
  split at h
  ·cases h
  ·rename_i e;simp [e,ZjP h]
noncomputable def aOf (p:Zaj) (room:Int) (ns:List Nd):Zas:=⟨p,Zgq ns,rowS p ns,Zhp 0 (ids ns),room⟩
theorem Zis {ns:List Nd} {i:Nat} (h:i<ns.length):(Zgq ns)[i]? = some ns[i].en.ls:=by simp [Zgq,h]
theorem rowS_get {p:Zaj} {ns:List Nd} {i:Nat} (h:i<ns.length):(rowS p ns)[i]? = some (Zeb p ns[i].ch).ls:=by simp [rowS,h]
@[simp] theorem ZeZ (ns:List Nd):len (Zgq ns)=(ns.length:Int):=by simp [len,Zgq]
@[simp] theorem len_rowS (p:Zaj) (ns:List Nd):len (rowS p ns)=(ns.length:Int):=by simp [len,rowS]
structure ZgS (ns:List Nd):Prop where
 small:ns.length≤512
 ch : ∀n∈ns,n.ch ≠ []∧n.ch.length≤ns.length
 wf : ∀n∈ns,∀x∈n.ch,WfH x
 wk : ∀n∈ns,isN n.wk
 ah : ∀(i:Nat) (h:i<ns.length),(i=0∧ns[i].ah = -1∧ns[i].ch.length=1)∨∃(k:Nat) (hk:k<i),ns[i].ah=(k:Int)∧ns[i].ch=ns[k].ch ++ [ns[i].hd]
 one:(ids ns).Nodup
theorem Nd.hd_snoc {n:Nd} {c:List Zan} {h:Zan} (e:n.ch=c ++ [h]):n.hd=h:=by unfold Nd.hd;rw [e];simp
theorem ZjJ (p:Zaj) (c:List Zan) (h:Zan):(Zeb p (c ++ [h])).Prev=hid h:=by
 unfold Zeb;rw [uY];rfl
theorem Zpo {st:LL} {i:Nat} {p:Zaj} {room:Int} {ns:List Nd} (hst:st[i]? = some (aOf p room ns).lo) (hl:ns.length≤512) (nd:Nd) (hid':ZdQ 0 (ids ns) nd.id=none) :
  ZaH.p1 N (some i) (Zeb p nd.ch) nd.en st=some ((ns.length:Int),st.set i (aOf p room (ns ++ [nd])).lo):=by
 unfold ZaH.p1
 have e1:(aOf p room ns).list ++ [nd.en.ls]=Zgq (ns ++ [nd]):=by show Zgq ns++_=_;simp [Zgq]
 have e2:(aOf p room ns).spots ++ [(Zeb p nd.ch).ls]=rowS p (ns ++ [nd]):=by show rowS p ns++_=_;simp [rowS]
 have e3:(aOf p room ns).places ++ [(L.arr .u8 32 nd.en.Id,zJ .i64 (ns.length:Int))]=Zhp 0 (ids (ns ++ [nd])):=by
  show Zhp 0 (ids ns)++_=_
  unfold ids
  rw [uM]
  show _=Zhp 0 (List.map Nd.id ns ++ [nd.id])
  rw [Zij,List.length_map,zX];rfl
 have l1:(Zgq (ns ++ [nd])).length=ns.length+1:=by simp [Zgq]
 have l2:(rowS p (ns ++ [nd])).length=ns.length+1:=by simp [rowS]
 rw [Zab,hst,Zaw,Zbo,e1,e2,Zal (by rw [l1];omega),Zal (by rw [l2];omega),show ZeW (aOf p room ns).places (L.arr .u8 32 nd.en.Id)=some none by
  show ZeW (Zhp 0 (ids ns)) (L.arr .u8 32 nd.id)=_
  rw [Zix,hid'];rfl]
 show some _=_
 rw [ZeZ,zR,yR,ZaJ (by omega) (by omega),show ((ns.length+1:Nat):Int)-1=(ns.length:Int) by omega,e3]
 simp only [yX]
 rfl
theorem keep_eq (hN:300≤N) {st:LL} {i:Nat} {p:Zaj} {room:Int} {ns:List Nd} (hst:st[i]? = some (aOf p room ns).lo) (hl:ns.length≤512) {k:Nat} (hk:k<ns.length) (hw:isN ns[k].wk) (hlen:ns[k].ch.length≤600)
  {h:Zan} (nd:Nd) (hch:nd.ch=ns[k].ch ++ [h]) (hah:nd.ah=(k:Int)) (hwk:nd.wk=Zmh ns[k].wk (ZfR h.Bits)) (hid':ZdQ 0 (ids ns) (hid h)=none) :
  ZaH N (some i) h (k:Int) (Zeb p nd.ch) st=some ((ns.length:Int),st.set i (aOf p room (ns ++ [nd])).lo):=by
 have hd:=nd.hd_snoc hch
 unfold ZaH
 rw [ZgB hN,Zab,if_pos (by simp<;>omega),Zab,hst,Zaw,Zbo,show (aOf p room ns).list=Zgq ns from rfl,ZeZ,Zal (by omega),Zal (by omega),zI,zX,Zis hk,Zaw,Zdz,show (ns[k].en).Work=nw ns[k].wk from rfl,Zmg (by omega) hw (ZhH _),Zab,show (ns[k].en).Height=(ns[k].ch.length:Int)-1 from rfl,ZaJ (by omega) (by omega)]
 have e:Zbu.mk h (Zeb p nd.ch).Prev (k:Int) ((ns[k].ch.length:Int)-1+1) (nw (Zmh ns[k].wk (ZfR h.Bits)))=nd.en:=by
  unfold Nd.en Nd.id
  rw [hd,hch,ZjJ,hah,hwk,zR,yR]
  congr 1;omega
 rw [e]
 refine Zpo hst hl nd ?_
 unfold Nd.id;rw [hd];exact hid'
theorem keep0_eq (hN:300≤N) {st:LL} {i:Nat} {p:Zaj} {room:Int} (hst:st[i]? = some (aOf p room []).lo) {h:Zan} (nd:Nd) (hch:nd.ch = [h]) (hah:nd.ah = -1) (hwk:nd.wk=ZfR h.Bits) :
  ZaH N (some i) h (-1) (Zeb p nd.ch) st=some (0,st.set i (aOf p room [nd]).lo):=by
 have hd:nd.hd=h:=nd.hd_snoc (c:=[]) hch
 unfold ZaH
 rw [ZgB hN,Zab,if_neg (by simp)]
 have e:Zbu.mk h (Zeb p nd.ch).Prev (-1) 0 (nw (ZfR h.Bits))=nd.en:=by
  unfold Nd.en Nd.id
  rw [hd,hch,show (Zeb p [h]).Prev=hid h from ZjJ p [] h,hah,hwk];rfl
 rw [e]
 exact Zpo (ns:=[]) hst (by simp) nd rfl
def chAt (ns:List Nd) (k:Nat):List Zan:=(ns[k]?.map Nd.ch).getD []
def wkAt (ns:List Nd) (k:Nat):Int:=(ns[k]?.map Nd.wk).getD 0
theorem ZkL {ns:List Nd} {k:Nat} (h:k<ns.length):chAt ns k=ns[k].ch:=by simp [chAt,h]
theorem Zos {ns:List Nd} {k:Nat} (h:k<ns.length):wkAt ns k=ns[k].wk:=by simp [wkAt,h]
def Zdi (ns:List Nd) (k:Nat) (h:Zan):Nd:=⟨chAt ns k ++ [h],(k:Int),Zmh (wkAt ns k) (ZfR h.Bits)⟩
def ZjF (p:Zaj) (gs:List ZbW) (cs:List ZbM) (room:Int) (ns:List Nd) (h:Zan) (now:Int):Int×Int×Int×List Nd:=
 if Zfe h=false then (-1,1,8,ns) else
 match ZdQ 0 (ids ns) (hid h) with
 | some k=>((k:Int),0,0,ns)
 | none=>match ZdQ 0 (ids ns) h.Prev with
  | none=>(-1,2,5,ns)
  | some k=>if ZfP p gs cs (Zeb p (chAt ns k)) h now≠0 then (-1,ZfP p gs cs (Zeb p (chAt ns k)) h now,8,ns)
   else if room≤(ns.length:Int) then (-1,0,6,ns) else ((ns.length:Int),0,0,ns ++ [Zdi ns k h])
theorem ZgZ {st:LL} {i:Nat} {x:List L} (h:st[i]? = some x):st.set i x=st:=by
 apply List.ext_getElem?
 intro j
 by_cases e:i=j
 ·subst e
  obtain ⟨hi,e⟩:=List.getElem?_eq_some_iff.1 h
  rw [zN hi,h]
 ·rw [zQ e]
theorem ZoE (p:Zaj) (c:List Zan):wfS (Zeb p c)=true:=by
 have h : ∀l:List Zan,∃ts:List Int,(Zeb p l).Times=Zda ts∧ts.length≤11:=by
  refine rev_ind ⟨[],rfl,by simp⟩ (fun l h ih=>?_)
  unfold Zeb at *
  rw [uY]
  exact ⟨_,rfl,by simp;omega⟩
 obtain ⟨ts,h1,h2⟩:=h c
 simp only [wfS,h1,isI_row,Bool.true_and,decide_eq_true_eq,ZfD]
 omega
theorem Add_eq (hN:500≤N) {st:LL} {i:Nat} {p:Zaj} {gs:List ZbW} {cs:List ZbM} (hg:p.Gates=Zme gs) (hc:p.Checks=ZiL cs) (lg:gs.length≤400) (lc:cs.length≤400) {room:Int} (hroom:room≤512) {ns:List Nd} (ht:ZgS ns) (hst:st[i]? = some (aOf p room ns).lo)
  {h:Zan} (hh:WfH h) (now:Int) (hnow : -1152921504606846976≤now∧now≤9223372036854775807) :
  Zau N (some i) h now st=some ((ZjF p gs cs room ns h now).1,(ZjF p gs cs room ns h now).2.1,(ZjF p gs cs room ns h now).2.2.1,st.set i (aOf p room (ZjF p gs cs room ns h now).2.2.2).lo):=by
 have ss:=ZgZ hst
 unfold Zau ZjF
 rw [if_neg (c:=Option.isNone (some i)=true) (by simp),Zds,Zab]
 cases hgd:Zfe h with
 | false=>rw [if_pos (by rfl),if_pos (c:=false=false) rfl];dsimp only;rw [ss]
 | true=>
  rw [if_neg (c:=(!true)=true) (by simp),if_neg (c:=true=false) (by simp),Zab,hst,Zaw,Zbo,ZeG hN hh.w,Zab,show (aOf p room ns).places=Zhp 0 (ids ns) from rfl,Zix]
  cases e1:ZdQ 0 (ids ns) (hid h) with
  | some k=>
   show Zau.p1 N i now (k:Int) true h st=_
   unfold Zau.p1
   rw [if_pos rfl];dsimp only;rw [ss]
  | none=>
   show Zau.p1 N i now 0 false h st=_
   unfold Zau.p1
   rw [if_neg (by simp),hst,Zaw,Zbo,show (aOf p room ns).places=Zhp 0 (ids ns) from rfl,Zix]
   cases e2:ZdQ 0 (ids ns) h.Prev with
   | none=>
    show Zau.p2 N i now 0 false h st=_
    unfold Zau.p2
    rw [if_pos (by rfl)];dsimp only;rw [ss]
   | some k=>
    show Zau.p2 N i now (k:Int) true h st=_
    obtain ⟨_,hk,_⟩:=Zfo e2
    have hk':k<ns.length:=by simpa [ids] using hk
    have sw:=ZoE p ns[k].ch
    have isT:isI (Zeb p ns[k].ch).Times=true:=by simp only [wfS,Bool.and_eq_true] at sw;exact sw.1
    unfold Zau.p2
    dsimp only
    rw [if_neg (c:=(!true)=true) (by simp),hst,Zaw,Zbo,show (aOf p room ns).spots=rowS p ns from rfl,len_rowS,Zal (by omega),Zal (by omega),zI,zX,rowS_get hk',Zaw,Zin,show (aOf p room ns).rules=p from rfl,Zke hN hg hc lg lc hh.w isT now hnow,Zab,ZkL hk']
    by_cases h4:ZfP p gs cs (Zeb p ns[k].ch) h now=0
    ·rw [if_neg (c:=(ZfP p gs cs (Zeb p ns[k].ch) h now != 0)=true) (by simp [h4]),if_neg (c:=ZfP p gs cs (Zeb p ns[k].ch) h now≠0) (by simp [h4]),show (aOf p room ns).list=Zgq ns from rfl,ZeZ,show (aOf p room ns).room=room from rfl]
     by_cases h5:room≤(ns.length:Int)
     ·rw [if_pos (by simpa using h5),if_pos h5];dsimp only;rw [ss]
     ·rw [if_neg (by simpa using h5),if_neg h5,ZfW hN hh.w sw,Zab]
      have be:Zft p (Zeb p ns[k].ch) h=Zeb p (Zdi ns k h).ch:=by
       unfold Zdi Zeb
       rw [ZkL hk',uY];rfl
      have hm:=xD hk'
      have sm:=ht.small
      have cl:=(ht.ch _ hm).2
      rw [be,keep_eq (by omega) hst ht.small hk' (ht.wk _ hm) (by omega) (Zdi ns k h) (by unfold Zdi;rw [ZkL hk']) rfl (by unfold Zdi;rw [Zos hk']) e1,Zab]
    ·rw [if_pos (c:=(ZfP p gs cs (Zeb p ns[k].ch) h now != 0)=true) (by simpa using h4),if_pos (c:=ZfP p gs cs (Zeb p ns[k].ch) h now≠0) h4];dsimp only;rw [ss]
theorem ZgS.one_node {g:Zan} (hg:WfH g):ZgS [⟨[g],-1,ZfR g.Bits⟩] where
 small:=by simp
 ch:=fun n hn=>by cases List.mem_singleton.1 hn;simp
 wf:=fun n hn x hx=>by cases List.mem_singleton.1 hn;cases List.mem_singleton.1 hx;exact hg
 wk:=fun n hn=>by cases List.mem_singleton.1 hn;exact ZhH _
 ah:=fun i h=>.inl ⟨by simpa using h,by simp at h;subst h;rfl,by simp at h;subst h;rfl⟩
 one:=by simp [ids]
theorem ZgS.grow {ns:List Nd} (ht:ZgS ns) {k:Nat} (hk:k<ns.length) {h:Zan} (hh:WfH h) (hs:ns.length<512) (hid':ZdQ 0 (ids ns) (hid h)=none):ZgS (ns ++ [Zdi ns k h]):=by
 have hm:=xD hk
 have cl:=ht.ch _ hm
 have hc:(Zdi ns k h).ch=ns[k].ch ++ [h]:=by unfold Zdi;rw [ZkL hk]
 have hd:=(Zdi ns k h).hd_snoc rfl
 refine ⟨by simp;omega,?_,?_,?_,?_,?_⟩
 ·intro n hn
  rcases List.mem_append.1 hn with hn | hn
  ·have:=ht.ch n hn;exact ⟨this.1,by simp;omega⟩
  ·cases List.mem_singleton.1 hn
   rw [hc];exact ⟨by simp,by simp;omega⟩
 ·intro n hn x hx
  rcases List.mem_append.1 hn with hn | hn
  ·exact ht.wf n hn x hx
  ·cases List.mem_singleton.1 hn
   rw [hc] at hx
   rcases List.mem_append.1 hx with hx | hx
   ·exact ht.wf _ hm x hx
   ·cases List.mem_singleton.1 hx;exact hh
 ·intro n hn
  rcases List.mem_append.1 hn with hn | hn
  ·exact ht.wk n hn
  ·cases List.mem_singleton.1 hn
   unfold Zdi;rw [Zos hk]
   exact Zot (ht.wk _ hm) (ZhH _)
 ·intro i hi
  by_cases hlt:i<ns.length
  ·rw [uL hlt]
   rcases ht.ah i hlt with a | ⟨q,hq,a,b⟩
   ·exact .inl a
   ·exact .inr ⟨q,hq,a,by rw [uL (by omega)];exact b⟩
  ·have:i=ns.length:=by simp at hi;omega
   subst this
   refine .inr ⟨k,hk,?_,?_⟩
   ·rw [tV (by omega)];simp [Zdi]
   ·rw [tV (by omega),uL hk]
    simp only [Nat.sub_self,List.getElem_singleton]
    rw [hc,hd]
 ·have np:=ZjP hid'
  unfold ids at *
  rw [uM,List.nodup_append]
  refine ⟨ht.one,by simp,?_⟩
  intro a ha b hb
  simp only [List.map_cons,List.map_nil,wL] at hb
  subst hb
  intro e
  unfold Nd.id at e
  rw [hd] at e
  exact np (by rw [←e];exact ha)
theorem ZjY (p:Zaj) (gs:List ZbW) (cs:List ZbM) (room:Int) (ns:List Nd) (h:Zan) (now:Int) :
  (ZjF p gs cs room ns h now).2.2.2=ns∨∃k:Nat,k<ns.length∧Zfe h=true∧ZdQ 0 (ids ns) (hid h)=none∧ZfP p gs cs (Zeb p (chAt ns k)) h now=0∧(ns.length:Int)<room ∧
   ZjF p gs cs room ns h now=((ns.length:Int),0,0,ns ++ [Zdi ns k h]):=by
 unfold ZjF
 by_cases hg:Zfe h=false
 ·rw [if_pos hg];exact .inl rfl
 rw [if_neg hg]
 cases e1:ZdQ 0 (ids ns) (hid h) with
 | some k=>exact .inl rfl
 | none=>
  dsimp only
  cases e2:ZdQ 0 (ids ns) h.Prev with
  | none=>exact .inl rfl
  | some k=>
   dsimp only
   obtain ⟨_,hk,_⟩:=Zfo e2
   have hk':k<ns.length:=by simpa [ids] using hk
   by_cases h1:ZfP p gs cs (Zeb p (chAt ns k)) h now=0
   ·rw [if_neg (by simp [h1])]
    by_cases h2:room≤(ns.length:Int)
    ·rw [if_pos h2];exact .inl rfl
    ·rw [if_neg h2]
     exact .inr ⟨k,hk',by simpa using hg,rfl,h1,by omega,rfl⟩
   ·rw [if_pos h1];exact .inl rfl
theorem Zqj {p:Zaj} {gs:List ZbW} {cs:List ZbM} {room:Int} (hr:room≤512) {ns:List Nd} (ht:ZgS ns) {h:Zan} (hh:WfH h) (now:Int):ZgS (ZjF p gs cs room ns h now).2.2.2:=by
 rcases ZjY p gs cs room ns h now with e | ⟨k,hk,_,hi,_,hl,e⟩
 ·rw [e];exact ht
 ·rw [e];exact ht.grow hk hh (by omega) hi
theorem addT_len (p:Zaj) (gs:List ZbW) (cs:List ZbM) (room:Int) (ns:List Nd) (h:Zan) (now:Int):ns.length≤(ZjF p gs cs room ns h now).2.2.2.length∧(ZjF p gs cs room ns h now).2.2.2.length≤ns.length+1:=by
 rcases ZjY p gs cs room ns h now with e | ⟨k,hk,_,hi,_,hl,e⟩
 ·rw [e];omega
 ·rw [e];simp
def ZiN (room:Int):Int:=if (512:Int)<(if (1:Int)>room then 1 else room) then 512 else (if (1:Int)>room then 1 else room)
def Zkh (p:Zaj):Nd:=⟨[p.Genesis],-1,ZfR p.Genesis.Bits⟩
theorem set_last (st:LL) (a b:List L):(st ++ [a]).set st.length b=st ++ [b]:=by simp
theorem New_eq (hN:500≤N) {p:Zaj} {gs:List ZbW} {cs:List ZbM} (hg:p.Gates=Zme gs) (hc:p.Checks=ZiL cs) (lg:gs.length≤400) (lc:cs.length≤400) (hp:WfP p) (room:Int) (st:LL) :
  Zdp N p room st=if Zki p gs cs=true then some (some st.length,0,st ++ [(aOf p (ZiN room) [Zkh p]).lo]) else some (none,1,st):=by
 unfold Zdp
 rw [Zll hN hg lg hc lc,Zab]
 cases hgd:Zki p gs cs with
 | false=>rfl
 | true=>
  have pp:({p with Gates:=[]++p.Gates,Checks:=[]++p.Checks}:Zaj)=p:=rfl
  rw [if_neg (c:=(!true)=true) (by simp),pp,Zal (by rw [hg,List.nil_append,Zmt];omega),Zal (by rw [hc,List.nil_append,Zmu];omega),Zjz hN hp.h.w,Zab]
  have hst:(st ++ [(aOf p (ZiN room) []).lo])[st.length]? = some (aOf p (ZiN room) []).lo:=by simp
  have k:=keep0_eq (N:=N) (by omega) hst (h:=p.Genesis) (Zkh p) rfl rfl rfl
  rw [set_last] at k
  rw [if_pos (c:=true=true) rfl]
  show Zbv (ZaH N (some st.length) p.Genesis (-1) (Zeb p (Zkh p).ch) (st ++ [(aOf p (ZiN room) []).lo])) _=_
  rw [k,Zab]
theorem Len_v_eq (p:Zaj) (room:Int) (ns:List Nd):ZbU N (aOf p room ns)=some (ns.length:Int):=by
 unfold ZbU;rw [show (aOf p room ns).list=Zgq ns from rfl,ZeZ]
theorem Zqq (p:Zaj) (room:Int) {ns:List Nd} {k:Nat} (hk:k<ns.length):Zbq N (aOf p room ns) (k:Int)=some (ns[k].en,true):=by
 unfold Zbq Zbe
 rw [show (aOf p room ns).list=Zgq ns from rfl,ZeZ,if_pos (by simp),Zab,if_neg (by simp<;>omega),Zal (by omega),Zal (by omega),zI,Zis hk,Zaw,Zdz]
theorem Zqp (p:Zaj) (room:Int) {ns:List Nd} {k:Int} (hk:k<0∨(ns.length:Int)≤k):Zbq N (aOf p room ns) k=some (Zbu.mk (Zan.mk 0 (zC 32 0) (zC 32 0) 0 0 0) (zC 32 0) (-1) 0 (zC 4 0),false):=by
 unfold Zbq Zbe
 rw [show (aOf p room ns).list=Zgq ns from rfl,ZeZ]
 by_cases h:k≥0
 ·rw [if_pos (by simpa using h),Zab,if_pos (by simp<;>omega)]
 ·rw [if_neg (by simpa using h),Zab,if_pos (by rfl)]
end Go.Dn.F
set_option maxRecDepth 100000
namespace Go.Dn.F
open Go.Dn Go.Proofs
variable {N:Nat}
def pA:Zaj:=⟨545259519,4,10,0,false,[],[],zC 4 0,zC 4 0,h0⟩
theorem h0_wf:WfH h0:=⟨by unfold Zkw h0;simp,by unfold wfH h0;decide,by unfold Zkw h0;simp,by unfold Zkw h0;simp,by unfold Zkw h0;simp⟩
theorem pA_wf:WfP pA where
 l:=by unfold Zkw pA;simp
 i:=by unfold Zkw pA;simp
 s:=by unfold Zkw pA;simp
 f:=by unfold Zkw pA;simp
 g:=by unfold pA;simp
 gl:=by unfold pA;simp
 c:=by unfold pA;simp
 cl:=by unfold pA;simp
 m:=by unfold pA;exact ⟨rfl,fun x hx=>by obtain ⟨_,rfl⟩:=List.mem_replicate.1 hx;decide⟩
 r:=by unfold pA;exact ⟨rfl,fun x hx=>by obtain ⟨_,rfl⟩:=List.mem_replicate.1 hx;decide⟩
 h:=h0_wf
end Go.Dn.F
set_option maxRecDepth 40000
namespace Go.Dn.F
open Go.Dn Go.Proofs
variable {N:Nat}
def Zon (ns:List Nd):Nat→Nat→List Nat
 | 0,k=>[k]
 | f+1,k=>match ns[k]? with
  | some n=>if n.ah<0 then [k] else Zon ns f n.ah.toNat ++ [k]
  | none=>[k]
def Zfy (ns:List Nd) (k:Nat):List Nat:=Zon ns k k
theorem ZoU {ns:List Nd} (ht:ZgS ns) : ∀(k f g:Nat),k<ns.length→k≤f→k≤g→Zon ns f k=Zon ns g k:=by
 intro k
 induction k using vK with
 | ind k ih=>
  intro f g hk hf hg
  rcases ht.ah k hk with ⟨z,a,c⟩ | ⟨q,hq,a,c⟩
  ·have e : ∀f,Zon ns f k = [k]:=fun f=>by
    cases f with
    | zero=>rfl
    | succ f=>unfold Zon;rw [zM hk];dsimp only;rw [a,if_pos (by omega)]
   rw [e,e]
  ·obtain ⟨f,rfl⟩ : ∃x,f=x+1:=⟨f-1,by omega⟩
   obtain ⟨g,rfl⟩ : ∃x,g=x+1:=⟨g-1,by omega⟩
   unfold Zon
   rw [zM hk]
   dsimp only
   rw [a,if_neg (by omega),if_neg (by omega),zI,ih q hq f g (by omega) (by omega) (by omega)]
theorem ZoP {ns:List Nd} {k:Nat} (hk:k<ns.length) (a:ns[k].ah = -1):Zfy ns k = [k]:=by
 unfold Zfy
 cases k with
 | zero=>rfl
 | succ f=>unfold Zon;rw [zM hk];dsimp only;rw [a,if_pos (by omega)]
theorem Zlo {ns:List Nd} (ht:ZgS ns) {k q:Nat} (hk:k<ns.length) (hq:q<k) (a:ns[k].ah=(q:Int)):Zfy ns k=Zfy ns q ++ [k]:=by
 obtain ⟨f,rfl⟩ : ∃x,k=x+1:=⟨k-1,by omega⟩
 unfold Zfy
 rw [Zon,zM hk]
 dsimp only
 rw [a,if_neg (by omega),zI,ZoU ht q f q (by omega) (by omega) (by omega)]
theorem Zfn {ns:List Nd} (ht:ZgS ns) {k:Nat} (hk:k<ns.length) :
  (k=0∧ns[k].ah = -1∧Zfy ns k = [k]∧ns[k].ch.length=1)∨∃q,q<k∧ns[k].ah=(q:Int)∧Zfy ns k=Zfy ns q ++ [k]∧∃hq:q<ns.length,ns[k].ch=ns[q].ch ++ [ns[k].hd]:=by
 rcases ht.ah k hk with ⟨z,a,c⟩ | ⟨q,hq,a,c⟩
 ·exact .inl ⟨z,a,ZoP hk a,c⟩
 ·exact .inr ⟨q,hq,a,Zlo ht hk hq a,by omega,c⟩
theorem Zkf {ns:List Nd} (ht:ZgS ns) : ∀{k:Nat} (hk:k<ns.length),(Zfy ns k).length=ns[k].ch.length:=by
 intro k
 induction k using vK with
 | ind k ih=>
  intro hk
  rcases Zfn ht hk with ⟨z,a,e,c⟩ | ⟨q,hq,a,e,hq',c⟩
  ·rw [e,c];rfl
  ·rw [e,c,zR,zR,ih q hq hq'];rfl
theorem Zlp {ns:List Nd} (ht:ZgS ns) {k:Nat} (hk:k<ns.length):(Zfy ns k)[(Zfy ns k).length-1]? = some k:=by
 rcases Zfn ht hk with ⟨z,a,e,c⟩ | ⟨q,hq,a,e,hq',c⟩
 ·rw [e];rfl
 ·rw [e];simp
theorem ZoQ {ns:List Nd} (ht:ZgS ns) : ∀{k:Nat},k<ns.length→∀x∈Zfy ns k,x≤k:=by
 intro k
 induction k using vK with
 | ind k ih=>
  intro hk x hx
  rcases Zfn ht hk with ⟨z,a,e,c⟩ | ⟨q,hq,a,e,hq',c⟩
  ·rw [e] at hx;simp at hx;omega
  ·rw [e] at hx
   rcases List.mem_append.1 hx with hx | hx
   ·have:=ih q hq hq' x hx;omega
   ·simp at hx;omega
theorem Znb {ns:List Nd} (ht:ZgS ns) : ∀{k:Nat},k<ns.length→∀{h x:Nat},(Zfy ns k)[h]? = some x→x<ns.length∧Zfy ns x=(Zfy ns k).take (h+1):=by
 intro k
 induction k using vK with
 | ind k ih=>
  intro hk h x hx
  rcases Zfn ht hk with ⟨z,a,e,c⟩ | ⟨q,hq,a,e,hq',c⟩
  ·rw [e] at hx ⊢
   cases h with
   | zero=>cases hx;exact ⟨hk,by rw [e];rfl⟩
   | succ h=>cases hx
  ·rw [e] at hx ⊢
   by_cases hlt:h<(Zfy ns q).length
   ·rw [zP hlt] at hx
    obtain ⟨h1,h2⟩:=ih q hq hq' hx
    exact ⟨h1,by rw [h2,wQ (by omega)]⟩
   ·rw [zV (by omega)] at hx
    have e0:h-(Zfy ns q).length=0:=by
     cases e1:h-(Zfy ns q).length with
     | zero=>rfl
     | succ n=>rw [e1] at hx;cases hx
    rw [e0] at hx
    cases hx
    exact ⟨hk,by rw [e,zY (by simp;omega)]⟩
theorem rowP_at {ns:List Nd} (ht:ZgS ns) {k h x:Nat} (hk:k<ns.length) (hx:(Zfy ns k)[h]? = some x) : ∃h':x<ns.length,ns[x].ch.length=h+1:=by
 obtain ⟨h1,h2⟩:=Znb ht hk hx
 refine ⟨h1,?_⟩
 have hl:h<(Zfy ns k).length:=(List.getElem?_eq_some_iff.1 hx).1
 rw [←Zkf ht h1,h2,List.length_take];omega
theorem Znc {ns:List Nd} (ht:ZgS ns) {k x:Nat} (hk:k<ns.length) (hx:x∈Zfy ns k) : ∃h':x<ns.length,(Zfy ns k)[ns[x].ch.length-1]? = some x:=by
 obtain ⟨h,hx⟩:=List.mem_iff_getElem?.1 hx
 obtain ⟨h1,h2⟩:=rowP_at ht hk hx
 exact ⟨h1,by rw [h2];exact hx⟩
theorem ZoT (ns:List Nd) (nd:Nd) (ht:ZgS ns) : ∀(k f:Nat),k<ns.length→Zon (ns ++ [nd]) f k=Zon ns f k:=by
 intro k
 induction k using vK with
 | ind k ih=>
  intro f hk
  cases f with
  | zero=>rfl
  | succ f=>
   unfold Zon
   rw [zP hk,zM hk]
   dsimp only
   rcases ht.ah k hk with ⟨z,a,c⟩ | ⟨q,hq,a,c⟩
   ·rw [a,if_pos (by omega),if_pos (by omega)]
   ·rw [a,if_neg (by omega),if_neg (by omega),zI,ih q hq f (by omega)]
theorem Zhc {ns:List Nd} (nd:Nd) (ht:ZgS ns) {k:Nat} (hk:k<ns.length):Zfy (ns ++ [nd]) k=Zfy ns k:=ZoT ns nd ht k k hk
noncomputable def tOf (p:Zaj) (room:Int) (ns:List Nd) (lp:List Int):Zat:=⟨aOf p room ns,Zda lp⟩
structure Zol (ns:List Nd) (lp:List Int):Prop where
 len:lp.length≤ns.length
 ok : ∀(i:Nat) (v:Int),lp[i]? = some v→v = -1∨∃x:Nat,v=(x:Int)∧x≠i∧x∈Zfy ns i
def hZ (ns:List Nd) (k:Int):Int:=if 0≤k∧k<(ns.length:Int) then ((ns[k.toNat]?.map Nd.ch).getD []).length-1 else -1
theorem ZpC {ns:List Nd} {k:Nat} (hk:k<ns.length):hZ ns (k:Int)=(ns[k].ch.length:Int)-1:=by
 unfold hZ;rw [if_pos (by omega),zI,zM hk];rfl
theorem ZpB {ns:List Nd} {k:Int} (hk:k<0∨(ns.length:Int)≤k):hZ ns k = -1:=by
 unfold hZ;rw [if_neg (by omega)]
theorem ZoH (p:Zaj) (room:Int) {ns:List Nd} (lp:List Int) {k:Nat} (hk:k<ns.length):ZbB N (tOf p room ns lp) (k:Int)=some (ns[k].en,true):=by
 unfold ZbB
 rw [show (tOf p room ns lp).store=aOf p room ns from rfl,Zqq p room hk,Zab]
theorem ZoG (p:Zaj) (room:Int) {ns:List Nd} (lp:List Int) {k:Int} (hk:k<0∨(ns.length:Int)≤k) : ∃e,ZbB N (tOf p room ns lp) k=some (e,false):=by
 unfold ZbB
 rw [show (tOf p room ns lp).store=aOf p room ns from rfl,Zqp p room hk,Zab]
 exact ⟨_,rfl⟩
theorem Zhr (p:Zaj) (room:Int) (ns:List Nd) (lp:List Int) (k:Int):ZaL N (tOf p room ns lp) k=some (hZ ns k):=by
 unfold ZaL
 by_cases h:0≤k∧k<(ns.length:Int)
 ·obtain ⟨j,rfl⟩ : ∃j:Nat,k=(j:Int):=⟨k.toNat,by omega⟩
  have hj:j<ns.length:=by omega
  rw [ZoH p room lp hj,Zab]
  dsimp only
  rw [if_neg (by simp),ZpC hj];rfl
 ·obtain ⟨e,h1⟩:=ZoG (N:=N) p room (ns:=ns) lp (k:=k) (by omega)
  rw [h1,Zab]
  dsimp only
  rw [if_pos (by rfl),ZpB (by omega)]
def ancZ (ns:List Nd) (k h:Int):Int:=if 0≤k∧k<(ns.length:Int)∧0≤h then ((Zfy ns k.toNat)[h.toNat]?.map fun (x:Nat)=>(x:Int)).getD (-1) else -1
theorem ancZ_at {ns:List Nd} {k h x:Nat} (hk:k<ns.length) (hx:(Zfy ns k)[h]? = some x):ancZ ns (k:Int) (h:Int)=(x:Int):=by
 unfold ancZ;rw [if_pos (by omega),zI,zI,hx];rfl
theorem Zln {ns:List Nd} (ht:ZgS ns) {k x y:Nat} (hk:k<ns.length) (hx:x∈Zfy ns k) (hy:y∈Zfy ns x):y∈Zfy ns k:=by
 obtain ⟨h,hx⟩:=List.mem_iff_getElem?.1 hx
 obtain ⟨_,e⟩:=Znb ht hk hx
 rw [e] at hy
 exact List.mem_of_mem_take hy
theorem row_lt {ns:List Nd} (ht:ZgS ns) {x y:Nat} (hx:x<ns.length) (hy:y∈Zfy ns x) (hne:y≠x) : ∃h:y<ns.length,ns[y].ch.length<ns[x].ch.length:=by
 obtain ⟨h,e⟩:=Znc ht hx hy
 refine ⟨h,?_⟩
 have hl:=(List.getElem?_eq_some_iff.1 e).1
 have ll:=Zlp ht hx
 have e2:=Zkf ht hx
 have p1:=List.length_pos_iff.2 (ht.ch _ (xD h)).1
 rcases Nat.lt_or_ge ns[y].ch.length ns[x].ch.length with h3 | h3
 ·exact h3
 ·rw [show ns[y].ch.length-1=(Zfy ns x).length-1 by omega,ll] at e
  cases e;exact absurd rfl hne
theorem Zna {ns:List Nd} (ht:ZgS ns) {k:Nat} (hk:k<ns.length):k∈Zfy ns k:=wP (Zlp ht hk)
theorem ZoO {ns:List Nd} (ht:ZgS ns) {k q:Nat} (hk:k<ns.length) (hq:q<k) (e:Zfy ns k=Zfy ns q ++ [k]):q∈Zfy ns k:=by
 rw [e];exact List.mem_append.2 (.inl (Zna ht (by omega)))
theorem ZmO (hN:600≤N) {p:Zaj} {room:Int} {ns:List Nd} {lp:List Int} (ht:ZgS ns) (hl:Zol ns lp) (k h:Int) (hb:k<(lp.length:Int)∨ns.length≤lp.length):Zao N (tOf p room ns lp) k h=some (ancZ ns k h):=by
 have sm:=ht.small
 unfold Zao
 rw [Zhr,Zab]
 by_cases h0:h<0
 ·rw [if_pos (by simpa using h0)];unfold ancZ;rw [if_neg (by omega)]
 rw [if_neg (by simpa using h0)]
 by_cases hk0:k<0∨(ns.length:Int)≤k
 ·rw [ZpB (by omega),if_pos (by simp;omega)];unfold ancZ;rw [if_neg (by omega)]
 obtain ⟨k,rfl⟩ : ∃j:Nat,k=(j:Int):=⟨k.toNat,by omega⟩
 obtain ⟨h,rfl⟩ : ∃j:Nat,h=(j:Int):=⟨h.toNat,by omega⟩
 have hk:k<ns.length:=by omega
 have lk:=Zkf ht hk
 have lb:=(ht.ch _ (xD hk)).2
 rw [ZpC hk]
 by_cases h1:(h:Int)>(ns[k].ch.length:Int)-1
 ·rw [if_pos (by simpa using h1)];unfold ancZ
  rw [if_pos (by omega),zI,zI,zK (by omega)];rfl
 rw [if_neg (by simpa using h1)]
 have hh:h<(Zfy ns k).length:=by omega
 obtain ⟨t,et⟩ : ∃t,(Zfy ns k)[h]? = some t:=⟨_,zM hh⟩
 rw [ancZ_at hk et]
 refine ZcC (fun m (s:Int×Int)=>∃(x:Nat) (hx:x<ns.length),m=ns[x].ch.length∧s=((x:Int),(ns[x].ch.length:Int)-1)∧x∈Zfy ns k∧h+1≤ns[x].ch.length) ?_ N ns[k].ch.length _ ⟨k,hk,rfl,rfl,Zna ht hk,by omega⟩ (by omega)
 rintro G m _ ⟨x,hx,rfl,rfl,hm,hle⟩ hG
 unfold Zao.p1 Zao.p2
 dsimp only
 by_cases hgt:(ns[x].ch.length:Int)-1>(h:Int)
 ·have hx2:x<lp.length:=by
   have:=ZoQ ht hk x hm
   omega
  rw [if_pos (by simpa using hgt),ZoH p room lp hx,Zab]
  dsimp only
  rw [show (tOf p room ns lp).leaps=Zda lp from rfl,Zal (by omega),Zee,Zal (by omega),zI,Zgp hx2,Zaw,ZeK,show (ns[x].en).Ahead=ns[x].ah from rfl]
  rcases Zfn ht hx with ⟨z,a,e,c⟩ | ⟨q,hq,a,e,hq',c⟩
  ·omega
  ·have cl:=congrArg List.length c
   rw [zR,yR] at cl
   have toq:G ((q:Int),(ns[q].ch.length:Int)-1)=some (t:Int):=hG ns[q].ch.length _ (by omega) ⟨q,hq',rfl,rfl,Zln ht hk hm (ZoO ht hx hq e),by omega⟩
   rcases hl.ok x lp[x] (zM hx2) with v | ⟨y,v,hne,hy⟩
   ·rw [v,if_neg (by simp),a,Zhr,Zab,ZpC hq'];exact toq
   ·obtain ⟨hy',hyl⟩:=row_lt ht hx hy hne
    rw [v,if_pos (by simp<;>omega),Zhr,Zab,ZpC hy']
    by_cases h3:(ns[y].ch.length:Int)-1≥(h:Int)
    ·rw [if_pos (by simpa using h3),Zab]
     exact hG ns[y].ch.length _ hyl ⟨y,hy',rfl,rfl,Zln ht hk hm hy,by omega⟩
    ·rw [if_neg (by simpa using h3),a,Zhr,Zab,ZpC hq'];exact toq
 ·obtain ⟨h3,e3⟩:=Znc ht hk hm
  rw [show ns[x].ch.length-1=h by omega,et] at e3
  cases e3
  rw [if_neg (by simpa using hgt)]
end Go.Dn.F
set_option maxRecDepth 100000
namespace Go.Dn.F
open Go.Dn Go.Proofs
variable {N:Nat}
end Go.Dn.F
set_option maxRecDepth 40000
namespace Go.Dn.F
open Go.Dn Go.Proofs
variable {N:Nat}
noncomputable def Zgz (ia:Nat) (lp:List Int):List L:=[L.ptr (some ia),L.own true 1 (Zda lp)]
structure Zfx (st:LL) (ia it:Nat) (p:Zaj) (room:Int) (ns:List Nd) (lp:List Int):Prop where
 a:st[ia]? = some (aOf p room ns).lo
 t:st[it]? = some (Zgz ia lp)
 ne:ia≠it
 lv:Zol ns lp
 len:lp.length=ns.length
 tr:ZgS ns
theorem skH_eq (h:Int) : ∃x,ZcU N h=some x:=by
 unfold ZcU ZcH
 by_cases h1:h<2
 ·rw [if_pos (by simpa using h1)];exact ⟨_,rfl⟩
 rw [if_neg (by simpa using h1)]
 by_cases h2:Zaz .and .i64 h 1=0
 ·rw [if_pos (by simpa using h2)];exact ⟨_,rfl⟩
 ·rw [if_neg (by simpa using h2)];exact ⟨_,rfl⟩
theorem Zok (p:Zaj) (gs:List ZbW) (cs:List ZbM) (room:Int) (ns:List Nd) (h:Zan) (now:Int) :
  ((ZjF p gs cs room ns h now).2.2.2=ns∧((ZjF p gs cs room ns h now).2.2.1≠0∨∃k:Nat,k<ns.length∧(ZjF p gs cs room ns h now).1=(k:Int)))∨∃k:Nat,k<ns.length∧ZdQ 0 (ids ns) (hid h)=none∧(ns.length:Int)<room ∧
   ZjF p gs cs room ns h now=((ns.length:Int),0,0,ns ++ [Zdi ns k h]):=by
 unfold ZjF
 by_cases hg:Zfe h=false
 ·rw [if_pos hg];exact .inl ⟨rfl,.inl (by simp)⟩
 rw [if_neg hg]
 cases e1:ZdQ 0 (ids ns) (hid h) with
 | some k=>
  obtain ⟨_,hk,_⟩:=Zfo e1
  have hk':k<ns.length:=by simpa [ids] using hk
  exact .inl ⟨rfl,.inr ⟨k,hk',rfl⟩⟩
 | none=>
  dsimp only
  cases e2:ZdQ 0 (ids ns) h.Prev with
  | none=>exact .inl ⟨rfl,.inl (by simp)⟩
  | some k=>
   dsimp only
   obtain ⟨_,hk,_⟩:=Zfo e2
   have hk':k<ns.length:=by simpa [ids] using hk
   by_cases h1:ZfP p gs cs (Zeb p (chAt ns k)) h now=0
   ·rw [if_neg (by simp [h1])]
    by_cases h2:room≤(ns.length:Int)
    ·rw [if_pos h2];exact .inl ⟨rfl,.inl (by simp)⟩
    ·rw [if_neg h2]
     exact .inr ⟨k,hk',rfl,by omega,rfl⟩
   ·rw [if_pos h1];exact .inl ⟨rfl,.inl (by simp)⟩
theorem Zol.grow {ns:List Nd} {lp:List Int} (ht:ZgS ns) (hl:Zol ns lp) (hlen:lp.length=ns.length) {nd:Nd} (ht':ZgS (ns ++ [nd])) {k:Nat} (hk:k<ns.length) (ha:nd.ah=(k:Int)) (h:Int):Zol (ns ++ [nd]) (lp ++ [ancZ (ns ++ [nd]) (k:Int) h]) where
 len:=by simp [hlen]
 ok:=fun i v hv=>by
  by_cases hi:i<lp.length
  ·rw [zP hi] at hv
   rcases hl.ok i v hv with h1 | ⟨x,h1,h2,h3⟩
   ·exact .inl h1
   ·exact .inr ⟨x,h1,h2,by rw [Zhc nd ht (by omega)];exact h3⟩
  ·have e0:i=ns.length:=by
    have:=(List.getElem?_eq_some_iff.1 hv).1
    simp at this;omega
   subst e0
   rw [zV (by omega),hlen,Nat.sub_self] at hv
   cases hv
   have hn:ns.length<(ns ++ [nd]).length:=by simp
   have ea:(ns ++ [nd])[ns.length].ah=(k:Int):=by simpa using ha
   rw [Zlo ht' hn hk ea,Zhc nd ht hk]
   unfold ancZ
   by_cases hc:0≤(k:Int)∧(k:Int)<((ns ++ [nd]).length:Int)∧0≤h
   ·rw [if_pos hc,zI,Zhc nd ht hk]
    cases e:(Zfy ns k)[h.toNat]? with
    | none=>exact .inl rfl
    | some y=>
     have hy:=wP e
     have:=ZoQ ht hk y hy
     exact .inr ⟨y,rfl,by omega,List.mem_append.2 (.inl hy)⟩
   ·rw [if_neg hc];exact .inl rfl
theorem skAdd_eq (hN:600≤N) {st:LL} {ia it:Nat} {p:Zaj} {gs:List ZbW} {cs:List ZbM} (hg:p.Gates=Zme gs) (hc:p.Checks=ZiL cs) (lg:gs.length≤400) (lc:cs.length≤400) {room:Int} (hroom:room≤512) {ns:List Nd} {lp:List Int} (T:Zfx st ia it p room ns lp)
  {h:Zan} (hh:WfH h) (now:Int) (hnow : -1152921504606846976≤now∧now≤9223372036854775807) :
  ∃lp' st',Zbl N (some it) h now st=some ((ZjF p gs cs room ns h now).1,(ZjF p gs cs room ns h now).2.1,(ZjF p gs cs room ns h now).2.2.1,st')∧Zfx st' ia it p room (ZjF p gs cs room ns h now).2.2.2 lp'∧(∀j,j≠ia→j≠it→st'[j]? = st[j]?):=by
 have ht':=Zqj (p:=p) (gs:=gs) (cs:=cs) hroom T.tr hh now
 unfold Zbl Zbl.p1
 rw [if_neg (c:=Option.isNone (some it)=true) (by simp),Zab,T.t,Zaw]
 unfold Zgz
 rw [Zce,Add_eq (by omega) hg hc lg lc hroom T.tr T.a hh now hnow,Zab]
 dsimp only
 rcases Zok p gs cs room ns h now with ⟨e,e1⟩ | ⟨k,hk,hpl,hlr,e⟩
 ·rw [e,ZgZ T.a]
  refine ⟨lp,st,?_,T,fun j _ _=>rfl⟩
  by_cases h6:(ZjF p gs cs room ns h now).2.2.1=0
  ·rcases e1 with e1 | ⟨k,hk,e1⟩
   ·exact absurd h6 e1
   ·rw [if_pos (by simpa using h6),T.t,Zaw]
    unfold Zgz
    rw [Zce,if_neg (by rw [e1,Zee,T.len];simp;omega)]
  ·rw [if_neg (by simpa using h6)]
 ·rw [e] at ht' ⊢
  dsimp only at ht' ⊢
  have t2:(st.set ia (aOf p room (ns ++ [Zdi ns k h])).lo)[it]? = some (Zgz ia lp):=by
   rw [zQ T.ne];exact T.t
  have a2:(st.set ia (aOf p room (ns ++ [Zdi ns k h])).lo)[ia]? = some (aOf p room (ns ++ [Zdi ns k h])).lo:=zN (List.getElem?_eq_some_iff.1 T.a).1
  have hit:=(List.getElem?_eq_some_iff.1 t2).1
  have hn:ns.length<(ns ++ [Zdi ns k h]).length:=by simp
  have en:(ns ++ [Zdi ns k h])[ns.length]=Zdi ns k h:=by simp
  obtain ⟨hx,eh⟩:=skH_eq (N:=N) ((ns ++ [Zdi ns k h])[ns.length].en).Height
  have lv:Zol (ns ++ [Zdi ns k h]) lp:=⟨by rw [T.len];simp,fun i v hv=>by
   have hi:=(List.getElem?_eq_some_iff.1 hv).1
   rcases T.lv.ok i v hv with h1 | ⟨x,h1,h2,h3⟩
   ·exact .inl h1
   ·exact .inr ⟨x,h1,h2,by rw [Zhc _ T.tr (by rw [←T.len];exact hi)];exact h3⟩⟩
  have sm:=T.tr.small
  rw [if_pos (by rfl),t2,Zaw]
  unfold Zgz
  rw [Zce,if_pos (by rw [Zee,T.len];simp),Zab,a2,Zaw,Zbo,Zqq p room hn,Zab]
  dsimp only
  rw [eh,Zab,show ((ns ++ [Zdi ns k h])[ns.length].en).Ahead=(ns ++ [Zdi ns k h])[ns.length].ah from rfl,en,show (Zdi ns k h).ah=(k:Int) from rfl,show (Zat.mk (aOf p room (ns ++ [Zdi ns k h])) (Zda lp))=tOf p room (ns ++ [Zdi ns k h]) lp from rfl,ZmO hN ht' lv _ _ (.inl (by rw [T.len];omega)),Zab,rowI_one,Zms,Zal (by rw [ZfD,zR,yR,T.len];omega),yX]
  refine ⟨_,_,rfl,⟨?_,?_,T.ne,T.lv.grow T.tr T.len ht' hk rfl hx,by simp [T.len],ht'⟩,fun j h1 h2=>?_⟩
  ·rw [zQ (Ne.symm T.ne)];exact a2
  ·exact zN hit
  ·rw [zQ (Ne.symm h2),zQ (Ne.symm h1)]
theorem ZmV (hN:500≤N) {p:Zaj} {gs:List ZbW} {cs:List ZbM} (hg:p.Gates=Zme gs) (hc:p.Checks=ZiL cs) (lg:gs.length≤400) (lc:cs.length≤400) (hp:WfP p) (room:Int) (st:LL) :
  ZdJ N p room st=if Zki p gs cs=true then some (some (st.length+1),0,(st ++ [(aOf p (ZiN room) [Zkh p]).lo]) ++ [Zgz st.length [-1]]) else some (none,1,st):=by
 unfold ZdJ
 rw [New_eq hN hg hc lg lc hp]
 cases Zki p gs cs with
 | false=>rfl
 | true=>
  rw [if_pos rfl,Zab,if_pos (c:=true=true) rfl]
  dsimp only
  rw [if_neg (by simp),zR,yR]
  rfl
theorem ZmW {p:Zaj} (hp:WfP p) (room:Int) (st:LL):Zfx ((st ++ [(aOf p room [Zkh p]).lo]) ++ [Zgz st.length [-1]]) st.length (st.length+1) p room [Zkh p] [-1] where
 a:=by rw [zP (by simp)];simp
 t:=by rw [zV (by simp)];simp
 ne:=by omega
 lv:=⟨by simp,fun i v hv=>by
  cases i with
  | zero=>cases hv;exact .inl rfl
  | succ i=>cases hv⟩
 len:=rfl
 tr:=ZgS.one_node hp.h
theorem Zfx.app {st:LL} {ia it:Nat} {p:Zaj} {room:Int} {ns:List Nd} {lp:List Int} (T:Zfx st ia it p room ns lp) (x:LL):Zfx (st++x) ia it p room ns lp where
 a:=by rw [zP (List.getElem?_eq_some_iff.1 T.a).1];exact T.a
 t:=by rw [zP (List.getElem?_eq_some_iff.1 T.t).1];exact T.t
 ne:=T.ne
 lv:=T.lv
 len:=T.len
 tr:=T.tr
end Go.Dn.F
set_option maxRecDepth 100000
namespace Go.Dn.F
open Go.Dn Go.Proofs
variable {N:Nat}
theorem Zdm {α:Type} (x:Int) (k:Int→Option α):ZcN [zJ .i64 x] k=k x:=rfl
def hvT (ns:List Nd) (x y:Nat):Bool:=
 match ns[x]?,ns[y]? with
 | some a,some b=>decide (b.wk<a.wk)||(a.wk==b.wk&&decide (x<y))
 | _,_=>false
theorem isT_eq (p:Zaj) (room:Int) (ns:List Nd) (k:Int):Zbe N (aOf p room ns) k=some (decide (0≤k∧k<(ns.length:Int))):=by
 unfold Zbe
 rw [show (aOf p room ns).list=Zgq ns from rfl,ZeZ]
 by_cases h:k≥0
 ·rw [if_pos (by simpa using h)];congr 1;simp;omega
 ·rw [if_neg (by simpa using h),decide_eq_false (by omega)]
theorem hvT_at {ns:List Nd} {x y:Nat} (hx:x<ns.length) (hy:y<ns.length):hvT ns x y=(decide (ns[y].wk<ns[x].wk)||(ns[x].wk==ns[y].wk&&decide (x<y))):=by
 unfold hvT;rw [zM hx,zM hy]
theorem ZpA (hN:10≤N) (p:Zaj) (room:Int) {ns:List Nd} (lp:List Int) (ht:ZgS ns) {a b:Nat} (ha:a<ns.length) (hb:b<ns.length):ZbK N (tOf p room ns lp) (a:Int) (b:Int)=some (hvT ns a b):=by
 unfold ZbK ZbH
 rw [show (tOf p room ns lp).store=aOf p room ns from rfl,isT_eq,Zab]
 rw [if_neg (by simp;omega),isT_eq,Zab,if_neg (by simp;omega)]
 rw [show (aOf p room ns).list=Zgq ns from rfl,ZeZ,Zal (by omega),Zal (by omega),zI,Zis ha,Zaw,Zdz,Zal (by omega),Zal (by omega),zI,Zis hb,Zaw,Zdz,show (ns[a].en).Work=nw ns[a].wk from rfl,show (ns[b].en).Work=nw ns[b].wk from rfl,ZfL hN (ht.wk _ (xD ha)) (ht.wk _ (xD hb)),Zab,hvT_at ha hb]
 unfold cmp
 by_cases h1:ns[a].wk<ns[b].wk
 ·rw [if_pos h1,if_neg (by simp),if_neg (by simp)]
  have e1 : ¬ ns[b].wk<ns[a].wk:=by omega
  have e2:ns[a].wk≠ns[b].wk:=by omega
  simp [e1,e2]
 ·rw [if_neg h1]
  by_cases h2:ns[b].wk<ns[a].wk
  ·rw [if_pos h2,if_pos (by simp)];simp [h2]
  ·rw [if_neg h2,if_neg (by simp),if_pos (by simp)]
   have e2:ns[a].wk=ns[b].wk:=by omega
   simp [h2,e2]
theorem ZhU {ns:List Nd} {x y:Nat} (hx:x<ns.length) (hy:y<ns.length):hvT ns x y=true↔ns[y].wk<ns[x].wk∨(ns[x].wk=ns[y].wk∧x<y):=by
 rw [hvT_at hx hy];simp
theorem Zpy {ns:List Nd} {x y:Nat} (h:hvT ns x y=true):x<ns.length∧y<ns.length:=by
 unfold hvT at h
 split at h
 ·rename_i a b h1 h2
  exact ⟨(List.getElem?_eq_some_iff.1 h1).1,(List.getElem?_eq_some_iff.1 h2).1⟩
 ·cases h
theorem Zhq {ns:List Nd} {x y z:Nat} (h1:hvT ns x y=true) (h2:hvT ns y z=true):hvT ns x z=true:=by
 obtain ⟨hx,hy⟩:=Zpy h1
 obtain ⟨_,hz⟩:=Zpy h2
 rw [ZhU hx hy] at h1
 rw [ZhU hy hz] at h2
 rw [ZhU hx hz]
 omega
theorem Zpx {ns:List Nd} {x y:Nat} (hx:x<ns.length) (hy:y<ns.length) (hne:x≠y) (h:hvT ns x y=false):hvT ns y x=true:=by
 have h1 : ¬ (hvT ns x y=true):=by rw [h];simp
 rw [ZhU hx hy] at h1
 rw [ZhU hy hx]
 omega
theorem ZhT (ns:List Nd) (x:Nat):hvT ns x x=false:=by
 cases h:hvT ns x x with
 | false=>rfl
 | true=>
  obtain ⟨hx,_⟩:=Zpy h
  rw [ZhU hx hx] at h
  omega
theorem hvT_asym {ns:List Nd} {x y:Nat} (h:hvT ns x y=true):hvT ns y x=false:=by
 cases h2:hvT ns y x with
 | false=>rfl
 | true=>have:=Zhq h h2;rw [ZhT] at this;cases this
def Zie (ns:List Nd) (l:List Nat):Prop:=l.Pairwise (fun a b=>hvT ns a b=true)∧∀x∈l,x<ns.length
theorem ZiF {ns:List Nd} {l:List Nat} (h:Zie ns l) {i j:Nat} (hi:i<l.length) (hj:j<l.length) (hij:i<j):hvT ns l[i] l[j]=true:=List.pairwise_iff_getElem.1 h.1 i j hi hj hij
theorem ZgY {ns:List Nd} {a:Nat} {l:List Nat} (h:Zie ns (a::l)):(∀x∈l,hvT ns a x=true)∧Zie ns l:=⟨(List.pairwise_cons.1 h.1).1,(List.pairwise_cons.1 h.1).2,fun x hx=>h.2 x (yB _ hx)⟩
theorem ZoD {ns:List Nd} {a:Nat} {l:List Nat} (h:Zie ns (a::l)):a∉l:=fun h2=>by
 have:=(ZgY h).1 a h2
 rw [ZhT] at this;cases this
theorem Zmp {ns:List Nd} : ∀{l m:List Nat},Zie ns l→Zie ns m→(∀x,x∈l↔x∈m)→l=m
 | [],[],_,_,_=>rfl
 | [],b::m,_,_,h=>by have:=(h b).2 (by simp);cases this
 | a::l,[],_,_,h=>by have:=(h a).1 (by simp);cases this
 | a::l,b::m,h1,h2,h=>by
  have e:a=b:=by
   rcases List.mem_cons.1 ((h a).1 (by simp)) with e | h3
   ·exact e
   ·rcases List.mem_cons.1 ((h b).2 (by simp)) with e | h4
    ·exact e.symm
    ·have:=hvT_asym ((ZgY h1).1 b h4)
     rw [(ZgY h2).1 a h3] at this;cases this
  subst e
  rw [Zmp (ZgY h1).2 (ZgY h2).2 fun x=>?_]
  constructor
  ·intro hx
   rcases List.mem_cons.1 ((h x).1 (yB _ hx)) with e | h3
   ·subst e;exact absurd hx (ZoD h1)
   ·exact h3
  ·intro hx
   rcases List.mem_cons.1 ((h x).2 (yB _ hx)) with e | h3
   ·subst e;exact absurd hx (ZoD h2)
   ·exact h3
def cutT (ns:List Nd) (l:List Nat) (t k:Nat):Prop:=k≤l.length∧(∀a (h:a<l.length),a<k→hvT ns l[a] t=true)∧∀a (h:a<l.length),k≤a→hvT ns l[a] t=false
theorem ZpP {ns:List Nd} {l:List Nat} (hs:Zie ns l) {t k:Nat} (hc:cutT ns l t k):t∈l↔l[k]? = some t:=by
 refine ⟨fun h=>?_,fun h=>wP h⟩
 obtain ⟨a,ha,rfl⟩:=List.mem_iff_getElem.1 h
 have h1 : ¬ a<k:=fun h1=>by have:=hc.2.1 a ha h1;rw [ZhT] at this;cases this
 by_cases e:a=k
 ·subst e;exact zM ha
 ·have:=hc.2.2 k (by omega) (zG _)
  rw [ZiF hs (by omega) ha (by omega)] at this;cases this
theorem ins_srt {ns:List Nd} {l:List Nat} (hs:Zie ns l) {t k:Nat} (ht:t<ns.length) (hn:t∉l) (hc:cutT ns l t k):Zie ns (l.take k++t::l.drop k)∧∀x,x∈l.take k++t::l.drop k↔x∈l∨x=t:=by
 have hm : ∀x,x∈l.take k++t::l.drop k↔x∈l∨x=t:=fun x=>by
  conv=>rhs;rw [←List.take_append_drop k l]
  simp only [uA,List.mem_cons]
  constructor
  ·rintro (h | h | h)
   ·exact .inl (.inl h)
   ·exact .inr h
   ·exact .inl (.inr h)
  ·rintro ((h | h) | h)
   ·exact .inl h
   ·exact .inr (.inr h)
   ·exact .inr (.inl h)
 have h1 : ∀x∈l.take k,hvT ns x t=true:=fun x hx=>by
  obtain ⟨a,ha,rfl⟩:=List.mem_iff_getElem.1 hx
  simp at ha
  rw [uW]
  exact hc.2.1 a (by omega) (by omega)
 have h2 : ∀x∈l.drop k,hvT ns t x=true:=fun x hx=>by
  have hx':=List.mem_of_mem_drop hx
  obtain ⟨a,ha,rfl⟩:=List.mem_iff_getElem.1 hx
  simp at ha
  have:=hc.2.2 (k+a) (by omega) (by omega)
  rw [uD] at hx' ⊢
  exact Zpx (hs.2 _ hx') ht (fun e=>hn (e ▸ hx')) this
 refine ⟨⟨?_,fun x hx=>?_⟩,hm⟩
 ·rw [List.pairwise_append]
  refine ⟨hs.1.sublist (List.take_sublist _ _),List.pairwise_cons.2 ⟨h2,hs.1.sublist (List.drop_sublist _ _)⟩,fun a ha b hb=>?_⟩
  rcases List.mem_cons.1 hb with rfl | hb
  ·exact h1 a ha
  ·exact Zhq (h1 a ha) (h2 b hb)
 ·rcases (hm x).1 hx with h | rfl
  ·exact hs.2 x h
  ·exact ht
theorem del_srt {ns:List Nd} {l:List Nat} (hs:Zie ns l) {t k:Nat} (hk:l[k]? = some t):Zie ns (l.take k++l.drop (k+1))∧∀x,x∈l.take k++l.drop (k+1)↔x∈l∧x≠t:=by
 obtain ⟨hlt,rfl⟩:=List.getElem?_eq_some_iff.1 hk
 have hsub:(l.take k++l.drop (k+1)).Sublist l:=by rw [←List.eraseIdx_eq_take_drop_succ];exact List.eraseIdx_sublist _ _
 have hm : ∀x,x∈l.take k++l.drop (k+1)↔x∈l∧x≠l[k]:=fun x=>by
  constructor
  ·intro h
   refine ⟨hsub.subset h,?_⟩
   rintro rfl
   rcases List.mem_append.1 h with h | h
   ·obtain ⟨a,ha,e⟩:=List.mem_iff_getElem.1 h
    simp at ha
    rw [uW] at e
    have:=ZiF hs (by omega) hlt (show a<k by omega)
    rw [e,ZhT] at this;cases this
   ·obtain ⟨a,ha,e⟩:=List.mem_iff_getElem.1 h
    simp at ha
    rw [uD] at e
    have:=ZiF hs hlt (show k+1+a<l.length by omega) (by omega)
    rw [e,ZhT] at this;cases this
  ·rintro ⟨h,hne⟩
   obtain ⟨a,ha,rfl⟩:=List.mem_iff_getElem.1 h
   rcases Nat.lt_trichotomy a k with h1 | h1 | h1
   ·exact List.mem_append.2 (.inl (List.mem_iff_getElem.2 ⟨a,by simp;omega,uW⟩))
   ·subst h1;exact absurd rfl hne
   ·exact List.mem_append.2 (.inr (List.mem_iff_getElem.2 ⟨a-(k+1),by simp;omega,by rw [uD];congr 1;omega⟩))
 exact ⟨⟨hs.1.sublist hsub,fun x hx=>hs.2 x (hsub.subset hx)⟩,hm⟩
theorem ZmB (ns:List Nd):Zie ns []:=⟨.nil,fun x hx=>by cases hx⟩
def ZeV (l:List Nat):LL:=l.map fun (x:Nat)=>[zJ .i64 (x:Int)]
@[simp] theorem ZgJ (l:List Nat):(ZeV l).length=l.length:=by simp [ZeV]
@[simp] theorem ZfH (l:List Nat):len (ZeV l)=(l.length:Int):=by simp [len]
theorem Ziq {l:List Nat} {i:Nat} (h:i<l.length):(ZeV l)[i]? = some [zJ .i64 (l[i]:Int)]:=by simp [ZeV,h]
theorem rowN_isI (l:List Nat):isI (ZeV l)=true:=by
 unfold isI ZeV
 simp
theorem ZjL (l:List Nat):Zdy (ZeV l)=true:=by
 unfold Zdy ZeV
 simp [L.plain]
theorem rowN_ins (l:List Nat) (k t:Nat):xA k (ZeV l) ++ [zJ .i64 (t:Int)]::xJ k (ZeV l)=ZeV (l.take k++t::l.drop k):=by
 simp [ZeV,List.map_take,List.map_drop]
theorem rowN_del (l:List Nat) (k:Nat):xA k (ZeV l)++xJ (k+1) (ZeV l)=ZeV (l.take k++l.drop (k+1)):=by
 simp [ZeV,List.map_take,List.map_drop]
theorem midT {i j:Nat} (h:i+j≤1000000):w64 (ZaQ .u64 (v64 (w64 ((i:Int)+(j:Int)))) 1)=(((i+j)/2:Nat):Int):=by
 rw [ZaJ (n:=(i:Int)+(j:Int)) (by omega) (by omega)]
 have h1:v64 ((i:Int)+(j:Int))=(i:Int)+(j:Int):=by
  show IntKind.wrap .u64 _=_
  simp only [IntKind.wrap,IntKind.bits,IntKind.signed]
  simp
  omega
 rw [h1,show (1:Int)=((1:Nat):Int) from rfl,Zkd _ (by omega),ZaJ (by omega) (by omega)]
 omega
theorem Znw (hN:10≤N) (p:Zaj) (room:Int) {ns:List Nd} (lp:List Int) (ht:ZgS ns) {x t:Nat} (hx:x<ns.length) (htt:t<ns.length) (r:LL) :
  ZbQ N (x:Int) (t:Int) (ZaK.mk (tOf p room ns lp) r)=some (if x=t then 0 else if hvT ns x t=true then -1 else 1):=by
 unfold ZbQ
 by_cases e:x=t
 ·rw [if_pos (by simp [e]),if_pos e]
 ·rw [if_neg (by simp;omega),if_neg e,ZpA hN p room lp ht hx htt,Zab]
  cases hvT ns x t<;>rfl
theorem ZpE (hN:1000≤N) (p:Zaj) (room:Int) {ns:List Nd} (lp:List Int) (ht:ZgS ns) {l:List Nat} (hs:Zie ns l) (hl:l.length≤900) {t:Nat} (htt:t<ns.length) :
  ∃k:Nat,ZbD N (ZaK.mk (tOf p room ns lp) (ZeV l)) (t:Int)=some ((k:Int),decide (t∈l))∧cutT ns l t k:=by
 unfold ZbD Zac
 suffices h : ∃r,loopN (Zac.p1 N (ZeV l) (t:Int) (ZaK.mk (tOf p room ns lp) (ZeV l))) N (0,len (ZeV l))=some r∧∃k:Nat,r=((k:Int),decide (t∈l))∧cutT ns l t k by
  obtain ⟨r,e,k,rfl,hc⟩:=h
  exact ⟨k,by dsimp only;rw [e];rfl,hc⟩
 have hlt : ∀a (h:a<l.length),l[a]<ns.length:=fun a h=>hs.2 _ (xD h)
 refine ZdX (Q:=fun r:Int×Bool=>∃k:Nat,r=((k:Int),decide (t∈l))∧cutT ns l t k) (fun m (s:Int×Int)=>∃i j:Nat,s=((i:Int),(j:Int))∧i≤j∧j≤l.length∧m=j-i∧(∀a (h:a<l.length),a<i→hvT ns l[a] t=true)∧∀a (h:a<l.length),j≤a→hvT ns l[a] t=false)
  ?_ N l.length _ ⟨0,l.length,by rw [ZfH];rfl,by omega,by omega,by omega,fun a h h1=>by omega,fun a h h1=>by omega⟩ (by omega)
 rintro G m _ ⟨i,j,rfl,hij,hjl,rfl,h1,h2⟩ hG
 unfold Zac.p1
 dsimp only
 by_cases hlt2:i<j
 ·have hm:(i+j)/2<l.length:=by omega
  rw [if_pos (by simp;omega),midT (by omega),Zal (by omega),Zal (by rw [ZfH];omega),zI,Ziq hm,Zaw,Zdm,Znw (by omega) p room lp ht (hlt _ hm) htt,Zab]
  by_cases hP:hvT ns l[(i+j)/2] t=true
  ·have hne:l[(i+j)/2]≠t:=fun e=>by rw [e,ZhT] at hP;cases hP
   rw [if_neg hne,if_pos hP,if_pos (by simp),ZaJ (by omega) (by omega)]
   refine hG (j-((i+j)/2+1)) _ (by omega) ⟨(i+j)/2+1,j,rfl,by omega,hjl,rfl,fun a h ha=>?_,h2⟩
   by_cases e:a=(i+j)/2
   ·subst e;exact hP
   ·exact Zhq (ZiF hs h hm (by omega)) hP
  ·have hP':hvT ns l[(i+j)/2] t=false:=by simpa using hP
   rw [if_neg (by split<;>simp)]
   refine hG ((i+j)/2-i) _ (by omega) ⟨i,(i+j)/2,rfl,by omega,by omega,rfl,h1,fun a h ha=>?_⟩
   by_cases e:a=(i+j)/2
   ·subst e;exact hP'
   ·cases h3:hvT ns l[a] t with
    | false=>rfl
    | true=>have:=Zhq (ZiF hs hm h (by omega)) h3;rw [hP'] at this;cases this
 ·have e:i=j:=by omega
  subst e
  have hc:cutT ns l t i:=⟨hjl,h1,h2⟩
  have hmem:=ZpP hs hc
  rw [if_neg (by simp),ZfH]
  by_cases h3:i<l.length
  ·rw [if_pos (by simp;omega),Zal (by omega),zI,Ziq h3,Zaw,Zdm,Znw (by omega) p room lp ht (hlt _ h3) htt,Zab]
   refine ⟨_,rfl,i,?_,hc⟩
   rw [zM h3] at hmem
   simp only [Option.some.injEq] at hmem
   by_cases e:l[i]=t
   ·rw [if_pos e,decide_eq_true (hmem.2 e)];rfl
   ·rw [if_neg e,decide_eq_false (fun h=>e (hmem.1 h))]
    split<;>rfl
  ·rw [if_neg (by simp;omega)]
   refine ⟨_,rfl,i,?_,hc⟩
   rw [decide_eq_false (fun h=>by rw [hmem,zK (by omega)] at h;cases h)]
noncomputable def ZgT (it:Nat) (l:List Nat):List L:=[L.ptr (some it),L.own true 1 (ZeV l)]
theorem ZfF {α:Type} (it:Nat) (l:List Nat) (k:Option Nat→LL→Option α):Zbn (ZgT it l) k=k (some it) (ZeV l):=rfl
structure ZfJ (st:LL) (ia it is:Nat) (p:Zaj) (room:Int) (ns:List Nd) (lp:List Int) (l:List Nat):Prop where
 T:Zfx st ia it p room ns lp
 s:st[is]? = some (ZgT it l)
 na:is≠ia
 nt:is≠it
 srt:Zie ns l
 sm:ns.length≤500
section
variable {st:LL} {ia it is:Nat} {p:Zaj} {room:Int} {ns:List Nd} {lp:List Int} {l:List Nat}
theorem Zfx.other {x:List L} {j:Nat} (T:Zfx st ia it p room ns lp) (na:j≠ia) (nt:j≠it):Zfx (st.set j x) ia it p room ns lp:=
 ⟨by rw [zQ na];exact T.a,by rw [zQ nt];exact T.t,T.ne,T.lv,T.len,T.tr⟩
theorem tLen_eq (T:Zfx st ia it p room ns lp):Zct N (some it) st=some ((ns.length:Int),st):=by
 unfold Zct
 rw [if_neg (by simp),Zab,T.t,Zaw]
 unfold Zgz
 rw [Zce,Zab,T.a,Zaw,Zbo,Len_v_eq,Zab]
def inT (ns:List Nd) (k:Int):Bool:=decide (0≤k)&&decide (k<(ns.length:Int))
theorem inT_true {k:Int}:inT ns k=true↔0≤k∧k<(ns.length:Int):=by simp [inT]
theorem ZmH {k:Int} (h:inT ns k=true) : ∃j:Nat,k=(j:Int)∧j<ns.length:=by
 rw [inT_true] at h;exact ⟨k.toNat,by omega,by omega⟩
theorem Zpt {j:Nat} (h:j<ns.length):inT ns (j:Int)=true:=inT_true.2 ⟨by omega,by omega⟩
theorem ZfJ.lt (S:ZfJ st ia it is p room ns lp l):is<st.length:=(List.getElem?_eq_some_iff.1 S.s).1
theorem ZfJ.turn (S:ZfJ st ia it is p room ns lp l) {l':List Nat} (h:Zie ns l'):ZfJ (st.set is (ZgT it l')) ia it is p room ns lp l':=
 ⟨S.T.other S.na S.nt,zN S.lt,S.na,S.nt,h,S.sm⟩
theorem Zox (S:ZfJ st ia it is p room ns lp l) (k:Int):Zch N (some is) k st=some (inT ns k,st):=by
 unfold Zch inT
 rw [if_pos (by simp)]
 by_cases h:0≤k
 ·rw [if_pos (by simpa using h),Zab,S.s,Zaw,ZfF,tLen_eq S.T,Zab]
  simp [h]
 ·rw [if_neg (by simpa using h)]
  simp [h]
theorem tHas_eq (hN:1000≤N) (S:ZfJ st ia it is p room ns lp l) (hl:l.length≤900) (k:Int):ZcD N (some is) k st=some (inT ns k&&decide (k.toNat∈l),st):=by
 unfold ZcD
 rw [Zox S,Zab]
 dsimp only
 cases h:inT ns k
 ·rw [if_pos (by rfl)];rfl
 ·obtain ⟨j,rfl,hj⟩:=ZmH h
  obtain ⟨q,e,_⟩:=ZpE hN p room lp S.T.tr S.srt hl hj
  rw [if_neg (by simp),Zab,S.s,Zaw,ZfF,Zab,S.T.t,Zaw]
  unfold Zgz
  rw [Zce,Zab,S.T.a,Zaw,Zbo,show (Zat.mk (aOf p room ns) (Zda lp))=tOf p room ns lp from rfl,e,Zab]
  dsimp only
  rw [zI,Bool.true_and]
theorem Zoz (hl:l.length≤900) (T:Zat):ZbY N (ZaK.mk T (ZeV l))=some (ZeV l):=by
 unfold ZbY
 show Zbv (ZaU N (ZeV l)) _=_
 rw [ZaU,Zal (by simp;omega),Zab]
theorem ZmT (T:Zat):ZbV N (ZaK.mk T (ZeV l))=some (l.length:Int):=by
 unfold ZbV
 simp
def ZoX (ns:List Nd) (l:List Nat) (ps:List Int) (x:Nat):Prop:=x∈l∨(x<ns.length∧(x:Int)∈ps)
theorem ZoW (hN:1000≤N) (S:ZfJ st ia it is p room ns lp l) (hl:l.length≤800) (t:Nat) (ht:t<ns.length) :
  ∃k:Nat,ZbD N (ZaK.mk (tOf p room ns lp) (ZeV l)) (t:Int)=some ((k:Int),decide (t∈l))∧k≤l.length∧(t∉l→Zie ns (l.take k++t::l.drop k)∧∀x,x∈l.take k++t::l.drop k↔x∈l∨x=t)∧(t∈l→k<l.length∧Zie ns (l.take k++l.drop (k+1))∧∀x,x∈l.take k++l.drop (k+1)↔x∈l∧x≠t):=by
 obtain ⟨k,e,hc⟩:=ZpE hN p room lp S.T.tr S.srt (by omega) ht
 refine ⟨k,e,hc.1,fun h=>ins_srt S.srt ht h hc,fun h=>?_⟩
 have:=(ZpP S.srt hc).1 h
 exact ⟨(List.getElem?_eq_some_iff.1 this).1,del_srt S.srt this⟩
theorem Zmm (hN:1000≤N) (S:ZfJ st ia it is p room ns lp l) (ps:List Int) (hl:l.length+ps.length≤600) :
  ∃l',ZaB N (some is) (Zda ps) st=some ((l'.length:Int)-(l.length:Int),st.set is (ZgT it l'))∧Zie ns l'∧l'.length≤l.length+ps.length∧∀x,x∈l'↔ZoX ns l ps x:=by
 unfold ZaB
 suffices h : ∃r,loopN (ZaB.p1 N (Zda ps)) N (some is,0,0,st)=some r∧∃l':List Nat,r=((l'.length:Int)-(l.length:Int),st.set is (ZgT it l'))∧Zie ns l'∧l'.length≤l.length+ps.length∧∀x,x∈l'↔ZoX ns l ps x by
  obtain ⟨r,e,l',rfl,h⟩:=h;exact ⟨l',e,h⟩
 refine ZdX (Q:=fun r:Int×LL=>∃l':List Nat,r=((l'.length:Int)-(l.length:Int),st.set is (ZgT it l'))∧Zie ns l'∧l'.length≤l.length+ps.length∧∀x,x∈l'↔ZoX ns l ps x)
  (fun m (s:(Option Nat)×Int×Int×LL)=>∃(j:Nat) (l':List Nat),j+m=ps.length∧s=(some is,(l'.length:Int)-(l.length:Int),(j:Int),st.set is (ZgT it l'))∧Zie ns l'∧l.length≤l'.length∧l'.length≤l.length+j∧∀x,x∈l'↔ZoX ns l (ps.take j) x)
  ?_ N ps.length _ ⟨0,l,by omega,by rw [Int.sub_self,ZgZ S.s];rfl,S.srt,zG _,by omega,fun x=>by simp [ZoX]⟩ (by omega)
 rintro G m _ ⟨j,l',hj,rfl,hs,hl1,hl2,hm⟩ hG
 have S':=S.turn hs
 have hss : ∀l2,(st.set is (ZgT it l')).set is (ZgT it l2)=st.set is (ZgT it l2):=fun l2=>yX ..
 unfold ZaB.p1
 dsimp only
 rw [Zee]
 by_cases hlt:j<ps.length
 ·have w1:w64 ((j:Int)+1)=((j+1:Nat):Int):=by rw [ZaJ (by omega) (by omega)];rfl
  have htk : ∀x,ZoX ns l (ps.take (j+1)) x↔ZoX ns l (ps.take j) x∨(x<ns.length∧(x:Int)=ps[j]):=fun x=>by
   unfold ZoX
   rw [yI hlt]
   simp only [uA,wL]
   constructor
   ·rintro (h | ⟨h1,h2 | h2⟩)
    ·exact .inl (.inl h)
    ·exact .inl (.inr ⟨h1,h2⟩)
    ·exact .inr ⟨h1,h2⟩
   ·rintro ((h | ⟨h1,h2⟩) | ⟨h1,h2⟩)
    ·exact .inl h
    ·exact .inr ⟨h1,.inl h2⟩
    ·exact .inr ⟨h1,.inr h2⟩
  rw [if_pos (by simp;omega),Zal (by omega),zI,Zgp hlt,Zaw,Zdm,Zox S',Zab]
  dsimp only
  cases hin:inT ns ps[j]
  ·rw [if_pos (by rfl)]
   unfold ZaB.p2
   rw [w1]
   refine hG (m-1) _ (by omega) ⟨j+1,l',by omega,rfl,hs,hl1,by omega,fun x=>?_⟩
   rw [hm,htk]
   refine ⟨.inl,fun h=>h.elim id fun ⟨h1,h2⟩=>?_⟩
   rw [←h2,Zpt h1] at hin;cases hin
  ·obtain ⟨t,et,ht⟩:=ZmH hin
   obtain ⟨k,ef,hk,hi,_⟩:=ZoW hN S' (by omega) t ht
   rw [if_neg (by simp),Zab,S'.s,Zaw,ZfF,Zab,S'.T.t,Zaw]
   unfold Zgz
   rw [Zce,Zab,S'.T.a,Zaw,Zbo,show (Zat.mk (aOf p room ns) (Zda lp))=tOf p room ns lp from rfl,et,ef,Zab]
   dsimp only
   by_cases hmem:t∈l'
   ·rw [decide_eq_true hmem,if_neg (by simp)]
    unfold ZaB.p2
    rw [w1]
    refine hG (m-1) _ (by omega) ⟨j+1,l',by omega,rfl,hs,hl1,by omega,fun x=>?_⟩
    rw [hm,htk]
    refine ⟨.inl,fun h=>h.elim id fun ⟨h1,h2⟩=>?_⟩
    rw [et] at h2
    have:x=t:=by omega
    subst this;exact (hm x).1 hmem
   ·obtain ⟨hi1,hi2⟩:=hi hmem
    rw [decide_eq_false hmem,if_pos (by rfl),Zal (by omega),Zal (by rw [ZfH];omega),Zal (rowN_isI l'),Zal (by rw [ZgJ];omega),zI,rowN_ins,yX]
    unfold ZaB.p2
    have hln:(l'.take k++t::l'.drop k).length=l'.length+1:=by simp;omega
    rw [w1,ZaJ (n:=(l'.length:Int)-(l.length:Int)+1) (by omega) (by omega)]
    refine hG (m-1) _ (by omega) ⟨j+1,l'.take k++t::l'.drop k,by omega,?_,hi1,by omega,by omega,fun x=>?_⟩
    ·rw [hln]
     show ((some is,(l'.length:Int)-(l.length:Int)+1,((j+1:Nat):Int),(st.set is (ZgT it l')).set is (ZgT it (l'.take k++t::l'.drop k))):(Option Nat)×Int×Int×LL)=_
     rw [hss,show (l'.length:Int)-(l.length:Int)+1=((l'.length+1:Nat):Int)-(l.length:Int) by omega]
    ·rw [hi2,htk,hm]
     refine or_congr_right ⟨fun h=>by subst h;exact ⟨ht,et.symm⟩,fun ⟨h1,h2⟩=>by rw [et] at h2;omega⟩
 ·rw [if_neg (by simp;omega)]
  have hjl:j=ps.length:=by omega
  subst hjl
  exact ⟨_,rfl,l',rfl,hs,by omega,fun x=>by rw [hm,tF]⟩
theorem ZpM {l:List Nat} {k:Nat} (hk:k<l.length) (hl:l.length≤900):ZbR N (ZeV l) (k:Int) ((k:Int)+1)=some (ZeV (l.take k++l.drop (k+1))):=by
 have e1:((k:Int)+1).toNat=k+1:=by omega
 have e2:(len (ZeV l)).toNat=l.length:=by simp
 have hA:(xA k (ZeV l)++xA (l.length-(k+1)) (xJ (k+1) (ZeV l)))=ZeV (l.take k++l.drop (k+1)):=by
  rw [show xA (l.length-(k+1)) (xJ (k+1) (ZeV l))=xJ (k+1) (ZeV l) from zY (by simp)];exact rowN_del l k
 have hAl:(ZeV (l.take k++l.drop (k+1))).length=k+(l.length-(k+1)):=by simp;omega
 unfold ZbR
 rw [ZfH]
 simp only [e1,zI,zX,ZgJ,hA]
 generalize ZeV (l.take k++l.drop (k+1))=A at hAl ⊢
 have h1:(A++xJ (k+(l.length-(k+1))) (ZeV l)).length=l.length:=by rw [zR,hAl,List.length_drop,ZgJ];omega
 have h2:xA (k+(l.length-(k+1))) (A++xJ (k+(l.length-(k+1))) (ZeV l))=A:=by rw [wQ (by omega),zY (by omega)]
 have h3 : ∀r:LL,xA (k+(l.length-(k+1))) (A++r)=A:=fun r=>by rw [wQ (by omega),zY (by omega)]
 rw [Zal (by omega),Zal (by omega),Zal (by omega),Zal (by omega),Zal (by omega),if_neg (by simp;omega),Zal (by omega),Zal (by omega),Zal (by omega),Zal (by omega),h1,h2,Zal (by omega),Zal (by omega),Zal (by omega),Zal (by rw [zR,hAl];omega),h3]
theorem tDrop_eq (hN:1000≤N) (S:ZfJ st ia it is p room ns lp l) (ps:List Int) (hp:ps.length≤600) (hl:l.length≤600) :
  ∃l',ZaC N (some is) (Zda ps) st=some ((l.length:Int)-(l'.length:Int),st.set is (ZgT it l'))∧Zie ns l'∧l'.length≤l.length∧∀x,x∈l'↔x∈l∧¬ (x:Int)∈ps:=by
 unfold ZaC
 suffices h : ∃r,loopN (ZaC.p1 N (Zda ps)) N (some is,0,0,st)=some r∧∃l':List Nat,r=((l.length:Int)-(l'.length:Int),st.set is (ZgT it l'))∧Zie ns l'∧l'.length≤l.length∧∀x,x∈l'↔x∈l∧¬ (x:Int)∈ps by
  obtain ⟨r,e,l',rfl,h⟩:=h;exact ⟨l',e,h⟩
 refine ZdX (Q:=fun r:Int×LL=>∃l':List Nat,r=((l.length:Int)-(l'.length:Int),st.set is (ZgT it l'))∧Zie ns l'∧l'.length≤l.length∧∀x,x∈l'↔x∈l∧¬ (x:Int)∈ps)
  (fun m (s:(Option Nat)×Int×Int×LL)=>∃(j:Nat) (l':List Nat),j+m=ps.length∧s=(some is,(l.length:Int)-(l'.length:Int),(j:Int),st.set is (ZgT it l'))∧Zie ns l'∧l'.length≤l.length∧∀x,x∈l'↔x∈l∧¬ (x:Int)∈ps.take j)
  ?_ N ps.length _ ⟨0,l,by omega,by rw [Int.sub_self,ZgZ S.s];rfl,S.srt,zG _,fun x=>by simp⟩ (by omega)
 rintro G m _ ⟨j,l',hj,rfl,hs,hl2,hm⟩ hG
 have S':=S.turn hs
 unfold ZaC.p1
 dsimp only
 rw [Zee]
 by_cases hlt:j<ps.length
 ·have w1:w64 ((j:Int)+1)=((j+1:Nat):Int):=by rw [ZaJ (by omega) (by omega)];rfl
  have htk : ∀x:Nat,(x:Int)∈ps.take (j+1)↔(x:Int)∈ps.take j∨(x:Int)=ps[j]:=fun x=>by
   rw [yI hlt]
   simp only [uA,wL]
  rw [if_pos (by simp;omega),Zal (by omega),zI,Zgp hlt,Zaw,Zdm,Zox S',Zab]
  dsimp only
  cases hin:inT ns ps[j]
  ·rw [if_pos (by rfl)]
   unfold ZaC.p2
   rw [w1]
   refine hG (m-1) _ (by omega) ⟨j+1,l',by omega,rfl,hs,by omega,fun x=>?_⟩
   rw [hm,htk]
   constructor
   ·rintro ⟨h1,h2⟩
    refine ⟨h1,fun h=>h.elim h2 fun h3=>?_⟩
    rw [←h3,Zpt (S.srt.2 x h1)] at hin;cases hin
   ·rintro ⟨h1,h2⟩
    exact ⟨h1,fun h=>h2 (.inl h)⟩
  ·obtain ⟨t,et,ht⟩:=ZmH hin
   obtain ⟨k,ef,hk,_,hi⟩:=ZoW hN S' (by omega) t ht
   rw [if_neg (by simp),Zab,S'.s,Zaw,ZfF,Zab,S'.T.t,Zaw]
   unfold Zgz
   rw [Zce,Zab,S'.T.a,Zaw,Zbo,show (Zat.mk (aOf p room ns) (Zda lp))=tOf p room ns lp from rfl,et,ef,Zab]
   dsimp only
   by_cases hmem:t∈l'
   ·obtain ⟨hkl,hi1,hi2⟩:=hi hmem
    have hln:(l'.take k++l'.drop (k+1)).length=l'.length-1:=by simp;omega
    rw [decide_eq_true hmem,if_pos rfl,Zal (by omega),List.drop_zero,zY (zG _),ZaJ (n:=(k:Int)+1) (by omega) (by omega),ZpM hkl (by omega),Zab]
    unfold ZaC.p2
    rw [w1,ZaJ (n:=(l.length:Int)-(l'.length:Int)+1) (by omega) (by omega)]
    refine hG (m-1) _ (by omega) ⟨j+1,l'.take k++l'.drop (k+1),by omega,?_,hi1,by omega,fun x=>?_⟩
    ·rw [hln,yX]
     show ((some is,(l.length:Int)-(l'.length:Int)+1,((j+1:Nat):Int),(st.set is (ZgT it l')).set is (ZgT it (l'.take k++l'.drop (k+1)))):(Option Nat)×Int×Int×LL)=_
     rw [yX,show (l.length:Int)-(l'.length:Int)+1=(l.length:Int)-((l'.length-1:Nat):Int) by omega]
    ·rw [hi2,hm,htk,et]
     constructor
     ·rintro ⟨⟨h1,h2⟩,h3⟩
      exact ⟨h1,fun h=>h.elim h2 fun h4=>h3 (by omega)⟩
     ·rintro ⟨h1,h2⟩
      exact ⟨⟨h1,fun h=>h2 (.inl h)⟩,fun h=>h2 (.inr (by omega))⟩
   ·rw [decide_eq_false hmem,if_neg (by simp)]
    unfold ZaC.p2
    rw [w1]
    refine hG (m-1) _ (by omega) ⟨j+1,l',by omega,rfl,hs,by omega,fun x=>?_⟩
    rw [hm,htk,et]
    constructor
    ·rintro ⟨h1,h2⟩
     refine ⟨h1,fun h=>h.elim h2 fun h3=>?_⟩
     have:x=t:=by omega
     subst this
     exact hmem ((hm x).2 ⟨h1,h2⟩)
    ·rintro ⟨h1,h2⟩
     exact ⟨h1,fun h=>h2 (.inl h)⟩
 ·rw [if_neg (by simp;omega)]
  have hjl:j=ps.length:=by omega
  subst hjl
  exact ⟨_,rfl,l',rfl,hs,by omega,fun x=>by rw [hm,tF]⟩
end
end Go.Dn.F
namespace Go.Dn.F
open Go.Dn Go.Proofs
variable {N:Nat}
structure WfA15 (c:Zbf):Prop where
 h:WfH c.Header
 n:Zkw c.Now
abbrev tysAc5:List Ty:=[.int .i64,.int .i64,.arr .u8 32,.arr .u8 32,.int .i64,.int .i64,.int .i64,.int .i64,.int .i64]
noncomputable def ZgC (l:List Zbf):LL:=l.map Zbf.ls
theorem ZjM {l:List Zbf} {i:Nat} (h:i<l.length):(ZgC l)[i]? = some l[i].ls:=by simp [ZgC,h]
@[simp] theorem ZjT (l:List Zbf):len (ZgC l)=(l.length:Int):=by simp [len,ZgC]
@[simp] theorem Zkg (l:List Zbf):(ZgC l).length=l.length:=by simp [ZgC]
theorem open_A15 {xs:LL} (h : ∀x∈xs,Zfg tysAc5 x) : ∃l,xs=ZgC l∧∀x∈l,WfA15 x:=
 ZlT fun x hx=>by
  obtain ⟨_,_,rfl,h0,h⟩:=(h x hx).cons_inv
  obtain ⟨_,_,rfl,h1,h⟩:=h.cons_inv
  obtain ⟨_,_,rfl,h2,h⟩:=h.cons_inv
  obtain ⟨_,_,rfl,h3,h⟩:=h.cons_inv
  obtain ⟨_,_,rfl,h4,h⟩:=h.cons_inv
  obtain ⟨_,_,rfl,h5,h⟩:=h.cons_inv
  obtain ⟨_,_,rfl,h6,h⟩:=h.cons_inv
  obtain ⟨_,_,rfl,h7,h⟩:=h.cons_inv
  obtain ⟨_,_,rfl,h8,h⟩:=h.cons_inv
  cases h.nil_inv
  obtain ⟨a0,rfl,w0⟩:=h0.int_inv
  obtain ⟨a1,rfl,w1⟩:=h1.int_inv
  obtain ⟨a2,rfl,k2,w2⟩:=h2.arr_inv
  obtain ⟨a3,rfl,k3,w3⟩:=h3.arr_inv
  obtain ⟨a4,rfl,w4⟩:=h4.int_inv
  obtain ⟨a5,rfl,w5⟩:=h5.int_inv
  obtain ⟨a6,rfl,w6⟩:=h6.int_inv
  obtain ⟨a7,rfl,w7⟩:=h7.int_inv
  obtain ⟨a8,rfl,w8⟩:=h8.int_inv
  refine ⟨⟨a0,⟨a1,a2,a3,a4,a5,a6⟩,a7,a8⟩,rfl,⟨⟨Zel w1,?_,Zel w4,Zel w5,Zel w6⟩,Zel w7⟩⟩
  simp only [wfH,Bool.and_eq_true]
  exact ⟨ZmQ k2 w2,ZmQ k3 w3⟩
theorem Zoc {p:Zaj} (hp:WfP p) (l:List Zbf) (hl:l.length+900≤N) (hb:l.length≤maxLen) :
  ∃b,Zbr N p (ZgC l)=some b∧(b=false→(∀x∈l,0≤x.Now)∧l.length≤40∧∃gs cs,p.Gates=Zme gs∧p.Checks=ZiL cs∧gs.length≤400∧cs.length≤400∧Zki p gs cs=true):=by
 unfold Zbr
 have hm:maxLen=9223372036854775807:=rfl
 refine ZdX (fun m (v:Int)=>∃k:Nat,k+m=l.length∧v=(k:Int)∧∀x∈l.take k,0≤x.Now) ?_ N l.length 0 ⟨0,by omega,rfl,by simp⟩ (by omega)
 rintro G m _ ⟨k,hk,rfl,ha⟩ hG
 unfold Zbr.p1
 rw [ZjT]
 by_cases hlt:k<l.length
 ·rw [if_pos (by simp<;>omega),Zal (by omega),zI,ZjM hlt,Zaw,ZdR,ZaJ (by omega) (by omega)]
  by_cases h:l[k].Now<0
  ·rw [if_pos (by simpa using h)];exact ⟨true,rfl,fun h=>by cases h⟩
  ·rw [if_neg (by simpa using h)]
   refine hG (m-1) _ (by omega) ⟨k+1,by omega,by omega,fun x hx=>?_⟩
   rw [yI hlt] at hx
   rcases List.mem_append.1 hx with hx | hx
   ·exact ha x hx
   ·cases List.mem_singleton.1 hx;omega
 ·rw [if_neg (by simp<;>omega)]
  rw [zY (by omega)] at ha
  by_cases h1:len p.Gates>20
  ·rw [if_pos (by simpa using h1)];exact ⟨true,rfl,fun h=>by cases h⟩
  rw [if_neg (by simpa using h1)]
  by_cases h2:len p.Checks>20
  ·rw [if_pos (by simpa using h2)];exact ⟨true,rfl,fun h=>by cases h⟩
  rw [if_neg (by simpa using h2)]
  by_cases h3:(l.length:Int)>40
  ·rw [if_pos (by simpa using h3)];exact ⟨true,rfl,fun h=>by cases h⟩
  rw [if_neg (by simpa using h3)]
  obtain ⟨gs,eg⟩:=open_G hp.g
  obtain ⟨cs,ec⟩:=open_K hp.c
  have lg:gs.length≤400:=by simp [len,eg] at h1;omega
  have lc:cs.length≤400:=by simp [len,ec] at h2;omega
  rw [Zkl (by omega) eg lg ec lc,Zab]
  refine ⟨_,rfl,fun h=>⟨ha,by omega,gs,cs,eg,ec,lg,lc,by simpa using h⟩⟩
theorem Zmn (it:Nat) (st:LL):Zdx N (some it) st=some (some st.length,st ++ [ZgT it []]):=rfl
theorem Zpf {st:LL} {ia it:Nat} {p:Zaj} {room:Int} {ns:List Nd} {lp:List Int} (T:Zfx st ia it p room ns lp) (sm:ns.length≤500) (x:LL):ZfJ ((st ++ [ZgT it []])++x) ia it st.length p room ns lp []:=by
 have h1:=(List.getElem?_eq_some_iff.1 T.a).1
 have h2:=(List.getElem?_eq_some_iff.1 T.t).1
 exact ⟨(T.app _).app x,by rw [zP (by simp)];simp,by omega,by omega,ZmB ns,sm⟩
def bestT:List Nat→Int
 | []=>-1
 | a::_=>(a:Int)
theorem tBest_eq (l:List Nat) (T:Zat):Zcd N (ZaK.mk T (ZeV l))=some (bestT l):=by
 unfold Zcd
 rw [ZmT,Zab]
 cases l with
 | nil=>rfl
 | cons a l=>
  rw [if_neg (by simp;omega),Zal (by show 0<len (ZeV (a::l));rw [ZfH];simp)]
  show ZcJ ((ZeV (a::l))[0]?) _ _=_
  rw [Ziq (by simp),Zaw,Zdm]
  rfl
theorem alive15 (hN:1000≤N) : ∃st,ZcG N []=some (true,st):=by
 unfold ZcG
 rw [show (Zaj.mk 545259519 4 10 0 false [] [] (zC 4 0) (zC 4 0) (Zan.mk 0 (zC 32 0) (zC 32 0) 0 0 0))=pA from rfl,ZmV (by omega) (p:=pA) (gs:=[]) (cs:=[]) rfl rfl (by simp) (by simp) pA_wf 5 [],if_pos (by kernel_rfl),Zab,show ZiN 5=5 from rfl]
 dsimp only
 rw [if_neg (by simp)]
 have T:=ZmW pA_wf 5 []
 rw [Zmn,Zab]
 dsimp only
 have S:=Zpf T (by simp) []
 rw [List.append_nil] at S
 obtain ⟨l',e,hs,hl,hm⟩:=Zmm hN S [0,0,1] (by simp)
 have el:l' = [0]:=Zmp hs ⟨List.pairwise_singleton _ _,fun x hx=>by cases List.mem_singleton.1 hx;simp⟩ fun x=>by
  rw [hm]
  unfold ZoX
  simp
  omega
 subst el
 rw [show ([[zJ .i64 0],[zJ .i64 0],[zJ .i64 1]]:LL)=Zda [0,0,1] from rfl,show (List.length ([]:LL)+1)=1 from rfl] at *
 rw [e,Zab]
 dsimp only
 have S2:=S.turn hs
 revert S2
 generalize List.set _ _ (ZgT _ [0])=st2
 intro S2
 rw [if_pos (by rfl),Zab,S2.s,Zaw,ZfF,Zab,S2.T.t,Zaw]
 unfold Zgz
 rw [Zce,Zab,S2.T.a,Zaw,Zbo,tBest_eq,Zab]
 rw [if_pos (by rfl),ZmT,Zab]
 exact ⟨_,rfl⟩
def Zqr (ks:List Int):LM:=ks.map fun k=>(zJ .i64 k,L.bool true)
theorem ZhR : ∀(ks:List Int) (x:Int),(x∈ks→∃j,ZeW (Zqr ks) (.int .i64 x)=some (some (j,L.bool true))∧ks[j]? = some x)∧(x∉ks→ZeW (Zqr ks) (.int .i64 x)=some none)
 | [],x=>⟨(fun h=>by cases h),fun _=>rfl⟩
 | k::ks,x=>by
  obtain ⟨h1,h2⟩:=ZhR ks x
  simp only [Zqr,List.map_cons,ZeW,ZjC,if_true]
  by_cases h:x=k
  ·subst h
   exact ⟨fun _=>⟨0,by simp,rfl⟩,fun h=>absurd (List.mem_cons_self ..) h⟩
  ·have e:(x==k)=false:=by simpa using h
   rw [e]
   simp only [Zqr] at h1 h2
   refine ⟨fun hx=>?_,fun hx=>?_⟩
   ·obtain ⟨j,e1,e2⟩:=h1 ((List.mem_cons.1 hx).resolve_left h)
    exact ⟨j+1,by rw [e1],e2⟩
   ·rw [h2 fun h'=>hx (yB _ h')]
end Go.Dn.F
namespace Go.Dn.F
open Go.Dn Go.Proofs
variable {N:Nat} {ia it ja jb:Nat} {p:Zaj} {ns:List Nd} {lp:List Int}
theorem setS {α:Type} {l:List α} {i:Nat} {x:α} (h:l[i]? = some x):l.set i x=l:=by
 obtain ⟨h1,rfl⟩:=List.getElem?_eq_some_iff.1 h
 exact List.set_getElem_self h1
theorem part5 (hN:1000≤N) {st:LL} {l:List Nat} (A:ZfJ st ia it ja p 100 ns lp l) (hl:l.length≤600):loopN (Zag.p5 N ja (ZeV l) (ZeV l)) N (0,st)=some (true,st):=by
 refine ZcC (fun m (s:Int×LL)=>∃j:Nat,j+m=l.length∧s=((j:Int),st)) ?_ N l.length _ ⟨0,by omega,rfl⟩ (by omega)
 rintro G m _ ⟨j,hj,rfl⟩ hG
 unfold Zag.p5
 dsimp only
 rw [ZfH]
 by_cases hlt:j<l.length
 ·rw [if_pos (by simp;omega),Zal (by omega),zI,zX,Ziq hlt,Zaw,Zdm,Zal (by omega),Zaw,Zdm,if_neg (by simp),tHas_eq hN A (by omega),Zab]
  dsimp only
  rw [Zpt (A.srt.2 _ (xD hlt)),zI,decide_eq_true (xD hlt),if_neg (by simp),ZaJ (by omega) (by omega)]
  exact hG (m-1) _ (by omega) ⟨j+1,by omega,rfl⟩
 ·rw [if_neg (by simp;omega)]
theorem part3 (hN:1000≤N) {st:LL} {l:List Nat} (A:ZfJ st ia it ja p 100 ns lp l) (B:ZfJ st ia it jb p 100 ns lp []) (hab:ja≠jb) (hl:l.length≤600) (places drop ks:List Int) (hp:places.length≤100) (hks : ∀x,x∈ks↔x∈drop) (hm : ∀x,x∈l↔(x<ns.length∧(x:Int)∈places)∧¬ (x:Int)∈drop) :
  ∃st',loopN (Zag.p3 N (some ja) (some jb) (Zda places) (Zqr ks)) N (0,st)=some (true,st'):=by
 suffices h : ∃r,loopN (Zag.p3 N (some ja) (some jb) (Zda places) (Zqr ks)) N (0,st)=some r∧∃st',r=(true,st') by
  obtain ⟨r,e,st',rfl⟩:=h;exact ⟨st',e⟩
 refine ZdX (Q:=fun r:Bool×LL=>∃st',r=(true,st')) (fun m (s:Int×LL)=>∃(j:Nat) (l':List Nat),j+m=places.length∧s=((j:Int),st.set jb (ZgT it l'))∧Zie ns l'∧l'.length≤j∧∀x,x∈l'↔(x<ns.length∧(x:Int)∈places.take j)∧¬ (x:Int)∈drop)
  ?_ N places.length _ ⟨0,[],by omega,by rw [ZgZ B.s];rfl,ZmB ns,by simp,fun x=>by simp⟩ (by omega)
 rintro G m _ ⟨j,l',hj,rfl,hs,hlj,hm'⟩ hG
 have B':=B.turn hs
 unfold Zag.p3 Zag.p4
 dsimp only
 rw [Zee]
 by_cases hlt:j<places.length
 ·have w1:w64 ((j:Int)+1)=((j+1:Nat):Int):=by rw [ZaJ (by omega) (by omega)];rfl
  have htk : ∀x:Nat,(x:Int)∈places.take (j+1)↔(x:Int)∈places.take j∨(x:Int)=places[j]:=fun x=>by
   rw [yI hlt]
   simp only [uA,wL]
  rw [if_pos (by simp;omega),Zal (by omega),zI,Zgp hlt,Zaw,Zdm,w1]
  obtain ⟨f1,f2⟩:=ZhR ks places[j]
  by_cases hd:places[j]∈ks
  ·obtain ⟨q,e,_⟩:=f1 hd
   rw [e,Znf]
   refine hG (m-1) _ (by omega) ⟨j+1,l',by omega,rfl,hs,by omega,fun x=>?_⟩
   rw [hm',htk]
   constructor
   ·rintro ⟨⟨h1,h2⟩,h3⟩
    exact ⟨⟨h1,.inl h2⟩,h3⟩
   ·rintro ⟨⟨h1,h2⟩,h3⟩
    refine ⟨⟨h1,h2.resolve_right fun h4=>?_⟩,h3⟩
    rw [h4] at h3
    exact h3 ((hks _).1 hd)
  ·rw [f2 hd,Zly,show ([[zJ .i64 places[j]]]:LL)=Zda [places[j]] from rfl]
   obtain ⟨l2,e,hs2,hl2,hm2⟩:=Zmm hN B' [places[j]] (by simp;omega)
   rw [e,Zab]
   dsimp only
   rw [yX]
   refine hG (m-1) _ (by omega) ⟨j+1,l2,by omega,rfl,hs2,by simp at hl2;omega,fun x=>?_⟩
   rw [hm2,htk]
   unfold ZoX
   rw [hm']
   simp only [wL]
   constructor
   ·rintro (⟨⟨h1,h2⟩,h3⟩ | ⟨h1,h2⟩)
    ·exact ⟨⟨h1,.inl h2⟩,h3⟩
    ·refine ⟨⟨h1,.inr h2⟩,fun h=>hd ((hks _).2 ?_)⟩
     rw [←h2];exact h
   ·rintro ⟨⟨h1,h2 | h2⟩,h3⟩
    ·exact .inl ⟨⟨h1,h2⟩,h3⟩
    ·exact .inr ⟨h1,h2⟩
 ·have hjl:j=places.length:=by omega
  subst hjl
  have A':ZfJ (st.set jb (ZgT it l')) ia it ja p 100 ns lp l:=⟨B'.T,by rw [zQ (Ne.symm hab)];exact A.s,A.na,A.nt,A.srt,A.sm⟩
  have el:l'=l:=Zmp hs A.srt fun x=>by rw [hm',hm,tF]
  subst el
  generalize st.set jb (ZgT it l')=st2 at A' B' ⊢
  rw [if_neg (by simp),Zab,A'.s,Zaw,ZfF,Zab,A'.T.t,Zaw]
  unfold Zgz
  rw [Zce,Zab,A'.T.a,Zaw,Zbo,Zoz (by omega),Zab,Zal (ZjL l'),Zab,B'.s,Zaw,ZfF,Zab,A'.T.t,Zaw]
  unfold Zgz
  rw [Zce,Zab,A'.T.a,Zaw,Zbo,Zoz (by omega),Zab,Zal (ZjL l'),if_neg (by simp),part5 hN A' (by omega)]
  exact ⟨_,rfl,_,rfl⟩
theorem part2 (hN:1000≤N) {st:LL} {l:List Nat} (A:ZfJ st ia it ja p 100 ns lp l) (B:ZfJ st ia it jb p 100 ns lp []) (hab:ja≠jb) (hl:l.length≤600) (places drop:List Int) (hp:places.length≤100) (hd:drop.length≤100) (hm : ∀x,x∈l↔(x<ns.length∧(x:Int)∈places)∧¬ (x:Int)∈drop) :
  ∃st',loopN (Zag.p2 N (Zda places) (some ja) (some jb) (Zda drop) st) N (0,[])=some (true,st'):=by
 suffices h : ∃r,loopN (Zag.p2 N (Zda places) (some ja) (some jb) (Zda drop) st) N (0,[])=some r∧∃st',r=(true,st') by
  obtain ⟨r,e,st',rfl⟩:=h;exact ⟨st',e⟩
 refine ZdX (Q:=fun r:Bool×LL=>∃st',r=(true,st')) (fun m (s:Int×LM)=>∃(j:Nat) (ks:List Int),j+m=drop.length∧s=((j:Int),Zqr ks)∧∀x,x∈ks↔x∈drop.take j)
  ?_ N drop.length _ ⟨0,[],by omega,rfl,fun x=>by simp⟩ (by omega)
 rintro G m _ ⟨j,ks,hj,rfl,hks⟩ hG
 unfold Zag.p2
 dsimp only
 rw [Zee]
 by_cases hlt:j<drop.length
 ·have w1:w64 ((j:Int)+1)=((j+1:Nat):Int):=by rw [ZaJ (by omega) (by omega)];rfl
  have htk : ∀x:Int,x∈drop.take (j+1)↔x∈drop.take j∨x=drop[j]:=fun x=>by
   rw [yI hlt]
   simp only [uA,wL]
  rw [if_pos (by simp;omega),Zal (by omega),zI,Zgp hlt,Zaw,Zdm,w1]
  obtain ⟨f1,f2⟩:=ZhR ks drop[j]
  by_cases hd:drop[j]∈ks
  ·obtain ⟨q,e,hq⟩:=f1 hd
   rw [e,Znf]
   refine hG (m-1) _ (by omega) ⟨j+1,ks,by omega,?_,fun x=>?_⟩
   ·have:(Zqr ks)[q]? = some (zJ .i64 drop[j],L.bool true):=by unfold Zqr;rw [List.getElem?_map,hq];rfl
    rw [setS this]
   ·rw [htk,hks]
    refine ⟨.inl,fun h=>h.elim id fun e=>?_⟩
    rw [e];exact (hks _).1 hd
  ·rw [f2 hd,Zly]
   refine hG (m-1) _ (by omega) ⟨j+1,ks ++ [drop[j]],by omega,by unfold Zqr;rw [uM];rfl,fun x=>?_⟩
   rw [htk,uA,hks,wL]
 ·have hjl:j=drop.length:=by omega
  subst hjl
  rw [if_neg (by simp)]
  obtain ⟨st',e⟩:=part3 hN A B hab hl places drop ks hp (fun x=>by rw [hks,tF]) hm
  exact ⟨_,e,st',rfl⟩
theorem Zmd {p:Zaj} (hp:WfP p) (l:List Zbf) (hl : ∀x∈l,WfA15 x) (hb:l.length≤maxLen) (places drop:List Int) : ∃st,Zag (l.length+1000) p (ZgC l) (Zda places) (Zda drop) []=some (true,st):=by
 unfold Zag
 obtain ⟨st0,ea⟩:=alive15 (N:=l.length+1000) (by omega)
 rw [ea,Zab]
 dsimp only
 rw [if_neg (by simp)]
 obtain ⟨b,eg,hgr⟩:=Zoc (N:=l.length+1000) hp l (by omega) hb
 rw [eg,Zab]
 cases b with
 | true=>exact ⟨st0,by rw [if_pos rfl]⟩
 | false=>
  obtain ⟨hnow,h40,gs,cs,hg,hc,lg,lc,hgd⟩:=hgr rfl
  rw [if_neg (by simp),Zee]
  by_cases h1:(places.length:Int)>20
  ·exact ⟨st0,by rw [if_pos (by simpa using h1)]⟩
  rw [if_neg (by simpa using h1),Zee]
  by_cases h2:(drop.length:Int)>20
  ·exact ⟨st0,by rw [if_pos (by simpa using h2)]⟩
  rw [if_neg (by simpa using h2),ZmV (by omega) hg hc lg lc hp 100 st0,if_pos hgd,Zab,show ZiN 100=100 from rfl]
  dsimp only
  have T0:=ZmW hp 100 st0
  suffices h : ∃r,loopN (Zag.p1 (l.length+1000) (Zda places) (Zda drop) (some (st0.length+1)) (ZgC l)) (l.length+1000) (0,((st0 ++ [(aOf p 100 [Zkh p]).lo]) ++ [Zgz st0.length [-1]]))=some r∧∃st',r=(true,st') by
   obtain ⟨r,e,st',rfl⟩:=h;exact ⟨st',e⟩
  generalize hst:((st0 ++ [(aOf p 100 [Zkh p]).lo]) ++ [Zgz st0.length [-1]]:LL)=st1 at T0 ⊢
  generalize st0.length+1=it at T0 ⊢
  generalize st0.length=ia at T0
  refine ZdX (Q:=fun r:Bool×LL=>∃st',r=(true,st')) (fun m (s:Int×LL)=>∃(j:Nat) (st:LL) (ns:List Nd) (lp:List Int),j+m=l.length∧s=((j:Int),st)∧Zfx st ia it p 100 ns lp∧ns.length≤j+1) ?_ (l.length+1000) l.length (0,st1) ⟨0,st1,[Zkh p],[-1],by omega,rfl,T0,by simp⟩ (by omega)
  rintro G m _ ⟨j,st,ns,lp,hj,rfl,T,hn⟩ hG
  unfold Zag.p1
  dsimp only
  rw [ZjT]
  by_cases hlt:j<l.length
  ·have wx:=hl _ (xD hlt)
   have nx:=hnow _ (xD hlt)
   have rx:=wx.n
   unfold Zkw at rx
   obtain ⟨lp',st',ea,T',_⟩:=skAdd_eq (N:=l.length+1000) (by omega) hg hc lg lc (by omega) T wx.h l[j].Now (by omega)
   have l1:=addT_len p gs cs 100 ns l[j].Header l[j].Now
   rw [if_pos (by simp<;>omega),Zal (by omega),zI,ZjM hlt,Zaw,ZdR,ea,Zab]
   dsimp only
   rw [ZaJ (by omega) (by omega)]
   exact hG (m-1) _ (by omega) ⟨j+1,st',_,lp',by omega,rfl,T',by omega⟩
  ·have A:=Zpf T (by omega) [ZgT it []]
   have h3:=(List.getElem?_eq_some_iff.1 T.a).1
   have h4:=(List.getElem?_eq_some_iff.1 T.t).1
   have B:ZfJ ((st ++ [ZgT it []]) ++ [ZgT it []]) ia it (st.length+1) p 100 ns lp []:=⟨A.T,by simp,by omega,by omega,ZmB ns,by omega⟩
   rw [if_neg (by simp<;>omega),Zmn,Zab]
   dsimp only
   rw [Zmn,Zab]
   dsimp only
   rw [zR,yR]
   obtain ⟨l1,e1,s1,k1,m1⟩:=Zmm (N:=l.length+1000) (by omega) A places (by simp;omega)
   rw [e1,Zab]
   dsimp only
   obtain ⟨l2,e2,s2,k2,m2⟩:=tDrop_eq (N:=l.length+1000) (by omega) (A.turn s1) drop (by omega) (by simp at k1;omega)
   rw [e2,Zab]
   dsimp only
   rw [yX]
   have A2:=A.turn s2
   have B2:ZfJ (((st ++ [ZgT it []]) ++ [ZgT it []]).set st.length (ZgT it l2)) ia it (st.length+1) p 100 ns lp []:=⟨A2.T,by rw [zQ (by omega)];exact B.s,B.na,B.nt,B.srt,B.sm⟩
   obtain ⟨st',e⟩:=part2 (N:=l.length+1000) (by omega) A2 B2 (by omega) (by simp at k1;omega) places drop (by omega) (by omega) fun x=>by
    rw [m2,m1]
    unfold ZoX
    simp
   exact ⟨_,e,st',rfl⟩
theorem TipsParts_true {ls:List L} (xs ys zs:LL) (h0:Zfg tysP ls) (h1 : ∀x∈xs,Zfg tysAc5 x) (l1:xs.length≤maxLen) (h2 : ∀x∈ys,Zfg [.int .i64] x) (l2:ys.length≤maxLen) (h3 : ∀x∈zs,Zfg [.int .i64] x) (l3:zs.length≤maxLen) :
  ∃st,Snd Tryz.prog 3 [.agg ls,.one (.sl 71 xs),.one (.sl 1 ys),.one (.sl 1 zs)] [] [.one (.bool true)] st:=by
 obtain ⟨p,rfl,hp⟩:=open_P h0
 obtain ⟨l,rfl,hl⟩:=open_A15 h1
 obtain ⟨ps,e2,_⟩:=Zji h2
 obtain rfl:ys=Zda ps:=e2
 obtain ⟨ds,e3,_⟩:=Zji h3
 obtain rfl:zs=Zda ds:=e3
 obtain ⟨st,h⟩:=Zmd hp l hl (by rw [Zkg] at l1;exact l1) ps ds
 exact ⟨st,Zag.snd h⟩
end Go.Dn.F
