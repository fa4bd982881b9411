import Derived.Test.YtlofpeadcmldhaaGreatDoorNum
import Derived.Test.YtlofpeadcmldhaaGreatDoorRul
set_option linter.all false
open Bool renaming true_and→wO
open Go.Dn.L renaming int→zJ
open Int renaming toNat_natCast→zH
open List renaming replicate→zC,foldl_append→tC,length_append→zR,length_singleton→yX,set_set→xH,getElem?_eq_some_iff→zX,getElem?_set_self→zQ,getElem?_set_ne→zV,getElem_mem→xD,mem_singleton→xA,mem_append→yW,getElem_append_left→uQ,getElem_append_right→sJ,getElem?_eq_getElem→zN,getElem?_append_left→zP,take_append_of_le_length→uC,getElem?_append_right→zW,take_of_length_le→yD,mem_iff_getElem?→rI,mem_of_getElem?→wY,getElem?_eq_none→zL,pairwise_cons→sE,mem_cons_of_mem→yN,mem_cons→xC,mem_iff_getElem→xY,getElem_take→uI,getElem_drop→uJ,take_succ_eq_append_getElem→yH,take_length→sT,filter_cons_of_pos→vD,filter_cons_of_neg→wM,filter_append→sG,length_filter_le→rJ
open Nat renaming zero_add→zZ,strongRecOn→vS,le_refl→zI
set_option maxRecDepth 40000
namespace Go.Dn.F
open Go.Dn Go.Proofs
variable {N:Nat}
structure Nd where
 ch:List Zap
 ah:Int
 wk:Int
def h0:Zap:=⟨0,zC 32 0,zC 32 0,0,0,0⟩
def Nd.hd (n:Nd):Zap:=n.ch.getLast?.getD h0
def Nd.id (n:Nd):List Int:=hid n.hd
noncomputable def Nd.en (n:Nd):Zby:=⟨n.hd,n.id,n.ah,(n.ch.length:Int)-1,nw n.wk⟩
noncomputable def ZfK (ns:List Nd):LL:=ns.map fun n=>n.en.ls
noncomputable def rowS (p:Zaj) (ns:List Nd):LL:=ns.map fun n=>(Zef p n.ch).ls
def Zhk:Nat→List (List Int)→LM
 | _,[]=>[]
 | i,x::l=>(L.arr .u8 32 x,zJ .i64 (i:Int))::Zhk (i+1) l
def ids (ns:List Nd):List (List Int):=ns.map Nd.id
def ZdV:Nat→List (List Int)→List Int→Option Nat
 | _,[],_=>none
 | i,y::l,x=>if x=y then some i else ZdV (i+1) l x
theorem Ziv : ∀(l:List (List Int)) (i:Nat) (x:List Int),Zga (Zhk i l) (L.arr .u8 32 x)=some ((ZdV i l x).map fun k=>(k-i,zJ .i64 (k:Int)))
 | [],i,x=>rfl
 | y::l,i,x=>by
  rw [Zhk,Zga]
  simp only [Zky,and_self,if_true]
  unfold ZdV
  by_cases h:x=y
  ·subst h;simp
  ·rw [show (x==y)=false by simpa using h,if_neg h,Ziv l (i+1) x]
   cases e:ZdV (i+1) l x with
   | none=>rfl
   | some k=>
    have : ∀(l:List (List Int)) (i k:Nat),ZdV i l x=some k→i≤k:=by
     intro l
     induction l with
     | nil=>intro i k h;cases h
     | cons z l ih=>
      intro i k h
      unfold ZdV at h
      split at h
      ·cases h;omega
      ·have:=ih _ _ h;omega
    have:=this l (i+1) k e
    simp only [Option.map_some]
    rw [show k-(i+1)+1=k-i by omega]
theorem Zie : ∀(l:List (List Int)) (i:Nat) (x:List Int),Zhk i (l ++ [x])=Zhk i l ++ [(L.arr .u8 32 x,zJ .i64 ((i+l.length:Nat):Int))]
 | [],i,x=>rfl
 | y::l,i,x=>by rw [List.cons_append,Zhk,Zie l (i+1) x,Zhk,List.length_cons,show i+1+l.length=i+(l.length+1) by omega];rfl
theorem Zfo : ∀{l:List (List Int)} {i k:Nat} {x:List Int},ZdV i l x=some k→i≤k∧∃h:k-i<l.length,l[k-i]=x
 | y::l,i,k,x,h=>by
  unfold ZdV at h
  split at h
  ·rename_i e;cases h;exact ⟨by omega,by simp,by simp [e]⟩
  ·obtain ⟨h1,h2,h3⟩:=Zfo h
   refine ⟨by omega,by simp;omega,?_⟩
   have:k-i=(k-(i+1))+1:=by omega
   simp only [this,List.getElem_cons_succ];exact h3
theorem ZjR : ∀{l:List (List Int)} {i:Nat} {x:List Int},ZdV i l x=none→x∉l
 | [],_,_,_=>by simp
 | y::l,i,x,h=>by
  unfold ZdV at h
  split at h
  ·cases h
  ·rename_i e;simp [e,ZjR h]
noncomputable def aOf (p:Zaj) (room:Int) (ns:List Nd):Zau:=⟨p,ZfK ns,rowS p ns,Zhk 0 (ids ns),room⟩
theorem Ziq {ns:List Nd} {i:Nat} (h:i<ns.length):(ZfK ns)[i]? = some ns[i].en.ls:=by simp [ZfK,h]
theorem rowS_get {p:Zaj} {ns:List Nd} {i:Nat} (h:i<ns.length):(rowS p ns)[i]? = some (Zef p ns[i].ch).ls:=by simp [rowS,h]
@[simp] theorem Zfb (ns:List Nd):len (ZfK ns)=(ns.length:Int):=by simp [len,ZfK]
@[simp] theorem len_rowS (p:Zaj) (ns:List Nd):len (rowS p ns)=(ns.length:Int):=by simp [len,rowS]
structure Zgy (ns:List Nd):Prop where
 small:ns.length≤512
 ch : ∀n∈ns,n.ch ≠ []∧n.ch.length≤ns.length
 wf : ∀n∈ns,∀x∈n.ch,WfH x
 wk : ∀n∈ns,isN n.wk
 ah : ∀(i:Nat) (h:i<ns.length),(i=0∧ns[i].ah = -1∧ns[i].ch.length=1)∨∃(k:Nat) (hk:k<i),ns[i].ah=(k:Int)∧ns[i].ch=ns[k].ch ++ [ns[i].hd]
 one:(ids ns).Nodup
theorem Nd.hd_snoc {n:Nd} {c:List Zap} {h:Zap} (e:n.ch=c ++ [h]):n.hd=h:=by unfold Nd.hd;rw [e];simp
theorem ZjK (p:Zaj) (c:List Zap) (h:Zap):(Zef p (c ++ [h])).Prev=hid h:=by
 unfold Zef;rw [tC];rfl
theorem Zpq {st:LL} {i:Nat} {p:Zaj} {room:Int} {ns:List Nd} (hst:st[i]? = some (aOf p room ns).lo) (hl:ns.length≤512) (nd:Nd) (hid':ZdV 0 (ids ns) nd.id=none) :
  ZaI.p1 N (some i) (Zef p nd.ch) nd.en st=some ((ns.length:Int),st.set i (aOf p room (ns ++ [nd])).lo):=by
 unfold ZaI.p1
 have e1:(aOf p room ns).list ++ [nd.en.ls]=ZfK (ns ++ [nd]):=by show ZfK ns++_=_;simp [ZfK]
 have e2:(aOf p room ns).spots ++ [(Zef p nd.ch).ls]=rowS p (ns ++ [nd]):=by show rowS p ns++_=_;simp [rowS]
 have e3:(aOf p room ns).places ++ [(L.arr .u8 32 nd.en.Id,zJ .i64 (ns.length:Int))]=Zhk 0 (ids (ns ++ [nd])):=by
  show Zhk 0 (ids ns)++_=_
  unfold ids
  rw [List.map_append]
  show _=Zhk 0 (List.map Nd.id ns ++ [nd.id])
  rw [Zie,List.length_map,zZ];rfl
 have l1:(ZfK (ns ++ [nd])).length=ns.length+1:=by simp [ZfK]
 have l2:(rowS p (ns ++ [nd])).length=ns.length+1:=by simp [rowS]
 rw [Zac,hst,Zax,Zbm,e1,e2,Zan (by rw [l1];omega),Zan (by rw [l2];omega),show Zga (aOf p room ns).places (L.arr .u8 32 nd.en.Id)=some none by
  show Zga (Zhk 0 (ids ns)) (L.arr .u8 32 nd.id)=_
  rw [Ziv,hid'];rfl]
 show some _=_
 rw [Zfb,zR,yX,ZaK (by omega) (by omega),show ((ns.length+1:Nat):Int)-1=(ns.length:Int) by omega,e3]
 simp only [xH]
 rfl
theorem keep_eq (hN:300≤N) {st:LL} {i:Nat} {p:Zaj} {room:Int} {ns:List Nd} (hst:st[i]? = some (aOf p room ns).lo) (hl:ns.length≤512) {k:Nat} (hk:k<ns.length) (hw:isN ns[k].wk) (hlen:ns[k].ch.length≤600)
  {h:Zap} (nd:Nd) (hch:nd.ch=ns[k].ch ++ [h]) (hah:nd.ah=(k:Int)) (hwk:nd.wk=Zme ns[k].wk (ZfO h.Bits)) (hid':ZdV 0 (ids ns) (hid h)=none) :
  ZaI N (some i) h (k:Int) (Zef p nd.ch) st=some ((ns.length:Int),st.set i (aOf p room (ns ++ [nd])).lo):=by
 have hd:=nd.hd_snoc hch
 unfold ZaI
 rw [ZgC hN,Zac,if_pos (by simp<;>omega),Zac,hst,Zax,Zbm,show (aOf p room ns).list=ZfK ns from rfl,Zfb,Zan (by omega),Zan (by omega),zH,zZ,Ziq hk,Zax,ZdD,show (ns[k].en).Work=nw ns[k].wk from rfl,Zmd (by omega) hw (ZhA _),Zac,show (ns[k].en).Height=(ns[k].ch.length:Int)-1 from rfl,ZaK (by omega) (by omega)]
 have e:Zby.mk h (Zef p nd.ch).Prev (k:Int) ((ns[k].ch.length:Int)-1+1) (nw (Zme ns[k].wk (ZfO h.Bits)))=nd.en:=by
  unfold Nd.en Nd.id
  rw [hd,hch,ZjK,hah,hwk,zR,yX]
  congr 1;omega
 rw [e]
 refine Zpq hst hl nd ?_
 unfold Nd.id;rw [hd];exact hid'
theorem keep0_eq (hN:300≤N) {st:LL} {i:Nat} {p:Zaj} {room:Int} (hst:st[i]? = some (aOf p room []).lo) {h:Zap} (nd:Nd) (hch:nd.ch = [h]) (hah:nd.ah = -1) (hwk:nd.wk=ZfO h.Bits) :
  ZaI N (some i) h (-1) (Zef p nd.ch) st=some (0,st.set i (aOf p room [nd]).lo):=by
 have hd:nd.hd=h:=nd.hd_snoc (c:=[]) hch
 unfold ZaI
 rw [ZgC hN,Zac,if_neg (by simp)]
 have e:Zby.mk h (Zef p nd.ch).Prev (-1) 0 (nw (ZfO h.Bits))=nd.en:=by
  unfold Nd.en Nd.id
  rw [hd,hch,show (Zef p [h]).Prev=hid h from ZjK p [] h,hah,hwk];rfl
 rw [e]
 exact Zpq (ns:=[]) hst (by simp) nd rfl
def chAt (ns:List Nd) (k:Nat):List Zap:=(ns[k]?.map Nd.ch).getD []
def wkAt (ns:List Nd) (k:Nat):Int:=(ns[k]?.map Nd.wk).getD 0
theorem ZkO {ns:List Nd} {k:Nat} (h:k<ns.length):chAt ns k=ns[k].ch:=by simp [chAt,h]
theorem Zot {ns:List Nd} {k:Nat} (h:k<ns.length):wkAt ns k=ns[k].wk:=by simp [wkAt,h]
def Zdl (ns:List Nd) (k:Nat) (h:Zap):Nd:=⟨chAt ns k ++ [h],(k:Int),Zme (wkAt ns k) (ZfO h.Bits)⟩
def ZjB (p:Zaj) (gs:List ZbZ) (cs:List ZbO) (room:Int) (ns:List Nd) (h:Zap) (now:Int):Int×Int×Int×List Nd:=
 if Zfg h=false then (-1,1,8,ns) else
 match ZdV 0 (ids ns) (hid h) with
 | some k=>((k:Int),0,0,ns)
 | none=>match ZdV 0 (ids ns) h.Prev with
  | none=>(-1,2,5,ns)
  | some k=>if ZfL p gs cs (Zef p (chAt ns k)) h now≠0 then (-1,ZfL p gs cs (Zef p (chAt ns k)) h now,8,ns)
   else if room≤(ns.length:Int) then (-1,0,6,ns) else ((ns.length:Int),0,0,ns ++ [Zdl ns k h])
theorem Zio {st:LL} {i:Nat} {x:List L} (h:st[i]? = some x):st.set i x=st:=by
 apply List.ext_getElem?
 intro j
 by_cases e:i=j
 ·subst e
  obtain ⟨hi,e⟩:=zX.1 h
  rw [zQ hi,h]
 ·rw [zV e]
theorem ZoJ (p:Zaj) (c:List Zap):wfS (Zef p c)=true:=by
 have h : ∀l:List Zap,∃ts:List Int,(Zef p l).Times=Zdp ts∧ts.length≤11:=by
  refine rev_ind ⟨[],rfl,by simp⟩ (fun l h ih=>?_)
  unfold Zef at *
  rw [tC]
  exact ⟨_,rfl,by simp;omega⟩
 obtain ⟨ts,h1,h2⟩:=h c
 simp only [wfS,h1,isI_row,wO,decide_eq_true_eq,ZfA]
 omega
theorem Add_eq (hN:500≤N) {st:LL} {i:Nat} {p:Zaj} {gs:List ZbZ} {cs:List ZbO} (hg:p.Gates=Zmb gs) (hc:p.Checks=Zjr cs) (lg:gs.length≤400) (lc:cs.length≤400) {room:Int} (hroom:room≤512) {ns:List Nd} (ht:Zgy ns) (hst:st[i]? = some (aOf p room ns).lo)
  {h:Zap} (hh:WfH h) (now:Int) (hnow : -1152921504606846976≤now∧now≤9223372036854775807) :
  Zav N (some i) h now st=some ((ZjB p gs cs room ns h now).1,(ZjB p gs cs room ns h now).2.1,(ZjB p gs cs room ns h now).2.2.1,st.set i (aOf p room (ZjB p gs cs room ns h now).2.2.2).lo):=by
 have ss:=Zio hst
 unfold Zav ZjB
 rw [if_neg (c:=Option.isNone (some i)=true) (by simp),Zdx,Zac]
 cases hgd:Zfg h with
 | false=>rw [if_pos (by rfl),if_pos (c:=false=false) rfl];dsimp only;rw [ss]
 | true=>
  rw [if_neg (c:=(!true)=true) (by simp),if_neg (c:=true=false) (by simp),Zac,hst,Zax,Zbm,ZeH hN hh.w,Zac,show (aOf p room ns).places=Zhk 0 (ids ns) from rfl,Ziv]
  cases e1:ZdV 0 (ids ns) (hid h) with
  | some k=>
   show Zav.p1 N i now (k:Int) true h st=_
   unfold Zav.p1
   rw [if_pos rfl];dsimp only;rw [ss]
  | none=>
   show Zav.p1 N i now 0 false h st=_
   unfold Zav.p1
   rw [if_neg (by simp),hst,Zax,Zbm,show (aOf p room ns).places=Zhk 0 (ids ns) from rfl,Ziv]
   cases e2:ZdV 0 (ids ns) h.Prev with
   | none=>
    show Zav.p2 N i now 0 false h st=_
    unfold Zav.p2
    rw [if_pos (by rfl)];dsimp only;rw [ss]
   | some k=>
    show Zav.p2 N i now (k:Int) true h st=_
    obtain ⟨_,hk,_⟩:=Zfo e2
    have hk':k<ns.length:=by simpa [ids] using hk
    have sw:=ZoJ p ns[k].ch
    have isT:isI (Zef p ns[k].ch).Times=true:=by simp only [wfS,Bool.and_eq_true] at sw;exact sw.1
    unfold Zav.p2
    dsimp only
    rw [if_neg (c:=(!true)=true) (by simp),hst,Zax,Zbm,show (aOf p room ns).spots=rowS p ns from rfl,len_rowS,Zan (by omega),Zan (by omega),zH,zZ,rowS_get hk',Zax,Zik,show (aOf p room ns).rules=p from rfl,Zkh hN hg hc lg lc hh.w isT now hnow,Zac,ZkO hk']
    by_cases h4:ZfL p gs cs (Zef p ns[k].ch) h now=0
    ·rw [if_neg (c:=(ZfL p gs cs (Zef p ns[k].ch) h now != 0)=true) (by simp [h4]),if_neg (c:=ZfL p gs cs (Zef p ns[k].ch) h now≠0) (by simp [h4]),show (aOf p room ns).list=ZfK ns from rfl,Zfb,show (aOf p room ns).room=room from rfl]
     by_cases h5:room≤(ns.length:Int)
     ·rw [if_pos (by simpa using h5),if_pos h5];dsimp only;rw [ss]
     ·rw [if_neg (by simpa using h5),if_neg h5,ZfU hN hh.w sw,Zac]
      have be:Zfs p (Zef p ns[k].ch) h=Zef p (Zdl ns k h).ch:=by
       unfold Zdl Zef
       rw [ZkO hk',tC];rfl
      have hm:=xD hk'
      have sm:=ht.small
      have cl:=(ht.ch _ hm).2
      rw [be,keep_eq (by omega) hst ht.small hk' (ht.wk _ hm) (by omega) (Zdl ns k h) (by unfold Zdl;rw [ZkO hk']) rfl (by unfold Zdl;rw [Zot hk']) e1,Zac]
    ·rw [if_pos (c:=(ZfL p gs cs (Zef p ns[k].ch) h now != 0)=true) (by simpa using h4),if_pos (c:=ZfL p gs cs (Zef p ns[k].ch) h now≠0) h4];dsimp only;rw [ss]
theorem Zgy.one_node {g:Zap} (hg:WfH g):Zgy [⟨[g],-1,ZfO g.Bits⟩] where
 small:=by simp
 ch:=fun n hn=>by cases xA.1 hn;simp
 wf:=fun n hn x hx=>by cases xA.1 hn;cases xA.1 hx;exact hg
 wk:=fun n hn=>by cases xA.1 hn;exact ZhA _
 ah:=fun i h=>.inl ⟨by simpa using h,by simp at h;subst h;rfl,by simp at h;subst h;rfl⟩
 one:=by simp [ids]
theorem Zgy.grow {ns:List Nd} (ht:Zgy ns) {k:Nat} (hk:k<ns.length) {h:Zap} (hh:WfH h) (hs:ns.length<512) (hid':ZdV 0 (ids ns) (hid h)=none):Zgy (ns ++ [Zdl ns k h]):=by
 have hm:=xD hk
 have cl:=ht.ch _ hm
 have hc:(Zdl ns k h).ch=ns[k].ch ++ [h]:=by unfold Zdl;rw [ZkO hk]
 have hd:=(Zdl ns k h).hd_snoc rfl
 refine ⟨by simp;omega,?_,?_,?_,?_,?_⟩
 ·intro n hn
  rcases yW.1 hn with hn | hn
  ·have:=ht.ch n hn;exact ⟨this.1,by simp;omega⟩
  ·cases xA.1 hn
   rw [hc];exact ⟨by simp,by simp;omega⟩
 ·intro n hn x hx
  rcases yW.1 hn with hn | hn
  ·exact ht.wf n hn x hx
  ·cases xA.1 hn
   rw [hc] at hx
   rcases yW.1 hx with hx | hx
   ·exact ht.wf _ hm x hx
   ·cases xA.1 hx;exact hh
 ·intro n hn
  rcases yW.1 hn with hn | hn
  ·exact ht.wk n hn
  ·cases xA.1 hn
   unfold Zdl;rw [Zot hk]
   exact Zou (ht.wk _ hm) (ZhA _)
 ·intro i hi
  by_cases hlt:i<ns.length
  ·rw [uQ hlt]
   rcases ht.ah i hlt with a | ⟨q,hq,a,b⟩
   ·exact .inl a
   ·exact .inr ⟨q,hq,a,by rw [uQ (by omega)];exact b⟩
  ·have:i=ns.length:=by simp at hi;omega
   subst this
   refine .inr ⟨k,hk,?_,?_⟩
   ·rw [sJ (by omega)];simp [Zdl]
   ·rw [sJ (by omega),uQ hk]
    simp only [Nat.sub_self,List.getElem_singleton]
    rw [hc,hd]
 ·have np:=ZjR hid'
  unfold ids at *
  rw [List.map_append,List.nodup_append]
  refine ⟨ht.one,by simp,?_⟩
  intro a ha b hb
  simp only [List.map_cons,List.map_nil,xA] at hb
  subst hb
  intro e
  unfold Nd.id at e
  rw [hd] at e
  exact np (by rw [←e];exact ha)
theorem Zka (p:Zaj) (gs:List ZbZ) (cs:List ZbO) (room:Int) (ns:List Nd) (h:Zap) (now:Int) :
  (ZjB p gs cs room ns h now).2.2.2=ns∨∃k:Nat,k<ns.length∧Zfg h=true∧ZdV 0 (ids ns) (hid h)=none∧ZfL p gs cs (Zef p (chAt ns k)) h now=0∧(ns.length:Int)<room ∧
   ZjB p gs cs room ns h now=((ns.length:Int),0,0,ns ++ [Zdl ns k h]):=by
 unfold ZjB
 by_cases hg:Zfg h=false
 ·rw [if_pos hg];exact .inl rfl
 rw [if_neg hg]
 cases e1:ZdV 0 (ids ns) (hid h) with
 | some k=>exact .inl rfl
 | none=>
  dsimp only
  cases e2:ZdV 0 (ids ns) h.Prev with
  | none=>exact .inl rfl
  | some k=>
   dsimp only
   obtain ⟨_,hk,_⟩:=Zfo e2
   have hk':k<ns.length:=by simpa [ids] using hk
   by_cases h1:ZfL p gs cs (Zef p (chAt ns k)) h now=0
   ·rw [if_neg (by simp [h1])]
    by_cases h2:room≤(ns.length:Int)
    ·rw [if_pos h2];exact .inl rfl
    ·rw [if_neg h2]
     exact .inr ⟨k,hk',by simpa using hg,rfl,h1,by omega,rfl⟩
   ·rw [if_pos h1];exact .inl rfl
theorem Zqi {p:Zaj} {gs:List ZbZ} {cs:List ZbO} {room:Int} (hr:room≤512) {ns:List Nd} (ht:Zgy ns) {h:Zap} (hh:WfH h) (now:Int):Zgy (ZjB p gs cs room ns h now).2.2.2:=by
 rcases Zka p gs cs room ns h now with e | ⟨k,hk,_,hi,_,hl,e⟩
 ·rw [e];exact ht
 ·rw [e];exact ht.grow hk hh (by omega) hi
theorem addT_len (p:Zaj) (gs:List ZbZ) (cs:List ZbO) (room:Int) (ns:List Nd) (h:Zap) (now:Int):ns.length≤(ZjB p gs cs room ns h now).2.2.2.length∧(ZjB p gs cs room ns h now).2.2.2.length≤ns.length+1:=by
 rcases Zka p gs cs room ns h now with e | ⟨k,hk,_,hi,_,hl,e⟩
 ·rw [e];omega
 ·rw [e];simp
def ZiK (room:Int):Int:=if (512:Int)<(if (1:Int)>room then 1 else room) then 512 else (if (1:Int)>room then 1 else room)
def Zkl (p:Zaj):Nd:=⟨[p.Genesis],-1,ZfO p.Genesis.Bits⟩
theorem set_last (st:LL) (a b:List L):(st ++ [a]).set st.length b=st ++ [b]:=by simp
theorem New_eq (hN:500≤N) {p:Zaj} {gs:List ZbZ} {cs:List ZbO} (hg:p.Gates=Zmb gs) (hc:p.Checks=Zjr cs) (lg:gs.length≤400) (lc:cs.length≤400) (hp:WfP p) (room:Int) (st:LL) :
  Zdt N p room st=if Zkm p gs cs=true then some (some st.length,0,st ++ [(aOf p (ZiK room) [Zkl p]).lo]) else some (none,1,st):=by
 unfold Zdt
 rw [Zlk hN hg lg hc lc,Zac]
 cases hgd:Zkm p gs cs with
 | false=>rfl
 | true=>
  have pp:({p with Gates:=[]++p.Gates,Checks:=[]++p.Checks}:Zaj)=p:=rfl
  rw [if_neg (c:=(!true)=true) (by simp),pp,Zan (by rw [hg,List.nil_append,Zmn];omega),Zan (by rw [hc,List.nil_append,Zmo];omega),Zjw hN hp.h.w,Zac]
  have hst:(st ++ [(aOf p (ZiK room) []).lo])[st.length]? = some (aOf p (ZiK room) []).lo:=by simp
  have k:=keep0_eq (N:=N) (by omega) hst (h:=p.Genesis) (Zkl p) rfl rfl rfl
  rw [set_last] at k
  rw [if_pos (c:=true=true) rfl]
  show Zbs (ZaI N (some st.length) p.Genesis (-1) (Zef p (Zkl p).ch) (st ++ [(aOf p (ZiK room) []).lo])) _=_
  rw [k,Zac]
theorem Len_v_eq (p:Zaj) (room:Int) (ns:List Nd):ZbX N (aOf p room ns)=some (ns.length:Int):=by
 unfold ZbX;rw [show (aOf p room ns).list=ZfK ns from rfl,Zfb]
theorem Zqp (p:Zaj) (room:Int) {ns:List Nd} {k:Nat} (hk:k<ns.length):Zbv N (aOf p room ns) (k:Int)=some (ns[k].en,true):=by
 unfold Zbv Zbg
 rw [show (aOf p room ns).list=ZfK ns from rfl,Zfb,if_pos (by simp),Zac,if_neg (by simp<;>omega),Zan (by omega),Zan (by omega),zH,Ziq hk,Zax,ZdD]
theorem Zqo (p:Zaj) (room:Int) {ns:List Nd} {k:Int} (hk:k<0∨(ns.length:Int)≤k):Zbv N (aOf p room ns) k=some (Zby.mk (Zap.mk 0 (zC 32 0) (zC 32 0) 0 0 0) (zC 32 0) (-1) 0 (zC 4 0),false):=by
 unfold Zbv Zbg
 rw [show (aOf p room ns).list=ZfK ns from rfl,Zfb]
 by_cases h:k≥0
 ·rw [if_pos (by simpa using h),Zac,if_pos (by simp<;>omega)]
 ·rw [if_neg (by simpa using h),Zac,if_pos (by rfl)]
end Go.Dn.F
set_option maxRecDepth 100000
namespace Go.Dn.F
open Go.Dn Go.Proofs
variable {N:Nat}
def pA:Zaj:=⟨545259519,4,10,0,false,[],[],zC 4 0,zC 4 0,h0⟩
theorem h0_wf:WfH h0:=⟨by unfold ZkA h0;simp,by unfold wfH h0;decide,by unfold ZkA h0;simp,by unfold ZkA h0;simp,by unfold ZkA h0;simp⟩
theorem pA_wf:WfP pA where
 l:=by unfold ZkA pA;simp
 i:=by unfold ZkA pA;simp
 s:=by unfold ZkA pA;simp
 f:=by unfold ZkA pA;simp
 g:=by unfold pA;simp
 gl:=by unfold pA;simp
 c:=by unfold pA;simp
 cl:=by unfold pA;simp
 m:=by unfold pA;exact ⟨rfl,fun x hx=>by obtain ⟨_,rfl⟩:=List.mem_replicate.1 hx;decide⟩
 r:=by unfold pA;exact ⟨rfl,fun x hx=>by obtain ⟨_,rfl⟩:=List.mem_replicate.1 hx;decide⟩
 h:=h0_wf
end Go.Dn.F
set_option maxRecDepth 40000
namespace Go.Dn.F
open Go.Dn Go.Proofs
variable {N:Nat}
def Zoo (ns:List Nd):Nat→Nat→List Nat
 | 0,k=>[k]
 | f+1,k=>match ns[k]? with
  | some n=>if n.ah<0 then [k] else Zoo ns f n.ah.toNat ++ [k]
  | none=>[k]
def Zfx (ns:List Nd) (k:Nat):List Nat:=Zoo ns k k
theorem ZoZ {ns:List Nd} (ht:Zgy ns) : ∀(k f g:Nat),k<ns.length→k≤f→k≤g→Zoo ns f k=Zoo ns g k:=by
 intro k
 induction k using vS with
 | ind k ih=>
  intro f g hk hf hg
  rcases ht.ah k hk with ⟨z,a,c⟩ | ⟨q,hq,a,c⟩
  ·have e : ∀f,Zoo ns f k = [k]:=fun f=>by
    cases f with
    | zero=>rfl
    | succ f=>unfold Zoo;rw [zN hk];dsimp only;rw [a,if_pos (by omega)]
   rw [e,e]
  ·obtain ⟨f,rfl⟩ : ∃x,f=x+1:=⟨f-1,by omega⟩
   obtain ⟨g,rfl⟩ : ∃x,g=x+1:=⟨g-1,by omega⟩
   unfold Zoo
   rw [zN hk]
   dsimp only
   rw [a,if_neg (by omega),if_neg (by omega),zH,ih q hq f g (by omega) (by omega) (by omega)]
theorem ZoU {ns:List Nd} {k:Nat} (hk:k<ns.length) (a:ns[k].ah = -1):Zfx ns k = [k]:=by
 unfold Zfx
 cases k with
 | zero=>rfl
 | succ f=>unfold Zoo;rw [zN hk];dsimp only;rw [a,if_pos (by omega)]
theorem Zlo {ns:List Nd} (ht:Zgy ns) {k q:Nat} (hk:k<ns.length) (hq:q<k) (a:ns[k].ah=(q:Int)):Zfx ns k=Zfx ns q ++ [k]:=by
 obtain ⟨f,rfl⟩ : ∃x,k=x+1:=⟨k-1,by omega⟩
 unfold Zfx
 rw [Zoo,zN hk]
 dsimp only
 rw [a,if_neg (by omega),zH,ZoZ ht q f q (by omega) (by omega) (by omega)]
theorem Zfn {ns:List Nd} (ht:Zgy ns) {k:Nat} (hk:k<ns.length) :
  (k=0∧ns[k].ah = -1∧Zfx ns k = [k]∧ns[k].ch.length=1)∨∃q,q<k∧ns[k].ah=(q:Int)∧Zfx ns k=Zfx ns q ++ [k]∧∃hq:q<ns.length,ns[k].ch=ns[q].ch ++ [ns[k].hd]:=by
 rcases ht.ah k hk with ⟨z,a,c⟩ | ⟨q,hq,a,c⟩
 ·exact .inl ⟨z,a,ZoU hk a,c⟩
 ·exact .inr ⟨q,hq,a,Zlo ht hk hq a,by omega,c⟩
theorem Zki {ns:List Nd} (ht:Zgy ns) : ∀{k:Nat} (hk:k<ns.length),(Zfx ns k).length=ns[k].ch.length:=by
 intro k
 induction k using vS with
 | ind k ih=>
  intro hk
  rcases Zfn ht hk with ⟨z,a,e,c⟩ | ⟨q,hq,a,e,hq',c⟩
  ·rw [e,c];rfl
  ·rw [e,c,zR,zR,ih q hq hq'];rfl
theorem Zlp {ns:List Nd} (ht:Zgy ns) {k:Nat} (hk:k<ns.length):(Zfx ns k)[(Zfx ns k).length-1]? = some k:=by
 rcases Zfn ht hk with ⟨z,a,e,c⟩ | ⟨q,hq,a,e,hq',c⟩
 ·rw [e];rfl
 ·rw [e];simp
theorem ZoV {ns:List Nd} (ht:Zgy ns) : ∀{k:Nat},k<ns.length→∀x∈Zfx ns k,x≤k:=by
 intro k
 induction k using vS with
 | ind k ih=>
  intro hk x hx
  rcases Zfn ht hk with ⟨z,a,e,c⟩ | ⟨q,hq,a,e,hq',c⟩
  ·rw [e] at hx;simp at hx;omega
  ·rw [e] at hx
   rcases yW.1 hx with hx | hx
   ·have:=ih q hq hq' x hx;omega
   ·simp at hx;omega
theorem ZmY {ns:List Nd} (ht:Zgy ns) : ∀{k:Nat},k<ns.length→∀{h x:Nat},(Zfx ns k)[h]? = some x→x<ns.length∧Zfx ns x=(Zfx ns k).take (h+1):=by
 intro k
 induction k using vS with
 | ind k ih=>
  intro hk h x hx
  rcases Zfn ht hk with ⟨z,a,e,c⟩ | ⟨q,hq,a,e,hq',c⟩
  ·rw [e] at hx ⊢
   cases h with
   | zero=>cases hx;exact ⟨hk,by rw [e];rfl⟩
   | succ h=>cases hx
  ·rw [e] at hx ⊢
   by_cases hlt:h<(Zfx ns q).length
   ·rw [zP hlt] at hx
    obtain ⟨h1,h2⟩:=ih q hq hq' hx
    exact ⟨h1,by rw [h2,uC (by omega)]⟩
   ·rw [zW (by omega)] at hx
    have e0:h-(Zfx ns q).length=0:=by
     cases e1:h-(Zfx ns q).length with
     | zero=>rfl
     | succ n=>rw [e1] at hx;cases hx
    rw [e0] at hx
    cases hx
    exact ⟨hk,by rw [e,yD (by simp;omega)]⟩
theorem rowP_at {ns:List Nd} (ht:Zgy ns) {k h x:Nat} (hk:k<ns.length) (hx:(Zfx ns k)[h]? = some x) : ∃h':x<ns.length,ns[x].ch.length=h+1:=by
 obtain ⟨h1,h2⟩:=ZmY ht hk hx
 refine ⟨h1,?_⟩
 have hl:h<(Zfx ns k).length:=(zX.1 hx).1
 rw [←Zki ht h1,h2,List.length_take];omega
theorem ZmZ {ns:List Nd} (ht:Zgy ns) {k x:Nat} (hk:k<ns.length) (hx:x∈Zfx ns k) : ∃h':x<ns.length,(Zfx ns k)[ns[x].ch.length-1]? = some x:=by
 obtain ⟨h,hx⟩:=rI.1 hx
 obtain ⟨h1,h2⟩:=rowP_at ht hk hx
 exact ⟨h1,by rw [h2];exact hx⟩
theorem ZoY (ns:List Nd) (nd:Nd) (ht:Zgy ns) : ∀(k f:Nat),k<ns.length→Zoo (ns ++ [nd]) f k=Zoo ns f k:=by
 intro k
 induction k using vS with
 | ind k ih=>
  intro f hk
  cases f with
  | zero=>rfl
  | succ f=>
   unfold Zoo
   rw [zP hk,zN hk]
   dsimp only
   rcases ht.ah k hk with ⟨z,a,c⟩ | ⟨q,hq,a,c⟩
   ·rw [a,if_pos (by omega),if_pos (by omega)]
   ·rw [a,if_neg (by omega),if_neg (by omega),zH,ih q hq f (by omega)]
theorem Zhb {ns:List Nd} (nd:Nd) (ht:Zgy ns) {k:Nat} (hk:k<ns.length):Zfx (ns ++ [nd]) k=Zfx ns k:=ZoY ns nd ht k k hk
noncomputable def tOf (p:Zaj) (room:Int) (ns:List Nd) (lp:List Int):Zao:=⟨aOf p room ns,Zdp lp⟩
structure Zom (ns:List Nd) (lp:List Int):Prop where
 len:lp.length≤ns.length
 ok : ∀(i:Nat) (v:Int),lp[i]? = some v→v = -1∨∃x:Nat,v=(x:Int)∧x≠i∧x∈Zfx ns i
def hZ (ns:List Nd) (k:Int):Int:=if 0≤k∧k<(ns.length:Int) then ((ns[k.toNat]?.map Nd.ch).getD []).length-1 else -1
theorem ZpE {ns:List Nd} {k:Nat} (hk:k<ns.length):hZ ns (k:Int)=(ns[k].ch.length:Int)-1:=by
 unfold hZ;rw [if_pos (by omega),zH,zN hk];rfl
theorem ZpD {ns:List Nd} {k:Int} (hk:k<0∨(ns.length:Int)≤k):hZ ns k = -1:=by
 unfold hZ;rw [if_neg (by omega)]
theorem ZoM (p:Zaj) (room:Int) {ns:List Nd} (lp:List Int) {k:Nat} (hk:k<ns.length):ZbE N (tOf p room ns lp) (k:Int)=some (ns[k].en,true):=by
 unfold ZbE
 rw [show (tOf p room ns lp).store=aOf p room ns from rfl,Zqp p room hk,Zac]
theorem ZoL (p:Zaj) (room:Int) {ns:List Nd} (lp:List Int) {k:Int} (hk:k<0∨(ns.length:Int)≤k) : ∃e,ZbE N (tOf p room ns lp) k=some (e,false):=by
 unfold ZbE
 rw [show (tOf p room ns lp).store=aOf p room ns from rfl,Zqo p room hk,Zac]
 exact ⟨_,rfl⟩
theorem Zhl (p:Zaj) (room:Int) (ns:List Nd) (lp:List Int) (k:Int):ZaM N (tOf p room ns lp) k=some (hZ ns k):=by
 unfold ZaM
 by_cases h:0≤k∧k<(ns.length:Int)
 ·obtain ⟨j,rfl⟩ : ∃j:Nat,k=(j:Int):=⟨k.toNat,by omega⟩
  have hj:j<ns.length:=by omega
  rw [ZoM p room lp hj,Zac]
  dsimp only
  rw [if_neg (by simp),ZpE hj];rfl
 ·obtain ⟨e,h1⟩:=ZoL (N:=N) p room (ns:=ns) lp (k:=k) (by omega)
  rw [h1,Zac]
  dsimp only
  rw [if_pos (by rfl),ZpD (by omega)]
def ancZ (ns:List Nd) (k h:Int):Int:=if 0≤k∧k<(ns.length:Int)∧0≤h then ((Zfx ns k.toNat)[h.toNat]?.map fun (x:Nat)=>(x:Int)).getD (-1) else -1
theorem ancZ_at {ns:List Nd} {k h x:Nat} (hk:k<ns.length) (hx:(Zfx ns k)[h]? = some x):ancZ ns (k:Int) (h:Int)=(x:Int):=by
 unfold ancZ;rw [if_pos (by omega),zH,zH,hx];rfl
theorem Zlm {ns:List Nd} (ht:Zgy ns) {k x y:Nat} (hk:k<ns.length) (hx:x∈Zfx ns k) (hy:y∈Zfx ns x):y∈Zfx ns k:=by
 obtain ⟨h,hx⟩:=rI.1 hx
 obtain ⟨_,e⟩:=ZmY ht hk hx
 rw [e] at hy
 exact List.mem_of_mem_take hy
theorem row_lt {ns:List Nd} (ht:Zgy ns) {x y:Nat} (hx:x<ns.length) (hy:y∈Zfx ns x) (hne:y≠x) : ∃h:y<ns.length,ns[y].ch.length<ns[x].ch.length:=by
 obtain ⟨h,e⟩:=ZmZ ht hx hy
 refine ⟨h,?_⟩
 have hl:=(zX.1 e).1
 have ll:=Zlp ht hx
 have e2:=Zki ht hx
 have p1:=List.length_pos_iff.2 (ht.ch _ (xD h)).1
 rcases Nat.lt_or_ge ns[y].ch.length ns[x].ch.length with h3 | h3
 ·exact h3
 ·rw [show ns[y].ch.length-1=(Zfx ns x).length-1 by omega,ll] at e
  cases e;exact absurd rfl hne
theorem ZmX {ns:List Nd} (ht:Zgy ns) {k:Nat} (hk:k<ns.length):k∈Zfx ns k:=wY (Zlp ht hk)
theorem ZoT {ns:List Nd} (ht:Zgy ns) {k q:Nat} (hk:k<ns.length) (hq:q<k) (e:Zfx ns k=Zfx ns q ++ [k]):q∈Zfx ns k:=by
 rw [e];exact yW.2 (.inl (ZmX ht (by omega)))
theorem ZmL (hN:600≤N) {p:Zaj} {room:Int} {ns:List Nd} {lp:List Int} (ht:Zgy ns) (hl:Zom ns lp) (k h:Int) (hb:k<(lp.length:Int)∨ns.length≤lp.length):Zaq N (tOf p room ns lp) k h=some (ancZ ns k h):=by
 have sm:=ht.small
 unfold Zaq
 rw [Zhl,Zac]
 by_cases h0:h<0
 ·rw [if_pos (by simpa using h0)];unfold ancZ;rw [if_neg (by omega)]
 rw [if_neg (by simpa using h0)]
 by_cases hk0:k<0∨(ns.length:Int)≤k
 ·rw [ZpD (by omega),if_pos (by simp;omega)];unfold ancZ;rw [if_neg (by omega)]
 obtain ⟨k,rfl⟩ : ∃j:Nat,k=(j:Int):=⟨k.toNat,by omega⟩
 obtain ⟨h,rfl⟩ : ∃j:Nat,h=(j:Int):=⟨h.toNat,by omega⟩
 have hk:k<ns.length:=by omega
 have lk:=Zki ht hk
 have lb:=(ht.ch _ (xD hk)).2
 rw [ZpE hk]
 by_cases h1:(h:Int)>(ns[k].ch.length:Int)-1
 ·rw [if_pos (by simpa using h1)];unfold ancZ
  rw [if_pos (by omega),zH,zH,zL (by omega)];rfl
 rw [if_neg (by simpa using h1)]
 have hh:h<(Zfx ns k).length:=by omega
 obtain ⟨t,et⟩ : ∃t,(Zfx ns k)[h]? = some t:=⟨_,zN hh⟩
 rw [ancZ_at hk et]
 refine ZcB (fun m (s:Int×Int)=>∃(x:Nat) (hx:x<ns.length),m=ns[x].ch.length∧s=((x:Int),(ns[x].ch.length:Int)-1)∧x∈Zfx ns k∧h+1≤ns[x].ch.length) ?_ N ns[k].ch.length _ ⟨k,hk,rfl,rfl,ZmX ht hk,by omega⟩ (by omega)
 rintro G m _ ⟨x,hx,rfl,rfl,hm,hle⟩ hG
 unfold Zaq.p1 Zaq.p2
 dsimp only
 by_cases hgt:(ns[x].ch.length:Int)-1>(h:Int)
 ·have hx2:x<lp.length:=by
   have:=ZoV ht hk x hm
   omega
  rw [if_pos (by simpa using hgt),ZoM p room lp hx,Zac]
  dsimp only
  rw [show (tOf p room ns lp).leaps=Zdp lp from rfl,Zan (by omega),ZfF,Zan (by omega),zH,Zkj hx2,Zax,ZeM,show (ns[x].en).Ahead=ns[x].ah from rfl]
  rcases Zfn ht hx with ⟨z,a,e,c⟩ | ⟨q,hq,a,e,hq',c⟩
  ·omega
  ·have cl:=congrArg List.length c
   rw [zR,yX] at cl
   have toq:G ((q:Int),(ns[q].ch.length:Int)-1)=some (t:Int):=hG ns[q].ch.length _ (by omega) ⟨q,hq',rfl,rfl,Zlm ht hk hm (ZoT ht hx hq e),by omega⟩
   rcases hl.ok x lp[x] (zN hx2) with v | ⟨y,v,hne,hy⟩
   ·rw [v,if_neg (by simp),a,Zhl,Zac,ZpE hq'];exact toq
   ·obtain ⟨hy',hyl⟩:=row_lt ht hx hy hne
    rw [v,if_pos (by simp<;>omega),Zhl,Zac,ZpE hy']
    by_cases h3:(ns[y].ch.length:Int)-1≥(h:Int)
    ·rw [if_pos (by simpa using h3),Zac]
     exact hG ns[y].ch.length _ hyl ⟨y,hy',rfl,rfl,Zlm ht hk hm hy,by omega⟩
    ·rw [if_neg (by simpa using h3),a,Zhl,Zac,ZpE hq'];exact toq
 ·obtain ⟨h3,e3⟩:=ZmZ ht hk hm
  rw [show ns[x].ch.length-1=h by omega,et] at e3
  cases e3
  rw [if_neg (by simpa using hgt)]
end Go.Dn.F
set_option maxRecDepth 100000
namespace Go.Dn.F
open Go.Dn Go.Proofs
variable {N:Nat}
end Go.Dn.F
set_option maxRecDepth 40000
namespace Go.Dn.F
open Go.Dn Go.Proofs
variable {N:Nat}
noncomputable def ZfQ (ia:Nat) (lp:List Int):List L:=[L.ptr (some ia),L.own true 1 (Zdp lp)]
structure Zfd (st:LL) (ia it:Nat) (p:Zaj) (room:Int) (ns:List Nd) (lp:List Int):Prop where
 a:st[ia]? = some (aOf p room ns).lo
 t:st[it]? = some (ZfQ ia lp)
 ne:ia≠it
 lv:Zom ns lp
 len:lp.length=ns.length
 tr:Zgy ns
theorem skH_eq (h:Int) : ∃x,ZcY N h=some x:=by
 unfold ZcY ZcM
 by_cases h1:h<2
 ·rw [if_pos (by simpa using h1)];exact ⟨_,rfl⟩
 rw [if_neg (by simpa using h1)]
 by_cases h2:ZaB .and .i64 h 1=0
 ·rw [if_pos (by simpa using h2)];exact ⟨_,rfl⟩
 ·rw [if_neg (by simpa using h2)];exact ⟨_,rfl⟩
theorem Zol (p:Zaj) (gs:List ZbZ) (cs:List ZbO) (room:Int) (ns:List Nd) (h:Zap) (now:Int) :
  ((ZjB p gs cs room ns h now).2.2.2=ns∧((ZjB p gs cs room ns h now).2.2.1≠0∨∃k:Nat,k<ns.length∧(ZjB p gs cs room ns h now).1=(k:Int)))∨∃k:Nat,k<ns.length∧ZdV 0 (ids ns) (hid h)=none∧(ns.length:Int)<room ∧
   ZjB p gs cs room ns h now=((ns.length:Int),0,0,ns ++ [Zdl ns k h]):=by
 unfold ZjB
 by_cases hg:Zfg h=false
 ·rw [if_pos hg];exact .inl ⟨rfl,.inl (by simp)⟩
 rw [if_neg hg]
 cases e1:ZdV 0 (ids ns) (hid h) with
 | some k=>
  obtain ⟨_,hk,_⟩:=Zfo e1
  have hk':k<ns.length:=by simpa [ids] using hk
  exact .inl ⟨rfl,.inr ⟨k,hk',rfl⟩⟩
 | none=>
  dsimp only
  cases e2:ZdV 0 (ids ns) h.Prev with
  | none=>exact .inl ⟨rfl,.inl (by simp)⟩
  | some k=>
   dsimp only
   obtain ⟨_,hk,_⟩:=Zfo e2
   have hk':k<ns.length:=by simpa [ids] using hk
   by_cases h1:ZfL p gs cs (Zef p (chAt ns k)) h now=0
   ·rw [if_neg (by simp [h1])]
    by_cases h2:room≤(ns.length:Int)
    ·rw [if_pos h2];exact .inl ⟨rfl,.inl (by simp)⟩
    ·rw [if_neg h2]
     exact .inr ⟨k,hk',rfl,by omega,rfl⟩
   ·rw [if_pos h1];exact .inl ⟨rfl,.inl (by simp)⟩
theorem Zom.grow {ns:List Nd} {lp:List Int} (ht:Zgy ns) (hl:Zom ns lp) (hlen:lp.length=ns.length) {nd:Nd} (ht':Zgy (ns ++ [nd])) {k:Nat} (hk:k<ns.length) (ha:nd.ah=(k:Int)) (h:Int):Zom (ns ++ [nd]) (lp ++ [ancZ (ns ++ [nd]) (k:Int) h]) where
 len:=by simp [hlen]
 ok:=fun i v hv=>by
  by_cases hi:i<lp.length
  ·rw [zP hi] at hv
   rcases hl.ok i v hv with h1 | ⟨x,h1,h2,h3⟩
   ·exact .inl h1
   ·exact .inr ⟨x,h1,h2,by rw [Zhb nd ht (by omega)];exact h3⟩
  ·have e0:i=ns.length:=by
    have:=(zX.1 hv).1
    simp at this;omega
   subst e0
   rw [zW (by omega),hlen,Nat.sub_self] at hv
   cases hv
   have hn:ns.length<(ns ++ [nd]).length:=by simp
   have ea:(ns ++ [nd])[ns.length].ah=(k:Int):=by simpa using ha
   rw [Zlo ht' hn hk ea,Zhb nd ht hk]
   unfold ancZ
   by_cases hc:0≤(k:Int)∧(k:Int)<((ns ++ [nd]).length:Int)∧0≤h
   ·rw [if_pos hc,zH,Zhb nd ht hk]
    cases e:(Zfx ns k)[h.toNat]? with
    | none=>exact .inl rfl
    | some y=>
     have hy:=wY e
     have:=ZoV ht hk y hy
     exact .inr ⟨y,rfl,by omega,yW.2 (.inl hy)⟩
   ·rw [if_neg hc];exact .inl rfl
theorem skAdd_eq (hN:600≤N) {st:LL} {ia it:Nat} {p:Zaj} {gs:List ZbZ} {cs:List ZbO} (hg:p.Gates=Zmb gs) (hc:p.Checks=Zjr cs) (lg:gs.length≤400) (lc:cs.length≤400) {room:Int} (hroom:room≤512) {ns:List Nd} {lp:List Int} (T:Zfd st ia it p room ns lp)
  {h:Zap} (hh:WfH h) (now:Int) (hnow : -1152921504606846976≤now∧now≤9223372036854775807) :
  ∃lp' st',Zbq N (some it) h now st=some ((ZjB p gs cs room ns h now).1,(ZjB p gs cs room ns h now).2.1,(ZjB p gs cs room ns h now).2.2.1,st')∧Zfd st' ia it p room (ZjB p gs cs room ns h now).2.2.2 lp'∧(∀j,j≠ia→j≠it→st'[j]? = st[j]?):=by
 have ht':=Zqi (p:=p) (gs:=gs) (cs:=cs) hroom T.tr hh now
 unfold Zbq Zbq.p1
 rw [if_neg (c:=Option.isNone (some it)=true) (by simp),Zac,T.t,Zax]
 unfold ZfQ
 rw [Zca,Add_eq (by omega) hg hc lg lc hroom T.tr T.a hh now hnow,Zac]
 dsimp only
 rcases Zol p gs cs room ns h now with ⟨e,e1⟩ | ⟨k,hk,hpl,hlr,e⟩
 ·rw [e,Zio T.a]
  refine ⟨lp,st,?_,T,fun j _ _=>rfl⟩
  by_cases h6:(ZjB p gs cs room ns h now).2.2.1=0
  ·rcases e1 with e1 | ⟨k,hk,e1⟩
   ·exact absurd h6 e1
   ·rw [if_pos (by simpa using h6),T.t,Zax]
    unfold ZfQ
    rw [Zca,if_neg (by rw [e1,ZfF,T.len];simp;omega)]
  ·rw [if_neg (by simpa using h6)]
 ·rw [e] at ht' ⊢
  dsimp only at ht' ⊢
  have t2:(st.set ia (aOf p room (ns ++ [Zdl ns k h])).lo)[it]? = some (ZfQ ia lp):=by
   rw [zV T.ne];exact T.t
  have a2:(st.set ia (aOf p room (ns ++ [Zdl ns k h])).lo)[ia]? = some (aOf p room (ns ++ [Zdl ns k h])).lo:=zQ (zX.1 T.a).1
  have hit:=(zX.1 t2).1
  have hn:ns.length<(ns ++ [Zdl ns k h]).length:=by simp
  have en:(ns ++ [Zdl ns k h])[ns.length]=Zdl ns k h:=by simp
  obtain ⟨hx,eh⟩:=skH_eq (N:=N) ((ns ++ [Zdl ns k h])[ns.length].en).Height
  have lv:Zom (ns ++ [Zdl ns k h]) lp:=⟨by rw [T.len];simp,fun i v hv=>by
   have hi:=(zX.1 hv).1
   rcases T.lv.ok i v hv with h1 | ⟨x,h1,h2,h3⟩
   ·exact .inl h1
   ·exact .inr ⟨x,h1,h2,by rw [Zhb _ T.tr (by rw [←T.len];exact hi)];exact h3⟩⟩
  have sm:=T.tr.small
  rw [if_pos (by rfl),t2,Zax]
  unfold ZfQ
  rw [Zca,if_pos (by rw [ZfF,T.len];simp),Zac,a2,Zax,Zbm,Zqp p room hn,Zac]
  dsimp only
  rw [eh,Zac,show ((ns ++ [Zdl ns k h])[ns.length].en).Ahead=(ns ++ [Zdl ns k h])[ns.length].ah from rfl,en,show (Zdl ns k h).ah=(k:Int) from rfl,show (Zao.mk (aOf p room (ns ++ [Zdl ns k h])) (Zdp lp))=tOf p room (ns ++ [Zdl ns k h]) lp from rfl,ZmL hN ht' lv _ _ (.inl (by rw [T.len];omega)),Zac,rowI_one,Zmm,Zan (by rw [ZfA,zR,yX,T.len];omega),xH]
  refine ⟨_,_,rfl,⟨?_,?_,T.ne,T.lv.grow T.tr T.len ht' hk rfl hx,by simp [T.len],ht'⟩,fun j h1 h2=>?_⟩
  ·rw [zV (Ne.symm T.ne)];exact a2
  ·exact zQ hit
  ·rw [zV (Ne.symm h2),zV (Ne.symm h1)]
theorem ZmS (hN:500≤N) {p:Zaj} {gs:List ZbZ} {cs:List ZbO} (hg:p.Gates=Zmb gs) (hc:p.Checks=Zjr cs) (lg:gs.length≤400) (lc:cs.length≤400) (hp:WfP p) (room:Int) (st:LL) :
  ZdN N p room st=if Zkm p gs cs=true then some (some (st.length+1),0,(st ++ [(aOf p (ZiK room) [Zkl p]).lo]) ++ [ZfQ st.length [-1]]) else some (none,1,st):=by
 unfold ZdN
 rw [New_eq hN hg hc lg lc hp]
 cases Zkm p gs cs with
 | false=>rfl
 | true=>
  rw [if_pos rfl,Zac,if_pos (c:=true=true) rfl]
  dsimp only
  rw [if_neg (by simp),zR,yX]
  rfl
theorem ZmT {p:Zaj} (hp:WfP p) (room:Int) (st:LL):Zfd ((st ++ [(aOf p room [Zkl p]).lo]) ++ [ZfQ st.length [-1]]) st.length (st.length+1) p room [Zkl p] [-1] where
 a:=by rw [zP (by simp)];simp
 t:=by rw [zW (by simp)];simp
 ne:=by omega
 lv:=⟨by simp,fun i v hv=>by
  cases i with
  | zero=>cases hv;exact .inl rfl
  | succ i=>cases hv⟩
 len:=rfl
 tr:=Zgy.one_node hp.h
theorem Zfd.app {st:LL} {ia it:Nat} {p:Zaj} {room:Int} {ns:List Nd} {lp:List Int} (T:Zfd st ia it p room ns lp) (x:LL):Zfd (st++x) ia it p room ns lp where
 a:=by rw [zP (zX.1 T.a).1];exact T.a
 t:=by rw [zP (zX.1 T.t).1];exact T.t
 ne:=T.ne
 lv:=T.lv
 len:=T.len
 tr:=T.tr
end Go.Dn.F
set_option maxRecDepth 100000
namespace Go.Dn.F
open Go.Dn Go.Proofs
variable {N:Nat}
theorem Zdq {α:Type} (x:Int) (k:Int→Option α):ZcQ [zJ .i64 x] k=k x:=rfl
def hvT (ns:List Nd) (x y:Nat):Bool:=
 match ns[x]?,ns[y]? with
 | some a,some b=>decide (b.wk<a.wk)||(a.wk==b.wk&&decide (x<y))
 | _,_=>false
theorem Zpt (p:Zaj) (room:Int) (ns:List Nd) (k:Int):Zbg N (aOf p room ns) k=some (decide (0≤k∧k<(ns.length:Int))):=by
 unfold Zbg
 rw [show (aOf p room ns).list=ZfK ns from rfl,Zfb]
 by_cases h:k≥0
 ·rw [if_pos (by simpa using h)];congr 1;simp;omega
 ·rw [if_neg (by simpa using h),decide_eq_false (by omega)]
theorem hvT_at {ns:List Nd} {x y:Nat} (hx:x<ns.length) (hy:y<ns.length):hvT ns x y=(decide (ns[y].wk<ns[x].wk)||(ns[x].wk==ns[y].wk&&decide (x<y))):=by
 unfold hvT;rw [zN hx,zN hy]
theorem Zjd (hN:10≤N) (p:Zaj) (room:Int) {ns:List Nd} (lp:List Int) (ht:Zgy ns) {a b:Nat} (ha:a<ns.length) (hb:b<ns.length):Zba N (tOf p room ns lp) (a:Int) (b:Int)=some (hvT ns a b):=by
 unfold Zba Zbp
 rw [show (tOf p room ns lp).store=aOf p room ns from rfl,Zpt,Zac]
 rw [if_neg (by simp;omega),Zpt,Zac,if_neg (by simp;omega)]
 rw [show (aOf p room ns).list=ZfK ns from rfl,Zfb,Zan (by omega),Zan (by omega),zH,Ziq ha,Zax,ZdD,Zan (by omega),Zan (by omega),zH,Ziq hb,Zax,ZdD,show (ns[a].en).Work=nw ns[a].wk from rfl,show (ns[b].en).Work=nw ns[b].wk from rfl,ZfH hN (ht.wk _ (xD ha)) (ht.wk _ (xD hb)),Zac,hvT_at ha hb]
 unfold cmp
 by_cases h1:ns[a].wk<ns[b].wk
 ·rw [if_pos h1,if_neg (by simp),if_neg (by simp)]
  have e1 : ¬ ns[b].wk<ns[a].wk:=by omega
  have e2:ns[a].wk≠ns[b].wk:=by omega
  simp [e1,e2]
 ·rw [if_neg h1]
  by_cases h2:ns[b].wk<ns[a].wk
  ·rw [if_pos h2,if_pos (by simp)];simp [h2]
  ·rw [if_neg h2,if_neg (by simp),if_pos (by simp)]
   have e2:ns[a].wk=ns[b].wk:=by omega
   simp [h2,e2]
theorem Zoc (p:Zaj) (room:Int) {ns:List Nd} (lp:List Int) {a b:Int} (ha : ¬ (0≤a∧a<(ns.length:Int))):Zba N (tOf p room ns lp) a b=some false:=by
 unfold Zba Zbp
 rw [show (tOf p room ns lp).store=aOf p room ns from rfl,Zpt,Zac,decide_eq_false ha]
 rfl
theorem ZhN {ns:List Nd} {x y:Nat} (hx:x<ns.length) (hy:y<ns.length):hvT ns x y=true↔ns[y].wk<ns[x].wk∨(ns[x].wk=ns[y].wk∧x<y):=by
 rw [hvT_at hx hy];simp
theorem ZpB {ns:List Nd} {x y:Nat} (h:hvT ns x y=true):x<ns.length∧y<ns.length:=by
 unfold hvT at h
 split at h
 ·rename_i a b h1 h2
  exact ⟨(zX.1 h1).1,(zX.1 h2).1⟩
 ·cases h
theorem Zgf {ns:List Nd} {x y z:Nat} (h1:hvT ns x y=true) (h2:hvT ns y z=true):hvT ns x z=true:=by
 obtain ⟨hx,hy⟩:=ZpB h1
 obtain ⟨_,hz⟩:=ZpB h2
 rw [ZhN hx hy] at h1
 rw [ZhN hy hz] at h2
 rw [ZhN hx hz]
 omega
theorem ZpA {ns:List Nd} {x y:Nat} (hx:x<ns.length) (hy:y<ns.length) (hne:x≠y) (h:hvT ns x y=false):hvT ns y x=true:=by
 have h1 : ¬ (hvT ns x y=true):=by rw [h];simp
 rw [ZhN hx hy] at h1
 rw [ZhN hy hx]
 omega
theorem ZhM (ns:List Nd) (x:Nat):hvT ns x x=false:=by
 cases h:hvT ns x x with
 | false=>rfl
 | true=>
  obtain ⟨hx,_⟩:=ZpB h
  rw [ZhN hx hx] at h
  omega
theorem hvT_asym {ns:List Nd} {x y:Nat} (h:hvT ns x y=true):hvT ns y x=false:=by
 cases h2:hvT ns y x with
 | false=>rfl
 | true=>have:=Zgf h h2;rw [ZhM] at this;cases this
def ZhE (ns:List Nd) (l:List Nat):Prop:=l.Pairwise (fun a b=>hvT ns a b=true)∧∀x∈l,x<ns.length
theorem ZhD {ns:List Nd} {l:List Nat} (h:ZhE ns l) {i j:Nat} (hi:i<l.length) (hj:j<l.length) (hij:i<j):hvT ns l[i] l[j]=true:=List.pairwise_iff_getElem.1 h.1 i j hi hj hij
theorem Zgm {ns:List Nd} {a:Nat} {l:List Nat} (h:ZhE ns (a::l)):(∀x∈l,hvT ns a x=true)∧ZhE ns l:=⟨(sE.1 h.1).1,(sE.1 h.1).2,fun x hx=>h.2 x (yN _ hx)⟩
theorem ZoH {ns:List Nd} {a:Nat} {l:List Nat} (h:ZhE ns (a::l)):a∉l:=fun h2=>by
 have:=(Zgm h).1 a h2
 rw [ZhM] at this;cases this
theorem ZoI {ns:List Nd} : ∀{l m:List Nat},ZhE ns l→ZhE ns m→(∀x,x∈l↔x∈m)→l=m
 | [],[],_,_,_=>rfl
 | [],b::m,_,_,h=>by have:=(h b).2 (by simp);cases this
 | a::l,[],_,_,h=>by have:=(h a).1 (by simp);cases this
 | a::l,b::m,h1,h2,h=>by
  have e:a=b:=by
   rcases xC.1 ((h a).1 (by simp)) with e | h3
   ·exact e
   ·rcases xC.1 ((h b).2 (by simp)) with e | h4
    ·exact e.symm
    ·have:=hvT_asym ((Zgm h1).1 b h4)
     rw [(Zgm h2).1 a h3] at this;cases this
  subst e
  rw [ZoI (Zgm h1).2 (Zgm h2).2 fun x=>?_]
  constructor
  ·intro hx
   rcases xC.1 ((h x).1 (yN _ hx)) with e | h3
   ·subst e;exact absurd hx (ZoH h1)
   ·exact h3
  ·intro hx
   rcases xC.1 ((h x).2 (yN _ hx)) with e | h3
   ·subst e;exact absurd hx (ZoH h2)
   ·exact h3
def cutT (ns:List Nd) (l:List Nat) (t k:Nat):Prop:=k≤l.length∧(∀a (h:a<l.length),a<k→hvT ns l[a] t=true)∧∀a (h:a<l.length),k≤a→hvT ns l[a] t=false
theorem ZpR {ns:List Nd} {l:List Nat} (hs:ZhE ns l) {t k:Nat} (hc:cutT ns l t k):t∈l↔l[k]? = some t:=by
 refine ⟨fun h=>?_,fun h=>wY h⟩
 obtain ⟨a,ha,rfl⟩:=xY.1 h
 have h1 : ¬ a<k:=fun h1=>by have:=hc.2.1 a ha h1;rw [ZhM] at this;cases this
 by_cases e:a=k
 ·subst e;exact zN ha
 ·have:=hc.2.2 k (by omega) (zI _)
  rw [ZhD hs (by omega) ha (by omega)] at this;cases this
theorem ins_srt {ns:List Nd} {l:List Nat} (hs:ZhE ns l) {t k:Nat} (ht:t<ns.length) (hn:t∉l) (hc:cutT ns l t k):ZhE ns (l.take k++t::l.drop k)∧∀x,x∈l.take k++t::l.drop k↔x∈l∨x=t:=by
 have hm : ∀x,x∈l.take k++t::l.drop k↔x∈l∨x=t:=fun x=>by
  conv=>rhs;rw [←List.take_append_drop k l]
  simp only [yW,xC]
  constructor
  ·rintro (h | h | h)
   ·exact .inl (.inl h)
   ·exact .inr h
   ·exact .inl (.inr h)
  ·rintro ((h | h) | h)
   ·exact .inl h
   ·exact .inr (.inr h)
   ·exact .inr (.inl h)
 have h1 : ∀x∈l.take k,hvT ns x t=true:=fun x hx=>by
  obtain ⟨a,ha,rfl⟩:=xY.1 hx
  simp at ha
  rw [uI]
  exact hc.2.1 a (by omega) (by omega)
 have h2 : ∀x∈l.drop k,hvT ns t x=true:=fun x hx=>by
  have hx':=List.mem_of_mem_drop hx
  obtain ⟨a,ha,rfl⟩:=xY.1 hx
  simp at ha
  have:=hc.2.2 (k+a) (by omega) (by omega)
  rw [uJ] at hx' ⊢
  exact ZpA (hs.2 _ hx') ht (fun e=>hn (e ▸ hx')) this
 refine ⟨⟨?_,fun x hx=>?_⟩,hm⟩
 ·rw [List.pairwise_append]
  refine ⟨hs.1.sublist (List.take_sublist _ _),sE.2 ⟨h2,hs.1.sublist (List.drop_sublist _ _)⟩,fun a ha b hb=>?_⟩
  rcases xC.1 hb with rfl | hb
  ·exact h1 a ha
  ·exact Zgf (h1 a ha) (h2 b hb)
 ·rcases (hm x).1 hx with h | rfl
  ·exact hs.2 x h
  ·exact ht
theorem del_srt {ns:List Nd} {l:List Nat} (hs:ZhE ns l) {t k:Nat} (hk:l[k]? = some t):ZhE ns (l.take k++l.drop (k+1))∧∀x,x∈l.take k++l.drop (k+1)↔x∈l∧x≠t:=by
 obtain ⟨hlt,rfl⟩:=zX.1 hk
 have hsub:(l.take k++l.drop (k+1)).Sublist l:=by rw [←List.eraseIdx_eq_take_drop_succ];exact List.eraseIdx_sublist _ _
 have hm : ∀x,x∈l.take k++l.drop (k+1)↔x∈l∧x≠l[k]:=fun x=>by
  constructor
  ·intro h
   refine ⟨hsub.subset h,?_⟩
   rintro rfl
   rcases yW.1 h with h | h
   ·obtain ⟨a,ha,e⟩:=xY.1 h
    simp at ha
    rw [uI] at e
    have:=ZhD hs (by omega) hlt (show a<k by omega)
    rw [e,ZhM] at this;cases this
   ·obtain ⟨a,ha,e⟩:=xY.1 h
    simp at ha
    rw [uJ] at e
    have:=ZhD hs hlt (show k+1+a<l.length by omega) (by omega)
    rw [e,ZhM] at this;cases this
  ·rintro ⟨h,hne⟩
   obtain ⟨a,ha,rfl⟩:=xY.1 h
   rcases Nat.lt_trichotomy a k with h1 | h1 | h1
   ·exact yW.2 (.inl (xY.2 ⟨a,by simp;omega,uI⟩))
   ·subst h1;exact absurd rfl hne
   ·exact yW.2 (.inr (xY.2 ⟨a-(k+1),by simp;omega,by rw [uJ];congr 1;omega⟩))
 exact ⟨⟨hs.1.sublist hsub,fun x hx=>hs.2 x (hsub.subset hx)⟩,hm⟩
theorem fil_srt {ns:List Nd} {l:List Nat} (hs:ZhE ns l) (f:Nat→Bool):ZhE ns (l.filter f):=⟨hs.1.sublist List.filter_sublist,fun x hx=>hs.2 x (List.mem_filter.1 hx).1⟩
theorem nil_srt (ns:List Nd):ZhE ns []:=⟨.nil,fun x hx=>by cases hx⟩
def ZfN (l:List Nat):LL:=l.map fun (x:Nat)=>[zJ .i64 (x:Int)]
@[simp] theorem ZiI (l:List Nat):(ZfN l).length=l.length:=by simp [ZfN]
@[simp] theorem ZdP (l:List Nat):len (ZfN l)=(l.length:Int):=by simp [len]
theorem ZeZ {l:List Nat} {i:Nat} (h:i<l.length):(ZfN l)[i]? = some [zJ .i64 (l[i]:Int)]:=by simp [ZfN,h]
theorem Zna (l:List Nat):isI (ZfN l)=true:=by
 unfold isI ZfN
 simp
theorem ZjM (l:List Nat):ZdC (ZfN l)=true:=by
 unfold ZdC ZfN
 simp [L.plain]
theorem rowN_ins (l:List Nat) (k t:Nat):List.take k (ZfN l) ++ [zJ .i64 (t:Int)]::List.drop k (ZfN l)=ZfN (l.take k++t::l.drop k):=by
 simp [ZfN,List.map_take,List.map_drop]
theorem midT {i j:Nat} (h:i+j≤1000000):w64 (ZaR .u64 (v64 (w64 ((i:Int)+(j:Int)))) 1)=(((i+j)/2:Nat):Int):=by
 rw [ZaK (n:=(i:Int)+(j:Int)) (by omega) (by omega)]
 have h1:v64 ((i:Int)+(j:Int))=(i:Int)+(j:Int):=by
  show IntKind.wrap .u64 _=_
  simp only [IntKind.wrap,IntKind.bits,IntKind.signed]
  simp
  omega
 rw [h1,show (1:Int)=((1:Nat):Int) from rfl,Zkf _ (by omega),ZaK (by omega) (by omega)]
 omega
theorem Znu (hN:10≤N) (p:Zaj) (room:Int) {ns:List Nd} (lp:List Int) (ht:Zgy ns) {x t:Nat} (hx:x<ns.length) (htt:t<ns.length) (r:LL) :
  ZbS N (x:Int) (t:Int) (ZaQ.mk (tOf p room ns lp) r)=some (if x=t then 0 else if hvT ns x t=true then -1 else 1):=by
 unfold ZbS
 by_cases e:x=t
 ·rw [if_pos (by simp [e]),if_pos e]
 ·rw [if_neg (by simp;omega),if_neg e,Zjd hN p room lp ht hx htt,Zac]
  cases hvT ns x t<;>rfl
theorem ZpG (hN:1000≤N) (p:Zaj) (room:Int) {ns:List Nd} (lp:List Int) (ht:Zgy ns) {l:List Nat} (hs:ZhE ns l) (hl:l.length≤900) {t:Nat} (htt:t<ns.length) :
  ∃k:Nat,ZbQ N (ZaQ.mk (tOf p room ns lp) (ZfN l)) (t:Int)=some ((k:Int),decide (t∈l))∧cutT ns l t k:=by
 unfold ZbQ Zad
 suffices h : ∃r,loopN (Zad.p1 N (ZfN l) (t:Int) (ZaQ.mk (tOf p room ns lp) (ZfN l))) N (0,len (ZfN l))=some r∧∃k:Nat,r=((k:Int),decide (t∈l))∧cutT ns l t k by
  obtain ⟨r,e,k,rfl,hc⟩:=h
  exact ⟨k,by dsimp only;rw [e];rfl,hc⟩
 have hlt : ∀a (h:a<l.length),l[a]<ns.length:=fun a h=>hs.2 _ (xD h)
 refine ZeK (Q:=fun r:Int×Bool=>∃k:Nat,r=((k:Int),decide (t∈l))∧cutT ns l t k) (fun m (s:Int×Int)=>∃i j:Nat,s=((i:Int),(j:Int))∧i≤j∧j≤l.length∧m=j-i∧(∀a (h:a<l.length),a<i→hvT ns l[a] t=true)∧∀a (h:a<l.length),j≤a→hvT ns l[a] t=false)
  ?_ N l.length _ ⟨0,l.length,by rw [ZdP];rfl,by omega,by omega,by omega,fun a h h1=>by omega,fun a h h1=>by omega⟩ (by omega)
 rintro G m _ ⟨i,j,rfl,hij,hjl,rfl,h1,h2⟩ hG
 unfold Zad.p1
 dsimp only
 by_cases hlt2:i<j
 ·have hm:(i+j)/2<l.length:=by omega
  rw [if_pos (by simp;omega),midT (by omega),Zan (by omega),Zan (by rw [ZdP];omega),zH,ZeZ hm,Zax,Zdq,Znu (by omega) p room lp ht (hlt _ hm) htt,Zac]
  by_cases hP:hvT ns l[(i+j)/2] t=true
  ·have hne:l[(i+j)/2]≠t:=fun e=>by rw [e,ZhM] at hP;cases hP
   rw [if_neg hne,if_pos hP,if_pos (by simp),ZaK (by omega) (by omega)]
   refine hG (j-((i+j)/2+1)) _ (by omega) ⟨(i+j)/2+1,j,rfl,by omega,hjl,rfl,fun a h ha=>?_,h2⟩
   by_cases e:a=(i+j)/2
   ·subst e;exact hP
   ·exact Zgf (ZhD hs h hm (by omega)) hP
  ·have hP':hvT ns l[(i+j)/2] t=false:=by simpa using hP
   rw [if_neg (by split<;>simp)]
   refine hG ((i+j)/2-i) _ (by omega) ⟨i,(i+j)/2,rfl,by omega,by omega,rfl,h1,fun a h ha=>?_⟩
   by_cases e:a=(i+j)/2
   ·subst e;exact hP'
   ·cases h3:hvT ns l[a] t with
    | false=>rfl
    | true=>have:=Zgf (ZhD hs hm h (by omega)) h3;rw [hP'] at this;cases this
 ·have e:i=j:=by omega
  subst e
  have hc:cutT ns l t i:=⟨hjl,h1,h2⟩
  have hmem:=ZpR hs hc
  rw [if_neg (by simp),ZdP]
  by_cases h3:i<l.length
  ·rw [if_pos (by simp;omega),Zan (by omega),zH,ZeZ h3,Zax,Zdq,Znu (by omega) p room lp ht (hlt _ h3) htt,Zac]
   refine ⟨_,rfl,i,?_,hc⟩
   rw [zN h3] at hmem
   simp only [Option.some.injEq] at hmem
   by_cases e:l[i]=t
   ·rw [if_pos e,decide_eq_true (hmem.2 e)];rfl
   ·rw [if_neg e,decide_eq_false (fun h=>e (hmem.1 h))]
    split<;>rfl
  ·rw [if_neg (by simp;omega)]
   refine ⟨_,rfl,i,?_,hc⟩
   rw [decide_eq_false (fun h=>by rw [hmem,zL (by omega)] at h;cases h)]
noncomputable def Zkg (it:Nat) (l:List Nat):List L:=[L.ptr (some it),L.own true 1 (ZfN l)]
theorem ZfD {α:Type} (it:Nat) (l:List Nat) (k:Option Nat→LL→Option α):Zbk (Zkg it l) k=k (some it) (ZfN l):=rfl
structure Zim (st:LL) (ia it is:Nat) (p:Zaj) (room:Int) (ns:List Nd) (lp:List Int) (l:List Nat):Prop where
 T:Zfd st ia it p room ns lp
 s:st[is]? = some (Zkg it l)
 na:is≠ia
 nt:is≠it
 srt:ZhE ns l
 sm:ns.length≤500
section
variable {st:LL} {ia it is:Nat} {p:Zaj} {room:Int} {ns:List Nd} {lp:List Int} {l:List Nat}
theorem Zfd.other {x:List L} {j:Nat} (T:Zfd st ia it p room ns lp) (na:j≠ia) (nt:j≠it):Zfd (st.set j x) ia it p room ns lp:=
 ⟨by rw [zV na];exact T.a,by rw [zV nt];exact T.t,T.ne,T.lv,T.len,T.tr⟩
theorem tLen_eq (T:Zfd st ia it p room ns lp):Zci N (some it) st=some ((ns.length:Int),st):=by
 unfold Zci
 rw [if_neg (by simp),Zac,T.t,Zax]
 unfold ZfQ
 rw [Zca,Zac,T.a,Zax,Zbm,Len_v_eq,Zac]
def inT (ns:List Nd) (k:Int):Bool:=decide (0≤k)&&decide (k<(ns.length:Int))
theorem inT_true {k:Int}:inT ns k=true↔0≤k∧k<(ns.length:Int):=by simp [inT]
theorem Zjc {k:Int} (h:inT ns k=true) : ∃j:Nat,k=(j:Int)∧j<ns.length:=by
 rw [inT_true] at h;exact ⟨k.toNat,by omega,by omega⟩
theorem inT_of {j:Nat} (h:j<ns.length):inT ns (j:Int)=true:=inT_true.2 ⟨by omega,by omega⟩
theorem Zim.lt (S:Zim st ia it is p room ns lp l):is<st.length:=(zX.1 S.s).1
theorem Zim.turn (S:Zim st ia it is p room ns lp l) {l':List Nat} (h:ZhE ns l'):Zim (st.set is (Zkg it l')) ia it is p room ns lp l':=
 ⟨S.T.other S.na S.nt,zQ S.lt,S.na,S.nt,h,S.sm⟩
theorem Zoz (S:Zim st ia it is p room ns lp l) (k:Int):Zcf N (some is) k st=some (inT ns k,st):=by
 unfold Zcf inT
 rw [if_pos (by simp)]
 by_cases h:0≤k
 ·rw [if_pos (by simpa using h),Zac,S.s,Zax,ZfD,tLen_eq S.T,Zac]
  simp [h]
 ·rw [if_neg (by simpa using h)]
  simp [h]
theorem tHas_eq (hN:1000≤N) (S:Zim st ia it is p room ns lp l) (hl:l.length≤900) (k:Int):ZcA N (some is) k st=some (inT ns k&&decide (k.toNat∈l),st):=by
 unfold ZcA
 rw [Zoz S,Zac]
 dsimp only
 cases h:inT ns k
 ·rw [if_pos (by rfl)];rfl
 ·obtain ⟨j,rfl,hj⟩:=Zjc h
  obtain ⟨q,e,_⟩:=ZpG hN p room lp S.T.tr S.srt hl hj
  rw [if_neg (by simp),Zac,S.s,Zax,ZfD,Zac,S.T.t,Zax]
  unfold ZfQ
  rw [Zca,Zac,S.T.a,Zax,Zbm,show (Zao.mk (aOf p room ns) (Zdp lp))=tOf p room ns lp from rfl,e,Zac]
  dsimp only
  rw [zH,wO]
theorem ZoD (hl:l.length≤900) (T:Zao):Zcc N (ZaQ.mk T (ZfN l))=some (ZfN l):=by
 unfold Zcc
 show Zbs (ZaV N (ZfN l)) _=_
 rw [ZaV,Zan (by simp;omega),Zac]
theorem ZmR (T:Zao):ZbY N (ZaQ.mk T (ZfN l))=some (l.length:Int):=by
 unfold ZbY
 simp
def putM (ns:List Nd) (l:List Nat) (ps:List Int) (x:Nat):Prop:=x∈l∨(x<ns.length∧(x:Int)∈ps)
theorem put_one (hN:1000≤N) (S:Zim st ia it is p room ns lp l) (hl:l.length≤800) (t:Nat) (ht:t<ns.length) :
  ∃k:Nat,ZbQ N (ZaQ.mk (tOf p room ns lp) (ZfN l)) (t:Int)=some ((k:Int),decide (t∈l))∧k≤l.length∧(t∉l→ZhE ns (l.take k++t::l.drop k)∧∀x,x∈l.take k++t::l.drop k↔x∈l∨x=t)∧(t∈l→k<l.length∧ZhE ns (l.take k++l.drop (k+1))∧∀x,x∈l.take k++l.drop (k+1)↔x∈l∧x≠t):=by
 obtain ⟨k,e,hc⟩:=ZpG hN p room lp S.T.tr S.srt (by omega) ht
 refine ⟨k,e,hc.1,fun h=>ins_srt S.srt ht h hc,fun h=>?_⟩
 have:=(ZpR S.srt hc).1 h
 exact ⟨(zX.1 this).1,del_srt S.srt this⟩
theorem ZoB (hN:1000≤N) (S:Zim st ia it is p room ns lp l) (ps:List Int) (hl:l.length+ps.length≤600) :
  ∃l',ZaF N (some is) (Zdp ps) st=some ((l'.length:Int)-(l.length:Int),st.set is (Zkg it l'))∧ZhE ns l'∧l'.length≤l.length+ps.length∧∀x,x∈l'↔putM ns l ps x:=by
 unfold ZaF
 suffices h : ∃r,loopN (ZaF.p1 N (Zdp ps)) N (some is,0,0,st)=some r∧∃l':List Nat,r=((l'.length:Int)-(l.length:Int),st.set is (Zkg it l'))∧ZhE ns l'∧l'.length≤l.length+ps.length∧∀x,x∈l'↔putM ns l ps x by
  obtain ⟨r,e,l',rfl,h⟩:=h;exact ⟨l',e,h⟩
 refine ZeK (Q:=fun r:Int×LL=>∃l':List Nat,r=((l'.length:Int)-(l.length:Int),st.set is (Zkg it l'))∧ZhE ns l'∧l'.length≤l.length+ps.length∧∀x,x∈l'↔putM ns l ps x)
  (fun m (s:(Option Nat)×Int×Int×LL)=>∃(j:Nat) (l':List Nat),j+m=ps.length∧s=(some is,(l'.length:Int)-(l.length:Int),(j:Int),st.set is (Zkg it l'))∧ZhE ns l'∧l.length≤l'.length∧l'.length≤l.length+j∧∀x,x∈l'↔putM ns l (ps.take j) x)
  ?_ N ps.length _ ⟨0,l,by omega,by rw [Int.sub_self,Zio S.s];rfl,S.srt,zI _,by omega,fun x=>by simp [putM]⟩ (by omega)
 rintro G m _ ⟨j,l',hj,rfl,hs,hl1,hl2,hm⟩ hG
 have S':=S.turn hs
 have hss : ∀l2,(st.set is (Zkg it l')).set is (Zkg it l2)=st.set is (Zkg it l2):=fun l2=>xH ..
 unfold ZaF.p1
 dsimp only
 rw [ZfF]
 by_cases hlt:j<ps.length
 ·have w1:w64 ((j:Int)+1)=((j+1:Nat):Int):=by rw [ZaK (by omega) (by omega)];rfl
  have htk : ∀x,putM ns l (ps.take (j+1)) x↔putM ns l (ps.take j) x∨(x<ns.length∧(x:Int)=ps[j]):=fun x=>by
   unfold putM
   rw [yH hlt]
   simp only [yW,xA]
   constructor
   ·rintro (h | ⟨h1,h2 | h2⟩)
    ·exact .inl (.inl h)
    ·exact .inl (.inr ⟨h1,h2⟩)
    ·exact .inr ⟨h1,h2⟩
   ·rintro ((h | ⟨h1,h2⟩) | ⟨h1,h2⟩)
    ·exact .inl h
    ·exact .inr ⟨h1,.inl h2⟩
    ·exact .inr ⟨h1,.inr h2⟩
  rw [if_pos (by simp;omega),Zan (by omega),zH,Zkj hlt,Zax,Zdq,Zoz S',Zac]
  dsimp only
  cases hin:inT ns ps[j]
  ·rw [if_pos (by rfl)]
   unfold ZaF.p2
   rw [w1]
   refine hG (m-1) _ (by omega) ⟨j+1,l',by omega,rfl,hs,hl1,by omega,fun x=>?_⟩
   rw [hm,htk]
   refine ⟨.inl,fun h=>h.elim id fun ⟨h1,h2⟩=>?_⟩
   rw [←h2,inT_of h1] at hin;cases hin
  ·obtain ⟨t,et,ht⟩:=Zjc hin
   obtain ⟨k,ef,hk,hi,_⟩:=put_one hN S' (by omega) t ht
   rw [if_neg (by simp),Zac,S'.s,Zax,ZfD,Zac,S'.T.t,Zax]
   unfold ZfQ
   rw [Zca,Zac,S'.T.a,Zax,Zbm,show (Zao.mk (aOf p room ns) (Zdp lp))=tOf p room ns lp from rfl,et,ef,Zac]
   dsimp only
   by_cases hmem:t∈l'
   ·rw [decide_eq_true hmem,if_neg (by simp)]
    unfold ZaF.p2
    rw [w1]
    refine hG (m-1) _ (by omega) ⟨j+1,l',by omega,rfl,hs,hl1,by omega,fun x=>?_⟩
    rw [hm,htk]
    refine ⟨.inl,fun h=>h.elim id fun ⟨h1,h2⟩=>?_⟩
    rw [et] at h2
    have:x=t:=by omega
    subst this;exact (hm x).1 hmem
   ·obtain ⟨hi1,hi2⟩:=hi hmem
    rw [decide_eq_false hmem,if_pos (by rfl),Zan (by omega),Zan (by rw [ZdP];omega),Zan (Zna l'),Zan (by rw [ZiI];omega),zH,rowN_ins,xH]
    unfold ZaF.p2
    have hln:(l'.take k++t::l'.drop k).length=l'.length+1:=by simp;omega
    rw [w1,ZaK (n:=(l'.length:Int)-(l.length:Int)+1) (by omega) (by omega)]
    refine hG (m-1) _ (by omega) ⟨j+1,l'.take k++t::l'.drop k,by omega,?_,hi1,by omega,by omega,fun x=>?_⟩
    ·rw [hln]
     show ((some is,(l'.length:Int)-(l.length:Int)+1,((j+1:Nat):Int),(st.set is (Zkg it l')).set is (Zkg it (l'.take k++t::l'.drop k))):(Option Nat)×Int×Int×LL)=_
     rw [hss,show (l'.length:Int)-(l.length:Int)+1=((l'.length+1:Nat):Int)-(l.length:Int) by omega]
    ·rw [hi2,htk,hm]
     refine or_congr_right ⟨fun h=>by subst h;exact ⟨ht,et.symm⟩,fun ⟨h1,h2⟩=>by rw [et] at h2;omega⟩
 ·rw [if_neg (by simp;omega)]
  have hjl:j=ps.length:=by omega
  subst hjl
  exact ⟨_,rfl,l',rfl,hs,by omega,fun x=>by rw [hm,sT]⟩
end
end Go.Dn.F
namespace Go.Dn.F
open Go.Dn Go.Proofs
variable {N:Nat}
structure WfA15 (c:Zbh):Prop where
 h:WfH c.Header
 n:ZkA c.Now
abbrev tysAc5:List Ty:=[.int .i64,.int .i64,.arr .u8 32,.arr .u8 32,.int .i64,.int .i64,.int .i64,.int .i64,.int .i64]
noncomputable def ZgD (l:List Zbh):LL:=l.map Zbh.ls
theorem ZjO {l:List Zbh} {i:Nat} (h:i<l.length):(ZgD l)[i]? = some l[i].ls:=by simp [ZgD,h]
@[simp] theorem ZjV (l:List Zbh):len (ZgD l)=(l.length:Int):=by simp [len,ZgD]
@[simp] theorem Zkk (l:List Zbh):(ZgD l).length=l.length:=by simp [ZgD]
theorem open_A15 {xs:LL} (h : ∀x∈xs,Zfw tysAc5 x) : ∃l,xs=ZgD l∧∀x∈l,WfA15 x:=
 ZlS fun x hx=>by
  obtain ⟨_,_,rfl,h0,h⟩:=(h x hx).cons_inv
  obtain ⟨_,_,rfl,h1,h⟩:=h.cons_inv
  obtain ⟨_,_,rfl,h2,h⟩:=h.cons_inv
  obtain ⟨_,_,rfl,h3,h⟩:=h.cons_inv
  obtain ⟨_,_,rfl,h4,h⟩:=h.cons_inv
  obtain ⟨_,_,rfl,h5,h⟩:=h.cons_inv
  obtain ⟨_,_,rfl,h6,h⟩:=h.cons_inv
  obtain ⟨_,_,rfl,h7,h⟩:=h.cons_inv
  obtain ⟨_,_,rfl,h8,h⟩:=h.cons_inv
  cases h.nil_inv
  obtain ⟨a0,rfl,w0⟩:=h0.int_inv
  obtain ⟨a1,rfl,w1⟩:=h1.int_inv
  obtain ⟨a2,rfl,k2,w2⟩:=h2.arr_inv
  obtain ⟨a3,rfl,k3,w3⟩:=h3.arr_inv
  obtain ⟨a4,rfl,w4⟩:=h4.int_inv
  obtain ⟨a5,rfl,w5⟩:=h5.int_inv
  obtain ⟨a6,rfl,w6⟩:=h6.int_inv
  obtain ⟨a7,rfl,w7⟩:=h7.int_inv
  obtain ⟨a8,rfl,w8⟩:=h8.int_inv
  refine ⟨⟨a0,⟨a1,a2,a3,a4,a5,a6⟩,a7,a8⟩,rfl,⟨⟨Zeo w1,?_,Zeo w4,Zeo w5,Zeo w6⟩,Zeo w7⟩⟩
  simp only [wfH,Bool.and_eq_true]
  exact ⟨ZmN k2 w2,ZmN k3 w3⟩
theorem Zod {p:Zaj} (hp:WfP p) (l:List Zbh) (hl:l.length+900≤N) (hb:l.length≤maxLen) :
  ∃b,Zbw N p (ZgD l)=some b∧(b=false→(∀x∈l,0≤x.Now)∧l.length≤40∧∃gs cs,p.Gates=Zmb gs∧p.Checks=Zjr cs∧gs.length≤400∧cs.length≤400∧Zkm p gs cs=true):=by
 unfold Zbw
 have hm:maxLen=9223372036854775807:=rfl
 refine ZeK (fun m (v:Int)=>∃k:Nat,k+m=l.length∧v=(k:Int)∧∀x∈l.take k,0≤x.Now) ?_ N l.length 0 ⟨0,by omega,rfl,by simp⟩ (by omega)
 rintro G m _ ⟨k,hk,rfl,ha⟩ hG
 unfold Zbw.p1
 rw [ZjV]
 by_cases hlt:k<l.length
 ·rw [if_pos (by simp<;>omega),Zan (by omega),zH,ZjO hlt,Zax,ZdW,ZaK (by omega) (by omega)]
  by_cases h:l[k].Now<0
  ·rw [if_pos (by simpa using h)];exact ⟨true,rfl,fun h=>by cases h⟩
  ·rw [if_neg (by simpa using h)]
   refine hG (m-1) _ (by omega) ⟨k+1,by omega,by omega,fun x hx=>?_⟩
   rw [yH hlt] at hx
   rcases yW.1 hx with hx | hx
   ·exact ha x hx
   ·cases xA.1 hx;omega
 ·rw [if_neg (by simp<;>omega)]
  rw [yD (by omega)] at ha
  by_cases h1:len p.Gates>20
  ·rw [if_pos (by simpa using h1)];exact ⟨true,rfl,fun h=>by cases h⟩
  rw [if_neg (by simpa using h1)]
  by_cases h2:len p.Checks>20
  ·rw [if_pos (by simpa using h2)];exact ⟨true,rfl,fun h=>by cases h⟩
  rw [if_neg (by simpa using h2)]
  by_cases h3:(l.length:Int)>40
  ·rw [if_pos (by simpa using h3)];exact ⟨true,rfl,fun h=>by cases h⟩
  rw [if_neg (by simpa using h3)]
  obtain ⟨gs,eg⟩:=open_G hp.g
  obtain ⟨cs,ec⟩:=open_K hp.c
  have lg:gs.length≤400:=by simp [len,eg] at h1;omega
  have lc:cs.length≤400:=by simp [len,ec] at h2;omega
  rw [Zkp (by omega) eg lg ec lc,Zac]
  refine ⟨_,rfl,fun h=>⟨ha,by omega,gs,cs,eg,ec,lg,lc,by simpa using h⟩⟩
theorem ZoC (it:Nat) (st:LL):ZdY N (some it) st=some (some st.length,st ++ [Zkg it []]):=rfl
theorem Zpi {st:LL} {ia it:Nat} {p:Zaj} {room:Int} {ns:List Nd} {lp:List Int} (T:Zfd st ia it p room ns lp) (sm:ns.length≤500) (x:LL):Zim ((st ++ [Zkg it []])++x) ia it st.length p room ns lp []:=by
 have h1:=(zX.1 T.a).1
 have h2:=(zX.1 T.t).1
 exact ⟨(T.app _).app x,by rw [zP (by simp)];simp,by omega,by omega,nil_srt ns,sm⟩
def bestT:List Nat→Int
 | []=>-1
 | a::_=>(a:Int)
theorem tBest_eq (l:List Nat) (T:Zao):Zcg N (ZaQ.mk T (ZfN l))=some (bestT l):=by
 unfold Zcg
 rw [ZmR,Zac]
 cases l with
 | nil=>rfl
 | cons a l=>
  rw [if_neg (by simp;omega),Zan (by show 0<len (ZfN (a::l));rw [ZdP];simp)]
  show ZcI ((ZfN (a::l))[0]?) _ _=_
  rw [ZeZ (by simp),Zax,Zdq]
  rfl
theorem alive15 (hN:1000≤N) : ∃st,ZcL N []=some (true,st):=by
 unfold ZcL
 rw [show (Zaj.mk 545259519 4 10 0 false [] [] (zC 4 0) (zC 4 0) (Zap.mk 0 (zC 32 0) (zC 32 0) 0 0 0))=pA from rfl,ZmS (by omega) (p:=pA) (gs:=[]) (cs:=[]) rfl rfl (by simp) (by simp) pA_wf 5 [],if_pos (by kernel_rfl),Zac,show ZiK 5=5 from rfl]
 dsimp only
 rw [if_neg (by simp)]
 have T:=ZmT pA_wf 5 []
 rw [ZoC,Zac]
 dsimp only
 have S:=Zpi T (by simp) []
 rw [List.append_nil] at S
 obtain ⟨l',e,hs,hl,hm⟩:=ZoB hN S [0,0,1] (by simp)
 have el:l' = [0]:=ZoI hs ⟨List.pairwise_singleton _ _,fun x hx=>by cases xA.1 hx;simp⟩ fun x=>by
  rw [hm]
  unfold putM
  simp
  omega
 subst el
 rw [show ([[zJ .i64 0],[zJ .i64 0],[zJ .i64 1]]:LL)=Zdp [0,0,1] from rfl,show (List.length ([]:LL)+1)=1 from rfl] at *
 rw [e,Zac]
 dsimp only
 have S2:=S.turn hs
 revert S2
 generalize List.set _ _ (Zkg _ [0])=st2
 intro S2
 rw [if_pos (by rfl),Zac,S2.s,Zax,ZfD,Zac,S2.T.t,Zax]
 unfold ZfQ
 rw [Zca,Zac,S2.T.a,Zax,Zbm,tBest_eq,Zac]
 rw [if_pos (by rfl),ZmR,Zac]
 exact ⟨_,rfl⟩
end Go.Dn.F
namespace Go.Dn.F
open Go.Dn Go.Proofs
variable {N:Nat} {ia it is:Nat} {p:Zaj} {room:Int} {ns:List Nd} {lp:List Int}
def Zen (ns:List Nd) (t x:Nat):Bool:=!hvT ns t x
theorem Znv {t:Nat} : ∀{l:List Nat},ZhE ns l→∃m,l.filter (Zen ns t)=l.take m
 | [],_=>⟨0,rfl⟩
 | a::l,h=>by
  obtain ⟨h1,h2⟩:=Zgm h
  cases e:Zen ns t a with
  | true=>
   obtain ⟨m,hm⟩:=Znv (t:=t) h2
   exact ⟨m+1,by rw [vD e,hm,List.take_succ_cons]⟩
  | false=>
   refine ⟨0,?_⟩
   have ha:hvT ns t a=true:=by unfold Zen at e;simpa using e
   rw [wM (by rw [e];simp),List.take_zero,List.filter_eq_nil_iff]
   intro x hx
   unfold Zen
   rw [Zgf ha (h1 x hx)];simp
theorem ZmQ (hN:10≤N) (p:Zaj) (room:Int) (lp:List Int) (ht:Zgy ns) {x t:Nat} (hx:x<ns.length) (htt:t<ns.length):ZbT N (x:Int) (tOf p room ns lp) (t:Int)=some (hvT ns t x):=by
 unfold ZbT
 rw [Zjd hN p room lp ht htt hx,Zac]
theorem index_eq (hN:1000≤N) (p:Zaj) (room:Int) (lp:List Int) (ht:Zgy ns) {l:List Nat} (hs : ∀x∈l,x<ns.length) (hl:l.length≤900) {t:Nat} (htt:t<ns.length) :
  ∃r,Zal N (ZfN l) (tOf p room ns lp) (t:Int)=some r∧((r = -1∧∀x∈l,Zen ns t x=true)∨∃k:Nat,k<l.length∧r=(k:Int)∧(l.take (k+1)).filter (Zen ns t)=l.take k):=by
 unfold Zal
 refine ZeK (Q:=fun r:Int=>(r = -1∧∀x∈l,Zen ns t x=true)∨∃k:Nat,k<l.length∧r=(k:Int)∧(l.take (k+1)).filter (Zen ns t)=l.take k) (fun m (v:Int)=>∃j:Nat,j+m=l.length∧v=(j:Int)∧∀x∈l.take j,Zen ns t x=true) ?_ N l.length _ ⟨0,by omega,rfl,by simp⟩ (by omega)
 rintro G m _ ⟨j,hj,rfl,ha⟩ hG
 unfold Zal.p1
 rw [ZdP]
 by_cases hlt:j<l.length
 ·rw [if_pos (by simp;omega),Zan (by omega),zH,ZeZ hlt,Zax,Zdq,ZmQ (by omega) p room lp ht (hs _ (xD hlt)) htt,Zac]
  cases hk:hvT ns t l[j] with
  | true=>
   rw [if_pos rfl]
   refine ⟨_,rfl,.inr ⟨j,hlt,rfl,?_⟩⟩
   rw [yH hlt,sG,List.filter_eq_self.2 ha,wM (by unfold Zen;rw [hk];simp)]
   simp
  | false=>
   rw [if_neg (by simp),ZaK (by omega) (by omega)]
   refine hG (m-1) _ (by omega) ⟨j+1,by omega,rfl,fun x hx=>?_⟩
   rw [yH hlt] at hx
   rcases yW.1 hx with h | h
   ·exact ha x h
   ·cases xA.1 h
    unfold Zen;rw [hk];rfl
 ·rw [if_neg (by simp;omega)]
  refine ⟨_,rfl,.inl ⟨rfl,fun x hx=>ha x ?_⟩⟩
  rw [yD (by omega)];exact hx
theorem ZpP (hN:1000≤N) (p:Zaj) (room:Int) (lp:List Int) (ht:Zgy ns) {l:List Nat} (hs : ∀x∈l,x<ns.length) (hl:l.length≤900) {t:Nat} (htt:t<ns.length) :
  Zaa N (ZfN l) (tOf p room ns lp) (t:Int)=some (ZfN (l.filter (Zen ns t))):=by
 unfold Zaa
 obtain ⟨r,e,h⟩:=index_eq hN p room lp ht hs hl htt
 rw [e,Zac]
 rcases h with ⟨rfl,h⟩ | ⟨k,hk,rfl,h⟩
 ·rw [if_pos (by rfl),List.filter_eq_self.2 h]
 ·rw [if_neg (by simp),ZaK (by omega) (by omega)]
  refine ZcB (fun m (s:Int×Int×LL)=>∃(j:Nat) (q:LL),j+m=l.length∧j≤l.length∧s=((((l.take j).filter (Zen ns t)).length:Int),(j:Int),q)∧q.length=l.length∧q.take ((l.take j).filter (Zen ns t)).length=ZfN ((l.take j).filter (Zen ns t))∧∀a (h:a<l.length),j≤a→q[a]? = some [zJ .i64 (l[a]:Int)])
   ?_ N (l.length-(k+1)) _ ⟨k+1,ZfN l,by omega,by omega,?_,by simp,?_,fun a h _=>ZeZ h⟩ (by omega)
  ·rintro G m _ ⟨j,q,hj,hjl,rfl,hq,hqt,hqa⟩ hG
   have hfl:((l.take j).filter (Zen ns t)).length≤j:=Nat.le_trans (rJ ..) (by simp;omega)
   unfold Zaa.p1 Zaa.p2
   dsimp only
   rw [ZdP]
   by_cases hlt:j<l.length
   ·have w1:w64 ((j:Int)+1)=((j+1:Nat):Int):=by rw [ZaK (by omega) (by omega)];rfl
    have htk:=yH hlt
    rw [if_pos (by simp;omega),Zan (by omega),zH,zZ,hqa j hlt (zI _),Zax,Zdq,ZmQ (by omega) p room lp ht (hs _ (xD hlt)) htt,Zac,w1]
    cases hk2:hvT ns t l[j] with
    | true=>
     rw [if_neg (by simp)]
     have e2:(l.take (j+1)).filter (Zen ns t)=(l.take j).filter (Zen ns t):=by
      rw [htk,sG,wM (by unfold Zen;rw [hk2];simp)];simp
     refine hG (m-1) _ (by omega) ⟨j+1,q,by omega,by omega,by rw [e2],hq,by rw [e2];exact hqt,fun a h h2=>hqa a h (by omega)⟩
    | false=>
     have e2:(l.take (j+1)).filter (Zen ns t)=(l.take j).filter (Zen ns t) ++ [l[j]]:=by
      rw [htk,sG,vD (by unfold Zen;rw [hk2];rfl)];rfl
     rw [if_pos (by rfl),Zan (by omega),Zan (by omega),zH,zZ,ZaK (by omega) (by omega)]
     refine hG (m-1) _ (by omega) ⟨j+1,_,by omega,by omega,by rw [e2,zR];rfl,by simpa using hq,?_,fun a h h2=>?_⟩
     ·rw [e2,zR,yX,yH (by simp;omega),List.take_set_of_le (by omega),hqt,List.getElem_set_self]
      simp [ZfN]
     ·rw [zV (by omega)];exact hqa a h (by omega)
   ·have hjl2:j=l.length:=by omega
    subst hjl2
    rw [sT] at hqt hfl ⊢
    rw [if_neg (by simp),Zan (by omega),zH,ZiI,zZ,Zan hfl,Zan (by omega),Zan (by simp;omega),Zan (by simp;omega)]
    rw [uC (by simp;omega),List.take_take,Nat.min_self,hqt]
  ·rw [h]
   simp;omega
  ·rw [h]
   simp only [ZfN,List.map_take,List.length_take,Nat.min_eq_left (Nat.le_of_lt hk)]
def ZdE (ns:List Nd) (l:List Nat) (k:Int):List Nat:=if inT ns k=true then l.filter (Zen ns k.toNat) else l
theorem tTrim_eq (hN:1000≤N) {st:LL} {l:List Nat} (S:Zim st ia it is p room ns lp l) (hl:l.length≤900) (k:Int) :
  Zcw N (some is) k st=some ((l.length:Int)-((ZdE ns l k).length:Int),st.set is (Zkg it (ZdE ns l k)))∧ZhE ns (ZdE ns l k)∧(ZdE ns l k).length≤l.length:=by
 have hle:(ZdE ns l k).length≤l.length:=by unfold ZdE;split<;>first | exact rJ .. | exact zI _
 refine ⟨?_,by unfold ZdE;split;exact fil_srt S.srt _;exact S.srt,hle⟩
 unfold Zcw
 rw [Zoz S,Zac]
 dsimp only
 cases h:inT ns k
 ·have e:ZdE ns l k=l:=by unfold ZdE;rw [h,if_neg (by simp)]
  rw [if_pos (by rfl),e,Int.sub_self,Zio S.s]
 ·have e:ZdE ns l k=l.filter (Zen ns k.toNat):=by unfold ZdE;rw [h,if_pos rfl]
  obtain ⟨j,rfl,hj⟩:=Zjc h
  rw [zH] at e
  have T2:Zfd (st.set is [L.ptr (some it),L.gone]) ia it p room ns lp:=S.T.other S.na S.nt
  rw [if_neg (by simp),Zac,S.s,Zax,ZfD,Zac,T2.t,Zax]
  unfold ZfQ
  rw [Zca,Zac,T2.a,Zax,Zbm,show (Zao.mk (aOf p room ns) (Zdp lp))=tOf p room ns lp from rfl,ZpP hN p room lp S.T.tr S.srt.2 hl hj,Zac,Zan (Zna _),xH,ZdP,ZdP,e]
  rw [e] at hle
  rw [ZaK (by omega) (by omega)]
  rfl
end Go.Dn.F
namespace Go.Dn.F
open Go.Dn Go.Proofs
variable {N:Nat} {ia it is:Nat} {p:Zaj} {ns:List Nd} {lp:List Int}
theorem Zoy {l:List Nat} (hs:ZhE ns l) (k:Int) : ∃m,ZdE ns l k=l.take m:=by
 unfold ZdE
 split
 ·exact Znv hs
 ·exact ⟨l.length,by rw [sT]⟩
theorem Znf {l:List Nat} {t x:Nat} (h:t<ns.length) (hx:x∈ZdE ns l (t:Int)):x∈l∧Zen ns t x=true:=by
 unfold ZdE at hx
 rw [inT_of h,if_pos rfl,zH] at hx
 exact List.mem_filter.1 hx
theorem trim2 (hN:1000≤N) {st:LL} {l:List Nat} (hs:ZhE ns l) (k:Int) (S:Zim st ia it is p 100 ns lp (ZdE ns l k)) (hl:l.length≤600) :
  ∃st',loopN (Zay.p2 N k is (ZfN l) (ZfN (ZdE ns l k))) N (some it,0,st)=some (true,st'):=by
 obtain ⟨m0,em⟩:=Zoy hs k
 have hle:(ZdE ns l k).length≤l.length:=by rw [em];simp;omega
 refine ⟨st,ZcB (fun m (s:(Option Nat)×Int×LL)=>∃j:Nat,j+m=(ZdE ns l k).length∧s=(some it,(j:Int),st)) ?_ N (ZdE ns l k).length _ ⟨0,by omega,rfl⟩ (by omega)⟩
 rintro G m _ ⟨j,hj,rfl⟩ hG
 unfold Zay.p2
 dsimp only
 rw [ZdP]
 by_cases hlt:j<(ZdE ns l k).length
 ·have hjl:j<l.length:=by omega
  have e1:(ZdE ns l k)[j]=l[j]:=by simp only [em,uI]
  have hx:(ZdE ns l k)[j]<ns.length:=S.srt.2 _ (xD hlt)
  rw [if_pos (by simp;omega),Zan (by omega),zH,zZ,ZeZ hlt,Zax,Zdq,ZdP,Zan (by omega),ZeZ hjl,Zax,Zdq,if_neg (by rw [e1];simp),Zac,S.T.t,Zax]
  unfold ZfQ
  rw [Zca,Zac,S.T.a,Zax,Zbm,show (Zao.mk (aOf p 100 ns) (Zdp lp))=tOf p 100 ns lp from rfl]
  have hf:Zba N (tOf p 100 ns lp) k ((ZdE ns l k)[j]:Int)=some false:=by
   cases h:inT ns k
   ·exact Zoc p 100 lp (fun h2=>by rw [inT_true.2 h2] at h;cases h)
   ·obtain ⟨t,rfl,ht⟩:=Zjc h
    rw [Zjd (by omega) p 100 lp S.T.tr ht hx]
    have h4:=(Znf ht (xD hlt)).2
    unfold Zen at h4
    congr 1;simpa using h4
  rw [hf,Zac,if_neg (by simp),ZaK (by omega) (by omega)]
  exact hG (m-1) _ (by omega) ⟨j+1,by omega,rfl⟩
 ·rw [if_neg (by simp;omega),tHas_eq hN S (by omega),Zac]
  dsimp only
  cases h:inT ns k
  ·rw [if_pos (by rfl)]
  ·obtain ⟨t,rfl,ht⟩:=Zjc h
   rw [zH,wO]
   by_cases hm:t∈ZdE ns l (t:Int)
   ·have hpos:0<(ZdE ns l (t:Int)).length:=List.length_pos_of_mem hm
    have hlast:(ZdE ns l (t:Int))[(ZdE ns l (t:Int)).length-1]=t:=by
     obtain ⟨a,ha,ea⟩:=xY.1 hm
     by_cases e:a=(ZdE ns l (t:Int)).length-1
     ·simp only [←e];exact ea
     ·have h5:=ZhD S.srt ha (show (ZdE ns l (t:Int)).length-1<_ by omega) (by omega)
      rw [ea] at h5
      have h7:=(Znf ht (xD (show (ZdE ns l (t:Int)).length-1<(ZdE ns l (t:Int)).length by omega))).2
      unfold Zen at h7
      rw [h5] at h7;cases h7
    rw [decide_eq_true hm,if_neg (by simp),ZaK (by omega) (by omega),Zan (by omega),Zan (by omega),zZ,show (((ZdE ns l (t:Int)).length:Int)-1).toNat=(ZdE ns l (t:Int)).length-1 by omega,ZeZ (by omega),Zax,Zdq,hlast]
    simp
   ·rw [decide_eq_false hm,if_pos (by rfl)]
theorem ZmI {p:Zaj} (hp:WfP p) (l:List Zbh) (hl : ∀x∈l,WfA15 x) (hb:l.length≤maxLen) (places:List Int) (k:Int) : ∃st,Zay (l.length+1000) p (ZgD l) (Zdp places) k []=some (true,st):=by
 unfold Zay
 obtain ⟨st0,ea⟩:=alive15 (N:=l.length+1000) (by omega)
 rw [ea,Zac]
 dsimp only
 rw [if_neg (by simp)]
 obtain ⟨b,eg,hgr⟩:=Zod (N:=l.length+1000) hp l (by omega) hb
 rw [eg,Zac]
 cases b with
 | true=>exact ⟨st0,by rw [if_pos rfl]⟩
 | false=>
  obtain ⟨hnow,h40,gs,cs,hg,hc,lg,lc,hgd⟩:=hgr rfl
  rw [if_neg (by simp),ZfF]
  by_cases h1:(places.length:Int)>20
  ·exact ⟨st0,by rw [if_pos (by simpa using h1)]⟩
  rw [if_neg (by simpa using h1),ZmS (by omega) hg hc lg lc hp 100 st0,if_pos hgd,Zac,show ZiK 100=100 from rfl]
  dsimp only
  have T0:=ZmT hp 100 st0
  suffices h : ∃r,loopN (Zay.p1 (l.length+1000) (Zdp places) k (some (st0.length+1)) (ZgD l)) (l.length+1000) (0,((st0 ++ [(aOf p 100 [Zkl p]).lo]) ++ [ZfQ st0.length [-1]]))=some r∧∃st',r=(true,st') by
   obtain ⟨r,e,st',rfl⟩:=h;exact ⟨st',e⟩
  generalize hst:((st0 ++ [(aOf p 100 [Zkl p]).lo]) ++ [ZfQ st0.length [-1]]:LL)=st1 at T0 ⊢
  generalize st0.length+1=it at T0 ⊢
  generalize st0.length=ia at T0
  refine ZeK (Q:=fun r:Bool×LL=>∃st',r=(true,st')) (fun m (s:Int×LL)=>∃(j:Nat) (st:LL) (ns:List Nd) (lp:List Int),j+m=l.length∧s=((j:Int),st)∧Zfd st ia it p 100 ns lp∧ns.length≤j+1) ?_ (l.length+1000) l.length (0,st1) ⟨0,st1,[Zkl p],[-1],by omega,rfl,T0,by simp⟩ (by omega)
  rintro G m _ ⟨j,st,ns,lp,hj,rfl,T,hn⟩ hG
  unfold Zay.p1
  dsimp only
  rw [ZjV]
  by_cases hlt:j<l.length
  ·have wx:=hl _ (xD hlt)
   have nx:=hnow _ (xD hlt)
   have rx:=wx.n
   unfold ZkA at rx
   obtain ⟨lp',st',ea,T',_⟩:=skAdd_eq (N:=l.length+1000) (by omega) hg hc lg lc (by omega) T wx.h l[j].Now (by omega)
   have l1:=addT_len p gs cs 100 ns l[j].Header l[j].Now
   rw [if_pos (by simp<;>omega),Zan (by omega),zH,ZjO hlt,Zax,ZdW,ea,Zac]
   dsimp only
   rw [ZaK (by omega) (by omega)]
   exact hG (m-1) _ (by omega) ⟨j+1,st',_,lp',by omega,rfl,T',by omega⟩
  ·have A:=Zpi T (by omega) []
   rw [List.append_nil] at A
   rw [if_neg (by simp<;>omega),ZoC,Zac]
   dsimp only
   obtain ⟨l1,e1,s1,k1,m1⟩:=ZoB (N:=l.length+1000) (by omega) A places (by simp;omega)
   have k1':l1.length≤20:=by simp at k1;omega
   rw [e1,Zac]
   dsimp only
   have A1:=A.turn s1
   have hN:1000≤l.length+1000:=by omega
   generalize (st ++ [Zkg it []]).set st.length (Zkg it l1)=st2 at A1 ⊢
   generalize l.length+1000=N at hN ⊢
   obtain ⟨e2,s2,k2⟩:=tTrim_eq hN A1 (by omega) k
   rw [Zac,A1.s,Zax,ZfD,Zac,A1.T.t,Zax]
   unfold ZfQ
   rw [Zca,Zac,A1.T.a,Zax,Zbm,ZoD (by omega),Zac,Zan (ZjM l1),e2,Zac]
   have A2:=A1.turn s2
   dsimp only
   generalize st2.set st.length (Zkg it (ZdE ns l1 k))=st3 at A2 ⊢
   rw [A2.s,Zax,ZfD,Zac,A2.T.t,Zax]
   unfold ZfQ
   rw [Zca,Zac,A2.T.a,Zax,Zbm,ZoD (by omega),Zac,Zan (ZjM _),ZdP,ZdP,ZaK (by omega) (by omega),if_neg (by simp;omega)]
   obtain ⟨st',e⟩:=trim2 hN s1 k A2 (by omega)
   exact ⟨_,e,st',rfl⟩
theorem TipsTrim_true {ls:List L} (xs ys:LL) (k:Int) (h0:Zfw tysP ls) (h1 : ∀x∈xs,Zfw tysAc5 x) (l1:xs.length≤maxLen) (h2 : ∀x∈ys,Zfw [.int .i64] x) (l2:ys.length≤maxLen) (w3:(Lit.int .i64 k).wf=true) :
  ∃st,Snd Tryz.prog 4 [.agg ls,.one (.sl 71 xs),.one (.sl 1 ys),.one (.int .i64 k)] [] [.one (.bool true)] st:=by
 obtain ⟨p,rfl,hp⟩:=open_P h0
 obtain ⟨l,rfl,hl⟩:=open_A15 h1
 obtain ⟨ps,e2,_⟩:=ZmD h2
 obtain rfl:ys=Zdp ps:=e2
 obtain ⟨st,h⟩:=ZmI hp l hl (by rw [Zkk] at l1;exact l1) ps k
 exact ⟨st,Zay.snd h⟩
end Go.Dn.F
