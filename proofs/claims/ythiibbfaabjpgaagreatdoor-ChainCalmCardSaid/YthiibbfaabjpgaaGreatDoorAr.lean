import Derived.Test.YthiibbfaabjpgaaGreatDoorNum
import Derived.Test.YthiibbfaabjpgaaGreatDoorRul
set_option linter.all false
open Bool renaming true_and->wT
open Go.Dn.L renaming arr->zL,int->zK,ptr->zN
open Int renaming toNat_natCast->zJ,sub_self->qL
open List renaming replicate->zB,foldl_append->vW,length_map->wJ,length_append->zU,length_singleton->yX,set_set->xJ,getElem?_eq_some_iff->zZ,getElem?_set_self->zP,getElem?_set_ne->zO,getElem_mem->yM,drop_zero->vU,drop_eq_getElem_cons->xC,getElem_map->tC,mem_singleton->yU,mem_append->xA,getElem_append_left->tQ,getElem_append_right->rV,getElem?_eq_getElem->zQ,getElem?_append_left->zS,take_append_of_le_length->vL,getElem?_append_right->yA,take_of_length_le->zW,mem_iff_getElem?->qW,mem_of_getElem?->vG,getElem?_eq_none->zM,pairwise_cons->tS,mem_cons_of_mem->yN,mem_cons->xL,mem_iff_getElem->vH,getElem_take->sE,getElem_drop->tH,take->xY,drop->wY,map_take->sU,take_succ_eq_append_getElem->zY,take_length->sT,filter_append->rT,filter_cons_of_neg->uG,length_filter_le->qX,getElem?_take_of_lt->tR,getD_eq_getElem?_getD->yZ,all_cons->yQ,getElem?_take_eq_none->rU,getElem?_replicate->wA
open Nat renaming zero_add->yE,add_sub_cancel->tD,strongRecOn->uI,le_refl->zH
set_option maxRecDepth 40000
namespace Go.Dn.F
open Go.Dn Go.Proofs
variable {N:Nat}
structure Nd where
 ch:List Zal
 ah:Int
 wk:Int
def h0:Zal:=⟨0,zB 32 0,zB 32 0,0,0,0⟩
def Nd.hd (n:Nd):Zal:=n.ch.getLast?.getD h0
def Nd.id (n:Nd):List Int:=hid n.hd
noncomputable def Nd.en (n:Nd):Zcr:=⟨n.hd,n.id,n.ah,(n.ch.length:Int)-1,nw n.wk⟩
noncomputable def Ziw (ns:List Nd):LL:=ns.map fun n=>n.en.ls
noncomputable def rowS (p:Zae) (ns:List Nd):LL:=ns.map fun n=>(ZdA p n.ch).ls
def Zkl:Nat->List (List Int)->LM
 | _,[]=>[]
 | i,x::l=>(zL .u8 32 x,zK .i64 (i:Int))::Zkl (i+1) l
def ids (ns:List Nd):List (List Int):=ns.map Nd.id
def Zfk:Nat->List (List Int)->List Int->Option Nat
 | _,[],_=>none
 | i,y::l,x=>if x=y then some i else Zfk (i+1) l x
def ZlI : ∀(l:List (List Int)) (i:Nat) (x:List Int),ZiT (Zkl i l) (zL .u8 32 x)=some ((Zfk i l x).map fun k=>(k-i,zK .i64 (k:Int)))
 | [],i,x=>rfl
 | y::l,i,x=>by
  rw [Zkl,ZiT];simp only [ZoG,and_self,if_true];unfold Zfk;by_cases h:x=y
  ·subst h;simp
  rw [show (x==y)=false by simpa using h,aE h,ZlI l (i+1) x];cases e:Zfk (i+1) l x with
  | none=>rfl
  | some k=>
   have : ∀(l:List (List Int)) (i k:Nat),Zfk i l x=some k->i<=k:=by
    intro l
    induction l with
    | nil=>intro i k h;cases h
    | cons z l ih=>
     intro i k h;unfold Zfk at h;split at h
     ·cases h;omega
     have:=ih _ _ h;omega
   have:=this l (i+1) k e;simp only [Option.map_some];rw [(aF:k-(i+1)+1=k-i)]
def Zlp : ∀(l:List (List Int)) (i:Nat) (x:List Int),Zkl i (l ++ [x])=Zkl i l ++ [(zL .u8 32 x,zK .i64 ((i+l.length:Nat):Int))]
 | [],i,x=>rfl
 | y::l,i,x=>by rw [List.cons_append,Zkl,Zlp l (i+1) x,Zkl,List.length_cons,(aF:i+1+l.length=i+(l.length+1))];rfl
def Zhi : ∀{l:List (List Int)} {i k:Nat} {x:List Int},Zfk i l x=some k->i<=k/\∃h:k-i<l.length,l[k-i]=x
 | y::l,i,k,x,h=>by
  unfold Zfk at h;split at h
  ·rename_i e;cases h;exact ⟨aF,by simp,by simp [e]⟩
  obtain ⟨h1,h2,h3⟩:=Zhi h;refine ⟨aF,by simp;omega,?_⟩;have:k-i=(k-(i+1))+1:=aF
  simp only [this,List.getElem_cons_succ];exact h3
def ZnI : ∀{l:List (List Int)} {i:Nat} {x:List Int},Zfk i l x=none->x∉l
 | [],_,_,_=>by simp
 | y::l,i,x,h=>by
  unfold Zfk at h;split at h
  ·cases h
  rename_i e;simp [e,ZnI h]
noncomputable def aOf (p:Zae) (room:Int) (ns:List Nd):ZaG:=⟨p,Ziw ns,rowS p ns,Zkl 0 (ids ns),room⟩
def ZlE {ns:List Nd} {i:Nat} (h:i<ns.length):(Ziw ns)[i]? = some ns[i].en.ls:=by simp [Ziw,h]
def rowS_get {p:Zae} {ns:List Nd} {i:Nat} (h:i<ns.length):(rowS p ns)[i]? = some (ZdA p ns[i].ch).ls:=by simp [rowS,h]
@[simp] def ZhC (ns:List Nd):len (Ziw ns)=(ns.length:Int):=by simp [len,Ziw]
@[simp] def len_rowS (p:Zae) (ns:List Nd):len (rowS p ns)=(ns.length:Int):=by simp [len,rowS]
structure ZhE (ns:List Nd):Prop where
 small:ns.length<=512
 ch : ∀n∈ns,n.ch ≠ []/\n.ch.length<=ns.length
 wf : ∀n∈ns,∀x∈n.ch,WfH x
 wk : ∀n∈ns,isN n.wk
 ah : ∀(i:Nat) (h:i<ns.length),(i=0/\ns[i].ah = -1/\ns[i].ch.length=1)\/∃(k:Nat) (hk:k<i),ns[i].ah=(k:Int)/\ns[i].ch=ns[k].ch ++ [ns[i].hd]
 one:(ids ns).Nodup
def Nd.hd_snoc {n:Nd} {c:List Zal} {h:Zal} (e:n.ch=c ++ [h]):n.hd=h:=by unfold Nd.hd;rw [e];simp
def Znw (p:Zae) (c:List Zal) (h:Zal):(ZdA p (c ++ [h])).Prev=hid h:=by
 unfold ZdA;rw [vW];rfl
def Zui {st:LL} {i:Nat} {p:Zae} {room:Int} {ns:List Nd} (hst:st[i]? = some (aOf p room ns).lo) (hl:ns.length<=512) (nd:Nd) (hid':Zfk 0 (ids ns) nd.id=none) :
  Zbg.p1 N (some i) (ZdA p nd.ch) nd.en st=some ((ns.length:Int),st.set i (aOf p room (ns ++ [nd])).lo):=by
 unfold Zbg.p1;have e1:(aOf p room ns).list ++ [nd.en.ls]=Ziw (ns ++ [nd]):=by show Ziw ns++_=_;simp [Ziw]
 have e2:(aOf p room ns).spots ++ [(ZdA p nd.ch).ls]=rowS p (ns ++ [nd]):=by show rowS p ns++_=_;simp [rowS]
 have e3:(aOf p room ns).places ++ [(zL .u8 32 nd.en.Id,zK .i64 (ns.length:Int))]=Zkl 0 (ids (ns ++ [nd])):=by
  show Zkl 0 (ids ns)++_=_;unfold ids;rw [List.map_append];show _=Zkl 0 (List.map Nd.id ns ++ [nd.id]);rw [Zlp,wJ,yE];rfl
 have l1:(Ziw (ns ++ [nd])).length=ns.length+1:=by simp [Ziw]
 have l2:(rowS p (ns ++ [nd])).length=ns.length+1:=by simp [rowS]
 rw [Zaa,hst,Zan,Zbv,e1,e2,Zag (by rw [l1];omega),Zag (by rw [l2];omega),show ZiT (aOf p room ns).places (zL .u8 32 nd.en.Id)=some none by
  show ZiT (Zkl 0 (ids ns)) (zL .u8 32 nd.id)=_;rw [ZlI,hid'];rfl]
 show some _=_;rw [ZhC,zU,yX,ZaK aF aF,(aF:((ns.length+1:Nat):Int)-1=(ns.length:Int)),e3];simp only [xJ];rfl
def keep_eq (hN:300<=N) {st:LL} {i:Nat} {p:Zae} {room:Int} {ns:List Nd} (hst:st[i]? = some (aOf p room ns).lo) (hl:ns.length<=512) {k:Nat} (hk:k<ns.length) (hw:isN ns[k].wk) (hlen:ns[k].ch.length<=600)
  {h:Zal} (nd:Nd) (hch:nd.ch=ns[k].ch ++ [h]) (hah:nd.ah=(k:Int)) (hwk:nd.wk=Znc ns[k].wk (Zhx h.Bits)) (hid':Zfk 0 (ids ns) (hid h)=none) :
  Zbg N (some i) h (k:Int) (ZdA p nd.ch) st=some ((ns.length:Int),st.set i (aOf p room (ns ++ [nd])).lo):=by
 have hd:=nd.hd_snoc hch;unfold Zbg;rw [Zjw hN,Zaa,aD aP,Zaa,hst,Zan,Zbv,show (aOf p room ns).list=Ziw ns from rfl,ZhC,Zag aF,Zag aF,zJ,yE,ZlE hk,Zan,ZfC,show (ns[k].en).Work=nw ns[k].wk from rfl,ZqE aF hw (Zji _),Zaa,show (ns[k].en).Height=(ns[k].ch.length:Int)-1 from rfl,ZaK aF aF];have e:Zcr.mk h (ZdA p nd.ch).Prev (k:Int) ((ns[k].ch.length:Int)-1+1) (nw (Znc ns[k].wk (Zhx h.Bits)))=nd.en:=by
  unfold Nd.en Nd.id;rw [hd,hch,Znw,hah,hwk,zU,yX]
  congr 1;omega
 rw [e];refine Zui hst hl nd ?_;unfold Nd.id;rw [hd];exact hid'
def keep0_eq (hN:300<=N) {st:LL} {i:Nat} {p:Zae} {room:Int} (hst:st[i]? = some (aOf p room []).lo) {h:Zal} (nd:Nd) (hch:nd.ch = [h]) (hah:nd.ah = -1) (hwk:nd.wk=Zhx h.Bits) :
  Zbg N (some i) h (-1) (ZdA p nd.ch) st=some (0,st.set i (aOf p room [nd]).lo):=by
 have hd:nd.hd=h:=nd.hd_snoc (c:=[]) hch;unfold Zbg;rw [Zjw hN,Zaa,aE aG];have e:Zcr.mk h (ZdA p nd.ch).Prev (-1) 0 (nw (Zhx h.Bits))=nd.en:=by
  unfold Nd.en Nd.id;rw [hd,hch,show (ZdA p [h]).Prev=hid h from Znw p [] h,hah,hwk];rfl
 rw [e];exact Zui (ns:=[]) hst aG nd rfl
def chAt (ns:List Nd) (k:Nat):List Zal:=(ns[k]?.map Nd.ch).getD []
def wkAt (ns:List Nd) (k:Nat):Int:=(ns[k]?.map Nd.wk).getD 0
def ZkW {ns:List Nd} {k:Nat} (h:k<ns.length):chAt ns k=ns[k].ch:=by simp [chAt,h]
def ZqF {ns:List Nd} {k:Nat} (h:k<ns.length):wkAt ns k=ns[k].wk:=by simp [wkAt,h]
def Zet (ns:List Nd) (k:Nat) (h:Zal):Nd:=⟨chAt ns k ++ [h],(k:Int),Znc (wkAt ns k) (Zhx h.Bits)⟩
def ZjL (p:Zae) (gs:List ZcQ) (cs:List Zcl) (room:Int) (ns:List Nd) (h:Zal) (now:Int):Int×Int×Int×List Nd:=
 if Zhd h=false then (-1,1,8,ns) else
 match Zfk 0 (ids ns) (hid h) with
 | some k=>((k:Int),0,0,ns)
 | none=>match Zfk 0 (ids ns) h.Prev with
  | none=>(-1,2,5,ns)
  | some k=>if ZfW p gs cs (ZdA p (chAt ns k)) h now≠0 then (-1,ZfW p gs cs (ZdA p (chAt ns k)) h now,8,ns)
   else if room<=(ns.length:Int) then (-1,0,6,ns) else ((ns.length:Int),0,0,ns ++ [Zet ns k h])
def Zgj {st:LL} {i:Nat} {x:List L} (h:st[i]? = some x):st.set i x=st:=by
 apply List.ext_getElem?;intro j;by_cases e:i=j
 ·subst e;obtain ⟨hi,e⟩:=zZ.1 h;rw [zP hi,h]
 rw [zO e]
def Zts (p:Zae) (c:List Zal):wfS (ZdA p c)=true:=by
 have h : ∀l:List Zal,∃ts:List Int,(ZdA p l).Times=Zec ts/\ts.length<=11:=by
  refine Zok ⟨[],rfl,by simp⟩ (fun l h ih=>?_);unfold ZdA at *;rw [vW];exact ⟨_,rfl,by simp;omega⟩
 obtain ⟨ts,h1,h2⟩:=h c;simp only [wfS,h1,isI_row,wT,decide_eq_true_eq,Zef];omega
def Add_eq (hN:500<=N) {st:LL} {i:Nat} {p:Zae} {gs:List ZcQ} {cs:List Zcl} (hg:p.Gates=ZmZ gs) (hc:p.Checks=ZjM cs) (lg:gs.length<=400) (lc:cs.length<=400) {room:Int} (hroom:room<=512) {ns:List Nd} (ht:ZhE ns) (hst:st[i]? = some (aOf p room ns).lo)
  {h:Zal} (hh:WfH h) (now:Int) (hnow : -1152921504606846976<=now/\now<=9223372036854775807) :
  ZaM N (some i) h now st=some ((ZjL p gs cs room ns h now).1,(ZjL p gs cs room ns h now).2.1,(ZjL p gs cs room ns h now).2.2.1,st.set i (aOf p room (ZjL p gs cs room ns h now).2.2.2).lo):=by
 have ss:=Zgj hst;unfold ZaM ZjL;rw [aE (c:=Option.isNone (some i)=true) aG,Zft,Zaa];cases hgd:Zhd h with
 | false=>rw [aD (by rfl),aD (c:=false=false) rfl];dsimp only;rw [ss]
 | true=>
  rw [aE (c:=(!true)=true) aG,aE (c:=true=false) aG,Zaa,hst,Zan,Zbv,Zhe hN hh.w,Zaa,show (aOf p room ns).places=Zkl 0 (ids ns) from rfl,ZlI];cases e1:Zfk 0 (ids ns) (hid h) with
  | some k=>
   show ZaM.p1 N i now (k:Int) true h st=_;unfold ZaM.p1;rw [aD rfl];dsimp only;rw [ss]
  | none=>
   show ZaM.p1 N i now 0 false h st=_;unfold ZaM.p1;rw [aE aG,hst,Zan,Zbv,show (aOf p room ns).places=Zkl 0 (ids ns) from rfl,ZlI];cases e2:Zfk 0 (ids ns) h.Prev with
   | none=>
    show ZaM.p2 N i now 0 false h st=_;unfold ZaM.p2;rw [aD (by rfl)];dsimp only;rw [ss]
   | some k=>
    show ZaM.p2 N i now (k:Int) true h st=_;obtain ⟨_,hk,_⟩:=Zhi e2;have hk':k<ns.length:=by simpa [ids] using hk
    have sw:=Zts p ns[k].ch;have isT:isI (ZdA p ns[k].ch).Times=true:=by simp only [wfS,Bool.and_eq_true] at sw;exact sw.1
    unfold ZaM.p2;dsimp only;rw [aE (c:=(!true)=true) aG,hst,Zan,Zbv,show (aOf p room ns).spots=rowS p ns from rfl,len_rowS,Zag aF,Zag aF,zJ,yE,rowS_get hk',Zan,ZlA,show (aOf p room ns).rules=p from rfl,Zof hN hg hc lg lc hh.w isT now hnow,Zaa,ZkW hk'];by_cases h4:ZfW p gs cs (ZdA p ns[k].ch) h now=0
    ·rw [aE (c:=(ZfW p gs cs (ZdA p ns[k].ch) h now != 0)=true) (by simp [h4]),aE (c:=ZfW p gs cs (ZdA p ns[k].ch) h now≠0) (by simp [h4]),show (aOf p room ns).list=Ziw ns from rfl,ZhC,show (aOf p room ns).room=room from rfl];by_cases h5:room<=(ns.length:Int)
     ·rw [aD (aR h5),aD h5];dsimp only;rw [ss]
     rw [aE (aR h5),aE h5,ZiH hN hh.w sw,Zaa];have be:Zgp p (ZdA p ns[k].ch) h=ZdA p (Zet ns k h).ch:=by
      unfold Zet ZdA;rw [ZkW hk',vW];rfl
     have hm:=yM hk';have sm:=ht.small;have cl:=(ht.ch _ hm).2;rw [be,keep_eq aF hst ht.small hk' (ht.wk _ hm) aF (Zet ns k h) (by unfold Zet;rw [ZkW hk']) rfl (by unfold Zet;rw [ZqF hk']) e1,Zaa]
    rw [aD (c:=(ZfW p gs cs (ZdA p ns[k].ch) h now != 0)=true) (aR h4),aD (c:=ZfW p gs cs (ZdA p ns[k].ch) h now≠0) h4];dsimp only;rw [ss]
noncomputable def Ziv (l:List (List Int)):LL:=l.map fun x=>[zL .u8 32 x]
noncomputable def ZtF (l:List Int):LL:=l.map fun x=>[zL .u64 4 (nw x)]
noncomputable def rOf (p:Zae) (room:Int) (ns:List Nd):Zad:=⟨p,ZkI (ns.map Nd.hd),Ziv (ids ns),Zec (ns.map Nd.ah),ZtF (ns.map Nd.wk),room⟩
def ZsD {l:List (List Int)} {i:Nat} (h:i<l.length):(Ziv l)[i]? = some [zL .u8 32 l[i]]:=by simp [Ziv,h]
def Zoi {l:List Int} {i:Nat} (h:i<l.length):(ZtF l)[i]? = some [zL .u64 4 (nw l[i])]:=by simp [ZtF,h]
@[simp] def ZsQ (l:List (List Int)):len (Ziv l)=(l.length:Int):=by simp [len,Ziv]
@[simp] def ZrU (l:List Int):len (ZtF l)=(l.length:Int):=by simp [len,ZtF]
@[simp] def ZoD (l:List Zal):len (ZkI l)=(l.length:Int):=by simp [len]
def ZsG (i:Nat) (y:List Int) (l:List (List Int)) (x:List Int):Zfk i (y::l) x=if x=y then some i else Zfk (i+1) l x:=rfl
def ZpM (o:Option Nat):Int:=match o with
 | some k=>(k:Int)
 | none=>-1
def Zkb {st:LL} {i:Nat} {p:Zae} {room:Int} {ns:List Nd} (hN:ns.length<N) (hl:ns.length<=512) (hst:st[i]? = some (rOf p room ns).lo) (x:List Int) :
  Zbj N (some i) x st=some (ZpM (Zfk 0 (ids ns) x),st):=by
 unfold Zbj;rw [Zaa,hst,Zan,Zcn];have li:(ids ns).length=ns.length:=by simp [ids]
 refine Zck (fun m (v:Int)=>∃k:Nat,k+m=ns.length/\v=(k:Int)/\Zfk 0 (ids ns) x=Zfk k ((ids ns).drop k) x) ?_ N ns.length 0 ⟨0,aF,rfl,by rw [vU]⟩ hN;rintro G m _ ⟨k,hk,rfl,hp⟩ hG;unfold Zbj.p1;rw [show (rOf p room ns).Ids=Ziv (ids ns) from rfl,ZsQ,li];by_cases hlt:k<ns.length
 ·have hk':k<(ids ns).length:=by omega
  rw [xC hk'] at hp;rw [ZsG] at hp;rw [aD aP,Zag aF,hst,Zan,Zcn,show (rOf p room ns).Ids=Ziv (ids ns) from rfl,zJ,yE,ZsD hk',Zan,Zls,ZaK aF aF];by_cases he:x=(ids ns)[k]
  ·rw [aD he] at hp;rw [aD (by simp [he]),hp];rfl
  rw [aE he] at hp;rw [aE (by simpa using fun e=>he e.symm)];exact hG (m-1) _ aF ⟨k+1,aF,aF,hp⟩
 rw [aE aP,hp,List.drop_of_length_le aF];rfl
def Zni {p:Zae} {room:Int} {ns:List Nd} (ht:ZhE ns) (hN:ns.length+2<=N) {k:Nat} (hk:k<ns.length):ZaX N (rOf p room ns) (k:Int)=some (ZkI (chAt ns k)):=by
 have sm:=ht.small;unfold ZaX;rw [ZkW hk];refine Zck (fun m (x:LL×Int)=>∃out:List Zal,x=(ZkI out,(m:Int)-1)/\m<=ns.length/\((m=0/\out=ns[k].ch)\/∃h:0<m/\m-1<ns.length,ns[m-1].ch++out=ns[k].ch)) ?_ N (k+1) _ ⟨[],by simp;rfl,aF,.inr ⟨⟨aF,aF⟩,by simp⟩⟩ aF;rintro G m _ ⟨out,rfl,hm,ho⟩ hG;unfold ZaX.p1;dsimp only;rcases ho with ⟨rfl,rfl⟩ | ⟨⟨h0,h1⟩,ho⟩
 ·rw [aE aG]
 obtain ⟨j,rfl⟩ : ∃j,m=j+1:=⟨m-1,aF⟩
 simp only [tD] at ho h1;have hj:j<(ns.map Nd.hd).length:=by simp;omega
 have hj2:j<(ns.map Nd.ah).length:=by simp;omega
 have cl:=congrArg List.length ho;rw [zU] at cl;have cb:=(ht.ch _ (yM hk)).2;rw [show (rOf p room ns).List_=ZkI (ns.map Nd.hd) from rfl,show (rOf p room ns).Ahead=Zec (ns.map Nd.ah) from rfl,(aF:((j+1:Nat):Int)-1=(j:Int)),aD aG,ZoD,ZeO,Zag aF,Zag aF,zJ,ZjV hj,Zan,Zfc,Zag (by rw [zU,Zmf];simp;omega),Zag aF,Zif hj2,Zan,Zeu,tC,tC];have e : [ns[j].hd.ls]++ZkI out=ZkI (ns[j].hd::out):=rfl;rw [e];have nl:=ht.ch _ (yM h1);rcases ht.ah j h1 with ⟨z,a,c⟩ | ⟨q,hq,a,c⟩
 ·have c1:ns[j].ch = [ns[j].hd]:=by
   unfold Nd.hd
   match hch:ns[j].ch,c with
   | [x],_=>rfl
  rw [a];rw [c1] at ho;exact hG 0 _ aF ⟨_,rfl,aF,.inl ⟨rfl,ho⟩⟩
 rw [a];rw [c,List.append_assoc] at ho;exact hG (q+1) _ aF ⟨_,by rw [(aF:((q+1:Nat):Int)-1=(q:Int))],aF,.inr ⟨⟨aF,aF⟩,by simpa using ho⟩⟩
def ZuO (p:Zae) (gs:List ZcQ) (cs:List Zcl) (s:ZaW) (h:Zal) (now:Int):0<=ZfW p gs cs s h now:=by
 unfold ZfW;repeat' split
 all_goals omega
def ZpI (hN:900<=N) {st:LL} {i:Nat} {p:Zae} {gs:List ZcQ} {cs:List Zcl} (hg:p.Gates=ZmZ gs) (hc:p.Checks=ZjM cs) (lg:gs.length<=400) (lc:cs.length<=400) {room:Int} (hroom:room<=512) {ns:List Nd} (ht:ZhE ns) (hlen:ns.length<=200) (hst:st[i]? = some (rOf p room ns).lo)
  {h:Zal} (hh:WfH h) (now:Int) (hnow:0<=now/\now<=9223372036854775807) :
  Zdt N (some i) h now st=some ((ZjL p gs cs room ns h now).1,(ZjL p gs cs room ns h now).2.1,(ZjL p gs cs room ns h now).2.2.1,st.set i (rOf p room (ZjL p gs cs room ns h now).2.2.2).lo):=by
 have ss:=Zgj hst;unfold Zdt ZjL;rw [Zjm,Zaa];cases hgd:Zhd h with
 | false=>rw [aD (by rfl),aD (c:=false=false) rfl];dsimp only;rw [ss]
 | true=>
  rw [aE (c:=(!true)=true) aG,aE (c:=true=false) aG,Zka aF h hh.w,Zaa,Zkb aF ht.small hst,Zaa];dsimp only;cases e1:Zfk 0 (ids ns) (hid h) with
  | some k=>
   rw [show ZpM (some k)=(k:Int) from rfl,aD aG];dsimp only;rw [ss]
  | none=>
   rw [show ZpM none = -1 from rfl,aE aG,Zkb aF ht.small hst,Zaa];dsimp only;cases e2:Zfk 0 (ids ns) h.Prev with
   | none=>
    rw [show ZpM none = -1 from rfl,aD aG];dsimp only;rw [ss]
   | some k=>
    obtain ⟨_,hk,_⟩:=Zhi e2;have hk':k<ns.length:=by simpa [ids] using hk
    have hm:=yM hk';have cl:=ht.ch _ hm;have c0:0<ns[k].ch.length:=List.length_pos_iff.2 cl.1;dsimp only;rw [show ZpM (some k)=(k:Int) from rfl,aE aP,Zaa,hst,Zan,Zcn,Zni ht aF hk',Zaa,ZkW hk',Zag (by simp [Zes,ZkI,Zal.ls,L.plain]),show (rOf p room ns).Rules=p from rfl,Znj hN hg lg hc lc ns[k].ch c0 aF (fun x hx=>(ht.wf _ hm x hx).w) hh.w now hnow,Zaa];have nn:=ZuO p gs cs (ZdA p ns[k].ch) h now;by_cases h4:ZfW p gs cs (ZdA p ns[k].ch) h now=0
    ·rw [aE (c:=decide (ZfW p gs cs (ZdA p ns[k].ch) h now>0)=true) aP,aE (c:=ZfW p gs cs (ZdA p ns[k].ch) h now≠0) (by simp [h4]),show (rOf p room ns).List_=ZkI (ns.map Nd.hd) from rfl,ZoD,wJ,show (rOf p room ns).Room=room from rfl];by_cases h5:room<=(ns.length:Int)
     ·rw [aD (aR h5),aD h5];dsimp only;rw [ss]
     have hd:=(Zet ns k h).hd_snoc rfl;have i1:ZkI (ns.map Nd.hd) ++ [h.ls]=ZkI ((ns ++ [Zet ns k h]).map Nd.hd):=by simp [ZkI,hd]
     have i2:Ziv (ids ns) ++ [[zL .u8 32 (hid h)]]=Ziv (ids (ns ++ [Zet ns k h])):=by simp [Ziv,ids,Nd.id,hd]
     have i3:ZtF (ns.map Nd.wk) ++ [[zL .u64 4 (nw (Znc ns[k].wk (Zhx h.Bits)))]]=ZtF ((ns ++ [Zet ns k h]).map Nd.wk):=by simp [ZtF,Zet,ZqF hk']
     have i4:Zec (ns.map Nd.ah) ++ [[zK .i64 (k:Int)]]=Zec ((ns ++ [Zet ns k h]).map Nd.ah):=by simp [Zec,Zet]
     have kw:k<(ns.map Nd.wk).length:=by simp;omega
     have sm:=ht.small;rw [aE (aR h5),aE h5,show (rOf p room ns).Ids=Ziv (ids ns) from rfl,show (rOf p room ns).Works=ZtF (ns.map Nd.wk) from rfl,show (rOf p room ns).Ahead=Zec (ns.map Nd.ah) from rfl,i1,i2,i4,Zag (by rw [Zmf,wJ,zU,yX];omega),Zag (by simp [Ziv,ids];omega),Zag aF,ZrU,Zag (by rw [wJ];omega),zJ,yE,Zoi kw,Zan,tC,Zqq,ZiN aF,Zaa,ZpJ aF (ht.wk _ hm) (Zji _),Zaa,i3,Zag (by simp [ZtF];omega),Zag (by rw [Zef,wJ,zU,yX];omega),ZoD,wJ,zU,yX,ZaK aF aF];simp only [xJ];rw [(aF:((ns.length+1:Nat):Int)-1=(ns.length:Int))];rfl
    rw [aD (c:=decide (ZfW p gs cs (ZdA p ns[k].ch) h now>0)=true) aP,aD (c:=ZfW p gs cs (ZdA p ns[k].ch) h now≠0) h4];dsimp only;rw [ss]
def ZhE.one_node {g:Zal} (hg:WfH g):ZhE [⟨[g],-1,Zhx g.Bits⟩] where
 small:=by simp
 ch:=fun n hn=>by cases yU.1 hn;simp
 wf:=fun n hn x hx=>by cases yU.1 hn;cases yU.1 hx;exact hg
 wk:=fun n hn=>by cases yU.1 hn;exact Zji _
 ah:=fun i h=>.inl ⟨by simpa using h,by simp at h;subst h;rfl,by simp at h;subst h;rfl⟩
 one:=by simp [ids]
def ZhE.grow {ns:List Nd} (ht:ZhE ns) {k:Nat} (hk:k<ns.length) {h:Zal} (hh:WfH h) (hs:ns.length<512) (hid':Zfk 0 (ids ns) (hid h)=none):ZhE (ns ++ [Zet ns k h]):=by
 have hm:=yM hk;have cl:=ht.ch _ hm;have hc:(Zet ns k h).ch=ns[k].ch ++ [h]:=by unfold Zet;rw [ZkW hk]
 have hd:=(Zet ns k h).hd_snoc rfl;refine ⟨by simp;omega,?_,?_,?_,?_,?_⟩
 ·intro n hn;rcases xA.1 hn with hn | hn
  ·have:=ht.ch n hn;exact ⟨this.1,by simp;omega⟩
  cases yU.1 hn;rw [hc];exact ⟨by simp,by simp;omega⟩
 ·intro n hn x hx;rcases xA.1 hn with hn | hn
  ·exact ht.wf n hn x hx
  cases yU.1 hn;rw [hc] at hx;rcases xA.1 hx with hx | hx
  ·exact ht.wf _ hm x hx
  cases yU.1 hx;exact hh
 ·intro n hn;rcases xA.1 hn with hn | hn
  ·exact ht.wk n hn
  cases yU.1 hn;unfold Zet;rw [ZqF hk];exact Ztj (ht.wk _ hm) (Zji _)
 ·intro i hi;by_cases hlt:i<ns.length
  ·rw [tQ hlt];rcases ht.ah i hlt with a | ⟨q,hq,a,b⟩
   ·exact .inl a
   exact .inr ⟨q,hq,a,by rw [tQ aF];exact b⟩
  have:i=ns.length:=by simp at hi;omega
  subst this;refine .inr ⟨k,hk,?_,?_⟩
  ·rw [rV aF];simp [Zet]
  rw [rV aF,tQ hk];simp only [Nat.sub_self,List.getElem_singleton];rw [hc,hd]
 have np:=ZnI hid';unfold ids at *;rw [List.map_append,List.nodup_append];refine ⟨ht.one,by simp,?_⟩;intro a ha b hb;simp only [List.map_cons,List.map_nil,yU] at hb;subst hb;intro e;unfold Nd.id at e;rw [hd] at e;exact np (by rw [<-e];exact ha)
def Zla (p:Zae) (gs:List ZcQ) (cs:List Zcl) (room:Int) (ns:List Nd) (h:Zal) (now:Int) :
  (ZjL p gs cs room ns h now).2.2.2=ns\/∃k:Nat,k<ns.length/\Zhd h=true/\Zfk 0 (ids ns) (hid h)=none/\ZfW p gs cs (ZdA p (chAt ns k)) h now=0/\(ns.length:Int)<room /\
   ZjL p gs cs room ns h now=((ns.length:Int),0,0,ns ++ [Zet ns k h]):=by
 unfold ZjL;by_cases hg:Zhd h=false
 ·rw [aD hg];exact .inl rfl
 rw [aE hg];cases e1:Zfk 0 (ids ns) (hid h) with
 | some k=>exact .inl rfl
 | none=>
  dsimp only;cases e2:Zfk 0 (ids ns) h.Prev with
  | none=>exact .inl rfl
  | some k=>
   dsimp only;obtain ⟨_,hk,_⟩:=Zhi e2;have hk':k<ns.length:=by simpa [ids] using hk
   by_cases h1:ZfW p gs cs (ZdA p (chAt ns k)) h now=0
   ·rw [aE (by simp [h1])];by_cases h2:room<=(ns.length:Int)
    ·rw [aD h2];exact .inl rfl
    rw [aE h2];exact .inr ⟨k,hk',by simpa using hg,rfl,h1,aF,rfl⟩
   rw [aD h1];exact .inl rfl
def Zvl {p:Zae} {gs:List ZcQ} {cs:List Zcl} {room:Int} (hr:room<=512) {ns:List Nd} (ht:ZhE ns) {h:Zal} (hh:WfH h) (now:Int):ZhE (ZjL p gs cs room ns h now).2.2.2:=by
 rcases Zla p gs cs room ns h now with e | ⟨k,hk,_,hi,_,hl,e⟩
 ·rw [e];exact ht
 rw [e];exact ht.grow hk hh aF hi
def addT_len (p:Zae) (gs:List ZcQ) (cs:List Zcl) (room:Int) (ns:List Nd) (h:Zal) (now:Int):ns.length<=(ZjL p gs cs room ns h now).2.2.2.length/\(ZjL p gs cs room ns h now).2.2.2.length<=ns.length+1:=by
 rcases Zla p gs cs room ns h now with e | ⟨k,hk,_,hi,_,hl,e⟩
 ·rw [e];omega
 rw [e];simp
def ZhP (room:Int):Int:=if (512:Int)<(if (1:Int)>room then 1 else room) then 512 else (if (1:Int)>room then 1 else room)
def ZjY (p:Zae):Nd:=⟨[p.Genesis],-1,Zhx p.Genesis.Bits⟩
def set_last (st:LL) (a b:List L):(st ++ [a]).set st.length b=st ++ [b]:=by simp
def New_eq (hN:500<=N) {p:Zae} {gs:List ZcQ} {cs:List Zcl} (hg:p.Gates=ZmZ gs) (hc:p.Checks=ZjM cs) (lg:gs.length<=400) (lc:cs.length<=400) (hp:WfP p) (room:Int) (st:LL) :
  Zfp N p room st=if Zmi p gs cs=true then some (some st.length,0,st ++ [(aOf p (ZhP room) [ZjY p]).lo]) else some (none,1,st):=by
 unfold Zfp;rw [Zpx hN hg lg hc lc,Zaa];cases hgd:Zmi p gs cs with
 | false=>rfl
 | true=>
  have pp:({p with Gates:=[]++p.Gates,Checks:=[]++p.Checks}:Zae)=p:=rfl;rw [aE (c:=(!true)=true) aG,pp,Zag (by rw [hg,List.nil_append,ZqR];omega),Zag (by rw [hc,List.nil_append,ZqS];omega),Znh hN hp.h.w,Zaa];have hst:(st ++ [(aOf p (ZhP room) []).lo])[st.length]? = some (aOf p (ZhP room) []).lo:=by simp
  have k:=keep0_eq (N:=N) aF hst (h:=p.Genesis) (ZjY p) rfl rfl rfl;rw [set_last] at k;rw [aD (c:=true=true) rfl];show Zbb (Zbg N (some st.length) p.Genesis (-1) (ZdA p (ZjY p).ch) (st ++ [(aOf p (ZhP room) []).lo])) _=_;rw [k,Zaa]
def ZpH (hN:900<=N) {p:Zae} (hp:WfP p) (room:Int) (st:LL):Zfg N p room st=some (some st.length,st ++ [(rOf p (ZhP room) [ZjY p]).lo]):=by
 unfold Zfg;rw [Zka aF _ hp.h.w,Zaa,ZiN aF,Zaa];rfl
def Zsv (p:Zae) (room:Int) (ns:List Nd):Zdm N (aOf p room ns)=some (ns.length:Int):=by
 unfold Zdm;rw [show (aOf p room ns).list=Ziw ns from rfl,ZhC]
def Zvt (p:Zae) (room:Int) {ns:List Nd} {k:Nat} (hk:k<ns.length):Zco N (aOf p room ns) (k:Int)=some (ns[k].en,true):=by
 unfold Zco ZbT;rw [show (aOf p room ns).list=Ziw ns from rfl,ZhC,aD aG,Zaa,aE aP,Zag aF,Zag aF,zJ,ZlE hk,Zan,ZfC]
def Zvs (p:Zae) (room:Int) {ns:List Nd} {k:Int} (hk:k<0\/(ns.length:Int)<=k):Zco N (aOf p room ns) k=some (Zcr.mk (Zal.mk 0 (zB 32 0) (zB 32 0) 0 0 0) (zB 32 0) (-1) 0 (zB 4 0),false):=by
 unfold Zco ZbT;rw [show (aOf p room ns).list=Ziw ns from rfl,ZhC];by_cases h:k>=0
 ·rw [aD (aR h),Zaa,aD aP]
 rw [aE (aR h),Zaa,aD (by rfl)]
end Go.Dn.F
set_option maxRecDepth 100000
namespace Go.Dn.F
open Go.Dn Go.Proofs
variable {N:Nat}
def pA:Zae:=⟨545259519,4,10,0,false,[],[],zB 4 0,zB 4 0,h0⟩
def h0_wf:WfH h0:=⟨by unfold ZoK h0;simp,by unfold wfH h0;decide,by unfold ZoK h0;simp,by unfold ZoK h0;simp,by unfold ZoK h0;simp⟩
def pA_wf:WfP pA where
 l:=by unfold ZoK pA;simp
 i:=by unfold ZoK pA;simp
 s:=by unfold ZoK pA;simp
 f:=by unfold ZoK pA;simp
 g:=by unfold pA;simp
 gl:=by unfold pA;simp
 c:=by unfold pA;simp
 cl:=by unfold pA;simp
 m:=by unfold pA;exact ⟨rfl,fun x hx=>by obtain ⟨_,rfl⟩:=List.mem_replicate.1 hx;decide⟩
 r:=by unfold pA;exact ⟨rfl,fun x hx=>by obtain ⟨_,rfl⟩:=List.mem_replicate.1 hx;decide⟩
 h:=h0_wf
end Go.Dn.F
set_option maxRecDepth 40000
namespace Go.Dn.F
open Go.Dn Go.Proofs
variable {N:Nat}
def Zte (ns:List Nd):Nat->Nat->List Nat
 | 0,k=>[k]
 | f+1,k=>match ns[k]? with
  | some n=>if n.ah<0 then [k] else Zte ns f n.ah.toNat ++ [k]
  | none=>[k]
def Zga (ns:List Nd) (k:Nat):List Nat:=Zte ns k k
def ZtJ {ns:List Nd} (ht:ZhE ns) : ∀(k f g:Nat),k<ns.length->k<=f->k<=g->Zte ns f k=Zte ns g k:=by
 intro k
 induction k using uI with
 | ind k ih=>
  intro f g hk hf hg;rcases ht.ah k hk with ⟨z,a,c⟩ | ⟨q,hq,a,c⟩
  ·have e : ∀f,Zte ns f k = [k]:=fun f=>by
    cases f with
    | zero=>rfl
    | succ f=>unfold Zte;rw [zQ hk];dsimp only;rw [a,aD aF]
   rw [e,e]
  obtain ⟨f,rfl⟩ : ∃x,f=x+1:=⟨f-1,aF⟩
  obtain ⟨g,rfl⟩ : ∃x,g=x+1:=⟨g-1,aF⟩
  unfold Zte;rw [zQ hk];dsimp only;rw [a,aE aF,aE aF,zJ,ih q hq f g aF aF aF]
def ZtG {ns:List Nd} {k:Nat} (hk:k<ns.length) (a:ns[k].ah = -1):Zga ns k = [k]:=by
 unfold Zga;cases k with
 | zero=>rfl
 | succ f=>unfold Zte;rw [zQ hk];dsimp only;rw [a,aD aF]
def ZpA {ns:List Nd} (ht:ZhE ns) {k q:Nat} (hk:k<ns.length) (hq:q<k) (a:ns[k].ah=(q:Int)):Zga ns k=Zga ns q ++ [k]:=by
 obtain ⟨f,rfl⟩ : ∃x,k=x+1:=⟨k-1,aF⟩
 unfold Zga;rw [Zte,zQ hk];dsimp only;rw [a,aE aF,zJ,ZtJ ht q f q aF aF aF]
def ZeX {ns:List Nd} (ht:ZhE ns) {k:Nat} (hk:k<ns.length) :
  (k=0/\ns[k].ah = -1/\Zga ns k = [k]/\ns[k].ch.length=1)\/∃q,q<k/\ns[k].ah=(q:Int)/\Zga ns k=Zga ns q ++ [k]/\∃hq:q<ns.length,ns[k].ch=ns[q].ch ++ [ns[k].hd]:=by
 rcases ht.ah k hk with ⟨z,a,c⟩ | ⟨q,hq,a,c⟩
 ·exact .inl ⟨z,a,ZtG hk a,c⟩
 exact .inr ⟨q,hq,a,ZpA ht hk hq a,aF,c⟩
def ZjT {ns:List Nd} (ht:ZhE ns) : ∀{k:Nat} (hk:k<ns.length),(Zga ns k).length=ns[k].ch.length:=by
 intro k
 induction k using uI with
 | ind k ih=>
  intro hk;rcases ZeX ht hk with ⟨z,a,e,c⟩ | ⟨q,hq,a,e,hq',c⟩
  ·rw [e,c];rfl
  rw [e,c,zU,zU,ih q hq hq'];rfl
def ZpB {ns:List Nd} (ht:ZhE ns) {k:Nat} (hk:k<ns.length):(Zga ns k)[(Zga ns k).length-1]? = some k:=by
 rcases ZeX ht hk with ⟨z,a,e,c⟩ | ⟨q,hq,a,e,hq',c⟩
 ·rw [e];rfl
 rw [e];simp
def ZqQ {ns:List Nd} (ht:ZhE ns) : ∀{k:Nat},k<ns.length->∀x∈Zga ns k,x<=k:=by
 intro k
 induction k using uI with
 | ind k ih=>
  intro hk x hx;rcases ZeX ht hk with ⟨z,a,e,c⟩ | ⟨q,hq,a,e,hq',c⟩
  ·rw [e] at hx;simp at hx;omega
  rw [e] at hx;rcases xA.1 hx with hx | hx
  ·have:=ih q hq hq' x hx;omega
  simp at hx;omega
def ZrF {ns:List Nd} (ht:ZhE ns) : ∀{k:Nat},k<ns.length->∀{h x:Nat},(Zga ns k)[h]? = some x->x<ns.length/\Zga ns x=(Zga ns k).take (h+1):=by
 intro k
 induction k using uI with
 | ind k ih=>
  intro hk h x hx;rcases ZeX ht hk with ⟨z,a,e,c⟩ | ⟨q,hq,a,e,hq',c⟩
  ·rw [e] at hx |-;cases h with
   | zero=>cases hx;exact ⟨hk,by rw [e];rfl⟩
   | succ h=>cases hx
  rw [e] at hx |-;by_cases hlt:h<(Zga ns q).length
  ·rw [zS hlt] at hx;obtain ⟨h1,h2⟩:=ih q hq hq' hx;exact ⟨h1,by rw [h2,vL aF]⟩
  rw [yA aF] at hx;have e0:h-(Zga ns q).length=0:=by
   cases e1:h-(Zga ns q).length with
   | zero=>rfl
   | succ n=>rw [e1] at hx;cases hx
  rw [e0] at hx;cases hx;exact ⟨hk,by rw [e,zW aH]⟩
def rowP_at {ns:List Nd} (ht:ZhE ns) {k h x:Nat} (hk:k<ns.length) (hx:(Zga ns k)[h]? = some x) : ∃h':x<ns.length,ns[x].ch.length=h+1:=by
 obtain ⟨h1,h2⟩:=ZrF ht hk hx;refine ⟨h1,?_⟩;have hl:h<(Zga ns k).length:=(zZ.1 hx).1;rw [<-ZjT ht h1,h2,List.length_take];omega
def ZrG {ns:List Nd} (ht:ZhE ns) {k x:Nat} (hk:k<ns.length) (hx:x∈Zga ns k) : ∃h':x<ns.length,(Zga ns k)[ns[x].ch.length-1]? = some x:=by
 obtain ⟨h,hx⟩:=qW.1 hx;obtain ⟨h1,h2⟩:=rowP_at ht hk hx;exact ⟨h1,by rw [h2];exact hx⟩
def ZtI (ns:List Nd) (nd:Nd) (ht:ZhE ns) : ∀(k f:Nat),k<ns.length->Zte (ns ++ [nd]) f k=Zte ns f k:=by
 intro k
 induction k using uI with
 | ind k ih=>
  intro f hk;cases f with
  | zero=>rfl
  | succ f=>
   unfold Zte;rw [zS hk,zQ hk];dsimp only;rcases ht.ah k hk with ⟨z,a,c⟩ | ⟨q,hq,a,c⟩
   ·rw [a,aD aF,aD aF]
   rw [a,aE aF,aE aF,zJ,ih q hq f aF]
def ZiJ {ns:List Nd} (nd:Nd) (ht:ZhE ns) {k:Nat} (hk:k<ns.length):Zga (ns ++ [nd]) k=Zga ns k:=ZtI ns nd ht k k hk
def ZtY (l:List Nat):List Int:=l.map (fun x:Nat=>(x:Int))
def ZiM {p:Zae} {room:Int} {ns:List Nd} (ht:ZhE ns) (hN:ns.length+2<=N) {k:Nat} (hk:k<ns.length):ZaP N (rOf p room ns) (k:Int)=some (Zec (ZtY (Zga ns k))):=by
 have sm:=ht.small;unfold ZaP;have lk:=ZjT ht hk;have cb:=(ht.ch _ (yM hk)).2;have key:loopN (ZaP.p1 N (rOf p room ns)) N ([],(k:Int))=some (Zec (ZtY (Zga ns k))):=by
  refine Zck (fun m (s:LL×Int)=>∃(q:Nat) (c:List Nat),q=m/\s=(Zec (ZtY c),(q:Int)-1)/\((q=0/\c=Zga ns k)\/∃h:0<q/\q-1<ns.length,Zga ns (q-1)++c=Zga ns k)) ?_ N (k+1) _ ⟨k+1,[],rfl,by rw [(aF:((k+1:Nat):Int)-1=(k:Int))];rfl,.inr ⟨⟨aF,aF⟩,by simp⟩⟩ aF;rintro G m _ ⟨q,c,rfl,rfl,ho⟩ hG;unfold ZaP.p1;dsimp only;rcases ho with ⟨rfl,rfl⟩ | ⟨⟨h0,h1⟩,ho⟩
  ·rw [aE aG]
  obtain ⟨j,rfl⟩ : ∃j,q=j+1:=⟨q-1,aF⟩
  simp only [tD] at ho h1;have hj2:j<(ns.map Nd.ah).length:=by simp;omega
  have lo:=congrArg List.length ho;rw [zU,lk] at lo;have e1 : [(j:Int)]++ZtY c=ZtY (j::c):=rfl;rw [show (rOf p room ns).Ahead=Zec (ns.map Nd.ah) from rfl,(aF:((j+1:Nat):Int)-1=(j:Int)),aD aG,ZlD,Zig,e1,Zag (by rw [Zef];simp [ZtY];omega),Zag aF,ZeO,Zag aF,zJ,Zif hj2,Zan,Zeu,tC];rcases ZeX ht h1 with ⟨z,a,e,cl⟩ | ⟨q,hq,a,e,hq',cl⟩
  ·rw [a];exact hG 0 _ aF ⟨0,_,rfl,rfl,.inl ⟨rfl,by rw [<-ho,e];rfl⟩⟩
  rw [a];exact hG (q+1) _ aF ⟨q+1,_,rfl,by rw [(aF:((q+1:Nat):Int)-1=(q:Int))],.inr ⟨⟨aF,by simp;omega⟩,by simp only [tD];rw [<-ho,e];simp⟩⟩
 exact key
noncomputable def tOf (p:Zae) (room:Int) (ns:List Nd) (lp:List Int):Zat:=⟨aOf p room ns,Zec lp⟩
structure Ztd (ns:List Nd) (lp:List Int):Prop where
 len:lp.length<=ns.length
 ok : ∀(i:Nat) (v:Int),lp[i]? = some v->v = -1\/∃x:Nat,v=(x:Int)/\x≠i/\x∈Zga ns i
def hZ (ns:List Nd) (k:Int):Int:=if 0<=k/\k<(ns.length:Int) then ((ns[k.toNat]?.map Nd.ch).getD []).length-1 else -1
def Zuw {ns:List Nd} {k:Nat} (hk:k<ns.length):hZ ns (k:Int)=(ns[k].ch.length:Int)-1:=by
 unfold hZ;rw [aD aF,zJ,zQ hk];rfl
def Zuv {ns:List Nd} {k:Int} (hk:k<0\/(ns.length:Int)<=k):hZ ns k = -1:=by
 unfold hZ;rw [aE aF]
def Zoe (p:Zae) (room:Int) {ns:List Nd} (lp:List Int) {k:Nat} (hk:k<ns.length):ZbU N (tOf p room ns lp) (k:Int)=some (ns[k].en,true):=by
 unfold ZbU;rw [show (tOf p room ns lp).store=aOf p room ns from rfl,Zvt p room hk,Zaa]
def Ztu (p:Zae) (room:Int) {ns:List Nd} (lp:List Int) {k:Int} (hk:k<0\/(ns.length:Int)<=k) : ∃e,ZbU N (tOf p room ns lp) k=some (e,false):=by
 unfold ZbU;rw [show (tOf p room ns lp).store=aOf p room ns from rfl,Zvs p room hk,Zaa];exact ⟨_,rfl⟩
def Zkn (p:Zae) (room:Int) (ns:List Nd) (lp:List Int) (k:Int):Zbo N (tOf p room ns lp) k=some (hZ ns k):=by
 unfold Zbo;by_cases h:0<=k/\k<(ns.length:Int)
 ·obtain ⟨j,rfl⟩ : ∃j:Nat,k=(j:Int):=⟨k.toNat,aF⟩
  have hj:j<ns.length:=aF
  rw [Zoe p room lp hj,Zaa];dsimp only;rw [aE aG,Zuw hj];rfl
 obtain ⟨e,h1⟩:=Ztu (N:=N) p room (ns:=ns) lp (k:=k) aF;rw [h1,Zaa];dsimp only;rw [aD (by rfl),Zuv aF]
def ancZ (ns:List Nd) (k h:Int):Int:=if 0<=k/\k<(ns.length:Int)/\0<=h then ((Zga ns k.toNat)[h.toNat]?.map fun (x:Nat)=>(x:Int)).getD (-1) else -1
def ancZ_at {ns:List Nd} {k h x:Nat} (hk:k<ns.length) (hx:(Zga ns k)[h]? = some x):ancZ ns (k:Int) (h:Int)=(x:Int):=by
 unfold ancZ;rw [aD aF,zJ,zJ,hx];rfl
def Zpy {ns:List Nd} (ht:ZhE ns) {k x y:Nat} (hk:k<ns.length) (hx:x∈Zga ns k) (hy:y∈Zga ns x):y∈Zga ns k:=by
 obtain ⟨h,hx⟩:=qW.1 hx;obtain ⟨_,e⟩:=ZrF ht hk hx;rw [e] at hy;exact List.mem_of_mem_take hy
def row_lt {ns:List Nd} (ht:ZhE ns) {x y:Nat} (hx:x<ns.length) (hy:y∈Zga ns x) (hne:y≠x) : ∃h:y<ns.length,ns[y].ch.length<ns[x].ch.length:=by
 obtain ⟨h,e⟩:=ZrG ht hx hy;refine ⟨h,?_⟩;have hl:=(zZ.1 e).1;have ll:=ZpB ht hx;have e2:=ZjT ht hx;have p1:=List.length_pos_iff.2 (ht.ch _ (yM h)).1;rcases Nat.lt_or_ge ns[y].ch.length ns[x].ch.length with h3 | h3
 ·exact h3
 rw [(aF:ns[y].ch.length-1=(Zga ns x).length-1),ll] at e;cases e;exact absurd rfl hne
def Zoh {ns:List Nd} (ht:ZhE ns) {k:Nat} (hk:k<ns.length):k∈Zga ns k:=vG (ZpB ht hk)
def ZtE {ns:List Nd} (ht:ZhE ns) {k q:Nat} (hk:k<ns.length) (hq:q<k) (e:Zga ns k=Zga ns q ++ [k]):q∈Zga ns k:=by
 rw [e];exact xA.2 (.inl (Zoh ht aF))
def Zrt (hN:600<=N) {p:Zae} {room:Int} {ns:List Nd} {lp:List Int} (ht:ZhE ns) (hl:Ztd ns lp) (k h:Int) (hb:k<(lp.length:Int)\/ns.length<=lp.length):ZaA N (tOf p room ns lp) k h=some (ancZ ns k h):=by
 have sm:=ht.small;unfold ZaA;rw [Zkn,Zaa];by_cases h0:h<0
 ·rw [aD (aR h0)];unfold ancZ;rw [aE aF]
 rw [aE (aR h0)];by_cases hk0:k<0\/(ns.length:Int)<=k
 ·rw [Zuv aF,aD aH];unfold ancZ;rw [aE aF]
 obtain ⟨k,rfl⟩ : ∃j:Nat,k=(j:Int):=⟨k.toNat,aF⟩
 obtain ⟨h,rfl⟩ : ∃j:Nat,h=(j:Int):=⟨h.toNat,aF⟩
 have hk:k<ns.length:=aF
 have lk:=ZjT ht hk;have lb:=(ht.ch _ (yM hk)).2;rw [Zuw hk];by_cases h1:(h:Int)>(ns[k].ch.length:Int)-1
 ·rw [aD (aR h1)];unfold ancZ;rw [aD aF,zJ,zJ,zM aF];rfl
 rw [aE (aR h1)];have hh:h<(Zga ns k).length:=aF
 obtain ⟨t,et⟩ : ∃t,(Zga ns k)[h]? = some t:=⟨_,zQ hh⟩
 rw [ancZ_at hk et];refine Zck (fun m (s:Int×Int)=>∃(x:Nat) (hx:x<ns.length),m=ns[x].ch.length/\s=((x:Int),(ns[x].ch.length:Int)-1)/\x∈Zga ns k/\h+1<=ns[x].ch.length) ?_ N ns[k].ch.length _ ⟨k,hk,rfl,rfl,Zoh ht hk,aF⟩ aF;rintro G m _ ⟨x,hx,rfl,rfl,hm,hle⟩ hG;unfold ZaA.p1 ZaA.p2;dsimp only;by_cases hgt:(ns[x].ch.length:Int)-1>(h:Int)
 ·have hx2:x<lp.length:=by
   have:=ZqQ ht hk x hm;omega
  rw [aD (aR hgt),Zoe p room lp hx,Zaa];dsimp only;rw [show (tOf p room ns lp).leaps=Zec lp from rfl,Zag aF,ZeO,Zag aF,zJ,Zif hx2,Zan,Zeu,show (ns[x].en).Ahead=ns[x].ah from rfl];rcases ZeX ht hx with ⟨z,a,e,c⟩ | ⟨q,hq,a,e,hq',c⟩
  ·omega
  have cl:=congrArg List.length c;rw [zU,yX] at cl;have toq:G ((q:Int),(ns[q].ch.length:Int)-1)=some (t:Int):=hG ns[q].ch.length _ aF ⟨q,hq',rfl,rfl,Zpy ht hk hm (ZtE ht hx hq e),aF⟩;rcases hl.ok x lp[x] (zQ hx2) with v | ⟨y,v,hne,hy⟩
  ·rw [v,aE aG,a,Zkn,Zaa,Zuw hq'];exact toq
  obtain ⟨hy',hyl⟩:=row_lt ht hx hy hne;rw [v,aD aP,Zkn,Zaa,Zuw hy'];by_cases h3:(ns[y].ch.length:Int)-1>=(h:Int)
  ·rw [aD (aR h3),Zaa];exact hG ns[y].ch.length _ hyl ⟨y,hy',rfl,rfl,Zpy ht hk hm hy,aF⟩
  rw [aE (aR h3),a,Zkn,Zaa,Zuw hq'];exact toq
 obtain ⟨h3,e3⟩:=ZrG ht hk hm;rw [(aF:ns[x].ch.length-1=h),et] at e3;cases e3;rw [aE (aR hgt)]
end Go.Dn.F
set_option maxRecDepth 100000
namespace Go.Dn.F
open Go.Dn Go.Proofs
variable {N:Nat}
end Go.Dn.F
set_option maxRecDepth 40000
namespace Go.Dn.F
open Go.Dn Go.Proofs
variable {N:Nat}
noncomputable def Zhn (ia:Nat) (lp:List Int):List L:=[zN (some ia),L.own true 1 (Zec lp)]
structure Zgr (st:LL) (ia it:Nat) (p:Zae) (room:Int) (ns:List Nd) (lp:List Int):Prop where
 a:st[ia]? = some (aOf p room ns).lo
 t:st[it]? = some (Zhn ia lp)
 ne:ia≠it
 lv:Ztd ns lp
 len:lp.length=ns.length
 tr:ZhE ns
def skH_eq (h:Int) : ∃x,ZeK N h=some x:=by
 unfold ZeK Zer;by_cases h1:h<2
 ·rw [aD (aR h1)];exact ⟨_,rfl⟩
 rw [aE (aR h1)];by_cases h2:ZaI .and .i64 h 1=0
 ·rw [aD (aR h2)];exact ⟨_,rfl⟩
 rw [aE (aR h2)];exact ⟨_,rfl⟩
def Ztb (p:Zae) (gs:List ZcQ) (cs:List Zcl) (room:Int) (ns:List Nd) (h:Zal) (now:Int) :
  ((ZjL p gs cs room ns h now).2.2.2=ns/\((ZjL p gs cs room ns h now).2.2.1≠0\/∃k:Nat,k<ns.length/\(ZjL p gs cs room ns h now).1=(k:Int)))\/∃k:Nat,k<ns.length/\Zfk 0 (ids ns) (hid h)=none/\(ns.length:Int)<room /\
   ZjL p gs cs room ns h now=((ns.length:Int),0,0,ns ++ [Zet ns k h]):=by
 unfold ZjL;by_cases hg:Zhd h=false
 ·rw [aD hg];exact .inl ⟨rfl,.inl aG⟩
 rw [aE hg];cases e1:Zfk 0 (ids ns) (hid h) with
 | some k=>
  obtain ⟨_,hk,_⟩:=Zhi e1;have hk':k<ns.length:=by simpa [ids] using hk
  exact .inl ⟨rfl,.inr ⟨k,hk',rfl⟩⟩
 | none=>
  dsimp only;cases e2:Zfk 0 (ids ns) h.Prev with
  | none=>exact .inl ⟨rfl,.inl aG⟩
  | some k=>
   dsimp only;obtain ⟨_,hk,_⟩:=Zhi e2;have hk':k<ns.length:=by simpa [ids] using hk
   by_cases h1:ZfW p gs cs (ZdA p (chAt ns k)) h now=0
   ·rw [aE (by simp [h1])];by_cases h2:room<=(ns.length:Int)
    ·rw [aD h2];exact .inl ⟨rfl,.inl aG⟩
    rw [aE h2];exact .inr ⟨k,hk',rfl,aF,rfl⟩
   rw [aD h1];exact .inl ⟨rfl,.inl aG⟩
def Ztd.grow {ns:List Nd} {lp:List Int} (ht:ZhE ns) (hl:Ztd ns lp) (hlen:lp.length=ns.length) {nd:Nd} (ht':ZhE (ns ++ [nd])) {k:Nat} (hk:k<ns.length) (ha:nd.ah=(k:Int)) (h:Int):Ztd (ns ++ [nd]) (lp ++ [ancZ (ns ++ [nd]) (k:Int) h]) where
 len:=by simp [hlen]
 ok:=fun i v hv=>by
  by_cases hi:i<lp.length
  ·rw [zS hi] at hv;rcases hl.ok i v hv with h1 | ⟨x,h1,h2,h3⟩
   ·exact .inl h1
   exact .inr ⟨x,h1,h2,by rw [ZiJ nd ht aF];exact h3⟩
  have e0:i=ns.length:=by
   have:=(zZ.1 hv).1;simp at this;omega
  subst e0;rw [yA aF,hlen,Nat.sub_self] at hv;cases hv;have hn:ns.length<(ns ++ [nd]).length:=by simp
  have ea:(ns ++ [nd])[ns.length].ah=(k:Int):=by simpa using ha
  rw [ZpA ht' hn hk ea,ZiJ nd ht hk];unfold ancZ;by_cases hc:0<=(k:Int)/\(k:Int)<((ns ++ [nd]).length:Int)/\0<=h
  ·rw [aD hc,zJ,ZiJ nd ht hk];cases e:(Zga ns k)[h.toNat]? with
   | none=>exact .inl rfl
   | some y=>
    have hy:=vG e;have:=ZqQ ht hk y hy;exact .inr ⟨y,rfl,aF,xA.2 (.inl hy)⟩
  rw [aE hc];exact .inl rfl
def skAdd_eq (hN:600<=N) {st:LL} {ia it:Nat} {p:Zae} {gs:List ZcQ} {cs:List Zcl} (hg:p.Gates=ZmZ gs) (hc:p.Checks=ZjM cs) (lg:gs.length<=400) (lc:cs.length<=400) {room:Int} (hroom:room<=512) {ns:List Nd} {lp:List Int} (T:Zgr st ia it p room ns lp)
  {h:Zal} (hh:WfH h) (now:Int) (hnow : -1152921504606846976<=now/\now<=9223372036854775807) :
  ∃lp' st',Zcf N (some it) h now st=some ((ZjL p gs cs room ns h now).1,(ZjL p gs cs room ns h now).2.1,(ZjL p gs cs room ns h now).2.2.1,st')/\Zgr st' ia it p room (ZjL p gs cs room ns h now).2.2.2 lp'/\(∀j,j≠ia->j≠it->st'[j]? = st[j]?):=by
 have ht':=Zvl (p:=p) (gs:=gs) (cs:=cs) hroom T.tr hh now;unfold Zcf Zcf.p1;rw [aE (c:=Option.isNone (some it)=true) aG,Zaa,T.t,Zan];unfold Zhn;rw [ZcA,Add_eq aF hg hc lg lc hroom T.tr T.a hh now hnow,Zaa];dsimp only;rcases Ztb p gs cs room ns h now with ⟨e,e1⟩ | ⟨k,hk,hpl,hlr,e⟩
 ·rw [e,Zgj T.a];refine ⟨lp,st,?_,T,fun j _ _=>rfl⟩;by_cases h6:(ZjL p gs cs room ns h now).2.2.1=0
  ·rcases e1 with e1 | ⟨k,hk,e1⟩
   ·exact absurd h6 e1
   rw [aD (aR h6),T.t,Zan];unfold Zhn;rw [ZcA,aE (by rw [e1,ZeO,T.len];simp;omega)]
  rw [aE (aR h6)]
 rw [e] at ht' |-;dsimp only at ht' |-;have t2:(st.set ia (aOf p room (ns ++ [Zet ns k h])).lo)[it]? = some (Zhn ia lp):=by
  rw [zO T.ne];exact T.t
 have a2:(st.set ia (aOf p room (ns ++ [Zet ns k h])).lo)[ia]? = some (aOf p room (ns ++ [Zet ns k h])).lo:=zP (zZ.1 T.a).1;have hit:=(zZ.1 t2).1;have hn:ns.length<(ns ++ [Zet ns k h]).length:=by simp
 have en:(ns ++ [Zet ns k h])[ns.length]=Zet ns k h:=by simp
 obtain ⟨hx,eh⟩:=skH_eq (N:=N) ((ns ++ [Zet ns k h])[ns.length].en).Height;have lv:Ztd (ns ++ [Zet ns k h]) lp:=⟨by rw [T.len];simp,fun i v hv=>by
  have hi:=(zZ.1 hv).1;rcases T.lv.ok i v hv with h1 | ⟨x,h1,h2,h3⟩
  ·exact .inl h1
  exact .inr ⟨x,h1,h2,by rw [ZiJ _ T.tr (by rw [<-T.len];exact hi)];exact h3⟩⟩
 have sm:=T.tr.small;rw [aD (by rfl),t2,Zan];unfold Zhn;rw [ZcA,aD (by rw [ZeO,T.len];simp),Zaa,a2,Zan,Zbv,Zvt p room hn,Zaa];dsimp only;rw [eh,Zaa,show ((ns ++ [Zet ns k h])[ns.length].en).Ahead=(ns ++ [Zet ns k h])[ns.length].ah from rfl,en,show (Zet ns k h).ah=(k:Int) from rfl,show (Zat.mk (aOf p room (ns ++ [Zet ns k h])) (Zec lp))=tOf p room (ns ++ [Zet ns k h]) lp from rfl,Zrt hN ht' lv _ _ (.inl (by rw [T.len];omega)),Zaa,ZlD,Zig,Zag (by rw [Zef,zU,yX,T.len];omega),xJ];refine ⟨_,_,rfl,⟨?_,?_,T.ne,T.lv.grow T.tr T.len ht' hk rfl hx,by simp [T.len],ht'⟩,fun j h1 h2=>?_⟩
 ·rw [zO (Ne.symm T.ne)];exact a2
 ·exact zP hit
 rw [zO (Ne.symm h2),zO (Ne.symm h1)]
def skNew_eq (hN:500<=N) {p:Zae} {gs:List ZcQ} {cs:List Zcl} (hg:p.Gates=ZmZ gs) (hc:p.Checks=ZjM cs) (lg:gs.length<=400) (lc:cs.length<=400) (hp:WfP p) (room:Int) (st:LL) :
  ZfX N p room st=if Zmi p gs cs=true then some (some (st.length+1),0,(st ++ [(aOf p (ZhP room) [ZjY p]).lo]) ++ [Zhn st.length [-1]]) else some (none,1,st):=by
 unfold ZfX;rw [New_eq hN hg hc lg lc hp];cases Zmi p gs cs with
 | false=>rfl
 | true=>
  rw [aD rfl,Zaa,aD (c:=true=true) rfl];dsimp only;rw [aE aG,zU,yX];rfl
def skNew_at {p:Zae} (hp:WfP p) (room:Int) (st:LL):Zgr ((st ++ [(aOf p room [ZjY p]).lo]) ++ [Zhn st.length [-1]]) st.length (st.length+1) p room [ZjY p] [-1] where
 a:=by rw [zS aG];simp
 t:=by rw [yA aG];simp
 ne:=aF
 lv:=⟨by simp,fun i v hv=>by
  cases i with
  | zero=>cases hv;exact .inl rfl
  | succ i=>cases hv⟩
 len:=rfl
 tr:=ZhE.one_node hp.h
def Zgr.app {st:LL} {ia it:Nat} {p:Zae} {room:Int} {ns:List Nd} {lp:List Int} (T:Zgr st ia it p room ns lp) (x:LL):Zgr (st++x) ia it p room ns lp where
 a:=by rw [zS (zZ.1 T.a).1];exact T.a
 t:=by rw [zS (zZ.1 T.t).1];exact T.t
 ne:=T.ne
 lv:=T.lv
 len:=T.len
 tr:=T.tr
end Go.Dn.F
set_option maxRecDepth 100000
namespace Go.Dn.F
open Go.Dn Go.Proofs
variable {N:Nat}
def Zfl {α:Type} (x:Int) (k:Int->Option α):Zdv [zK .i64 x] k=k x:=rfl
def hvT (ns:List Nd) (x y:Nat):Bool:=
 match ns[x]?,ns[y]? with
 | some a,some b=>decide (b.wk<a.wk)||(a.wk==b.wk&&decide (x<y))
 | _,_=>false
def ZrZ (p:Zae) (room:Int) (ns:List Nd) (k:Int):ZbT N (aOf p room ns) k=some (decide (0<=k/\k<(ns.length:Int))):=by
 unfold ZbT;rw [show (aOf p room ns).list=Ziw ns from rfl,ZhC];by_cases h:k>=0
 ·rw [aD (aR h)];congr 1;simp;omega
 rw [aE (aR h),decide_eq_false aF]
def Zsd {ns:List Nd} {x y:Nat} (hx:x<ns.length) (hy:y<ns.length):hvT ns x y=(decide (ns[y].wk<ns[x].wk)||(ns[x].wk==ns[y].wk&&decide (x<y))):=by
 unfold hvT;rw [zQ hx,zQ hy]
def Zko (hN:10<=N) (p:Zae) (room:Int) {ns:List Nd} (lp:List Int) (ht:ZhE ns) {a b:Nat} (ha:a<ns.length) (hb:b<ns.length):ZbE N (tOf p room ns lp) (a:Int) (b:Int)=some (hvT ns a b):=by
 unfold ZbE Zcd;rw [show (tOf p room ns lp).store=aOf p room ns from rfl,ZrZ,Zaa];rw [aE aH,ZrZ,Zaa,aE aH];rw [show (aOf p room ns).list=Ziw ns from rfl,ZhC,Zag aF,Zag aF,zJ,ZlE ha,Zan,ZfC,Zag aF,Zag aF,zJ,ZlE hb,Zan,ZfC,show (ns[a].en).Work=nw ns[a].wk from rfl,show (ns[b].en).Work=nw ns[b].wk from rfl,Zir hN (ht.wk _ (yM ha)) (ht.wk _ (yM hb)),Zaa,Zsd ha hb];unfold cmp;by_cases h1:ns[a].wk<ns[b].wk
 ·rw [aD h1,aE aG,aE aG];have e1 : ¬ ns[b].wk<ns[a].wk:=by omega
  have e2:ns[a].wk≠ns[b].wk:=aF
  simp [e1,e2]
 rw [aE h1];by_cases h2:ns[b].wk<ns[a].wk
 ·rw [aD h2,aD aG];simp [h2]
 rw [aE h2,aE aG,aD aG];have e2:ns[a].wk=ns[b].wk:=aF
 simp [h2,e2]
def ZkT {ns:List Nd} {x y:Nat} (hx:x<ns.length) (hy:y<ns.length):hvT ns x y=true↔ns[y].wk<ns[x].wk\/(ns[x].wk=ns[y].wk/\x<y):=by
 rw [Zsd hx hy];simp
def Zut {ns:List Nd} {x y:Nat} (h:hvT ns x y=true):x<ns.length/\y<ns.length:=by
 unfold hvT at h;split at h
 ·rename_i a b h1 h2;exact ⟨(zZ.1 h1).1,(zZ.1 h2).1⟩
 cases h
def Zkm {ns:List Nd} {x y z:Nat} (h1:hvT ns x y=true) (h2:hvT ns y z=true):hvT ns x z=true:=by
 obtain ⟨hx,hy⟩:=Zut h1;obtain ⟨_,hz⟩:=Zut h2;rw [ZkT hx hy] at h1;rw [ZkT hy hz] at h2;rw [ZkT hx hz];omega
def Zus {ns:List Nd} {x y:Nat} (hx:x<ns.length) (hy:y<ns.length) (hne:x≠y) (h:hvT ns x y=false):hvT ns y x=true:=by
 have h1 : ¬ (hvT ns x y=true):=by rw [h];simp
 rw [ZkT hx hy] at h1;rw [ZkT hy hx];omega
def ZjH (ns:List Nd) (x:Nat):hvT ns x x=false:=by
 cases h:hvT ns x x with
 | false=>rfl
 | true=>
  obtain ⟨hx,_⟩:=Zut h;rw [ZkT hx hx] at h;omega
def hvT_asym {ns:List Nd} {x y:Nat} (h:hvT ns x y=true):hvT ns y x=false:=by
 cases h2:hvT ns y x with
 | false=>rfl
 | true=>have:=Zkm h h2;rw [ZjH] at this;cases this
def ZjS (ns:List Nd) (l:List Nat):Prop:=l.Pairwise (fun a b=>hvT ns a b=true)/\∀x∈l,x<ns.length
def ZlX {ns:List Nd} {l:List Nat} (h:ZjS ns l) {i j:Nat} (hi:i<l.length) (hj:j<l.length) (hij:i<j):hvT ns l[i] l[j]=true:=List.pairwise_iff_getElem.1 h.1 i j hi hj hij
def ZjR {ns:List Nd} {a:Nat} {l:List Nat} (h:ZjS ns (a::l)):(∀x∈l,hvT ns a x=true)/\ZjS ns l:=⟨(tS.1 h.1).1,(tS.1 h.1).2,fun x hx=>h.2 x (yN _ hx)⟩
def Ztr {ns:List Nd} {a:Nat} {l:List Nat} (h:ZjS ns (a::l)):a∉l:=fun h2=>by
 have:=(ZjR h).1 a h2;rw [ZjH] at this;cases this
def Zod {ns:List Nd} : ∀{l m:List Nat},ZjS ns l->ZjS ns m->(∀x,x∈l↔x∈m)->l=m
 | [],[],_,_,_=>rfl
 | [],b::m,_,_,h=>by have:=(h b).2 aG;cases this
 | a::l,[],_,_,h=>by have:=(h a).1 aG;cases this
 | a::l,b::m,h1,h2,h=>by
  have e:a=b:=by
   rcases xL.1 ((h a).1 aG) with e | h3
   ·exact e
   rcases xL.1 ((h b).2 aG) with e | h4
   ·exact e.symm
   have:=hvT_asym ((ZjR h1).1 b h4);rw [(ZjR h2).1 a h3] at this;cases this
  subst e;rw [Zod (ZjR h1).2 (ZjR h2).2 fun x=>?_];constructor
  ·intro hx;rcases xL.1 ((h x).1 (yN _ hx)) with e | h3
   ·subst e;exact absurd hx (Ztr h1)
   exact h3
  intro hx;rcases xL.1 ((h x).2 (yN _ hx)) with e | h3
  ·subst e;exact absurd hx (Ztr h2)
  exact h3
def cutT (ns:List Nd) (l:List Nat) (t k:Nat):Prop:=k<=l.length/\(∀a (h:a<l.length),a<k->hvT ns l[a] t=true)/\∀a (h:a<l.length),k<=a->hvT ns l[a] t=false
def ZuM {ns:List Nd} {l:List Nat} (hs:ZjS ns l) {t k:Nat} (hc:cutT ns l t k):t∈l↔l[k]? = some t:=by
 refine ⟨fun h=>?_,fun h=>vG h⟩;obtain ⟨a,ha,rfl⟩:=vH.1 h;have h1 : ¬ a<k:=fun h1=>by have:=hc.2.1 a ha h1;rw [ZjH] at this;cases this
 by_cases e:a=k
 ·subst e;exact zQ ha
 have:=hc.2.2 k aF (zH _);rw [ZlX hs aF ha aF] at this;cases this
def ins_srt {ns:List Nd} {l:List Nat} (hs:ZjS ns l) {t k:Nat} (ht:t<ns.length) (hn:t∉l) (hc:cutT ns l t k):ZjS ns (l.take k++t::l.drop k)/\∀x,x∈l.take k++t::l.drop k↔x∈l\/x=t:=by
 have hm : ∀x,x∈l.take k++t::l.drop k↔x∈l\/x=t:=fun x=>by
  conv=>rhs;rw [<-List.take_append_drop k l]
  simp only [xA,xL];constructor
  ·rintro (h | h | h)
   ·exact .inl (.inl h)
   ·exact .inr h
   exact .inl (.inr h)
  rintro ((h | h) | h)
  ·exact .inl h
  ·exact .inr (.inr h)
  exact .inr (.inl h)
 have h1 : ∀x∈l.take k,hvT ns x t=true:=fun x hx=>by
  obtain ⟨a,ha,rfl⟩:=vH.1 hx;simp at ha;rw [sE];exact hc.2.1 a aF aF
 have h2 : ∀x∈l.drop k,hvT ns t x=true:=fun x hx=>by
  have hx':=List.mem_of_mem_drop hx;obtain ⟨a,ha,rfl⟩:=vH.1 hx;simp at ha;have:=hc.2.2 (k+a) aF aF;rw [tH] at hx' |-;exact Zus (hs.2 _ hx') ht (fun e=>hn (e ▸ hx')) this
 refine ⟨⟨?_,fun x hx=>?_⟩,hm⟩
 ·rw [List.pairwise_append];refine ⟨hs.1.sublist (List.take_sublist _ _),tS.2 ⟨h2,hs.1.sublist (List.drop_sublist _ _)⟩,fun a ha b hb=>?_⟩;rcases xL.1 hb with rfl | hb
  ·exact h1 a ha
  exact Zkm (h1 a ha) (h2 b hb)
 rcases (hm x).1 hx with h | rfl
 ·exact hs.2 x h
 exact ht
def del_srt {ns:List Nd} {l:List Nat} (hs:ZjS ns l) {t k:Nat} (hk:l[k]? = some t):ZjS ns (l.take k++l.drop (k+1))/\∀x,x∈l.take k++l.drop (k+1)↔x∈l/\x≠t:=by
 obtain ⟨hlt,rfl⟩:=zZ.1 hk;have hsub:(l.take k++l.drop (k+1)).Sublist l:=by rw [<-List.eraseIdx_eq_take_drop_succ];exact List.eraseIdx_sublist _ _
 have hm : ∀x,x∈l.take k++l.drop (k+1)↔x∈l/\x≠l[k]:=fun x=>by
  constructor
  ·intro h;refine ⟨hsub.subset h,?_⟩;rintro rfl;rcases xA.1 h with h | h
   ·obtain ⟨a,ha,e⟩:=vH.1 h;simp at ha;rw [sE] at e;have:=ZlX hs aF hlt (aF:a<k);rw [e,ZjH] at this;cases this
   obtain ⟨a,ha,e⟩:=vH.1 h;simp at ha;rw [tH] at e;have:=ZlX hs hlt (aF:k+1+a<l.length) aF;rw [e,ZjH] at this;cases this
  rintro ⟨h,hne⟩;obtain ⟨a,ha,rfl⟩:=vH.1 h;rcases Nat.lt_trichotomy a k with h1 | h1 | h1
  ·exact xA.2 (.inl (vH.2 ⟨a,by simp;omega,sE⟩))
  ·subst h1;exact absurd rfl hne
  exact xA.2 (.inr (vH.2 ⟨a-(k+1),by simp;omega,by rw [tH];congr 1;omega⟩))
 exact ⟨⟨hs.1.sublist hsub,fun x hx=>hs.2 x (hsub.subset hx)⟩,hm⟩
def fil_srt {ns:List Nd} {l:List Nat} (hs:ZjS ns l) (f:Nat->Bool):ZjS ns (l.filter f):=⟨hs.1.sublist List.filter_sublist,fun x hx=>hs.2 x (List.mem_filter.1 hx).1⟩
def nil_srt (ns:List Nd):ZjS ns []:=⟨.nil,fun x hx=>by cases hx⟩
def Zgh (l:List Nat):LL:=l.map fun (x:Nat)=>[zK .i64 (x:Int)]
@[simp] def Zie (l:List Nat):(Zgh l).length=l.length:=by simp [Zgh]
@[simp] def ZgH (l:List Nat):len (Zgh l)=(l.length:Int):=by simp [len]
def ZjU {l:List Nat} {i:Nat} (h:i<l.length):(Zgh l)[i]? = some [zK .i64 (l[i]:Int)]:=by simp [Zgh,h]
def ZrI (l:List Nat):isI (Zgh l)=true:=by
 unfold isI Zgh;simp
def ZsC (l:List Nat):Zes (Zgh l)=true:=by
 unfold Zes Zgh;simp [L.plain]
def rowN_ins (l:List Nat) (k t:Nat):xY k (Zgh l) ++ [zK .i64 (t:Int)]::wY k (Zgh l)=Zgh (l.take k++t::l.drop k):=by
 simp [Zgh,sU,List.map_drop]
def rowN_del (l:List Nat) (k:Nat):xY k (Zgh l)++wY (k+1) (Zgh l)=Zgh (l.take k++l.drop (k+1)):=by
 simp [Zgh,sU,List.map_drop]
def midT {i j:Nat} (h:i+j<=1000000):w64 (Zbx .u64 (v64 (w64 ((i:Int)+(j:Int)))) 1)=(((i+j)/2:Nat):Int):=by
 rw [ZaK (n:=(i:Int)+(j:Int)) aF aF];have h1:v64 ((i:Int)+(j:Int))=(i:Int)+(j:Int):=by
  show IntKind.wrap .u64 _=_;simp only [IntKind.wrap,IntKind.bits,IntKind.signed];simp;omega
 rw [h1,show (1:Int)=((1:Nat):Int) from rfl,Znf _ aF,ZaK aF aF];omega
def Zsh (hN:10<=N) (p:Zae) (room:Int) {ns:List Nd} (lp:List Int) (ht:ZhE ns) {x t:Nat} (hx:x<ns.length) (htt:t<ns.length) (r:LL) :
  Zdf N (x:Int) (t:Int) (ZbM.mk (tOf p room ns lp) r)=some (if x=t then 0 else if hvT ns x t=true then -1 else 1):=by
 unfold Zdf;by_cases e:x=t
 ·rw [aD (by simp [e]),aD e]
 rw [aE aH,aE e,Zko hN p room lp ht hx htt,Zaa];cases hvT ns x t<;>rfl
def ZuB (hN:1000<=N) (p:Zae) (room:Int) {ns:List Nd} (lp:List Int) (ht:ZhE ns) {l:List Nat} (hs:ZjS ns l) (hl:l.length<=900) {t:Nat} (htt:t<ns.length) :
  ∃k:Nat,ZcM N (ZbM.mk (tOf p room ns lp) (Zgh l)) (t:Int)=some ((k:Int),decide (t∈l))/\cutT ns l t k:=by
 unfold ZcM Zai
 suffices h : ∃r,loopN (Zai.p1 N (Zgh l) (t:Int) (ZbM.mk (tOf p room ns lp) (Zgh l))) N (0,len (Zgh l))=some r/\∃k:Nat,r=((k:Int),decide (t∈l))/\cutT ns l t k by
  obtain ⟨r,e,k,rfl,hc⟩:=h;exact ⟨k,by dsimp only;rw [e];rfl,hc⟩
 have hlt : ∀a (h:a<l.length),l[a]<ns.length:=fun a h=>hs.2 _ (yM h);refine ZfO (Q:=fun r:Int×Bool=>∃k:Nat,r=((k:Int),decide (t∈l))/\cutT ns l t k) (fun m (s:Int×Int)=>∃i j:Nat,s=((i:Int),(j:Int))/\i<=j/\j<=l.length/\m=j-i/\(∀a (h:a<l.length),a<i->hvT ns l[a] t=true)/\∀a (h:a<l.length),j<=a->hvT ns l[a] t=false)
  ?_ N l.length _ ⟨0,l.length,by rw [ZgH];rfl,aF,aF,aF,fun a h h1=>aF,fun a h h1=>aF⟩ aF
 rintro G m _ ⟨i,j,rfl,hij,hjl,rfl,h1,h2⟩ hG;unfold Zai.p1;dsimp only;by_cases hlt2:i<j
 ·have hm:(i+j)/2<l.length:=by omega
  rw [aD aH,midT aF,Zag aF,Zag (by rw [ZgH];omega),zJ,ZjU hm,Zan,Zfl,Zsh aF p room lp ht (hlt _ hm) htt,Zaa];by_cases hP:hvT ns l[(i+j)/2] t=true
  ·have hne:l[(i+j)/2]≠t:=fun e=>by rw [e,ZjH] at hP;cases hP
   rw [aE hne,aD hP,aD aG,ZaK aF aF];refine hG (j-((i+j)/2+1)) _ aF ⟨(i+j)/2+1,j,rfl,aF,hjl,rfl,fun a h ha=>?_,h2⟩;by_cases e:a=(i+j)/2
   ·subst e;exact hP
   exact Zkm (ZlX hs h hm aF) hP
  have hP':hvT ns l[(i+j)/2] t=false:=by simpa using hP
  rw [aE (by split<;>simp)];refine hG ((i+j)/2-i) _ aF ⟨i,(i+j)/2,rfl,aF,aF,rfl,h1,fun a h ha=>?_⟩;by_cases e:a=(i+j)/2
  ·subst e;exact hP'
  cases h3:hvT ns l[a] t with
  | false=>rfl
  | true=>have:=Zkm (ZlX hs hm h aF) h3;rw [hP'] at this;cases this
 have e:i=j:=aF
 subst e;have hc:cutT ns l t i:=⟨hjl,h1,h2⟩
 have hmem:=ZuM hs hc;rw [aE aG,ZgH];by_cases h3:i<l.length
 ·rw [aD aH,Zag aF,zJ,ZjU h3,Zan,Zfl,Zsh aF p room lp ht (hlt _ h3) htt,Zaa];refine ⟨_,rfl,i,?_,hc⟩;rw [zQ h3] at hmem;simp only [Option.some.injEq] at hmem;by_cases e:l[i]=t
  ·rw [aD e,decide_eq_true (hmem.2 e)];rfl
  rw [aE e,decide_eq_false (fun h=>e (hmem.1 h))];split<;>rfl
 rw [aE aH];refine ⟨_,rfl,i,?_,hc⟩;rw [decide_eq_false (fun h=>by rw [hmem,zM aF] at h;cases h)]
noncomputable def ZmY (it:Nat) (l:List Nat):List L:=[zN (some it),L.own true 1 (Zgh l)]
def Zik {α:Type} (it:Nat) (l:List Nat) (k:Option Nat->LL->Option α):ZbO (ZmY it l) k=k (some it) (Zgh l):=rfl
structure Zlb (st:LL) (ia it is:Nat) (p:Zae) (room:Int) (ns:List Nd) (lp:List Int) (l:List Nat):Prop where
 T:Zgr st ia it p room ns lp
 s:st[is]? = some (ZmY it l)
 na:is≠ia
 nt:is≠it
 srt:ZjS ns l
 sm:ns.length<=500
section
variable {st:LL} {ia it is:Nat} {p:Zae} {room:Int} {ns:List Nd} {lp:List Int} {l:List Nat}
def Zgr.other {x:List L} {j:Nat} (T:Zgr st ia it p room ns lp) (na:j≠ia) (nt:j≠it):Zgr (st.set j x) ia it p room ns lp:=
 ⟨by rw [zO na];exact T.a,by rw [zO nt];exact T.t,T.ne,T.lv,T.len,T.tr⟩
def Ztp (T:Zgr st ia it p room ns lp):Zdc N (some it) st=some ((ns.length:Int),st):=by
 unfold Zdc;rw [aE aG,Zaa,T.t,Zan];unfold Zhn;rw [ZcA,Zaa,T.a,Zan,Zbv,Zsv,Zaa]
def inT (ns:List Nd) (k:Int):Bool:=decide (0<=k)&&decide (k<(ns.length:Int))
def inT_true {k:Int}:inT ns k=true↔0<=k/\k<(ns.length:Int):=by simp [inT]
def ZoJ {k:Int} (h:inT ns k=true) : ∃j:Nat,k=(j:Int)/\j<ns.length:=by
 rw [inT_true] at h;exact ⟨k.toNat,aF,aF⟩
def inT_of {j:Nat} (h:j<ns.length):inT ns (j:Int)=true:=inT_true.2 ⟨aF,aF⟩
def Zlb.lt (S:Zlb st ia it is p room ns lp l):is<st.length:=(zZ.1 S.s).1
def Zlb.turn (S:Zlb st ia it is p room ns lp l) {l':List Nat} (h:ZjS ns l'):Zlb (st.set is (ZmY it l')) ia it is p room ns lp l':=
 ⟨S.T.other S.na S.nt,zP S.lt,S.na,S.nt,h,S.sm⟩
def ZrB (S:Zlb st ia it is p room ns lp l) (k:Int):Zdp N (some is) k st=some (inT ns k,st):=by
 unfold Zdp inT;rw [aD aG];by_cases h:0<=k
 ·rw [aD (aR h),Zaa,S.s,Zan,Zik,Ztp S.T,Zaa];simp [h]
 rw [aE (aR h)];simp [h]
def tHas_eq (hN:1000<=N) (S:Zlb st ia it is p room ns lp l) (hl:l.length<=900) (k:Int):Zek N (some is) k st=some (inT ns k&&decide (k.toNat∈l),st):=by
 unfold Zek;rw [ZrB S,Zaa];dsimp only;cases h:inT ns k
 ·rw [aD (by rfl)];rfl
 obtain ⟨j,rfl,hj⟩:=ZoJ h;obtain ⟨q,e,_⟩:=ZuB hN p room lp S.T.tr S.srt hl hj;rw [aE aG,Zaa,S.s,Zan,Zik,Zaa,S.T.t,Zan];unfold Zhn;rw [ZcA,Zaa,S.T.a,Zan,Zbv,show (Zat.mk (aOf p room ns) (Zec lp))=tOf p room ns lp from rfl,e,Zaa];dsimp only;rw [zJ,wT]
def tAll_eq (hl:l.length<=900) (T:Zat):ZdP N (ZbM.mk T (Zgh l))=some (Zgh l):=by
 unfold ZdP;show Zbb (ZbI N (Zgh l)) _=_;rw [ZbI,Zag aH,Zaa]
def tLenV_eq (T:Zat):ZdH N (ZbM.mk T (Zgh l))=some (l.length:Int):=by
 unfold ZdH;simp
def Zvu (ns:List Nd) (l:List Nat) (ps:List Int) (x:Nat):Prop:=x∈l\/(x<ns.length/\(x:Int)∈ps)
def ZtL (hN:1000<=N) (S:Zlb st ia it is p room ns lp l) (hl:l.length<=800) (t:Nat) (ht:t<ns.length) :
  ∃k:Nat,ZcM N (ZbM.mk (tOf p room ns lp) (Zgh l)) (t:Int)=some ((k:Int),decide (t∈l))/\k<=l.length/\(t∉l->ZjS ns (l.take k++t::l.drop k)/\∀x,x∈l.take k++t::l.drop k↔x∈l\/x=t)/\(t∈l->k<l.length/\ZjS ns (l.take k++l.drop (k+1))/\∀x,x∈l.take k++l.drop (k+1)↔x∈l/\x≠t):=by
 obtain ⟨k,e,hc⟩:=ZuB hN p room lp S.T.tr S.srt aF ht;refine ⟨k,e,hc.1,fun h=>ins_srt S.srt ht h hc,fun h=>?_⟩;have:=(ZuM S.srt hc).1 h;exact ⟨(zZ.1 this).1,del_srt S.srt this⟩
def Zto (hN:1000<=N) (S:Zlb st ia it is p room ns lp l) (ps:List Int) (hl:l.length+ps.length<=600) :
  ∃l',ZaY N (some is) (Zec ps) st=some ((l'.length:Int)-(l.length:Int),st.set is (ZmY it l'))/\ZjS ns l'/\l'.length<=l.length+ps.length/\∀x,x∈l'↔Zvu ns l ps x:=by
 unfold ZaY
 suffices h : ∃r,loopN (ZaY.p1 N (Zec ps)) N (some is,0,0,st)=some r/\∃l':List Nat,r=((l'.length:Int)-(l.length:Int),st.set is (ZmY it l'))/\ZjS ns l'/\l'.length<=l.length+ps.length/\∀x,x∈l'↔Zvu ns l ps x by
  obtain ⟨r,e,l',rfl,h⟩:=h;exact ⟨l',e,h⟩
 refine ZfO (Q:=fun r:Int×LL=>∃l':List Nat,r=((l'.length:Int)-(l.length:Int),st.set is (ZmY it l'))/\ZjS ns l'/\l'.length<=l.length+ps.length/\∀x,x∈l'↔Zvu ns l ps x)
  (fun m (s:(Option Nat)×Int×Int×LL)=>∃(j:Nat) (l':List Nat),j+m=ps.length/\s=(some is,(l'.length:Int)-(l.length:Int),(j:Int),st.set is (ZmY it l'))/\ZjS ns l'/\l.length<=l'.length/\l'.length<=l.length+j/\∀x,x∈l'↔Zvu ns l (ps.take j) x)
  ?_ N ps.length _ ⟨0,l,aF,by rw [qL,Zgj S.s];rfl,S.srt,zH _,aF,fun x=>by simp [Zvu]⟩ aF
 rintro G m _ ⟨j,l',hj,rfl,hs,hl1,hl2,hm⟩ hG;have S':=S.turn hs;have hss : ∀l2,(st.set is (ZmY it l')).set is (ZmY it l2)=st.set is (ZmY it l2):=fun l2=>xJ ..;unfold ZaY.p1;dsimp only;rw [ZeO];by_cases hlt:j<ps.length
 ·have w1:w64 ((j:Int)+1)=((j+1:Nat):Int):=by rw [ZaK aF aF];rfl
  have htk : ∀x,Zvu ns l (ps.take (j+1)) x↔Zvu ns l (ps.take j) x\/(x<ns.length/\(x:Int)=ps[j]):=fun x=>by
   unfold Zvu;rw [zY hlt];simp only [xA,yU];constructor
   ·rintro (h | ⟨h1,h2 | h2⟩)
    ·exact .inl (.inl h)
    ·exact .inl (.inr ⟨h1,h2⟩)
    exact .inr ⟨h1,h2⟩
   rintro ((h | ⟨h1,h2⟩) | ⟨h1,h2⟩)
   ·exact .inl h
   ·exact .inr ⟨h1,.inl h2⟩
   exact .inr ⟨h1,.inr h2⟩
  rw [aD aH,Zag aF,zJ,Zif hlt,Zan,Zfl,ZrB S',Zaa];dsimp only;cases hin:inT ns ps[j]
  ·rw [aD (by rfl)];unfold ZaY.p2;rw [w1];refine hG (m-1) _ aF ⟨j+1,l',aF,rfl,hs,hl1,aF,fun x=>?_⟩;rw [hm,htk];refine ⟨.inl,fun h=>h.elim id fun ⟨h1,h2⟩=>?_⟩;rw [<-h2,inT_of h1] at hin;cases hin
  obtain ⟨t,et,ht⟩:=ZoJ hin;obtain ⟨k,ef,hk,hi,_⟩:=ZtL hN S' aF t ht;rw [aE aG,Zaa,S'.s,Zan,Zik,Zaa,S'.T.t,Zan];unfold Zhn;rw [ZcA,Zaa,S'.T.a,Zan,Zbv,show (Zat.mk (aOf p room ns) (Zec lp))=tOf p room ns lp from rfl,et,ef,Zaa];dsimp only;by_cases hmem:t∈l'
  ·rw [decide_eq_true hmem,aE aG];unfold ZaY.p2;rw [w1];refine hG (m-1) _ aF ⟨j+1,l',aF,rfl,hs,hl1,aF,fun x=>?_⟩;rw [hm,htk];refine ⟨.inl,fun h=>h.elim id fun ⟨h1,h2⟩=>?_⟩;rw [et] at h2;have:x=t:=by omega
   subst this;exact (hm x).1 hmem
  obtain ⟨hi1,hi2⟩:=hi hmem;rw [decide_eq_false hmem,aD (by rfl),Zag aF,Zag (by rw [ZgH];omega),Zag (ZrI l'),Zag (by rw [Zie];omega),zJ,rowN_ins,xJ];unfold ZaY.p2;have hln:(l'.take k++t::l'.drop k).length=l'.length+1:=by simp;omega
  rw [w1,ZaK (n:=(l'.length:Int)-(l.length:Int)+1) aF aF];refine hG (m-1) _ aF ⟨j+1,l'.take k++t::l'.drop k,aF,?_,hi1,aF,aF,fun x=>?_⟩
  ·rw [hln];show ((some is,(l'.length:Int)-(l.length:Int)+1,((j+1:Nat):Int),(st.set is (ZmY it l')).set is (ZmY it (l'.take k++t::l'.drop k))):(Option Nat)×Int×Int×LL)=_;rw [hss,(aF:(l'.length:Int)-(l.length:Int)+1=((l'.length+1:Nat):Int)-(l.length:Int))]
  rw [hi2,htk,hm];refine or_congr_right ⟨fun h=>by subst h;exact ⟨ht,et.symm⟩,fun ⟨h1,h2⟩=>by rw [et] at h2;omega⟩
 rw [aE aH];have hjl:j=ps.length:=aF
 subst hjl;exact ⟨_,rfl,l',rfl,hs,aF,fun x=>by rw [hm,sT]⟩
def ZuJ {l:List Nat} {k:Nat} (hk:k<l.length) (hl:l.length<=900):Zdh N (Zgh l) (k:Int) ((k:Int)+1)=some (Zgh (l.take k++l.drop (k+1))):=by
 have e1:((k:Int)+1).toNat=k+1:=aF
 have e2:(len (Zgh l)).toNat=l.length:=by simp
 have hA:(xY k (Zgh l)++xY (l.length-(k+1)) (wY (k+1) (Zgh l)))=Zgh (l.take k++l.drop (k+1)):=by
  rw [show xY (l.length-(k+1)) (wY (k+1) (Zgh l))=wY (k+1) (Zgh l) from zW aG];exact rowN_del l k
 have hAl:(Zgh (l.take k++l.drop (k+1))).length=k+(l.length-(k+1)):=by simp;omega
 unfold Zdh;rw [ZgH];simp only [e1,zJ,yE,Zie,hA];generalize Zgh (l.take k++l.drop (k+1))=A at hAl |-;have h1:(A++wY (k+(l.length-(k+1))) (Zgh l)).length=l.length:=by rw [zU,hAl,List.length_drop,Zie];omega
 have h2:xY (k+(l.length-(k+1))) (A++wY (k+(l.length-(k+1))) (Zgh l))=A:=by rw [vL aF,zW aF]
 have h3 : ∀r:LL,xY (k+(l.length-(k+1))) (A++r)=A:=fun r=>by rw [vL aF,zW aF]
 rw [Zag aF,Zag aF,Zag aF,Zag aF,Zag aF,aE aH,Zag aF,Zag aF,Zag aF,Zag aF,h1,h2,Zag aF,Zag aF,Zag aF,Zag (by rw [zU,hAl];omega),h3]
def tDrop_eq (hN:1000<=N) (S:Zlb st ia it is p room ns lp l) (ps:List Int) (hp:ps.length<=600) (hl:l.length<=600) :
  ∃l',ZaV N (some is) (Zec ps) st=some ((l.length:Int)-(l'.length:Int),st.set is (ZmY it l'))/\ZjS ns l'/\l'.length<=l.length/\∀x,x∈l'↔x∈l/\¬ (x:Int)∈ps:=by
 unfold ZaV
 suffices h : ∃r,loopN (ZaV.p1 N (Zec ps)) N (some is,0,0,st)=some r/\∃l':List Nat,r=((l.length:Int)-(l'.length:Int),st.set is (ZmY it l'))/\ZjS ns l'/\l'.length<=l.length/\∀x,x∈l'↔x∈l/\¬ (x:Int)∈ps by
  obtain ⟨r,e,l',rfl,h⟩:=h;exact ⟨l',e,h⟩
 refine ZfO (Q:=fun r:Int×LL=>∃l':List Nat,r=((l.length:Int)-(l'.length:Int),st.set is (ZmY it l'))/\ZjS ns l'/\l'.length<=l.length/\∀x,x∈l'↔x∈l/\¬ (x:Int)∈ps)
  (fun m (s:(Option Nat)×Int×Int×LL)=>∃(j:Nat) (l':List Nat),j+m=ps.length/\s=(some is,(l.length:Int)-(l'.length:Int),(j:Int),st.set is (ZmY it l'))/\ZjS ns l'/\l'.length<=l.length/\∀x,x∈l'↔x∈l/\¬ (x:Int)∈ps.take j)
  ?_ N ps.length _ ⟨0,l,aF,by rw [qL,Zgj S.s];rfl,S.srt,zH _,fun x=>by simp⟩ aF
 rintro G m _ ⟨j,l',hj,rfl,hs,hl2,hm⟩ hG;have S':=S.turn hs;unfold ZaV.p1;dsimp only;rw [ZeO];by_cases hlt:j<ps.length
 ·have w1:w64 ((j:Int)+1)=((j+1:Nat):Int):=by rw [ZaK aF aF];rfl
  have htk : ∀x:Nat,(x:Int)∈ps.take (j+1)↔(x:Int)∈ps.take j\/(x:Int)=ps[j]:=fun x=>by
   rw [zY hlt];simp only [xA,yU]
  rw [aD aH,Zag aF,zJ,Zif hlt,Zan,Zfl,ZrB S',Zaa];dsimp only;cases hin:inT ns ps[j]
  ·rw [aD (by rfl)];unfold ZaV.p2;rw [w1];refine hG (m-1) _ aF ⟨j+1,l',aF,rfl,hs,aF,fun x=>?_⟩;rw [hm,htk];constructor
   ·rintro ⟨h1,h2⟩;refine ⟨h1,fun h=>h.elim h2 fun h3=>?_⟩;rw [<-h3,inT_of (S.srt.2 x h1)] at hin;cases hin
   rintro ⟨h1,h2⟩;exact ⟨h1,fun h=>h2 (.inl h)⟩
  obtain ⟨t,et,ht⟩:=ZoJ hin;obtain ⟨k,ef,hk,_,hi⟩:=ZtL hN S' aF t ht;rw [aE aG,Zaa,S'.s,Zan,Zik,Zaa,S'.T.t,Zan];unfold Zhn;rw [ZcA,Zaa,S'.T.a,Zan,Zbv,show (Zat.mk (aOf p room ns) (Zec lp))=tOf p room ns lp from rfl,et,ef,Zaa];dsimp only;by_cases hmem:t∈l'
  ·obtain ⟨hkl,hi1,hi2⟩:=hi hmem;have hln:(l'.take k++l'.drop (k+1)).length=l'.length-1:=by simp;omega
   rw [decide_eq_true hmem,aD rfl,Zag aF,vU,zW (zH _),ZaK (n:=(k:Int)+1) aF aF,ZuJ hkl aF,Zaa];unfold ZaV.p2;rw [w1,ZaK (n:=(l.length:Int)-(l'.length:Int)+1) aF aF];refine hG (m-1) _ aF ⟨j+1,l'.take k++l'.drop (k+1),aF,?_,hi1,aF,fun x=>?_⟩
   ·rw [hln,xJ];show ((some is,(l.length:Int)-(l'.length:Int)+1,((j+1:Nat):Int),(st.set is (ZmY it l')).set is (ZmY it (l'.take k++l'.drop (k+1)))):(Option Nat)×Int×Int×LL)=_;rw [xJ,(aF:(l.length:Int)-(l'.length:Int)+1=(l.length:Int)-((l'.length-1:Nat):Int))]
   rw [hi2,hm,htk,et];constructor
   ·rintro ⟨⟨h1,h2⟩,h3⟩;exact ⟨h1,fun h=>h.elim h2 fun h4=>h3 aF⟩
   rintro ⟨h1,h2⟩;exact ⟨⟨h1,fun h=>h2 (.inl h)⟩,fun h=>h2 (.inr aF)⟩
  rw [decide_eq_false hmem,aE aG];unfold ZaV.p2;rw [w1];refine hG (m-1) _ aF ⟨j+1,l',aF,rfl,hs,aF,fun x=>?_⟩;rw [hm,htk,et];constructor
  ·rintro ⟨h1,h2⟩;refine ⟨h1,fun h=>h.elim h2 fun h3=>?_⟩;have:x=t:=by omega
   subst this;exact hmem ((hm x).2 ⟨h1,h2⟩)
  rintro ⟨h1,h2⟩;exact ⟨h1,fun h=>h2 (.inl h)⟩
 rw [aE aH];have hjl:j=ps.length:=aF
 subst hjl;exact ⟨_,rfl,l',rfl,hs,aF,fun x=>by rw [hm,sT]⟩
end
end Go.Dn.F
namespace Go.Dn.F
open Go.Dn Go.Proofs
variable {N:Nat}
def tNew_eq (it:Nat) (st:LL):ZgE N (some it) st=some (some st.length,st ++ [ZmY it []]):=rfl
def new_set {st:LL} {ia it:Nat} {p:Zae} {room:Int} {ns:List Nd} {lp:List Int} (T:Zgr st ia it p room ns lp) (sm:ns.length<=500) (x:LL):Zlb ((st ++ [ZmY it []])++x) ia it st.length p room ns lp []:=by
 have h1:=(zZ.1 T.a).1;have h2:=(zZ.1 T.t).1;exact ⟨(T.app _).app x,by rw [zS aG];simp,aF,aF,nil_srt ns,sm⟩
def bestT:List Nat->Int
 | []=>-1
 | a::_=>(a:Int)
def tBest_eq (l:List Nat) (T:Zat):ZdC N (ZbM.mk T (Zgh l))=some (bestT l):=by
 unfold ZdC;rw [tLenV_eq,Zaa];cases l with
 | nil=>rfl
 | cons a l=>
  rw [aE aH,Zag (by show 0<len (Zgh (a::l));rw [ZgH];simp)];show ZcO ((Zgh (a::l))[0]?) _ _=_;rw [ZjU aG,Zan,Zfl];rfl
end Go.Dn.F
namespace Go.Dn.F
open Go.Dn Go.Proofs
variable {N:Nat} {ia it is:Nat} {p:Zae} {room:Int} {ns:List Nd} {lp:List Int}
def ZhI (ns:List Nd) (t x:Nat):Bool:=!hvT ns t x
def ZrA (hN:10<=N) (p:Zae) (room:Int) (lp:List Int) (ht:ZhE ns) {x t:Nat} (hx:x<ns.length) (htt:t<ns.length):Zdg N (x:Int) (tOf p room ns lp) (t:Int)=some (hvT ns t x):=by
 unfold Zdg;rw [Zko hN p room lp ht htt hx,Zaa]
def index_eq (hN:1000<=N) (p:Zae) (room:Int) (lp:List Int) (ht:ZhE ns) {l:List Nat} (hs : ∀x∈l,x<ns.length) (hl:l.length<=900) {t:Nat} (htt:t<ns.length) :
  ∃r,Zau N (Zgh l) (tOf p room ns lp) (t:Int)=some r/\((r = -1/\∀x∈l,ZhI ns t x=true)\/∃k:Nat,k<l.length/\r=(k:Int)/\(l.take (k+1)).filter (ZhI ns t)=l.take k):=by
 unfold Zau;refine ZfO (Q:=fun r:Int=>(r = -1/\∀x∈l,ZhI ns t x=true)\/∃k:Nat,k<l.length/\r=(k:Int)/\(l.take (k+1)).filter (ZhI ns t)=l.take k) (fun m (v:Int)=>∃j:Nat,j+m=l.length/\v=(j:Int)/\∀x∈l.take j,ZhI ns t x=true) ?_ N l.length _ ⟨0,aF,rfl,by simp⟩ aF;rintro G m _ ⟨j,hj,rfl,ha⟩ hG;unfold Zau.p1;rw [ZgH];by_cases hlt:j<l.length
 ·rw [aD aH,Zag aF,zJ,ZjU hlt,Zan,Zfl,ZrA aF p room lp ht (hs _ (yM hlt)) htt,Zaa];cases hk:hvT ns t l[j] with
  | true=>
   rw [aD rfl];refine ⟨_,rfl,.inr ⟨j,hlt,rfl,?_⟩⟩;rw [zY hlt,rT,List.filter_eq_self.2 ha,uG (by unfold ZhI;rw [hk];simp)];simp
  | false=>
   rw [aE aG,ZaK aF aF];refine hG (m-1) _ aF ⟨j+1,aF,rfl,fun x hx=>?_⟩;rw [zY hlt] at hx;rcases xA.1 hx with h | h
   ·exact ha x h
   cases yU.1 h;unfold ZhI;rw [hk];rfl
 rw [aE aH];refine ⟨_,rfl,.inl ⟨rfl,fun x hx=>ha x ?_⟩⟩;rw [zW aF];exact hx
def ZuI (hN:1000<=N) (p:Zae) (room:Int) (lp:List Int) (ht:ZhE ns) {l:List Nat} (hs : ∀x∈l,x<ns.length) (hl:l.length<=900) {t:Nat} (htt:t<ns.length) :
  Zaf N (Zgh l) (tOf p room ns lp) (t:Int)=some (Zgh (l.filter (ZhI ns t))):=by
 unfold Zaf;obtain ⟨r,e,h⟩:=index_eq hN p room lp ht hs hl htt;rw [e,Zaa];rcases h with ⟨rfl,h⟩ | ⟨k,hk,rfl,h⟩
 ·rw [aD (by rfl),List.filter_eq_self.2 h]
 rw [aE aG,ZaK aF aF];refine Zck (fun m (s:Int×Int×LL)=>∃(j:Nat) (q:LL),j+m=l.length/\j<=l.length/\s=((((l.take j).filter (ZhI ns t)).length:Int),(j:Int),q)/\q.length=l.length/\q.take ((l.take j).filter (ZhI ns t)).length=Zgh ((l.take j).filter (ZhI ns t))/\∀a (h:a<l.length),j<=a->q[a]? = some [zK .i64 (l[a]:Int)])
  ?_ N (l.length-(k+1)) _ ⟨k+1,Zgh l,aF,aF,?_,by simp,?_,fun a h _=>ZjU h⟩ aF
 ·rintro G m _ ⟨j,q,hj,hjl,rfl,hq,hqt,hqa⟩ hG;have hfl:((l.take j).filter (ZhI ns t)).length<=j:=Nat.le_trans (qX ..) aH;unfold Zaf.p1 Zaf.p2;dsimp only;rw [ZgH];by_cases hlt:j<l.length
  ·have w1:w64 ((j:Int)+1)=((j+1:Nat):Int):=by rw [ZaK aF aF];rfl
   have htk:=zY hlt;rw [aD aH,Zag aF,zJ,yE,hqa j hlt (zH _),Zan,Zfl,ZrA aF p room lp ht (hs _ (yM hlt)) htt,Zaa,w1];cases hk2:hvT ns t l[j] with
   | true=>
    rw [aE aG];have e2:(l.take (j+1)).filter (ZhI ns t)=(l.take j).filter (ZhI ns t):=by
     rw [htk,rT,uG (by unfold ZhI;rw [hk2];simp)];simp
    refine hG (m-1) _ aF ⟨j+1,q,aF,aF,by rw [e2],hq,by rw [e2];exact hqt,fun a h h2=>hqa a h aF⟩
   | false=>
    have e2:(l.take (j+1)).filter (ZhI ns t)=(l.take j).filter (ZhI ns t) ++ [l[j]]:=by
     rw [htk,rT,List.filter_cons_of_pos (by unfold ZhI;rw [hk2];rfl)];rfl
    rw [aD (by rfl),Zag aF,Zag aF,zJ,yE,ZaK aF aF];refine hG (m-1) _ aF ⟨j+1,_,aF,aF,by rw [e2,zU];rfl,by simpa using hq,?_,fun a h h2=>?_⟩
    ·rw [e2,zU,yX,zY aH,List.take_set_of_le aF,hqt,List.getElem_set_self];simp [Zgh]
    rw [zO aF];exact hqa a h aF
  have hjl2:j=l.length:=aF
  subst hjl2;rw [sT] at hqt hfl |-;rw [aE aG,Zag aF,zJ,Zie,yE,Zag hfl,Zag aF,Zag aH,Zag aH];rw [vL aH,List.take_take,Nat.min_self,hqt]
 ·rw [h];simp;omega
 rw [h];simp only [Zgh,sU,List.length_take,Nat.min_eq_left (Nat.le_of_lt hk)]
def ZkC (ns:List Nd) (l:List Nat) (k:Int):List Nat:=if inT ns k=true then l.filter (ZhI ns k.toNat) else l
def tTrim_eq (hN:1000<=N) {st:LL} {l:List Nat} (S:Zlb st ia it is p room ns lp l) (hl:l.length<=900) (k:Int) :
  ZdY N (some is) k st=some ((l.length:Int)-((ZkC ns l k).length:Int),st.set is (ZmY it (ZkC ns l k)))/\ZjS ns (ZkC ns l k)/\(ZkC ns l k).length<=l.length:=by
 have hle:(ZkC ns l k).length<=l.length:=by unfold ZkC;split<;>first | exact qX .. | exact zH _
 refine ⟨?_,by unfold ZkC;split;exact fil_srt S.srt _;exact S.srt,hle⟩;unfold ZdY;rw [ZrB S,Zaa];dsimp only;cases h:inT ns k
 ·have e:ZkC ns l k=l:=by unfold ZkC;rw [h,aE aG]
  rw [aD (by rfl),e,qL,Zgj S.s]
 have e:ZkC ns l k=l.filter (ZhI ns k.toNat):=by unfold ZkC;rw [h,aD rfl]
 obtain ⟨j,rfl,hj⟩:=ZoJ h;rw [zJ] at e;have T2:Zgr (st.set is [zN (some it),L.gone]) ia it p room ns lp:=S.T.other S.na S.nt;rw [aE aG,Zaa,S.s,Zan,Zik,Zaa,T2.t,Zan];unfold Zhn;rw [ZcA,Zaa,T2.a,Zan,Zbv,show (Zat.mk (aOf p room ns) (Zec lp))=tOf p room ns lp from rfl,ZuI hN p room lp S.T.tr S.srt.2 hl hj,Zaa,Zag (ZrI _),xJ,ZgH,ZgH,e];rw [e] at hle;rw [ZaK aF aF];rfl
end Go.Dn.F
namespace Go.Dn.F
open Go.Dn Go.Proofs
variable {N:Nat}
def badZ (S:List Int) (O:List Bool) (k:Nat):Bool:=O.getD k false||S.getD k 0==2
def chZ (ns:List Nd) (S:List Int) (O:List Bool) (k:Nat):Bool:=(Zga ns k).dropLast.any (badZ S O)
def flZ (ns:List Nd) (S:List Int) (O:List Bool) (k:Nat):Bool:=(Zga ns k).any (badZ S O)
def stZ (ns:List Nd) (S:List Int) (O:List Bool) (k:Nat):ZcB:=⟨S.getD k 0,O.getD k false,chZ ns S O k⟩
def ZgU (ns:List Nd) (S:List Int) (O:List Bool):List ZcB:=(List.range ns.length).map (stZ ns S O)
noncomputable def rowM (l:List ZcB):LL:=l.map ZcB.ls
noncomputable def mk2 (it:Nat) (l:List ZcB):List L:=[zN (some it),L.own true 3 (rowM l)]
def ZrH {ns:List Nd} (ht:ZhE ns) {k:Nat} (hk:k<ns.length) : ∃l,Zga ns k=l ++ [k]:=by
 rcases ZeX ht hk with ⟨_,_,e,_⟩ | ⟨q,_,_,e,_⟩
 ·exact ⟨[],e⟩
 exact ⟨_,e⟩
def flZ_eq {ns:List Nd} (ht:ZhE ns) {k:Nat} (hk:k<ns.length) (S:List Int) (O:List Bool):flZ ns S O k=(chZ ns S O k||badZ S O k):=by
 obtain ⟨l,e⟩:=ZrH ht hk;unfold flZ chZ;rw [e,List.dropLast_concat,List.any_append];simp
def chZ_root {ns:List Nd} (ht:ZhE ns) {k:Nat} (e:Zga ns k = [k]) (S:List Int) (O:List Bool):chZ ns S O k=false:=by
 unfold chZ;rw [e];rfl
def chZ_step {ns:List Nd} {k q:Nat} (e:Zga ns k=Zga ns q ++ [k]) (S:List Int) (O:List Bool):chZ ns S O k=flZ ns S O q:=by
 unfold chZ flZ;rw [e,List.dropLast_concat]
def Zqk (x:ZcB):ZcS N x=some (x.out||x.verdict==2):=by
 unfold ZcS;cases h:x.out
 ·rw [aE aG];simp
 rw [aD rfl];simp
@[simp] def Zlr (ns:List Nd) (S:List Int) (O:List Bool):(ZgU ns S O).length=ns.length:=by simp [ZgU]
def ZiZ {ns:List Nd} {S:List Int} {O:List Bool} {k:Nat} (hk:k<ns.length):(ZgU ns S O)[k]? = some (stZ ns S O k):=by simp [ZgU,hk]
@[simp] def rowM_length (l:List ZcB):(rowM l).length=l.length:=by simp [rowM]
@[simp] def ZoC (l:List ZcB):len (rowM l)=(l.length:Int):=by simp [len,rowM]
def ZrJ {l:List ZcB} {k:Nat} {x:ZcB} (h:l[k]? = some x):(rowM l)[0+k]? = some x.ls:=by simp [rowM,h]
def ZpC {ns:List Nd} {S:List Int} {O:List Bool} {k:Nat} (hk:k<ns.length):(rowM (ZgU ns S O))[0+k]? = some (stZ ns S O k).ls:=ZrJ (ZiZ hk)
def Zuz {ns:List Nd} {S:List Int} {O:List Bool} {j:Nat} (hj:j<ns.length):(ZgU ns S O).take (j+1)=(ZgU ns S O).take j ++ [stZ ns S O j]:=by
 rw [zY (aR hj)]
 congr 2
 have:=ZiZ (S:=S) (O:=O) hj;rw [zQ (aR hj)] at this;exact Option.some.inj this
def ZhH {α:Type} (it:Nat) (l:List ZcB) (k:Option Nat->LL->Option α):Zdu (mk2 it l) k=k (some it) (rowM l):=rfl
def Zux {c1:(Int×LL)->Option LL} {im it:Nat} {st:LL} {l:List ZcB} {s:ZcB} (hm:im<st.length) (hl:l.length<=1000) (j:Int) :
  ZaL.p2 N c1 im j s (st.set im (mk2 it l))=c1 (w64 (j+1),st.set im (mk2 it (l ++ [s]))):=by
 unfold ZaL.p2;rw [zP hm,Zan,ZhH,Zag aH,xJ,xJ];simp [mk2,rowM]
def Zgr.setIm {st:LL} {ia it im:Nat} {p:Zae} {room:Int} {ns:List Nd} {lp:List Int} {x:List L} (T:Zgr st ia it p room ns lp) (na:im≠ia) (nt:im≠it):Zgr (st.set im x) ia it p room ns lp:=
 ⟨by rw [zO na];exact T.a,by rw [zO nt];exact T.t,T.ne,T.lv,T.len,T.tr⟩
def Len_eq {st:LL} {ia it:Nat} {p:Zae} {room:Int} {ns:List Nd} {lp:List Int} (T:Zgr st ia it p room ns lp):Zdc N (some it) st=some ((ns.length:Int),st):=by
 unfold Zdc;rw [aE aG,Zaa,T.t,Zan];unfold Zhn;rw [ZcA,Zaa,T.a,Zan,Zbv,Zsv,Zaa]
def grow_eq (hN:600<=N) {st:LL} {ia it im:Nat} {p:Zae} {room:Int} {ns:List Nd} {lp:List Int} {S:List Int} {O:List Bool} {k:Nat} (T:Zgr st ia it p room ns lp) (h1:im≠ia) (h2:im≠it)
  (hm:st[im]? = some (mk2 it ((ZgU ns S O).take k))) (hk:k<=ns.length) (hnew : ∀i,k<=i->i<ns.length->S.getD i 0=(if i=0 then 1 else 0)/\O.getD i false=false) (small:ns.length<=500) :
  ZaL N (some im) st=some (st.set im (mk2 it (ZgU ns S O))):=by
 unfold ZaL;have him:im<st.length:=(zZ.1 hm).1;have e0:len (rowM ((ZgU ns S O).take k))=(k:Int):=by simp;omega
 rw [Zaa,hm,Zan,ZhH,e0]
 conv=>lhs;rw [<-Zgj hm]
 refine Zck (fun m (s:Int×LL)=>∃j,k<=j/\j+m=ns.length/\s=((j:Int),st.set im (mk2 it ((ZgU ns S O).take j)))) ?_ N (ns.length-k) _ ⟨k,aF,aF,rfl⟩ aF;rintro G m _ ⟨j,hj,hjm,rfl⟩ hG;unfold ZaL.p1;dsimp only;rw [zP him,Zan,ZhH,Len_eq (T.setIm h1 h2),Zaa];dsimp only;by_cases hlt:j<ns.length
 ·rw [aD aH,zP him,Zan,ZhH,Zaa,zO h2,T.t,Zan];unfold Zhn;rw [ZcA,Zaa,zO h1,T.a,Zan,Zbv,show (Zat.mk (aOf p room ns) (Zec lp))=tOf p room ns lp from rfl,Zoe p room lp hlt,Zaa];dsimp only;have hn:=hnew j hj hlt;have el:((ZgU ns S O).take j).length=j:=by simp;omega
  have fin : ∀s,s=stZ ns S O j->ZaL.p2 N G im (j:Int) s (st.set im (mk2 it ((ZgU ns S O).take j)))=some (st.set im (mk2 it (ZgU ns S O))):=by
   rintro s rfl;rw [Zux him aF,<-Zuz hlt,ZaK aF aF];exact hG (m-1) _ aF ⟨j+1,aF,aF,by rw [Int.natCast_add];rfl⟩
  rw [show (ns[j].en).Ahead=ns[j].ah from rfl];rcases ZeX T.tr hlt with ⟨z,a,e,_⟩ | ⟨q,hq,a,e,hq',_⟩
  ·rw [a,aE aG];refine fin _ ?_;subst z;unfold stZ;rw [chZ_root T.tr e,hn.1,hn.2,aD rfl]
  have ec:=chZ_step e S O;rw [flZ_eq T.tr hq'] at ec;have eq:(rowM ((ZgU ns S O).take j))[0+q]? = some (stZ ns S O q).ls:=ZrJ (by rw [tR hq];exact ZiZ hq');rw [a,aD aP,Zag aF,Zag (by rw [ZoC,el];omega),zJ,eq,Zan,ZgC,show (stZ ns S O q).child=chZ ns S O q from rfl,Zqk,show ((stZ ns S O q).out||(stZ ns S O q).verdict==2)=badZ S O q from rfl,Zaa];have hj0:j≠0:=aF
  cases hc:chZ ns S O q
  ·rw [aE aG];refine fin _ ?_;unfold stZ;rw [ec,hc,hn.1,hn.2,aE hj0,Bool.false_or]
  rw [aD rfl];refine fin _ ?_;unfold stZ;rw [ec,hc,hn.1,hn.2,aE hj0,Bool.true_or]
 rw [aE aH,zW aH]
structure ZlR (st:LL) (ia it im:Nat) (p:Zae) (room:Int) (ns:List Nd) (lp:List Int) (S:List Int) (O:List Bool):Prop where
 T:Zgr st ia it p room ns lp
 na:im≠ia
 nt:im≠it
 k : ∃k,k<=ns.length/\st[im]? = some (mk2 it ((ZgU ns S O).take k))/\∀i,k<=i->S.getD i 0=(if i=0 then 1 else 0)/\O.getD i false=false
 small:ns.length<=500
noncomputable def gst (st:LL) (im it:Nat) (ns:List Nd) (S:List Int) (O:List Bool):LL:=st.set im (mk2 it (ZgU ns S O))
def inB (ns:List Nd) (k:Int):Bool:=decide (0<=k)&&decide (k<(ns.length:Int))
def inB_true {ns:List Nd} {k:Int}:inB ns k=true↔0<=k/\k<(ns.length:Int):=by simp [inB]
def Zum {ns:List Nd} {k:Int} (h:inB ns k=true) : ∃j:Nat,k=(j:Int)/\j<ns.length:=by
 rw [inB_true] at h;exact ⟨k.toNat,aF,aF⟩
section
variable {st:LL} {ia it im:Nat} {p:Zae} {room:Int} {ns:List Nd} {lp:List Int} {S:List Int} {O:List Bool}
def ZlR.im_lt (M:ZlR st ia it im p room ns lp S O):im<st.length:=by
 obtain ⟨k,_,h,_⟩:=M.k;exact (zZ.1 h).1
def ZlR.gm (M:ZlR st ia it im p room ns lp S O):(gst st im it ns S O)[im]? = some (mk2 it (ZgU ns S O)):=zP M.im_lt
def ZlR.gst_len (M:ZlR st ia it im p room ns lp S O) : ∀i,ns.length<=i->S.getD i 0=(if i=0 then 1 else 0)/\O.getD i false=false:=by
 obtain ⟨k,hk,_,h⟩:=M.k;exact fun i hi=>h i aF
def ZlR.gst (M:ZlR st ia it im p room ns lp S O):ZlR (gst st im it ns S O) ia it im p room ns lp S O:=
 ⟨M.T.setIm M.na M.nt,M.na,M.nt,⟨ns.length,zH _,by rw [M.gm,zW aG],M.gst_len⟩,M.small⟩
def Zrl:F.gst (F.gst st im it ns S O) im it ns S O=F.gst st im it ns S O:=by unfold F.gst;rw [xJ]
def is_eq (hN:600<=N) (M:ZlR st ia it im p room ns lp S O) (k:Int):Zdd N (some im) k st=some (inB ns k,gst st im it ns S O):=by
 unfold Zdd;obtain ⟨j,hj,hm,hn⟩:=M.k;rw [aE aG,grow_eq hN M.T M.na M.nt hm hj (fun i h1 _=>hn i h1) M.small,Zaa,show st.set im (mk2 it (ZgU ns S O))=gst st im it ns S O from rfl];by_cases h:0<=k
 ·rw [aD (aR h),Zaa,M.gm,Zan,ZhH];simp [inB,h]
 rw [aE (aR h)];simp [inB,h]
def atZ (ns:List Nd) (f:Nat->Bool) (k:Int):Bool:=inB ns k&&f k.toNat
def Zqz (hN:600<=N) (M:ZlR st ia it im p room ns lp S O) (k:Int):ZcT N (some im) k st=some (atZ ns (flZ ns S O) k,gst st im it ns S O):=by
 unfold ZcT;rw [is_eq hN M,Zaa];dsimp only;unfold atZ;cases h:inB ns k
 ·rw [aE aG];rfl
 obtain ⟨j,rfl,hj⟩:=Zum h;rw [aD rfl,Zaa,M.gm,Zan,ZhH,Zag aF,Zag aP,zJ,ZpC hj,Zan,ZgC,Zqk,Zaa,flZ_eq M.T.tr hj];show (if chZ ns S O j=true then _ else _)=_;cases chZ ns S O j<;>rfl
end
end Go.Dn.F
namespace Go.Dn.F
open Go.Dn Go.Proofs
variable {N:Nat}
def getD_set {α:Type} {l:List α} {k:Nat} (hk:k<l.length) (v d:α) (i:Nat):(l.set k v).getD i d=if i=k then v else l.getD i d:=by
 rw [yZ,yZ];by_cases h:i=k
 ·subst h;rw [zP hk,aD rfl];rfl
 rw [zO (fun e=>h e.symm),aE h]
section
variable {st:LL} {ia it im:Nat} {p:Zae} {room:Int} {ns:List Nd} {lp:List Int} {S:List Int} {O:List Bool}
end
end Go.Dn.F
namespace Go.Dn.F
open Go.Dn Go.Proofs
variable {N:Nat}
def Zqy (hN:10<=N) (p:Zae) (room:Int) {ns:List Nd} (lp:List Int) {a:Nat} (ha:a<ns.length):ZbE N (tOf p room ns lp) (a:Int) (-1)=some true:=by
 unfold ZbE Zcd;rw [show (tOf p room ns lp).store=aOf p room ns from rfl,ZrZ,Zaa];rw [aE aH,ZrZ,Zaa,aD aG,Zaa];simp;omega
section
variable {st:LL} {ia it im:Nat} {p:Zae} {room:Int} {ns:List Nd} {lp:List Int} {S:List Int} {O:List Bool}
def allR (ns:List Nd) (S:List Int) (k:Nat):Bool:=(Zga ns k).all fun x=>S.getD x 0==1
def vlZ (ns:List Nd) (S:List Int) (O:List Bool) (k:Nat):Bool:=allR ns S k && !flZ ns S O k
def Zpk (M:ZlR st ia it im p room ns lp S O) : ∀(k n:Nat),k<ns.length->k+2<=n->loopN (Zbw.p1 N im (gst st im it ns S O)) n (k:Int)=some (allR ns S k):=by
 intro k
 induction k using uI with
 | ind k ih=>
  intro n hk hn;obtain ⟨n,rfl⟩ : ∃m,n=m+1:=⟨n-1,aF⟩
  have T:=M.gst.T;show Zbw.p1 N im (gst st im it ns S O) (loopN (Zbw.p1 N im (gst st im it ns S O)) n) (k:Int)=_;generalize hc:loopN (Zbw.p1 N im (gst st im it ns S O)) n=c;unfold Zbw.p1;rw [aD aP,M.gm,Zan,ZhH,Zag aF,Zag aP,zJ,ZpC hk,Zan,ZgC,show (stZ ns S O k).verdict=S.getD k 0 from rfl];rw [Zaa,T.t,Zan];unfold Zhn;rw [ZcA,Zaa,T.a,Zan,Zbv,show (Zat.mk (aOf p room ns) (Zec lp))=tOf p room ns lp from rfl,Zoe p room lp hk,Zaa];dsimp only;rw [show (ns[k].en).Ahead=ns[k].ah from rfl];unfold allR;by_cases h:S.getD k 0=1
  ·have h':(S.getD k 0==1)=true:=by rw [h];rfl
   rw [aE (by rw [h];decide)];rcases ZeX M.T.tr hk with ⟨_,a,e,_⟩ | ⟨q,hq,a,e,hq',_⟩
   ·obtain ⟨n,rfl⟩ : ∃m,n=m+1:=⟨n-1,aF⟩
    rw [a,e,<-hc];show Zbw.p1 N im (gst st im it ns S O) _ (-1)=_;unfold Zbw.p1;rw [aE aG];simp only [yQ,List.all_nil,h',Bool.and_true]
   rw [a,<-hc,ih q hq n hq' aF,e];unfold allR;simp only [List.all_append,yQ,List.all_nil,h',Bool.and_true]
  rw [aD (aR h)];have hm:=Zoh M.T.tr hk;symm;rw [Option.some.injEq,List.all_eq_false];exact ⟨k,hm,by simpa using h⟩
def Valid_eq (hN:600<=N) (M:ZlR st ia it im p room ns lp S O) (k:Int):Zbw N (some im) k st=some (atZ ns (vlZ ns S O) k,gst st im it ns S O):=by
 unfold Zbw;rw [is_eq hN M,Zaa];dsimp only;cases h:inB ns k
 ·rw [aD (by rfl)];unfold atZ;rw [h];rfl
 obtain ⟨j,rfl,hj⟩:=Zum h;rw [aE aG,Zqz hN M.gst,Zaa,Zrl];dsimp only;have sm:=M.small;have e1:atZ ns (flZ ns S O) (j:Int)=flZ ns S O j:=by unfold atZ;rw [h];simp
 have e2:atZ ns (vlZ ns S O) (j:Int)=vlZ ns S O j:=by unfold atZ;rw [h];simp
 rw [e1,e2];unfold vlZ;cases hf:flZ ns S O j
 ·rw [aE aG,Zaa,Zpk M j N hj aF,Zaa];simp
 rw [aD rfl];simp
def ZkM (ns:List Nd) (f:Nat->Bool):Nat->Nat->Nat->Nat
 | 0,_,out=>out
 | m+1,j,out=>ZkM ns f m (j+1) (if f j&&hvT ns j out then j else out)
def Zkd (ns:List Nd) (f:Nat->Bool):Nat:=ZkM ns f ns.length 0 0
def ZnJ {ns:List Nd} (h:0<ns.length) (f:Nat->Bool):Zkd ns f=ZkM ns f (ns.length-1) 1 0:=by
 unfold Zkd;obtain ⟨m,hm⟩ : ∃m,ns.length=m+1:=⟨ns.length-1,aF⟩
 rw [hm];show ZkM ns f m 1 (if f 0&&hvT ns 0 0 then 0 else 0)=_;rw [show (if f 0&&hvT ns 0 0 then 0 else 0)=0 by split<;>rfl];rfl
def ldZ (ns:List Nd) (S:List Int) (O:List Bool) (k:Nat):Bool:=!flZ ns S O k
def Zsw (hN:600<=N) (M:ZlR st ia it im p room ns lp S O) {j:Nat} (hj:j<ns.length):Zdk N (j:Int) (some im) st=some (ldZ ns S O j,gst st im it ns S O):=by
 unfold Zdk;have ij:inB ns (j:Int)=true:=inB_true.2 ⟨aF,aF⟩;rw [Zqz hN M,Zaa];unfold atZ ldZ;rw [ij];simp
def ZqX (hN:600<=N) (M:ZlR st ia it im p room ns lp S O) (h0:0<ns.length) (hf:ldZ ns S O 0=true):ZdD N (some im) st=some ((Zkd ns (ldZ ns S O):Int),gst st im it ns S O):=by
 unfold ZdD Zah;rw [is_eq hN M,Zaa];dsimp only;have i0:inB ns 0=true:=inB_true.2 ⟨aF,aF⟩;have sm:=M.small;have T:=M.gst.T;rw [i0,aE aG,Zaa,M.gm,Zan,ZhH]
 suffices h:loopN (Zah.p1 N im (some im) (rowM (ZgU ns S O))) N (-1,0,gst st im it ns S O)=some ((Zkd ns (ldZ ns S O):Int),gst st im it ns S O) by rw [h,Zaa]
 refine Zck (fun m (s:Int×Int×LL)=>∃j:Nat,j+m=ns.length/\((j=0/\s=(-1,0,gst st im it ns S O))\/(1<=j/\∃out:Nat,out<ns.length/\s=((out:Int),(j:Int),gst st im it ns S O)/\ZkM ns (ldZ ns S O) m j out=Zkd ns (ldZ ns S O)))) ?_ N ns.length _ ⟨0,aF,.inl ⟨rfl,rfl⟩⟩ aF;rintro G m _ ⟨j,hjm,hs⟩ hG;unfold Zah.p1 Zah.p2;rcases hs with ⟨rfl,rfl⟩ | ⟨hj1,out,ho,rfl,hp⟩
 ·dsimp only;rw [ZoC,Zlr,aD aP,show (0:Int)=((0:Nat):Int) from rfl,Zsw hN M.gst h0,Zaa,Zrl];dsimp only;rw [hf,aD rfl,M.gm,Zan,ZhH,Zaa,T.t,Zan];unfold Zhn;rw [ZcA,Zaa,T.a,Zan,Zbv,show (Zat.mk (aOf p room ns) (Zec lp))=tOf p room ns lp from rfl,Zqy aF p room lp h0,Zaa,aD rfl];exact hG (m-1) _ aF ⟨1,aF,.inr ⟨aF,0,h0,rfl,by rw [ZnJ h0,(aF:m-1=ns.length-1)]⟩⟩
 dsimp only;rw [ZoC,Zlr];by_cases hlt:j<ns.length
 ·have w1:w64 ((j:Int)+1)=((j+1:Nat):Int):=by rw [ZaK aF aF];rfl
  obtain ⟨m,rfl⟩ : ∃x,m=x+1:=⟨m-1,aF⟩
  have hp':ZkM ns (ldZ ns S O) m (j+1) (if ldZ ns S O j&&hvT ns j out then j else out)=Zkd ns (ldZ ns S O):=hp;rw [aD aP,Zsw hN M.gst hlt,Zaa,Zrl];dsimp only;rw [w1];cases hv:ldZ ns S O j
  ·rw [aE aG];rw [hv,Bool.false_and,aE aG] at hp';exact hG m _ aF ⟨j+1,aF,.inr ⟨aF,out,ho,rfl,hp'⟩⟩
  rw [aD rfl,M.gm,Zan,ZhH,Zaa,T.t,Zan];unfold Zhn;rw [ZcA,Zaa,T.a,Zan,Zbv,show (Zat.mk (aOf p room ns) (Zec lp))=tOf p room ns lp from rfl,Zko aF p room lp T.tr hlt ho,Zaa];rw [hv,wT] at hp';cases hh:hvT ns j out
  ·rw [aE aG];rw [hh,aE aG] at hp';exact hG m _ aF ⟨j+1,aF,.inr ⟨aF,out,ho,rfl,hp'⟩⟩
  rw [aD rfl];rw [hh,aD rfl] at hp';exact hG m _ aF ⟨j+1,aF,.inr ⟨aF,j,hlt,rfl,hp'⟩⟩
 rw [aE aP];have:m=0:=aF
 subst this;rw [<-hp];rfl
end
end Go.Dn.F
namespace Go.Dn.F
open Go.Dn Go.Proofs
variable {N:Nat}
noncomputable def rm2 (S:List Int) (O:List Bool):List L:=[zL .i64 600 S,L.brr 600 O]
def ZuL {α:Type} (S:List Int) (O:List Bool) (k:ZbD->Option α):Zdz (rm2 S O) k=k ⟨S,O⟩:=rfl
noncomputable def rst (st:LL) (ir:Nat) (S:List Int) (O:List Bool):LL:=st.set ir (rm2 S O)
structure Ztc (st:LL) (ib ir:Nat) (p:Zae) (room:Int) (ns:List Nd) (S:List Int) (O:List Bool):Prop where
 b:st[ib]? = some (rOf p room ns).lo
 r:st[ir]? = some (rm2 S O)
 ne:ir≠ib
 tr:ZhE ns
 small:ns.length<=500
 S6:S.length=600
 O6:O.length=600
 pos : ∀i,0<=S.getD i 0
def ZtX {l:List Nat} {i:Nat} (h:i<l.length):(Zec (ZtY l))[0+i]? = some [zK .i64 ((l[i]:Nat):Int)]:=by simp [Zec,ZtY,h]
def len_natI (l:List Nat):len (Zec (ZtY l))=(l.length:Int):=by simp [len,Zec,ZtY]
def ZnH (l:List Int):Zes (Zec l)=true:=by
 unfold Zes Zec;simp [L.plain]
section
variable {st:LL} {ib ir:Nat} {p:Zae} {room:Int} {ns:List Nd} {S:List Int} {O:List Bool}
def Ztc.same (R:Ztc st ib ir p room ns S O):rst st ir S O=st:=Zgj R.r
def Ztc.put (R:Ztc st ib ir p room ns S O) {S':List Int} {O':List Bool} (h1:S'.length=600) (h2:O'.length=600) (h3 : ∀i,0<=S'.getD i 0):Ztc (rst st ir S' O') ib ir p room ns S' O':=
 ⟨by unfold rst;rw [zO R.ne];exact R.b,zP (zZ.1 R.r).1,R.ne,R.tr,R.small,h1,h2,h3⟩
def rList (p:Zae) (room:Int) (ns:List Nd):len (rOf p room ns).List_=(ns.length:Int):=by
 rw [show (rOf p room ns).List_=ZkI (ns.map Nd.hd) from rfl];simp
def vlZ_all (ns:List Nd) (S:List Int) (O:List Bool) (k:Nat):vlZ ns S O k=(Zga ns k).all fun x=>S.getD x 0==1 && !O.getD x false:=by
 unfold vlZ allR flZ;generalize Zga ns k=l
 induction l with
 | nil=>rfl
 | cons z l ih=>
  rw [yQ,List.any_cons,yQ,<-ih];unfold badZ;by_cases h:S.getD z 0=1
  ·rw [h];cases O.getD z false<;>simp
  rw [show (S.getD z 0==1)=false by simpa using h];simp
def ZtK (hN:600<=N) (R:Ztc st ib ir p room ns S O) (k:Int):Zbk N (some ir) (some ib) k st=some (atZ ns (vlZ ns S O) k,st):=by
 unfold Zbk atZ;have ht:=R.tr;by_cases h1:k<0
 ·rw [aD (aR h1),show inB ns k=false by rw [<-Bool.not_eq_true,inB_true];omega];rfl
 rw [aE (aR h1),Zaa,R.b,Zan,Zcn,rList];by_cases h2:k>=(ns.length:Int)
 ·rw [aD (aR h2),show inB ns k=false by rw [<-Bool.not_eq_true,inB_true];omega];rfl
 rw [aE (aR h2),show inB ns k=true by rw [inB_true];omega];obtain ⟨k,rfl⟩ : ∃j:Nat,k=(j:Int):=⟨k.toNat,aF⟩
 have hk:k<ns.length:=aF
 have sm:=R.small;rw [ZiM ht aF hk,Zaa,Zag (ZnH _),zJ,wT,vlZ_all];have hl:(Zga ns k).length<=ns.length:=by rw [ZjT ht hk];exact (ht.ch _ (yM hk)).2
 refine Zck (fun m (s:(Option Nat)×Int)=>∃j:Nat,j+m=(Zga ns k).length/\s=(some ir,(j:Int))/\(Zga ns k).all (fun x=>S.getD x 0==1 && !O.getD x false)=((Zga ns k).drop j).all (fun x=>S.getD x 0==1 && !O.getD x false)) ?_ N (Zga ns k).length _ ⟨0,aF,rfl,by rw [vU]⟩ aF;rintro G m _ ⟨j,hj,rfl,hp⟩ hG;unfold Zbk.p1;dsimp only;rw [len_natI];by_cases hlt:j<(Zga ns k).length
 ·have hz:=ZqQ ht hk _ (yM hlt);rw [aD (decide_eq_true aF),Zag aF,zJ,ZtX hlt,Zan,Zfl,Zaa,Zag aF,Zag aF,R.r,Zan,ZuL,zJ,ZaK aF aF];rw [xC hlt,yQ] at hp;dsimp only;generalize (Zga ns k)[j]=z at hp hz |-;by_cases he:S.getD z 0=1
  ·rw [aE (by rw [he];decide)];rw [show (S.getD z 0==1)=true by rw [he];rfl,wT] at hp;cases ho:O.getD z false
   ·rw [aE aG];rw [ho,Bool.not_false,wT] at hp;exact hG (m-1) _ aF ⟨j+1,aF,rfl,hp⟩
   rw [aD rfl,hp,ho];rfl
  rw [aD (by rw [bne_iff_ne];exact he),hp,show (S.getD z 0==1)=false by simpa using he];rfl
 rw [aE aP,hp,List.drop_eq_nil_of_le aF];rfl
def ZqV (hN:600<=N) (ht:ZhE ns) {a b:Nat} (ha:a<ns.length) (hb:b<ns.length):Zds N (rOf p room ns) (a:Int) (b:Int)=some (hvT ns a b):=by
 unfold Zds ZcH;have wa:=ht.wk _ (yM ha);have wb:=ht.wk _ (yM hb);rw [show (rOf p room ns).Works=ZtF (ns.map Nd.wk) from rfl,ZrU,wJ];rw [Zag aF,Zag aF,zJ,Zoi (aR ha),Zan,show ∀(x:List Int) (k:List Int->Option (List Int)),ZgN [zL .u64 4 x] k=k x from fun _ _=>rfl,Zaa,
  Zag aF,Zag aF,zJ,Zoi (aR hb),Zan,show ∀(x:List Int) (k:List Int->Option (List Int)),ZgN [zL .u64 4 x] k=k x from fun _ _=>rfl,Zaa,tC,tC,ZfZ aF wb wa,Zaa,Zsd ha hb]
 by_cases h1:ns[b].wk<ns[a].wk
 ·rw [aD (decide_eq_true h1)];simp [h1]
 rw [aE (aR h1)];by_cases h2:ns[a].wk=ns[b].wk
 ·rw [aD (by rw [h2];simp)];simp [h2]
 rw [aE (by intro e;exact h2 (ZrQ wa wb (aR e)))];simp [h1,h2]
end
end Go.Dn.F
namespace Go.Dn.F
open Go.Dn Go.Proofs
variable {N:Nat}
section
variable {st:LL} {ib ir:Nat} {p:Zae} {room:Int} {ns:List Nd} {S:List Int} {O:List Bool}
def rBest_eq (hN:600<=N) (R:Ztc st ib ir p room ns S O) (h0:0<ns.length):ZaJ N (some ir) (some ib) st=some ((Zkd ns (vlZ ns S O):Int),st):=by
 unfold ZaJ;have sm:=R.small;rw [Zaa,R.b,Zan,Zcn];refine Zck (fun m (s:Int×Int×LL)=>∃j:Nat,j+m=ns.length/\∃out:Nat,out<ns.length/\s=((out:Int),(j:Int),st)/\ZkM ns (vlZ ns S O) m j out=Zkd ns (vlZ ns S O)) ?_ N ns.length _ ⟨0,aF,0,h0,rfl,rfl⟩ aF;rintro G m _ ⟨j,hjm,out,ho,rfl,hp⟩ hG;unfold ZaJ.p1 ZaJ.p2;dsimp only;rw [rList];by_cases hlt:j<ns.length
 ·have ij:inB ns (j:Int)=true:=inB_true.2 ⟨aF,aF⟩;have e2:atZ ns (vlZ ns S O) (j:Int)=vlZ ns S O j:=by unfold atZ;rw [ij];simp
  have w1:w64 ((j:Int)+1)=((j+1:Nat):Int):=by rw [ZaK aF aF];rfl
  obtain ⟨m,rfl⟩ : ∃x,m=x+1:=⟨m-1,aF⟩
  have hp':ZkM ns (vlZ ns S O) m (j+1) (if vlZ ns S O j&&hvT ns j out then j else out)=Zkd ns (vlZ ns S O):=hp;rw [aD (decide_eq_true aF),ZtK hN R,Zaa];dsimp only;rw [e2,w1];cases hv:vlZ ns S O j
  ·rw [aE aG];rw [hv,Bool.false_and,aE aG] at hp';exact hG m _ aF ⟨j+1,aF,out,ho,rfl,hp'⟩
  rw [aD rfl,R.b,Zan,Zcn,ZqV hN R.tr hlt ho,Zaa];rw [hv,wT] at hp';cases hh:hvT ns j out
  ·rw [aE aG];rw [hh,aE aG] at hp';exact hG m _ aF ⟨j+1,aF,out,ho,rfl,hp'⟩
  rw [aD rfl];rw [hh,aD rfl] at hp';exact hG m _ aF ⟨j+1,aF,j,hlt,rfl,hp'⟩
 rw [aE aP];have:m=0:=aF
 subst this;rw [<-hp];rfl
end
end Go.Dn.F
namespace Go.Dn.F
open Go.Dn Go.Proofs
variable {N:Nat}
def both4 (it im ib ir:Nat):List L:=[zN (some it),zN (some im),zN (some ib),zN (some ir)]
structure Ziz (st:LL) (ia it im ib ir ih:Nat) (p:Zae) (ns:List Nd) (lp:List Int) (S:List Int) (O:List Bool):Prop where
 M:ZlR st ia it im p 100 ns lp S O
 R:Ztc st ib ir p 100 ns S O
 h:st[ih]? = some (both4 it im ib ir)
 nd : [ia,it,im,ib,ir,ih].Nodup
 gen:S.getD 0 0=1/\O.getD 0 false=false
 len1:1<=ns.length
def ZsV {ns:List Nd} (ht:ZhE ns) (x:Nd) (S:List Int) (O:List Bool) {k:Nat} (hk:k<=ns.length):(ZgU (ns ++ [x]) S O).take k=(ZgU ns S O).take k:=by
 refine List.ext_getElem? fun i=>?_;rcases Nat.lt_or_ge i k with h | h
 ·rw [tR h,tR h,ZiZ aH,ZiZ aF];unfold stZ chZ;rw [ZiJ x ht aF]
 rw [rU h,rU h]
section
variable {st:LL} {ia it im ib ir ih:Nat} {p:Zae} {ns:List Nd} {lp:List Int} {S:List Int} {O:List Bool}
def Ziz.ne (B:Ziz st ia it im ib ir ih p ns lp S O):(im≠ib/\im≠ir/\im≠ih)/\(ir≠ia/\ir≠it/\ir≠im/\ir≠ih)/\(ib≠ia/\ib≠it/\ib≠im/\ib≠ir/\ib≠ih)/\(ih≠ia/\ih≠it):=by
 have:=B.nd;simp at this;omega
def ZlR.turned (M:ZlR st ia it im p 100 ns lp S O) {S':List Int} {O':List Bool} (h : ∀i,ns.length<=i->S'.getD i 0=S.getD i 0/\O'.getD i false=O.getD i false):ZlR (F.gst st im it ns S' O') ia it im p 100 ns lp S' O':=
 ⟨M.T.setIm M.na M.nt,M.na,M.nt,⟨ns.length,zH _,by rw [zW aG];exact zP M.im_lt,fun i hi=>by rw [(h i hi).1,(h i hi).2];exact M.gst_len i hi⟩,M.small⟩
def ZlR.other (M:ZlR st ia it im p 100 ns lp S O) {j:Nat} {x:List L} (h1:j≠ia) (h2:j≠it) (h3:j≠im):ZlR (st.set j x) ia it im p 100 ns lp S O:=by
 obtain ⟨k,hk,hm,hn⟩:=M.k;exact ⟨M.T.setIm h1 h2,M.na,M.nt,⟨k,hk,by rw [zO h3];exact hm,hn⟩,M.small⟩
def Ztc.other (R:Ztc st ib ir p 100 ns S O) {j:Nat} {x:List L} (h1:j≠ib) (h2:j≠ir):Ztc (st.set j x) ib ir p 100 ns S O:=
 ⟨by rw [zO h1];exact R.b,by rw [zO h2];exact R.r,R.ne,R.tr,R.small,R.S6,R.O6,R.pos⟩
def Ziz.turn (B:Ziz st ia it im ib ir ih p ns lp S O) {S':List Int} {O':List Bool} (h : ∀i,ns.length<=i->S'.getD i 0=S.getD i 0/\O'.getD i false=O.getD i false) (h1:S'.length=600) (h2:O'.length=600) (h3 : ∀i,0<=S'.getD i 0) (h4:S'.getD 0 0=1/\O'.getD 0 false=false) :
  Ziz (rst (F.gst st im it ns S' O') ir S' O') ia it im ib ir ih p ns lp S' O':=by
 obtain ⟨⟨n1,n2,n3⟩,⟨n4,n5,n6,n7⟩,⟨n8,n9,n10,n11,n12⟩,n13,n14⟩:=B.ne;have R1:Ztc (F.gst st im it ns S' O') ib ir p 100 ns S O:=B.R.other n1 n2;exact ⟨(B.M.turned h).other n4 n5 n6,R1.put h1 h2 h3,by unfold rst gst;rw [zO n7,zO n3];exact B.h,B.nd,h4,B.len1⟩
def Ziz.gst (B:Ziz st ia it im ib ir ih p ns lp S O):Ziz (F.gst st im it ns S O) ia it im ib ir ih p ns lp S O:=by
 obtain ⟨⟨n1,n2,n3⟩,_⟩:=B.ne;exact ⟨B.M.gst,B.R.other n1 n2,by unfold F.gst;rw [zO n3];exact B.h,B.nd,B.gen,B.len1⟩
def Ziz.ih_gst (B:Ziz st ia it im ib ir ih p ns lp S O) (S':List Int) (O':List Bool):(F.gst st im it ns S' O')[ih]? = some (both4 it im ib ir):=by
 obtain ⟨⟨n1,n2,n3⟩,_⟩:=B.ne;unfold F.gst;rw [zO n3];exact B.h
def Ziz.ck {α:Type} (B:Ziz st ia it im ib ir ih p ns lp S O) (S':List Int) (O':List Bool) (A:Option α):chk (eqO ((F.gst st im it ns S' O')[ih]?) (some [zN (some it),zN (some im),zN (some ib),zN (some ir)])=true) A=A:=Zag (ZuF (B.ih_gst S' O'))
end
end Go.Dn.F
namespace Go.Dn.F
open Go.Dn Go.Proofs
variable {N:Nat}
section
variable {st:LL} {ia it im ib ir ih:Nat} {p:Zae} {ns:List Nd} {lp:List Int} {S:List Int} {O:List Bool}
end
def S0:List Int:=(zB 600 0).set 0 1
def O0:List Bool:=zB 600 false
def Zqx (i:Nat):S0.getD i 0=if i=0 then 1 else 0:=by
 unfold S0;rw [getD_set aG];by_cases h:i=0
 ·rw [aD h,aD h]
 rw [aE h,aE h,yZ,wA];split<;>rfl
def O0_get (i:Nat):O0.getD i false=false:=by
 unfold O0;rw [yZ,wA];split<;>rfl
end Go.Dn.F
namespace Go.Dn.F
open Go.Dn Go.Proofs
variable {N:Nat}
end Go.Dn.F
namespace Go.Dn.F
open Go.Dn Go.Proofs
def ZmF {ns:List Nd} {x y:Nat} (hx:x<ns.length) (hy:y<ns.length):hvT ns x y=true↔ns[y].wk<ns[x].wk\/(ns[x].wk=ns[y].wk/\x<y):=by
 rw [Zsd hx hy];simp
def Zuq {ns:List Nd} {x y z:Nat} (hx:x<ns.length) (hy:y<ns.length) (hz:z<ns.length) (h1:hvT ns x y=true) (h2:hvT ns y z=true):hvT ns x z=true:=by
 rw [ZmF hx hy] at h1;rw [ZmF hy hz] at h2;rw [ZmF hx hz];omega
def Zur {ns:List Nd} {x y:Nat} (hx:x<ns.length) (hy:y<ns.length) (hne:x≠y) (h:hvT ns x y=false):hvT ns y x=true:=by
 have h1 : ¬ (hvT ns x y=true):=by rw [h];simp
 rw [ZmF hx hy] at h1;rw [ZmF hy hx];omega
def Zmm {ns:List Nd} {f:Nat->Bool} : ∀(m j out:Nat),j+m=ns.length->out<j->f out=true->(∀i,i<j->f i=true->i=out\/hvT ns out i=true) ->
  ZkM ns f m j out<ns.length/\f (ZkM ns f m j out)=true/\∀i,i<ns.length->f i=true->i=ZkM ns f m j out\/hvT ns (ZkM ns f m j out) i=true
 | 0,j,out,hj,ho,hf,hi=>⟨by show out<_;omega,hf,fun i h1 h2=>hi i aF h2⟩
 | m+1,j,out,hj,ho,hf,hi=>by
  unfold ZkM;by_cases h:(f j&&hvT ns j out)=true
  ·rw [aD h];simp only [Bool.and_eq_true] at h;refine Zmm m (j+1) j aF aF h.1 fun i h1 h2=>?_;by_cases e:i=j
   ·exact .inl e
   right;rcases hi i aF h2 with rfl | h3
   ·exact h.2
   exact Zuq aF aF aF h.2 h3
  rw [aE h];refine Zmm m (j+1) out aF aF hf fun i h1 h2=>?_;by_cases e:i=j
  ·subst e;right;rw [h2,wT] at h;exact Zur aF aF aF (aR h)
  exact hi i aF h2
def ZpN {ns:List Nd} {f:Nat->Bool} (h:0<ns.length) (h0:f 0=true):Zkd ns f<ns.length/\f (Zkd ns f)=true/\∀i,i<ns.length->f i=true->i=Zkd ns f\/hvT ns (Zkd ns f) i=true:=by
 rw [ZnJ h];exact Zmm _ 1 0 aF aF h0 fun i h1 h2=>.inl aF
def atZ_nat {ns:List Nd} {f:Nat->Bool} {j:Nat} (h:j<ns.length):atZ ns f (j:Int)=f j:=by
 unfold atZ;rw [show inB ns (j:Int)=true from inB_true.2 ⟨aF,aF⟩];simp
end Go.Dn.F
