import Derived.Test.YtlofpeadcmldhaaGreatDoorNum
import Derived.Test.YtlofpeadcmldhaaGreatDoorRul
set_option linter.all false
open Bool renaming true_and→wU,and_eq_true→zV
open Go.Dn.L renaming arr→zK,int→zM,ptr→yN,own→yT
open Int renaming toNat_natCast→zH,sub_self→uX,toNat→zC
open List renaming replicate→zB,length_cons→xW,foldl_append→vY,length_map→wI,length_append→zT,length_singleton→yY,set_set→xX,getElem?_eq_some_iff→yE,getElem?_set_self→zP,getElem?_set_ne→zU,getElem_mem→yL,length→zG,getElem_map→tP,mem_singleton→yM,mem_append→xB,getElem_append_left→tS,getElem_append_right→rS,nil_append→vZ,getElem?_eq_getElem→zO,getElem?_append_left→zS,take_append_of_le_length→vL,getElem?_append_right→zX,take_of_length_le→zW,mem_iff_getElem?→qP,mem_of_getElem?→vQ,getElem?_eq_none→zN,pairwise_iff_getElem→rT,pairwise_cons→tU,mem_cons_of_mem→yK,mem_cons→xL,mem_iff_getElem→vG,getElem_take→sE,getElem_drop→tJ,filter_sublist→rH,mem_filter→tT,take→yO,drop→wE,map_take→sS,take_succ_eq_append_getElem→zZ,take_length→sR,filter_append→tF,filter_cons_of_neg→wS,length_filter_le→sL,filter_cons_of_pos→vC,getD_eq_getElem?_getD→xA,range→vP
open Nat renaming zero_add→zY,strongRecOn→uS,le_refl→zJ
set_option maxRecDepth 40000
namespace Go.Dn.F
open Go.Dn Go.Proofs
variable {N:Nat}
structure Nd where
 ch:List Zal
 ah:Int
 wk:Int
def h0:Zal:=⟨0,zB 32 0,zB 32 0,0,0,0⟩
def Nd.hd (n:Nd):Zal:=n.ch.getLast?.getD h0
def Nd.id (n:Nd):List Int:=hid n.hd
noncomputable def Nd.en (n:Nd):ZbY:=⟨n.hd,n.id,n.ah,(n.ch.length:Int)-1,nw n.wk⟩
noncomputable def Zhy (ns:List Nd):LL:=ns.map fun n=>n.en.ls
noncomputable def rowS (p:Zah) (ns:List Nd):LL:=ns.map fun n=>(ZcU p n.ch).ls
def Zjq:Nat→List (List Int)→LM
 | _,[]=>[]
 | i,x::l=>(zK .u8 32 x,zM .i64 (i:Int))::Zjq (i+1) l
def ids (ns:List Nd):List (List Int):=ns.map Nd.id
def ZeC:Nat→List (List Int)→List Int→Option Nat
 | _,[],_=>none
 | i,y::l,x=>if x=y then some i else ZeC (i+1) l x
theorem ZkJ : ∀(l:List (List Int)) (i:Nat) (x:List Int),ZhT (Zjq i l) (zK .u8 32 x)=some ((ZeC i l x).map fun k=>(k-i,zM .i64 (k:Int)))
 | [],i,x=>rfl
 | y::l,i,x=>by
  rw [Zjq,ZhT];simp only [Zns,and_self,if_true];unfold ZeC;by_cases h:x=y
  ·subst h;simp
  rw [show (x==y)=false by simpa using h,aB h,ZkJ l (i+1) x];cases e:ZeC (i+1) l x with
  | none=>rfl
  | some k=>
   have : ∀(l:List (List Int)) (i k:Nat),ZeC i l x=some k→i≤k:=by
    intro l
    induction l with
    | nil=>intro i k h;cases h
    | cons z l ih=>
     intro i k h;unfold ZeC at h;split at h
     ·cases h;omega
     have:=ih _ _ h;omega
   have:=this l (i+1) k e;simp only [Option.map_some];rw [show k-(i+1)+1=k-i by omega]
theorem Zks : ∀(l:List (List Int)) (i:Nat) (x:List Int),Zjq i (l ++ [x])=Zjq i l ++ [(zK .u8 32 x,zM .i64 ((i+l.length:Nat):Int))]
 | [],i,x=>rfl
 | y::l,i,x=>by rw [List.cons_append,Zjq,Zks l (i+1) x,Zjq,xW,show i+1+l.length=i+(l.length+1) by omega];rfl
theorem Zgi : ∀{l:List (List Int)} {i k:Nat} {x:List Int},ZeC i l x=some k→i≤k∧∃h:k-i<l.length,l[k-i]=x
 | y::l,i,k,x,h=>by
  unfold ZeC at h;split at h
  ·rename_i e;cases h;exact ⟨aC,by simp,by simp [e]⟩
  obtain ⟨h1,h2,h3⟩:=Zgi h;refine ⟨aC,by simp;omega,?_⟩;have:k-i=(k-(i+1))+1:=aC
  simp only [this,List.getElem_cons_succ];exact h3
theorem Zmv : ∀{l:List (List Int)} {i:Nat} {x:List Int},ZeC i l x=none→x∉l
 | [],_,_,_=>by simp
 | y::l,i,x,h=>by
  unfold ZeC at h;split at h
  ·cases h
  rename_i e;simp [e,Zmv h]
noncomputable def aOf (p:Zah) (room:Int) (ns:List Nd):ZaF:=⟨p,Zhy ns,rowS p ns,Zjq 0 (ids ns),room⟩
theorem ZkF {ns:List Nd} {i:Nat} (h:i<ns.length):(Zhy ns)[i]? = some ns[i].en.ls:=by simp [Zhy,h]
theorem rowS_get {p:Zah} {ns:List Nd} {i:Nat} (h:i<ns.length):(rowS p ns)[i]? = some (ZcU p ns[i].ch).ls:=by simp [rowS,h]
@[simp] theorem ZgC (ns:List Nd):len (Zhy ns)=(ns.length:Int):=by simp [len,Zhy]
@[simp] theorem len_rowS (p:Zah) (ns:List Nd):len (rowS p ns)=(ns.length:Int):=by simp [len,rowS]
structure ZhB (ns:List Nd):Prop where
 small:ns.length≤512
 ch : ∀n∈ns,n.ch ≠ []∧n.ch.length≤ns.length
 wf : ∀n∈ns,∀x∈n.ch,WfH x
 wk : ∀n∈ns,isN n.wk
 ah : ∀(i:Nat) (h:i<ns.length),(i=0∧ns[i].ah = -1∧ns[i].ch.length=1)∨∃(k:Nat) (hk:k<i),ns[i].ah=(k:Int)∧ns[i].ch=ns[k].ch ++ [ns[i].hd]
 one:(ids ns).Nodup
theorem Nd.hd_snoc {n:Nd} {c:List Zal} {h:Zal} (e:n.ch=c ++ [h]):n.hd=h:=by unfold Nd.hd;rw [e];simp
theorem Zmi (p:Zah) (c:List Zal) (h:Zal):(ZcU p (c ++ [h])).Prev=hid h:=by
 unfold ZcU;rw [vY];rfl
theorem ZsE {st:LL} {i:Nat} {p:Zah} {room:Int} {ns:List Nd} (hst:st[i]? = some (aOf p room ns).lo) (hl:ns.length≤512) (nd:Nd) (hid':ZeC 0 (ids ns) nd.id=none) :
  ZaZ.p1 N (some i) (ZcU p nd.ch) nd.en st=some ((ns.length:Int),st.set i (aOf p room (ns ++ [nd])).lo):=by
 unfold ZaZ.p1;have e1:(aOf p room ns).list ++ [nd.en.ls]=Zhy (ns ++ [nd]):=by show Zhy ns++_=_;simp [Zhy]
 have e2:(aOf p room ns).spots ++ [(ZcU p nd.ch).ls]=rowS p (ns ++ [nd]):=by show rowS p ns++_=_;simp [rowS]
 have e3:(aOf p room ns).places ++ [(zK .u8 32 nd.en.Id,zM .i64 (ns.length:Int))]=Zjq 0 (ids (ns ++ [nd])):=by
  show Zjq 0 (ids ns)++_=_;unfold ids;rw [List.map_append];show _=Zjq 0 (List.map Nd.id ns ++ [nd.id]);rw [Zks,wI,zY];rfl
 have l1:(Zhy (ns ++ [nd])).length=ns.length+1:=by simp [Zhy]
 have l2:(rowS p (ns ++ [nd])).length=ns.length+1:=by simp [rowS]
 rw [Zab,hst,Zax,ZbK,e1,e2,Zag (by rw [l1];omega),Zag (by rw [l2];omega),show ZhT (aOf p room ns).places (zK .u8 32 nd.en.Id)=some none by
  show ZhT (Zjq 0 (ids ns)) (zK .u8 32 nd.id)=_;rw [ZkJ,hid'];rfl]
 show some _=_;rw [ZgC,zT,yY,ZaH aC aC,show ((ns.length+1:Nat):Int)-1=(ns.length:Int) by omega,e3];simp only [xX];rfl
theorem keep_eq (hN:300≤N) {st:LL} {i:Nat} {p:Zah} {room:Int} {ns:List Nd} (hst:st[i]? = some (aOf p room ns).lo) (hl:ns.length≤512) {k:Nat} (hk:k<ns.length) (hw:isN ns[k].wk) (hlen:ns[k].ch.length≤600)
  {h:Zal} (nd:Nd) (hch:nd.ch=ns[k].ch ++ [h]) (hah:nd.ah=(k:Int)) (hwk:nd.wk=ZlP ns[k].wk (Zgu h.Bits)) (hid':ZeC 0 (ids ns) (hid h)=none) :
  ZaZ N (some i) h (k:Int) (ZcU p nd.ch) st=some ((ns.length:Int),st.set i (aOf p room (ns ++ [nd])).lo):=by
 have hd:=nd.hd_snoc hch;unfold ZaZ;rw [ZiA hN,Zab,aA aF,Zab,hst,Zax,ZbK,show (aOf p room ns).list=Zhy ns from rfl,ZgC,Zag aC,Zag aC,zH,zY,ZkF hk,Zax,ZeQ,show (ns[k].en).Work=nw ns[k].wk from rfl,Zpa aC hw (Zij _),Zab,show (ns[k].en).Height=(ns[k].ch.length:Int)-1 from rfl,ZaH aC aC];have e:ZbY.mk h (ZcU p nd.ch).Prev (k:Int) ((ns[k].ch.length:Int)-1+1) (nw (ZlP ns[k].wk (Zgu h.Bits)))=nd.en:=by
  unfold Nd.en Nd.id;rw [hd,hch,Zmi,hah,hwk,zT,yY]
  congr 1;omega
 rw [e];refine ZsE hst hl nd ?_;unfold Nd.id;rw [hd];exact hid'
theorem keep0_eq (hN:300≤N) {st:LL} {i:Nat} {p:Zah} {room:Int} (hst:st[i]? = some (aOf p room []).lo) {h:Zal} (nd:Nd) (hch:nd.ch = [h]) (hah:nd.ah = -1) (hwk:nd.wk=Zgu h.Bits) :
  ZaZ N (some i) h (-1) (ZcU p nd.ch) st=some (0,st.set i (aOf p room [nd]).lo):=by
 have hd:nd.hd=h:=nd.hd_snoc (c:=[]) hch;unfold ZaZ;rw [ZiA hN,Zab,aB aD];have e:ZbY.mk h (ZcU p nd.ch).Prev (-1) 0 (nw (Zgu h.Bits))=nd.en:=by
  unfold Nd.en Nd.id;rw [hd,hch,show (ZcU p [h]).Prev=hid h from Zmi p [] h,hah,hwk];rfl
 rw [e];exact ZsE (ns:=[]) hst aD nd rfl
def chAt (ns:List Nd) (k:Nat):List Zal:=(ns[k]?.map Nd.ch).getD []
def wkAt (ns:List Nd) (k:Nat):Int:=(ns[k]?.map Nd.wk).getD 0
theorem Zkd {ns:List Nd} {k:Nat} (h:k<ns.length):chAt ns k=ns[k].ch:=by simp [chAt,h]
theorem Zpb {ns:List Nd} {k:Nat} (h:k<ns.length):wkAt ns k=ns[k].wk:=by simp [wkAt,h]
def ZdH (ns:List Nd) (k:Nat) (h:Zal):Nd:=⟨chAt ns k ++ [h],(k:Int),ZlP (wkAt ns k) (Zgu h.Bits)⟩
def ZiS (p:Zah) (gs:List Zcy) (cs:List Zcb) (room:Int) (ns:List Nd) (h:Zal) (now:Int):Int×Int×Int×List Nd:=
 if Zgd h=false then (-1,1,8,ns) else
 match ZeC 0 (ids ns) (hid h) with
 | some k=>((k:Int),0,0,ns)
 | none=>match ZeC 0 (ids ns) h.Prev with
  | none=>(-1,2,5,ns)
  | some k=>if Zfl p gs cs (ZcU p (chAt ns k)) h now≠0 then (-1,Zfl p gs cs (ZcU p (chAt ns k)) h now,8,ns)
   else if room≤(ns.length:Int) then (-1,0,6,ns) else ((ns.length:Int),0,0,ns ++ [ZdH ns k h])
theorem Zgw {st:LL} {i:Nat} {x:List L} (h:st[i]? = some x):st.set i x=st:=by
 apply List.ext_getElem?;intro j;by_cases e:i=j
 ·subst e;obtain ⟨hi,e⟩:=yE.1 h;rw [zP hi,h]
 rw [zU e]
theorem ZrM (p:Zah) (c:List Zal):wfS (ZcU p c)=true:=by
 have h : ∀l:List Zal,∃ts:List Int,(ZcU p l).Times=ZdL ts∧ts.length≤11:=by
  refine ZmX ⟨[],rfl,by simp⟩ (fun l h ih=>?_);unfold ZcU at *;rw [vY];exact ⟨_,rfl,by simp;omega⟩
 obtain ⟨ts,h1,h2⟩:=h c;simp only [wfS,h1,isI_row,wU,decide_eq_true_eq,ZdK];omega
theorem Add_eq (hN:500≤N) {st:LL} {i:Nat} {p:Zah} {gs:List Zcy} {cs:List Zcb} (hg:p.Gates=Zmo gs) (hc:p.Checks=ZjG cs) (lg:gs.length≤400) (lc:cs.length≤400) {room:Int} (hroom:room≤512) {ns:List Nd} (ht:ZhB ns) (hst:st[i]? = some (aOf p room ns).lo)
  {h:Zal} (hh:WfH h) (now:Int) (hnow : -1152921504606846976≤now∧now≤9223372036854775807) :
  ZaK N (some i) h now st=some ((ZiS p gs cs room ns h now).1,(ZiS p gs cs room ns h now).2.1,(ZiS p gs cs room ns h now).2.2.1,st.set i (aOf p room (ZiS p gs cs room ns h now).2.2.2).lo):=by
 have ss:=Zgw hst;unfold ZaK ZiS;rw [aB (c:=Option.isNone (some i)=true) aD,ZeK,Zab];cases hgd:Zgd h with
 | false=>rw [aA (by rfl),aA (c:=false=false) rfl];dsimp only;rw [ss]
 | true=>
  rw [aB (c:=(!true)=true) aD,aB (c:=true=false) aD,Zab,hst,Zax,ZbK,Zge hN hh.w,Zab,show (aOf p room ns).places=Zjq 0 (ids ns) from rfl,ZkJ];cases e1:ZeC 0 (ids ns) (hid h) with
  | some k=>
   show ZaK.p1 N i now (k:Int) true h st=_;unfold ZaK.p1;rw [aA rfl];dsimp only;rw [ss]
  | none=>
   show ZaK.p1 N i now 0 false h st=_;unfold ZaK.p1;rw [aB aD,hst,Zax,ZbK,show (aOf p room ns).places=Zjq 0 (ids ns) from rfl,ZkJ];cases e2:ZeC 0 (ids ns) h.Prev with
   | none=>
    show ZaK.p2 N i now 0 false h st=_;unfold ZaK.p2;rw [aA (by rfl)];dsimp only;rw [ss]
   | some k=>
    show ZaK.p2 N i now (k:Int) true h st=_;obtain ⟨_,hk,_⟩:=Zgi e2;have hk':k<ns.length:=by simpa [ids] using hk
    have sw:=ZrM p ns[k].ch;have isT:isI (ZcU p ns[k].ch).Times=true:=by simp only [wfS,zV] at sw;exact sw.1
    unfold ZaK.p2;dsimp only;rw [aB (c:=(!true)=true) aD,hst,Zax,ZbK,show (aOf p room ns).spots=rowS p ns from rfl,len_rowS,Zag aC,Zag aC,zH,zY,rowS_get hk',Zax,ZkB,show (aOf p room ns).rules=p from rfl,ZmP hN hg hc lg lc hh.w isT now hnow,Zab,Zkd hk'];by_cases h4:Zfl p gs cs (ZcU p ns[k].ch) h now=0
    ·rw [aB (c:=(Zfl p gs cs (ZcU p ns[k].ch) h now != 0)=true) (by simp [h4]),aB (c:=Zfl p gs cs (ZcU p ns[k].ch) h now≠0) (by simp [h4]),show (aOf p room ns).list=Zhy ns from rfl,ZgC,show (aOf p room ns).room=room from rfl];by_cases h5:room≤(ns.length:Int)
     ·rw [aA (aH h5),aA h5];dsimp only;rw [ss]
     rw [aB (aH h5),aB h5,ZhJ hN hh.w sw,Zab];have be:Zfx p (ZcU p ns[k].ch) h=ZcU p (ZdH ns k h).ch:=by
      unfold ZdH ZcU;rw [Zkd hk',vY];rfl
     have hm:=yL hk';have sm:=ht.small;have cl:=(ht.ch _ hm).2;rw [be,keep_eq aC hst ht.small hk' (ht.wk _ hm) aC (ZdH ns k h) (by unfold ZdH;rw [Zkd hk']) rfl (by unfold ZdH;rw [Zpb hk']) e1,Zab]
    rw [aA (c:=(Zfl p gs cs (ZcU p ns[k].ch) h now != 0)=true) (aH h4),aA (c:=Zfl p gs cs (ZcU p ns[k].ch) h now≠0) h4];dsimp only;rw [ss]
noncomputable def Zhx (l:List (List Int)):LL:=l.map fun x=>[zK .u8 32 x]
noncomputable def Zsb (l:List Int):LL:=l.map fun x=>[zK .u64 4 (nw x)]
noncomputable def rOf (p:Zah) (room:Int) (ns:List Nd):Zac:=⟨p,ZjQ (ns.map Nd.hd),Zhx (ids ns),ZdL (ns.map Nd.ah),Zsb (ns.map Nd.wk),room⟩
theorem ZqY {l:List (List Int)} {i:Nat} (h:i<l.length):(Zhx l)[i]? = some [zK .u8 32 l[i]]:=by simp [Zhx,h]
theorem ZmS {l:List Int} {i:Nat} (h:i<l.length):(Zsb l)[i]? = some [zK .u64 4 (nw l[i])]:=by simp [Zsb,h]
@[simp] theorem Zrk (l:List (List Int)):len (Zhx l)=(l.length:Int):=by simp [len,Zhx]
@[simp] theorem Zqt (l:List Int):len (Zsb l)=(l.length:Int):=by simp [len,Zsb]
@[simp] theorem Znp (l:List Zal):len (ZjQ l)=(l.length:Int):=by simp [len]
theorem Zra (i:Nat) (y:List Int) (l:List (List Int)) (x:List Int):ZeC i (y::l) x=if x=y then some i else ZeC (i+1) l x:=rfl
def Zos (o:Option Nat):Int:=match o with
 | some k=>(k:Int)
 | none=>-1
theorem Zjh {st:LL} {i:Nat} {p:Zah} {room:Int} {ns:List Nd} (hN:ns.length<N) (hl:ns.length≤512) (hst:st[i]? = some (rOf p room ns).lo) (x:List Int) :
  Zbb N (some i) x st=some (Zos (ZeC 0 (ids ns) x),st):=by
 unfold Zbb;rw [Zab,hst,Zax,Zcm];have li:(ids ns).length=ns.length:=by simp [ids]
 refine ZbZ (fun m (v:Int)=>∃k:Nat,k+m=ns.length∧v=(k:Int)∧ZeC 0 (ids ns) x=ZeC k ((ids ns).drop k) x) ?_ N ns.length 0 ⟨0,aC,rfl,by rw [List.drop_zero]⟩ hN;rintro G m _ ⟨k,hk,rfl,hp⟩ hG;unfold Zbb.p1;rw [show (rOf p room ns).Ids=Zhx (ids ns) from rfl,Zrk,li];by_cases hlt:k<ns.length
 ·have hk':k<(ids ns).length:=by omega
  rw [List.drop_eq_getElem_cons hk'] at hp;rw [Zra] at hp;rw [aA aF,Zag aC,hst,Zax,Zcm,show (rOf p room ns).Ids=Zhx (ids ns) from rfl,zH,zY,ZqY hk',Zax,Zku,ZaH aC aC];by_cases he:x=(ids ns)[k]
  ·rw [aA he] at hp;rw [aA (by simp [he]),hp];rfl
  rw [aB he] at hp;rw [aB (by simpa using fun e=>he e.symm)];exact hG (m-1) _ aC ⟨k+1,aC,aC,hp⟩
 rw [aB aF,hp,List.drop_of_length_le aC];rfl
theorem ZlV {p:Zah} {room:Int} {ns:List Nd} (ht:ZhB ns) (hN:ns.length+2≤N) {k:Nat} (hk:k<ns.length):ZaU N (rOf p room ns) (k:Int)=some (ZjQ (chAt ns k)):=by
 have sm:=ht.small;unfold ZaU;rw [Zkd hk];refine ZbZ (fun m (x:LL×Int)=>∃out:List Zal,x=(ZjQ out,(m:Int)-1)∧m≤ns.length∧((m=0∧out=ns[k].ch)∨∃h:0<m∧m-1<ns.length,ns[m-1].ch++out=ns[k].ch)) ?_ N (k+1) _ ⟨[],by simp;rfl,aC,.inr ⟨⟨aC,aC⟩,by simp⟩⟩ aC;rintro G m _ ⟨out,rfl,hm,ho⟩ hG;unfold ZaU.p1;dsimp only;rcases ho with ⟨rfl,rfl⟩ | ⟨⟨h0,h1⟩,ho⟩
 ·rw [aB aD]
 obtain ⟨j,rfl⟩ : ∃j,m=j+1:=⟨m-1,aC⟩
 simp only [Nat.add_sub_cancel] at ho h1;have hj:j<(ns.map Nd.hd).length:=by simp;omega
 have hj2:j<(ns.map Nd.ah).length:=by simp;omega
 have cl:=congrArg zG ho;rw [zT] at cl;have cb:=(ht.ch _ (yL hk)).2;rw [show (rOf p room ns).List_=ZjQ (ns.map Nd.hd) from rfl,show (rOf p room ns).Ahead=ZdL (ns.map Nd.ah) from rfl,show ((j+1:Nat):Int)-1=(j:Int) by omega,aA aD,Znp,Zel,Zag aC,Zag aC,zH,Zjb hj,Zax,Zeu,Zag (by rw [zT,Zlf];simp;omega),Zag aC,Zin hj2,Zax,ZdV,tP,tP];have e : [ns[j].hd.ls]++ZjQ out=ZjQ (ns[j].hd::out):=rfl;rw [e];have nl:=ht.ch _ (yL h1);rcases ht.ah j h1 with ⟨z,a,c⟩ | ⟨q,hq,a,c⟩
 ·have c1:ns[j].ch = [ns[j].hd]:=by
   unfold Nd.hd
   match hch:ns[j].ch,c with
   | [x],_=>rfl
  rw [a];rw [c1] at ho;exact hG 0 _ aC ⟨_,rfl,aC,.inl ⟨rfl,ho⟩⟩
 rw [a];rw [c,List.append_assoc] at ho;exact hG (q+1) _ aC ⟨_,by rw [show ((q+1:Nat):Int)-1=(q:Int) by omega],aC,.inr ⟨⟨aC,aC⟩,by simpa using ho⟩⟩
theorem Zth (p:Zah) (gs:List Zcy) (cs:List Zcb) (s:ZaT) (h:Zal) (now:Int):0≤Zfl p gs cs s h now:=by
 unfold Zfl;repeat' split
 all_goals omega
theorem Zon (hN:900≤N) {st:LL} {i:Nat} {p:Zah} {gs:List Zcy} {cs:List Zcb} (hg:p.Gates=Zmo gs) (hc:p.Checks=ZjG cs) (lg:gs.length≤400) (lc:cs.length≤400) {room:Int} (hroom:room≤512) {ns:List Nd} (ht:ZhB ns) (hlen:ns.length≤200) (hst:st[i]? = some (rOf p room ns).lo)
  {h:Zal} (hh:WfH h) (now:Int) (hnow:0≤now∧now≤9223372036854775807) :
  ZcQ N (some i) h now st=some ((ZiS p gs cs room ns h now).1,(ZiS p gs cs room ns h now).2.1,(ZiS p gs cs room ns h now).2.2.1,st.set i (rOf p room (ZiS p gs cs room ns h now).2.2.2).lo):=by
 have ss:=Zgw hst;unfold ZcQ ZiS;rw [Zio,Zab];cases hgd:Zgd h with
 | false=>rw [aA (by rfl),aA (c:=false=false) rfl];dsimp only;rw [ss]
 | true=>
  rw [aB (c:=(!true)=true) aD,aB (c:=true=false) aD,Zjg aC h hh.w,Zab,Zjh aC ht.small hst,Zab];dsimp only;cases e1:ZeC 0 (ids ns) (hid h) with
  | some k=>
   rw [show Zos (some k)=(k:Int) from rfl,aA aD];dsimp only;rw [ss]
  | none=>
   rw [show Zos none = -1 from rfl,aB aD,Zjh aC ht.small hst,Zab];dsimp only;cases e2:ZeC 0 (ids ns) h.Prev with
   | none=>
    rw [show Zos none = -1 from rfl,aA aD];dsimp only;rw [ss]
   | some k=>
    obtain ⟨_,hk,_⟩:=Zgi e2;have hk':k<ns.length:=by simpa [ids] using hk
    have hm:=yL hk';have cl:=ht.ch _ hm;have c0:0<ns[k].ch.length:=List.length_pos_iff.2 cl.1;dsimp only;rw [show Zos (some k)=(k:Int) from rfl,aB aF,Zab,hst,Zax,Zcm,ZlV ht aC hk',Zab,Zkd hk',Zag (by simp [Zee,ZjQ,Zal.ls,L.plain]),show (rOf p room ns).Rules=p from rfl,ZlW hN hg lg hc lc ns[k].ch c0 aC (fun x hx=>(ht.wf _ hm x hx).w) hh.w now hnow,Zab];have nn:=Zth p gs cs (ZcU p ns[k].ch) h now;by_cases h4:Zfl p gs cs (ZcU p ns[k].ch) h now=0
    ·rw [aB (c:=decide (Zfl p gs cs (ZcU p ns[k].ch) h now>0)=true) aF,aB (c:=Zfl p gs cs (ZcU p ns[k].ch) h now≠0) (by simp [h4]),show (rOf p room ns).List_=ZjQ (ns.map Nd.hd) from rfl,Znp,wI,show (rOf p room ns).Room=room from rfl];by_cases h5:room≤(ns.length:Int)
     ·rw [aA (aH h5),aA h5];dsimp only;rw [ss]
     have hd:=(ZdH ns k h).hd_snoc rfl;have i1:ZjQ (ns.map Nd.hd) ++ [h.ls]=ZjQ ((ns ++ [ZdH ns k h]).map Nd.hd):=by simp [ZjQ,hd]
     have i2:Zhx (ids ns) ++ [[zK .u8 32 (hid h)]]=Zhx (ids (ns ++ [ZdH ns k h])):=by simp [Zhx,ids,Nd.id,hd]
     have i3:Zsb (ns.map Nd.wk) ++ [[zK .u64 4 (nw (ZlP ns[k].wk (Zgu h.Bits)))]]=Zsb ((ns ++ [ZdH ns k h]).map Nd.wk):=by simp [Zsb,ZdH,Zpb hk']
     have i4:ZdL (ns.map Nd.ah) ++ [[zM .i64 (k:Int)]]=ZdL ((ns ++ [ZdH ns k h]).map Nd.ah):=by simp [ZdL,ZdH]
     have kw:k<(ns.map Nd.wk).length:=by simp;omega
     have sm:=ht.small;rw [aB (aH h5),aB h5,show (rOf p room ns).Ids=Zhx (ids ns) from rfl,show (rOf p room ns).Works=Zsb (ns.map Nd.wk) from rfl,show (rOf p room ns).Ahead=ZdL (ns.map Nd.ah) from rfl,i1,i2,i4,Zag (by rw [Zlf,wI,zT,yY];omega),Zag (by simp [Zhx,ids];omega),Zag aC,Zqt,Zag (by rw [wI];omega),zH,zY,ZmS kw,Zax,tP,Zib,ZhN aC,Zab,Zoo aC (ht.wk _ hm) (Zij _),Zab,i3,Zag (by simp [Zsb];omega),Zag (by rw [ZdK,wI,zT,yY];omega),Znp,wI,zT,yY,ZaH aC aC];simp only [xX];rw [show ((ns.length+1:Nat):Int)-1=(ns.length:Int) by omega];rfl
    rw [aA (c:=decide (Zfl p gs cs (ZcU p ns[k].ch) h now>0)=true) aF,aA (c:=Zfl p gs cs (ZcU p ns[k].ch) h now≠0) h4];dsimp only;rw [ss]
theorem ZhB.one_node {g:Zal} (hg:WfH g):ZhB [⟨[g],-1,Zgu g.Bits⟩] where
 small:=by simp
 ch:=fun n hn=>by cases yM.1 hn;simp
 wf:=fun n hn x hx=>by cases yM.1 hn;cases yM.1 hx;exact hg
 wk:=fun n hn=>by cases yM.1 hn;exact Zij _
 ah:=fun i h=>.inl ⟨by simpa using h,by simp at h;subst h;rfl,by simp at h;subst h;rfl⟩
 one:=by simp [ids]
theorem ZhB.grow {ns:List Nd} (ht:ZhB ns) {k:Nat} (hk:k<ns.length) {h:Zal} (hh:WfH h) (hs:ns.length<512) (hid':ZeC 0 (ids ns) (hid h)=none):ZhB (ns ++ [ZdH ns k h]):=by
 have hm:=yL hk;have cl:=ht.ch _ hm;have hc:(ZdH ns k h).ch=ns[k].ch ++ [h]:=by unfold ZdH;rw [Zkd hk]
 have hd:=(ZdH ns k h).hd_snoc rfl;refine ⟨by simp;omega,?_,?_,?_,?_,?_⟩
 ·intro n hn;rcases xB.1 hn with hn | hn
  ·have:=ht.ch n hn;exact ⟨this.1,by simp;omega⟩
  cases yM.1 hn;rw [hc];exact ⟨by simp,by simp;omega⟩
 ·intro n hn x hx;rcases xB.1 hn with hn | hn
  ·exact ht.wf n hn x hx
  cases yM.1 hn;rw [hc] at hx;rcases xB.1 hx with hx | hx
  ·exact ht.wf _ hm x hx
  cases yM.1 hx;exact hh
 ·intro n hn;rcases xB.1 hn with hn | hn
  ·exact ht.wk n hn
  cases yM.1 hn;unfold ZdH;rw [Zpb hk];exact ZrC (ht.wk _ hm) (Zij _)
 ·intro i hi;by_cases hlt:i<ns.length
  ·rw [tS hlt];rcases ht.ah i hlt with a | ⟨q,hq,a,b⟩
   ·exact .inl a
   exact .inr ⟨q,hq,a,by rw [tS aC];exact b⟩
  have:i=ns.length:=by simp at hi;omega
  subst this;refine .inr ⟨k,hk,?_,?_⟩
  ·rw [rS aC];simp [ZdH]
  rw [rS aC,tS hk];simp only [Nat.sub_self,List.getElem_singleton];rw [hc,hd]
 have np:=Zmv hid';unfold ids at *;rw [List.map_append,List.nodup_append];refine ⟨ht.one,by simp,?_⟩;intro a ha b hb;simp only [List.map_cons,List.map_nil,yM] at hb;subst hb;intro e;unfold Nd.id at e;rw [hd] at e;exact np (by rw [←e];exact ha)
theorem Zix (p:Zah) (gs:List Zcy) (cs:List Zcb) (room:Int) (ns:List Nd) (h:Zal) (now:Int) :
  (ZiS p gs cs room ns h now).2.2.2=ns∨∃k:Nat,k<ns.length∧Zgd h=true∧ZeC 0 (ids ns) (hid h)=none∧Zfl p gs cs (ZcU p (chAt ns k)) h now=0∧(ns.length:Int)<room ∧
   ZiS p gs cs room ns h now=((ns.length:Int),0,0,ns ++ [ZdH ns k h]):=by
 unfold ZiS;by_cases hg:Zgd h=false
 ·rw [aA hg];exact .inl rfl
 rw [aB hg];cases e1:ZeC 0 (ids ns) (hid h) with
 | some k=>exact .inl rfl
 | none=>
  dsimp only;cases e2:ZeC 0 (ids ns) h.Prev with
  | none=>exact .inl rfl
  | some k=>
   dsimp only;obtain ⟨_,hk,_⟩:=Zgi e2;have hk':k<ns.length:=by simpa [ids] using hk
   by_cases h1:Zfl p gs cs (ZcU p (chAt ns k)) h now=0
   ·rw [aB (by simp [h1])];by_cases h2:room≤(ns.length:Int)
    ·rw [aA h2];exact .inl rfl
    rw [aB h2];exact .inr ⟨k,hk',by simpa using hg,rfl,h1,aC,rfl⟩
   rw [aA h1];exact .inl rfl
theorem ZtB {p:Zah} {gs:List Zcy} {cs:List Zcb} {room:Int} (hr:room≤512) {ns:List Nd} (ht:ZhB ns) {h:Zal} (hh:WfH h) (now:Int):ZhB (ZiS p gs cs room ns h now).2.2.2:=by
 rcases Zix p gs cs room ns h now with e | ⟨k,hk,_,hi,_,hl,e⟩
 ·rw [e];exact ht
 rw [e];exact ht.grow hk hh aC hi
theorem addT_len (p:Zah) (gs:List Zcy) (cs:List Zcb) (room:Int) (ns:List Nd) (h:Zal) (now:Int):ns.length≤(ZiS p gs cs room ns h now).2.2.2.length∧(ZiS p gs cs room ns h now).2.2.2.length≤ns.length+1:=by
 rcases Zix p gs cs room ns h now with e | ⟨k,hk,_,hi,_,hl,e⟩
 ·rw [e];omega
 rw [e];simp
def Zje (room:Int):Int:=if (512:Int)<(if (1:Int)>room then 1 else room) then 512 else (if (1:Int)>room then 1 else room)
def Ziy (p:Zah):Nd:=⟨[p.Genesis],-1,Zgu p.Genesis.Bits⟩
theorem set_last (st:LL) (a b:List L):(st ++ [a]).set st.length b=st ++ [b]:=by simp
theorem New_eq (hN:500≤N) {p:Zah} {gs:List Zcy} {cs:List Zcb} (hg:p.Gates=Zmo gs) (hc:p.Checks=ZjG cs) (lg:gs.length≤400) (lc:cs.length≤400) (hp:WfP p) (room:Int) (st:LL) :
  ZeG N p room st=if ZmW p gs cs=true then some (some st.length,0,st ++ [(aOf p (Zje room) [Ziy p]).lo]) else some (none,1,st):=by
 unfold ZeG;rw [Zod hN hg lg hc lc,Zab];cases hgd:ZmW p gs cs with
 | false=>rfl
 | true=>
  have pp:({p with Gates:=[]++p.Gates,Checks:=[]++p.Checks}:Zah)=p:=rfl;rw [aB (c:=(!true)=true) aD,pp,Zag (by rw [hg,vZ,Zpl];omega),Zag (by rw [hc,vZ,Zpm];omega),ZlU hN hp.h.w,Zab];have hst:(st ++ [(aOf p (Zje room) []).lo])[st.length]? = some (aOf p (Zje room) []).lo:=by simp
  have k:=keep0_eq (N:=N) aC hst (h:=p.Genesis) (Ziy p) rfl rfl rfl;rw [set_last] at k;rw [aA (c:=true=true) rfl];show Zbj (ZaZ N (some st.length) p.Genesis (-1) (ZcU p (Ziy p).ch) (st ++ [(aOf p (Zje room) []).lo])) _=_;rw [k,Zab]
theorem Zom (hN:900≤N) {p:Zah} (hp:WfP p) (room:Int) (st:LL):Zex N p room st=some (some st.length,st ++ [(rOf p (Zje room) [Ziy p]).lo]):=by
 unfold Zex;rw [Zjg aC _ hp.h.w,Zab,ZhN aC,Zab];rfl
theorem Len_v_eq (p:Zah) (room:Int) (ns:List Nd):ZcK N (aOf p room ns)=some (ns.length:Int):=by
 unfold ZcK;rw [show (aOf p room ns).list=Zhy ns from rfl,ZgC]
theorem ZtI (p:Zah) (room:Int) {ns:List Nd} {k:Nat} (hk:k<ns.length):ZbW N (aOf p room ns) (k:Int)=some (ns[k].en,true):=by
 unfold ZbW ZbE;rw [show (aOf p room ns).list=Zhy ns from rfl,ZgC,aA aD,Zab,aB aF,Zag aC,Zag aC,zH,ZkF hk,Zax,ZeQ]
theorem ZtH (p:Zah) (room:Int) {ns:List Nd} {k:Int} (hk:k<0∨(ns.length:Int)≤k):ZbW N (aOf p room ns) k=some (ZbY.mk (Zal.mk 0 (zB 32 0) (zB 32 0) 0 0 0) (zB 32 0) (-1) 0 (zB 4 0),false):=by
 unfold ZbW ZbE;rw [show (aOf p room ns).list=Zhy ns from rfl,ZgC];by_cases h:k≥0
 ·rw [aA (aH h),Zab,aA aF]
 rw [aB (aH h),Zab,aA (by rfl)]
end Go.Dn.F
set_option maxRecDepth 100000
namespace Go.Dn.F
open Go.Dn Go.Proofs
variable {N:Nat}
def pA:Zah:=⟨545259519,4,10,0,false,[],[],zB 4 0,zB 4 0,h0⟩
theorem h0_wf:WfH h0:=⟨by unfold Znv h0;simp,by unfold wfH h0;decide,by unfold Znv h0;simp,by unfold Znv h0;simp,by unfold Znv h0;simp⟩
theorem pA_wf:WfP pA where
 l:=by unfold Znv pA;simp
 i:=by unfold Znv pA;simp
 s:=by unfold Znv pA;simp
 f:=by unfold Znv pA;simp
 g:=by unfold pA;simp
 gl:=by unfold pA;simp
 c:=by unfold pA;simp
 cl:=by unfold pA;simp
 m:=by unfold pA;exact ⟨rfl,fun x hx=>by obtain ⟨_,rfl⟩:=List.mem_replicate.1 hx;decide⟩
 r:=by unfold pA;exact ⟨rfl,fun x hx=>by obtain ⟨_,rfl⟩:=List.mem_replicate.1 hx;decide⟩
 h:=h0_wf
end Go.Dn.F
set_option maxRecDepth 40000
namespace Go.Dn.F
open Go.Dn Go.Proofs
variable {N:Nat}
def Zrx (ns:List Nd):Nat→Nat→List Nat
 | 0,k=>[k]
 | f+1,k=>match ns[k]? with
  | some n=>if n.ah<0 then [k] else Zrx ns f n.ah.toNat ++ [k]
  | none=>[k]
def Zhd (ns:List Nd) (k:Nat):List Nat:=Zrx ns k k
theorem Zsg {ns:List Nd} (ht:ZhB ns) : ∀(k f g:Nat),k<ns.length→k≤f→k≤g→Zrx ns f k=Zrx ns g k:=by
 intro k
 induction k using uS with
 | ind k ih=>
  intro f g hk hf hg;rcases ht.ah k hk with ⟨z,a,c⟩ | ⟨q,hq,a,c⟩
  ·have e : ∀f,Zrx ns f k = [k]:=fun f=>by
    cases f with
    | zero=>rfl
    | succ f=>unfold Zrx;rw [zO hk];dsimp only;rw [a,aA aC]
   rw [e,e]
  obtain ⟨f,rfl⟩ : ∃x,f=x+1:=⟨f-1,aC⟩
  obtain ⟨g,rfl⟩ : ∃x,g=x+1:=⟨g-1,aC⟩
  unfold Zrx;rw [zO hk];dsimp only;rw [a,aB aC,aB aC,zH,ih q hq f g aC aC aC]
theorem Zsc {ns:List Nd} {k:Nat} (hk:k<ns.length) (a:ns[k].ah = -1):Zhd ns k = [k]:=by
 unfold Zhd;cases k with
 | zero=>rfl
 | succ f=>unfold Zrx;rw [zO hk];dsimp only;rw [a,aA aC]
theorem Zog {ns:List Nd} (ht:ZhB ns) {k q:Nat} (hk:k<ns.length) (hq:q<k) (a:ns[k].ah=(q:Int)):Zhd ns k=Zhd ns q ++ [k]:=by
 obtain ⟨f,rfl⟩ : ∃x,k=x+1:=⟨k-1,aC⟩
 unfold Zhd;rw [Zrx,zO hk];dsimp only;rw [a,aB aC,zH,Zsg ht q f q aC aC aC]
theorem ZgP {ns:List Nd} (ht:ZhB ns) {k:Nat} (hk:k<ns.length) :
  (k=0∧ns[k].ah = -1∧Zhd ns k = [k]∧ns[k].ch.length=1)∨∃q,q<k∧ns[k].ah=(q:Int)∧Zhd ns k=Zhd ns q ++ [k]∧∃hq:q<ns.length,ns[k].ch=ns[q].ch ++ [ns[k].hd]:=by
 rcases ht.ah k hk with ⟨z,a,c⟩ | ⟨q,hq,a,c⟩
 ·exact .inl ⟨z,a,Zsc hk a,c⟩
 exact .inr ⟨q,hq,a,Zog ht hk hq a,aC,c⟩
theorem ZmT {ns:List Nd} (ht:ZhB ns) : ∀{k:Nat} (hk:k<ns.length),(Zhd ns k).length=ns[k].ch.length:=by
 intro k
 induction k using uS with
 | ind k ih=>
  intro hk;rcases ZgP ht hk with ⟨z,a,e,c⟩ | ⟨q,hq,a,e,hq',c⟩
  ·rw [e,c];rfl
  rw [e,c,zT,zT,ih q hq hq'];rfl
theorem Zoh {ns:List Nd} (ht:ZhB ns) {k:Nat} (hk:k<ns.length):(Zhd ns k)[(Zhd ns k).length-1]? = some k:=by
 rcases ZgP ht hk with ⟨z,a,e,c⟩ | ⟨q,hq,a,e,hq',c⟩
 ·rw [e];rfl
 rw [e];simp
theorem Zsd {ns:List Nd} (ht:ZhB ns) : ∀{k:Nat},k<ns.length→∀x∈Zhd ns k,x≤k:=by
 intro k
 induction k using uS with
 | ind k ih=>
  intro hk x hx;rcases ZgP ht hk with ⟨z,a,e,c⟩ | ⟨q,hq,a,e,hq',c⟩
  ·rw [e] at hx;simp at hx;omega
  rw [e] at hx;rcases xB.1 hx with hx | hx
  ·have:=ih q hq hq' x hx;omega
  simp at hx;omega
theorem Zqg {ns:List Nd} (ht:ZhB ns) : ∀{k:Nat},k<ns.length→∀{h x:Nat},(Zhd ns k)[h]? = some x→x<ns.length∧Zhd ns x=(Zhd ns k).take (h+1):=by
 intro k
 induction k using uS with
 | ind k ih=>
  intro hk h x hx;rcases ZgP ht hk with ⟨z,a,e,c⟩ | ⟨q,hq,a,e,hq',c⟩
  ·rw [e] at hx ⊢;cases h with
   | zero=>cases hx;exact ⟨hk,by rw [e];rfl⟩
   | succ h=>cases hx
  rw [e] at hx ⊢;by_cases hlt:h<(Zhd ns q).length
  ·rw [zS hlt] at hx;obtain ⟨h1,h2⟩:=ih q hq hq' hx;exact ⟨h1,by rw [h2,vL aC]⟩
  rw [zX aC] at hx;have e0:h-(Zhd ns q).length=0:=by
   cases e1:h-(Zhd ns q).length with
   | zero=>rfl
   | succ n=>rw [e1] at hx;cases hx
  rw [e0] at hx;cases hx;exact ⟨hk,by rw [e,zW aE]⟩
theorem rowP_at {ns:List Nd} (ht:ZhB ns) {k h x:Nat} (hk:k<ns.length) (hx:(Zhd ns k)[h]? = some x) : ∃h':x<ns.length,ns[x].ch.length=h+1:=by
 obtain ⟨h1,h2⟩:=Zqg ht hk hx;refine ⟨h1,?_⟩;have hl:h<(Zhd ns k).length:=(yE.1 hx).1;rw [←ZmT ht h1,h2,List.length_take];omega
theorem Zqh {ns:List Nd} (ht:ZhB ns) {k x:Nat} (hk:k<ns.length) (hx:x∈Zhd ns k) : ∃h':x<ns.length,(Zhd ns k)[ns[x].ch.length-1]? = some x:=by
 obtain ⟨h,hx⟩:=qP.1 hx;obtain ⟨h1,h2⟩:=rowP_at ht hk hx;exact ⟨h1,by rw [h2];exact hx⟩
theorem Zsf (ns:List Nd) (nd:Nd) (ht:ZhB ns) : ∀(k f:Nat),k<ns.length→Zrx (ns ++ [nd]) f k=Zrx ns f k:=by
 intro k
 induction k using uS with
 | ind k ih=>
  intro f hk;cases f with
  | zero=>rfl
  | succ f=>
   unfold Zrx;rw [zS hk,zO hk];dsimp only;rcases ht.ah k hk with ⟨z,a,c⟩ | ⟨q,hq,a,c⟩
   ·rw [a,aA aC,aA aC]
   rw [a,aB aC,aB aC,zH,ih q hq f aC]
theorem Zja {ns:List Nd} (nd:Nd) (ht:ZhB ns) {k:Nat} (hk:k<ns.length):Zhd (ns ++ [nd]) k=Zhd ns k:=Zsf ns nd ht k k hk
noncomputable def tOf (p:Zah) (room:Int) (ns:List Nd) (lp:List Int):Zau:=⟨aOf p room ns,ZdL lp⟩
structure Zrw (ns:List Nd) (lp:List Int):Prop where
 len:lp.length≤ns.length
 ok : ∀(i:Nat) (v:Int),lp[i]? = some v→v = -1∨∃x:Nat,v=(x:Int)∧x≠i∧x∈Zhd ns i
def hZ (ns:List Nd) (k:Int):Int:=if 0≤k∧k<(ns.length:Int) then ((ns[k.toNat]?.map Nd.ch).getD []).length-1 else -1
theorem ZsQ {ns:List Nd} {k:Nat} (hk:k<ns.length):hZ ns (k:Int)=(ns[k].ch.length:Int)-1:=by
 unfold hZ;rw [aA aC,zH,zO hk];rfl
theorem ZsP {ns:List Nd} {k:Int} (hk:k<0∨(ns.length:Int)≤k):hZ ns k = -1:=by
 unfold hZ;rw [aB aC]
theorem ZrQ (p:Zah) (room:Int) {ns:List Nd} (lp:List Int) {k:Nat} (hk:k<ns.length):Zck N (tOf p room ns lp) (k:Int)=some (ns[k].en,true):=by
 unfold Zck;rw [show (tOf p room ns lp).store=aOf p room ns from rfl,ZtI p room hk,Zab]
theorem ZrP (p:Zah) (room:Int) {ns:List Nd} (lp:List Int) {k:Int} (hk:k<0∨(ns.length:Int)≤k) : ∃e,Zck N (tOf p room ns lp) k=some (e,false):=by
 unfold Zck;rw [show (tOf p room ns lp).store=aOf p room ns from rfl,ZtH p room hk,Zab];exact ⟨_,rfl⟩
theorem Zjr (p:Zah) (room:Int) (ns:List Nd) (lp:List Int) (k:Int):Zbf N (tOf p room ns lp) k=some (hZ ns k):=by
 unfold Zbf;by_cases h:0≤k∧k<(ns.length:Int)
 ·obtain ⟨j,rfl⟩ : ∃j:Nat,k=(j:Int):=⟨k.toNat,aC⟩
  have hj:j<ns.length:=aC
  rw [ZrQ p room lp hj,Zab];dsimp only;rw [aB aD,ZsQ hj];rfl
 obtain ⟨e,h1⟩:=ZrP (N:=N) p room (ns:=ns) lp (k:=k) aC;rw [h1,Zab];dsimp only;rw [aA (by rfl),ZsP aC]
def ancZ (ns:List Nd) (k h:Int):Int:=if 0≤k∧k<(ns.length:Int)∧0≤h then ((Zhd ns k.toNat)[h.toNat]?.map fun (x:Nat)=>(x:Int)).getD (-1) else -1
theorem ancZ_at {ns:List Nd} {k h x:Nat} (hk:k<ns.length) (hx:(Zhd ns k)[h]? = some x):ancZ ns (k:Int) (h:Int)=(x:Int):=by
 unfold ancZ;rw [aA aC,zH,zH,hx];rfl
theorem Zoe {ns:List Nd} (ht:ZhB ns) {k x y:Nat} (hk:k<ns.length) (hx:x∈Zhd ns k) (hy:y∈Zhd ns x):y∈Zhd ns k:=by
 obtain ⟨h,hx⟩:=qP.1 hx;obtain ⟨_,e⟩:=Zqg ht hk hx;rw [e] at hy;exact List.mem_of_mem_take hy
theorem row_lt {ns:List Nd} (ht:ZhB ns) {x y:Nat} (hx:x<ns.length) (hy:y∈Zhd ns x) (hne:y≠x) : ∃h:y<ns.length,ns[y].ch.length<ns[x].ch.length:=by
 obtain ⟨h,e⟩:=Zqh ht hx hy;refine ⟨h,?_⟩;have hl:=(yE.1 e).1;have ll:=Zoh ht hx;have e2:=ZmT ht hx;have p1:=List.length_pos_iff.2 (ht.ch _ (yL h)).1;rcases Nat.lt_or_ge ns[y].ch.length ns[x].ch.length with h3 | h3
 ·exact h3
 rw [show ns[y].ch.length-1=(Zhd ns x).length-1 by omega,ll] at e;cases e;exact absurd rfl hne
theorem Zqf {ns:List Nd} (ht:ZhB ns) {k:Nat} (hk:k<ns.length):k∈Zhd ns k:=vQ (Zoh ht hk)
theorem Zsa {ns:List Nd} (ht:ZhB ns) {k q:Nat} (hk:k<ns.length) (hq:q<k) (e:Zhd ns k=Zhd ns q ++ [k]):q∈Zhd ns k:=by
 rw [e];exact xB.2 (.inl (Zqf ht aC))
theorem ZpN (hN:600≤N) {p:Zah} {room:Int} {ns:List Nd} {lp:List Int} (ht:ZhB ns) (hl:Zrw ns lp) (k h:Int) (hb:k<(lp.length:Int)∨ns.length≤lp.length):Zaz N (tOf p room ns lp) k h=some (ancZ ns k h):=by
 have sm:=ht.small;unfold Zaz;rw [Zjr,Zab];by_cases h0:h<0
 ·rw [aA (aH h0)];unfold ancZ;rw [aB aC]
 rw [aB (aH h0)];by_cases hk0:k<0∨(ns.length:Int)≤k
 ·rw [ZsP aC,aA aE];unfold ancZ;rw [aB aC]
 obtain ⟨k,rfl⟩ : ∃j:Nat,k=(j:Int):=⟨k.toNat,aC⟩
 obtain ⟨h,rfl⟩ : ∃j:Nat,h=(j:Int):=⟨h.toNat,aC⟩
 have hk:k<ns.length:=aC
 have lk:=ZmT ht hk;have lb:=(ht.ch _ (yL hk)).2;rw [ZsQ hk];by_cases h1:(h:Int)>(ns[k].ch.length:Int)-1
 ·rw [aA (aH h1)];unfold ancZ;rw [aA aC,zH,zH,zN aC];rfl
 rw [aB (aH h1)];have hh:h<(Zhd ns k).length:=aC
 obtain ⟨t,et⟩ : ∃t,(Zhd ns k)[h]? = some t:=⟨_,zO hh⟩
 rw [ancZ_at hk et];refine ZbZ (fun m (s:Int×Int)=>∃(x:Nat) (hx:x<ns.length),m=ns[x].ch.length∧s=((x:Int),(ns[x].ch.length:Int)-1)∧x∈Zhd ns k∧h+1≤ns[x].ch.length) ?_ N ns[k].ch.length _ ⟨k,hk,rfl,rfl,Zqf ht hk,aC⟩ aC;rintro G m _ ⟨x,hx,rfl,rfl,hm,hle⟩ hG;unfold Zaz.p1 Zaz.p2;dsimp only;by_cases hgt:(ns[x].ch.length:Int)-1>(h:Int)
 ·have hx2:x<lp.length:=by
   have:=Zsd ht hk x hm;omega
  rw [aA (aH hgt),ZrQ p room lp hx,Zab];dsimp only;rw [show (tOf p room ns lp).leaps=ZdL lp from rfl,Zag aC,Zel,Zag aC,zH,Zin hx2,Zax,ZdV,show (ns[x].en).Ahead=ns[x].ah from rfl];rcases ZgP ht hx with ⟨z,a,e,c⟩ | ⟨q,hq,a,e,hq',c⟩
  ·omega
  have cl:=congrArg zG c;rw [zT,yY] at cl;have toq:G ((q:Int),(ns[q].ch.length:Int)-1)=some (t:Int):=hG ns[q].ch.length _ aC ⟨q,hq',rfl,rfl,Zoe ht hk hm (Zsa ht hx hq e),aC⟩;rcases hl.ok x lp[x] (zO hx2) with v | ⟨y,v,hne,hy⟩
  ·rw [v,aB aD,a,Zjr,Zab,ZsQ hq'];exact toq
  obtain ⟨hy',hyl⟩:=row_lt ht hx hy hne;rw [v,aA aF,Zjr,Zab,ZsQ hy'];by_cases h3:(ns[y].ch.length:Int)-1≥(h:Int)
  ·rw [aA (aH h3),Zab];exact hG ns[y].ch.length _ hyl ⟨y,hy',rfl,rfl,Zoe ht hk hm hy,aC⟩
  rw [aB (aH h3),a,Zjr,Zab,ZsQ hq'];exact toq
 obtain ⟨h3,e3⟩:=Zqh ht hk hm;rw [show ns[x].ch.length-1=h by omega,et] at e3;cases e3;rw [aB (aH hgt)]
end Go.Dn.F
set_option maxRecDepth 100000
namespace Go.Dn.F
open Go.Dn Go.Proofs
variable {N:Nat}
end Go.Dn.F
set_option maxRecDepth 40000
namespace Go.Dn.F
open Go.Dn Go.Proofs
variable {N:Nat}
noncomputable def Zhf (ia:Nat) (lp:List Int):List L:=[yN (some ia),yT true 1 (ZdL lp)]
structure Zhc (st:LL) (ia it:Nat) (p:Zah) (room:Int) (ns:List Nd) (lp:List Int):Prop where
 a:st[ia]? = some (aOf p room ns).lo
 t:st[it]? = some (Zhf ia lp)
 ne:ia≠it
 lv:Zrw ns lp
 len:lp.length=ns.length
 tr:ZhB ns
theorem skH_eq (h:Int) : ∃x,Zea N h=some x:=by
 unfold Zea ZdG;by_cases h1:h<2
 ·rw [aA (aH h1)];exact ⟨_,rfl⟩
 rw [aB (aH h1)];by_cases h2:ZaG .and .i64 h 1=0
 ·rw [aA (aH h2)];exact ⟨_,rfl⟩
 rw [aB (aH h2)];exact ⟨_,rfl⟩
theorem Zrv (p:Zah) (gs:List Zcy) (cs:List Zcb) (room:Int) (ns:List Nd) (h:Zal) (now:Int) :
  ((ZiS p gs cs room ns h now).2.2.2=ns∧((ZiS p gs cs room ns h now).2.2.1≠0∨∃k:Nat,k<ns.length∧(ZiS p gs cs room ns h now).1=(k:Int)))∨∃k:Nat,k<ns.length∧ZeC 0 (ids ns) (hid h)=none∧(ns.length:Int)<room ∧
   ZiS p gs cs room ns h now=((ns.length:Int),0,0,ns ++ [ZdH ns k h]):=by
 unfold ZiS;by_cases hg:Zgd h=false
 ·rw [aA hg];exact .inl ⟨rfl,.inl aD⟩
 rw [aB hg];cases e1:ZeC 0 (ids ns) (hid h) with
 | some k=>
  obtain ⟨_,hk,_⟩:=Zgi e1;have hk':k<ns.length:=by simpa [ids] using hk
  exact .inl ⟨rfl,.inr ⟨k,hk',rfl⟩⟩
 | none=>
  dsimp only;cases e2:ZeC 0 (ids ns) h.Prev with
  | none=>exact .inl ⟨rfl,.inl aD⟩
  | some k=>
   dsimp only;obtain ⟨_,hk,_⟩:=Zgi e2;have hk':k<ns.length:=by simpa [ids] using hk
   by_cases h1:Zfl p gs cs (ZcU p (chAt ns k)) h now=0
   ·rw [aB (by simp [h1])];by_cases h2:room≤(ns.length:Int)
    ·rw [aA h2];exact .inl ⟨rfl,.inl aD⟩
    rw [aB h2];exact .inr ⟨k,hk',rfl,aC,rfl⟩
   rw [aA h1];exact .inl ⟨rfl,.inl aD⟩
theorem Zrw.grow {ns:List Nd} {lp:List Int} (ht:ZhB ns) (hl:Zrw ns lp) (hlen:lp.length=ns.length) {nd:Nd} (ht':ZhB (ns ++ [nd])) {k:Nat} (hk:k<ns.length) (ha:nd.ah=(k:Int)) (h:Int):Zrw (ns ++ [nd]) (lp ++ [ancZ (ns ++ [nd]) (k:Int) h]) where
 len:=by simp [hlen]
 ok:=fun i v hv=>by
  by_cases hi:i<lp.length
  ·rw [zS hi] at hv;rcases hl.ok i v hv with h1 | ⟨x,h1,h2,h3⟩
   ·exact .inl h1
   exact .inr ⟨x,h1,h2,by rw [Zja nd ht aC];exact h3⟩
  have e0:i=ns.length:=by
   have:=(yE.1 hv).1;simp at this;omega
  subst e0;rw [zX aC,hlen,Nat.sub_self] at hv;cases hv;have hn:ns.length<(ns ++ [nd]).length:=by simp
  have ea:(ns ++ [nd])[ns.length].ah=(k:Int):=by simpa using ha
  rw [Zog ht' hn hk ea,Zja nd ht hk];unfold ancZ;by_cases hc:0≤(k:Int)∧(k:Int)<((ns ++ [nd]).length:Int)∧0≤h
  ·rw [aA hc,zH,Zja nd ht hk];cases e:(Zhd ns k)[h.toNat]? with
   | none=>exact .inl rfl
   | some y=>
    have hy:=vQ e;have:=Zsd ht hk y hy;exact .inr ⟨y,rfl,aC,xB.2 (.inl hy)⟩
  rw [aB hc];exact .inl rfl
theorem skAdd_eq (hN:600≤N) {st:LL} {ia it:Nat} {p:Zah} {gs:List Zcy} {cs:List Zcb} (hg:p.Gates=Zmo gs) (hc:p.Checks=ZjG cs) (lg:gs.length≤400) (lc:cs.length≤400) {room:Int} (hroom:room≤512) {ns:List Nd} {lp:List Int} (T:Zhc st ia it p room ns lp)
  {h:Zal} (hh:WfH h) (now:Int) (hnow : -1152921504606846976≤now∧now≤9223372036854775807) :
  ∃lp' st',ZbQ N (some it) h now st=some ((ZiS p gs cs room ns h now).1,(ZiS p gs cs room ns h now).2.1,(ZiS p gs cs room ns h now).2.2.1,st')∧Zhc st' ia it p room (ZiS p gs cs room ns h now).2.2.2 lp'∧(∀j,j≠ia→j≠it→st'[j]? = st[j]?):=by
 have ht':=ZtB (p:=p) (gs:=gs) (cs:=cs) hroom T.tr hh now;unfold ZbQ ZbQ.p1;rw [aB (c:=Option.isNone (some it)=true) aD,Zab,T.t,Zax];unfold Zhf;rw [ZcP,Add_eq aC hg hc lg lc hroom T.tr T.a hh now hnow,Zab];dsimp only;rcases Zrv p gs cs room ns h now with ⟨e,e1⟩ | ⟨k,hk,hpl,hlr,e⟩
 ·rw [e,Zgw T.a];refine ⟨lp,st,?_,T,fun j _ _=>rfl⟩;by_cases h6:(ZiS p gs cs room ns h now).2.2.1=0
  ·rcases e1 with e1 | ⟨k,hk,e1⟩
   ·exact absurd h6 e1
   rw [aA (aH h6),T.t,Zax];unfold Zhf;rw [ZcP,aB (by rw [e1,Zel,T.len];simp;omega)]
  rw [aB (aH h6)]
 rw [e] at ht' ⊢;dsimp only at ht' ⊢;have t2:(st.set ia (aOf p room (ns ++ [ZdH ns k h])).lo)[it]? = some (Zhf ia lp):=by
  rw [zU T.ne];exact T.t
 have a2:(st.set ia (aOf p room (ns ++ [ZdH ns k h])).lo)[ia]? = some (aOf p room (ns ++ [ZdH ns k h])).lo:=zP (yE.1 T.a).1;have hit:=(yE.1 t2).1;have hn:ns.length<(ns ++ [ZdH ns k h]).length:=by simp
 have en:(ns ++ [ZdH ns k h])[ns.length]=ZdH ns k h:=by simp
 obtain ⟨hx,eh⟩:=skH_eq (N:=N) ((ns ++ [ZdH ns k h])[ns.length].en).Height;have lv:Zrw (ns ++ [ZdH ns k h]) lp:=⟨by rw [T.len];simp,fun i v hv=>by
  have hi:=(yE.1 hv).1;rcases T.lv.ok i v hv with h1 | ⟨x,h1,h2,h3⟩
  ·exact .inl h1
  exact .inr ⟨x,h1,h2,by rw [Zja _ T.tr (by rw [←T.len];exact hi)];exact h3⟩⟩
 have sm:=T.tr.small;rw [aA (by rfl),t2,Zax];unfold Zhf;rw [ZcP,aA (by rw [Zel,T.len];simp),Zab,a2,Zax,ZbK,ZtI p room hn,Zab];dsimp only;rw [eh,Zab,show ((ns ++ [ZdH ns k h])[ns.length].en).Ahead=(ns ++ [ZdH ns k h])[ns.length].ah from rfl,en,show (ZdH ns k h).ah=(k:Int) from rfl,show (Zau.mk (aOf p room (ns ++ [ZdH ns k h])) (ZdL lp))=tOf p room (ns ++ [ZdH ns k h]) lp from rfl,ZpN hN ht' lv _ _ (.inl (by rw [T.len];omega)),Zab,ZmU,ZiH,Zag (by rw [ZdK,zT,yY,T.len];omega),xX];refine ⟨_,_,rfl,⟨?_,?_,T.ne,T.lv.grow T.tr T.len ht' hk rfl hx,by simp [T.len],ht'⟩,fun j h1 h2=>?_⟩
 ·rw [zU (Ne.symm T.ne)];exact a2
 ·exact zP hit
 rw [zU (Ne.symm h2),zU (Ne.symm h1)]
theorem Zqb (hN:500≤N) {p:Zah} {gs:List Zcy} {cs:List Zcb} (hg:p.Gates=Zmo gs) (hc:p.Checks=ZjG cs) (lg:gs.length≤400) (lc:cs.length≤400) (hp:WfP p) (room:Int) (st:LL) :
  Zfb N p room st=if ZmW p gs cs=true then some (some (st.length+1),0,(st ++ [(aOf p (Zje room) [Ziy p]).lo]) ++ [Zhf st.length [-1]]) else some (none,1,st):=by
 unfold Zfb;rw [New_eq hN hg hc lg lc hp];cases ZmW p gs cs with
 | false=>rfl
 | true=>
  rw [aA rfl,Zab,aA (c:=true=true) rfl];dsimp only;rw [aB aD,zT,yY];rfl
theorem Zqc {p:Zah} (hp:WfP p) (room:Int) (st:LL):Zhc ((st ++ [(aOf p room [Ziy p]).lo]) ++ [Zhf st.length [-1]]) st.length (st.length+1) p room [Ziy p] [-1] where
 a:=by rw [zS aD];simp
 t:=by rw [zX aD];simp
 ne:=aC
 lv:=⟨by simp,fun i v hv=>by
  cases i with
  | zero=>cases hv;exact .inl rfl
  | succ i=>cases hv⟩
 len:=rfl
 tr:=ZhB.one_node hp.h
theorem Zhc.app {st:LL} {ia it:Nat} {p:Zah} {room:Int} {ns:List Nd} {lp:List Int} (T:Zhc st ia it p room ns lp) (x:LL):Zhc (st++x) ia it p room ns lp where
 a:=by rw [zS (yE.1 T.a).1];exact T.a
 t:=by rw [zS (yE.1 T.t).1];exact T.t
 ne:=T.ne
 lv:=T.lv
 len:=T.len
 tr:=T.tr
end Go.Dn.F
set_option maxRecDepth 100000
namespace Go.Dn.F
open Go.Dn Go.Proofs
variable {N:Nat}
theorem Zds {α:Type} (x:Int) (k:Int→Option α):ZcW [zM .i64 x] k=k x:=rfl
def hvT (ns:List Nd) (x y:Nat):Bool:=
 match ns[x]?,ns[y]? with
 | some a,some b=>decide (b.wk<a.wk)||(a.wk==b.wk&&decide (x<y))
 | _,_=>false
theorem isT_eq (p:Zah) (room:Int) (ns:List Nd) (k:Int):ZbE N (aOf p room ns) k=some (decide (0≤k∧k<(ns.length:Int))):=by
 unfold ZbE;rw [show (aOf p room ns).list=Zhy ns from rfl,ZgC];by_cases h:k≥0
 ·rw [aA (aH h)];congr 1;simp;omega
 rw [aB (aH h),decide_eq_false aC]
theorem ZsN {ns:List Nd} {x y:Nat} (hx:x<ns.length) (hy:y<ns.length):hvT ns x y=(decide (ns[y].wk<ns[x].wk)||(ns[x].wk==ns[y].wk&&decide (x<y))):=by
 unfold hvT;rw [zO hx,zO hy]
theorem ZoK (hN:10≤N) (p:Zah) (room:Int) {ns:List Nd} (lp:List Int) (ht:ZhB ns) {a b:Nat} (ha:a<ns.length) (hb:b<ns.length):Zcc N (tOf p room ns lp) (a:Int) (b:Int)=some (hvT ns a b):=by
 unfold Zcc ZbV;rw [show (tOf p room ns lp).store=aOf p room ns from rfl,isT_eq,Zab];rw [aB aE,isT_eq,Zab,aB aE];rw [show (aOf p room ns).list=Zhy ns from rfl,ZgC,Zag aC,Zag aC,zH,ZkF ha,Zax,ZeQ,Zag aC,Zag aC,zH,ZkF hb,Zax,ZeQ,show (ns[a].en).Work=nw ns[a].wk from rfl,show (ns[b].en).Work=nw ns[b].wk from rfl,Zht hN (ht.wk _ (yL ha)) (ht.wk _ (yL hb)),Zab,ZsN ha hb];unfold cmp;by_cases h1:ns[a].wk<ns[b].wk
 ·rw [aA h1,aB aD,aB aD];have e1 : ¬ ns[b].wk<ns[a].wk:=by omega
  have e2:ns[a].wk≠ns[b].wk:=aC
  simp [e1,e2]
 rw [aB h1];by_cases h2:ns[b].wk<ns[a].wk
 ·rw [aA h2,aA aD];simp [h2]
 rw [aB h2,aB aD,aA aD];have e2:ns[a].wk=ns[b].wk:=aC
 simp [h2,e2]
theorem Zka {ns:List Nd} {x y:Nat} (hx:x<ns.length) (hy:y<ns.length):hvT ns x y=true↔ns[y].wk<ns[x].wk∨(ns[x].wk=ns[y].wk∧x<y):=by
 rw [ZsN hx hy];simp
theorem ZsM {ns:List Nd} {x y:Nat} (h:hvT ns x y=true):x<ns.length∧y<ns.length:=by
 unfold hvT at h;split at h
 ·rename_i a b h1 h2;exact ⟨(yE.1 h1).1,(yE.1 h2).1⟩
 cases h
theorem ZhY {ns:List Nd} {x y z:Nat} (h1:hvT ns x y=true) (h2:hvT ns y z=true):hvT ns x z=true:=by
 obtain ⟨hx,hy⟩:=ZsM h1;obtain ⟨_,hz⟩:=ZsM h2;rw [Zka hx hy] at h1;rw [Zka hy hz] at h2;rw [Zka hx hz];omega
theorem ZsL {ns:List Nd} {x y:Nat} (hx:x<ns.length) (hy:y<ns.length) (hne:x≠y) (h:hvT ns x y=false):hvT ns y x=true:=by
 have h1 : ¬ (hvT ns x y=true):=by rw [h];simp
 rw [Zka hx hy] at h1;rw [Zka hy hx];omega
theorem ZiO (ns:List Nd) (x:Nat):hvT ns x x=false:=by
 cases h:hvT ns x x with
 | false=>rfl
 | true=>
  obtain ⟨hx,_⟩:=ZsM h;rw [Zka hx hx] at h;omega
theorem hvT_asym {ns:List Nd} {x y:Nat} (h:hvT ns x y=true):hvT ns y x=false:=by
 cases h2:hvT ns y x with
 | false=>rfl
 | true=>have:=ZhY h h2;rw [ZiO] at this;cases this
def ZgM (ns:List Nd) (l:List Nat):Prop:=l.Pairwise (fun a b=>hvT ns a b=true)∧∀x∈l,x<ns.length
theorem ZiD {ns:List Nd} {l:List Nat} (h:ZgM ns l) {i j:Nat} (hi:i<l.length) (hj:j<l.length) (hij:i<j):hvT ns l[i] l[j]=true:=rT.1 h.1 i j hi hj hij
theorem ZiX {ns:List Nd} {a:Nat} {l:List Nat} (h:ZgM ns (a::l)):(∀x∈l,hvT ns a x=true)∧ZgM ns l:=⟨(tU.1 h.1).1,(tU.1 h.1).2,fun x hx=>h.2 x (yK _ hx)⟩
theorem ZrK {ns:List Nd} {a:Nat} {l:List Nat} (h:ZgM ns (a::l)):a∉l:=fun h2=>by
 have:=(ZiX h).1 a h2;rw [ZiO] at this;cases this
theorem Zhi {ns:List Nd} : ∀{l m:List Nat},ZgM ns l→ZgM ns m→(∀x,x∈l↔x∈m)→l=m
 | [],[],_,_,_=>rfl
 | [],b::m,_,_,h=>by have:=(h b).2 aD;cases this
 | a::l,[],_,_,h=>by have:=(h a).1 aD;cases this
 | a::l,b::m,h1,h2,h=>by
  have e:a=b:=by
   rcases xL.1 ((h a).1 aD) with e | h3
   ·exact e
   rcases xL.1 ((h b).2 aD) with e | h4
   ·exact e.symm
   have:=hvT_asym ((ZiX h1).1 b h4);rw [(ZiX h2).1 a h3] at this;cases this
  subst e;rw [Zhi (ZiX h1).2 (ZiX h2).2 fun x=>?_];constructor
  ·intro hx;rcases xL.1 ((h x).1 (yK _ hx)) with e | h3
   ·subst e;exact absurd hx (ZrK h1)
   exact h3
  intro hx;rcases xL.1 ((h x).2 (yK _ hx)) with e | h3
  ·subst e;exact absurd hx (ZrK h2)
  exact h3
def cutT (ns:List Nd) (l:List Nat) (t k:Nat):Prop:=k≤l.length∧(∀a (h:a<l.length),a<k→hvT ns l[a] t=true)∧∀a (h:a<l.length),k≤a→hvT ns l[a] t=false
theorem Ztf {ns:List Nd} {l:List Nat} (hs:ZgM ns l) {t k:Nat} (hc:cutT ns l t k):t∈l↔l[k]? = some t:=by
 refine ⟨fun h=>?_,fun h=>vQ h⟩;obtain ⟨a,ha,rfl⟩:=vG.1 h;have h1 : ¬ a<k:=fun h1=>by have:=hc.2.1 a ha h1;rw [ZiO] at this;cases this
 by_cases e:a=k
 ·subst e;exact zO ha
 have:=hc.2.2 k aC (zJ _);rw [ZiD hs aC ha aC] at this;cases this
theorem ZsG {ns:List Nd} {l:List Nat} (hs:ZgM ns l) {t k:Nat} (ht:t<ns.length) (hn:t∉l) (hc:cutT ns l t k):ZgM ns (l.take k++t::l.drop k)∧∀x,x∈l.take k++t::l.drop k↔x∈l∨x=t:=by
 have hm : ∀x,x∈l.take k++t::l.drop k↔x∈l∨x=t:=fun x=>by
  conv=>rhs;rw [←List.take_append_drop k l]
  simp only [xB,xL];constructor
  ·rintro (h | h | h)
   ·exact .inl (.inl h)
   ·exact .inr h
   exact .inl (.inr h)
  rintro ((h | h) | h)
  ·exact .inl h
  ·exact .inr (.inr h)
  exact .inr (.inl h)
 have h1 : ∀x∈l.take k,hvT ns x t=true:=fun x hx=>by
  obtain ⟨a,ha,rfl⟩:=vG.1 hx;simp at ha;rw [sE];exact hc.2.1 a aC aC
 have h2 : ∀x∈l.drop k,hvT ns t x=true:=fun x hx=>by
  have hx':=List.mem_of_mem_drop hx;obtain ⟨a,ha,rfl⟩:=vG.1 hx;simp at ha;have:=hc.2.2 (k+a) aC aC;rw [tJ] at hx' ⊢;exact ZsL (hs.2 _ hx') ht (fun e=>hn (e ▸ hx')) this
 refine ⟨⟨?_,fun x hx=>?_⟩,hm⟩
 ·rw [List.pairwise_append];refine ⟨hs.1.sublist (List.take_sublist _ _),tU.2 ⟨h2,hs.1.sublist (List.drop_sublist _ _)⟩,fun a ha b hb=>?_⟩;rcases xL.1 hb with rfl | hb
  ·exact h1 a ha
  exact ZhY (h1 a ha) (h2 b hb)
 rcases (hm x).1 hx with h | rfl
 ·exact hs.2 x h
 exact ht
theorem del_srt {ns:List Nd} {l:List Nat} (hs:ZgM ns l) {t k:Nat} (hk:l[k]? = some t):ZgM ns (l.take k++l.drop (k+1))∧∀x,x∈l.take k++l.drop (k+1)↔x∈l∧x≠t:=by
 obtain ⟨hlt,rfl⟩:=yE.1 hk;have hsub:(l.take k++l.drop (k+1)).Sublist l:=by rw [←List.eraseIdx_eq_take_drop_succ];exact List.eraseIdx_sublist _ _
 have hm : ∀x,x∈l.take k++l.drop (k+1)↔x∈l∧x≠l[k]:=fun x=>by
  constructor
  ·intro h;refine ⟨hsub.subset h,?_⟩;rintro rfl;rcases xB.1 h with h | h
   ·obtain ⟨a,ha,e⟩:=vG.1 h;simp at ha;rw [sE] at e;have:=ZiD hs aC hlt (show a<k by omega);rw [e,ZiO] at this;cases this
   obtain ⟨a,ha,e⟩:=vG.1 h;simp at ha;rw [tJ] at e;have:=ZiD hs hlt (show k+1+a<l.length by omega) aC;rw [e,ZiO] at this;cases this
  rintro ⟨h,hne⟩;obtain ⟨a,ha,rfl⟩:=vG.1 h;rcases Nat.lt_trichotomy a k with h1 | h1 | h1
  ·exact xB.2 (.inl (vG.2 ⟨a,by simp;omega,sE⟩))
  ·subst h1;exact absurd rfl hne
  exact xB.2 (.inr (vG.2 ⟨a-(k+1),by simp;omega,by rw [tJ];congr 1;omega⟩))
 exact ⟨⟨hs.1.sublist hsub,fun x hx=>hs.2 x (hsub.subset hx)⟩,hm⟩
theorem fil_srt {ns:List Nd} {l:List Nat} (hs:ZgM ns l) (f:Nat→Bool):ZgM ns (l.filter f):=⟨hs.1.sublist rH,fun x hx=>hs.2 x (tT.1 hx).1⟩
theorem Zpx (ns:List Nd):ZgM ns []:=⟨.nil,fun x hx=>by cases hx⟩
def Zfg (l:List Nat):LL:=l.map fun (x:Nat)=>[zM .i64 (x:Int)]
@[simp] theorem ZeR (l:List Nat):(Zfg l).length=l.length:=by simp [Zfg]
@[simp] theorem ZeP (l:List Nat):len (Zfg l)=(l.length:Int):=by simp [len]
theorem Zgy {l:List Nat} {i:Nat} (h:i<l.length):(Zfg l)[i]? = some [zM .i64 (l[i]:Int)]:=by simp [Zfg,h]
theorem Zqi (l:List Nat):isI (Zfg l)=true:=by
 unfold isI Zfg;simp
theorem Zmm (l:List Nat):Zee (Zfg l)=true:=by
 unfold Zee Zfg;simp [L.plain]
theorem Zqj (l:List Nat) (k t:Nat):yO k (Zfg l) ++ [zM .i64 (t:Int)]::wE k (Zfg l)=Zfg (l.take k++t::l.drop k):=by
 simp [Zfg,sS,List.map_drop]
theorem rowN_del (l:List Nat) (k:Nat):yO k (Zfg l)++wE (k+1) (Zfg l)=Zfg (l.take k++l.drop (k+1)):=by
 simp [Zfg,sS,List.map_drop]
theorem midT {i j:Nat} (h:i+j≤1000000):w64 (Zbn .u64 (v64 (w64 ((i:Int)+(j:Int)))) 1)=(((i+j)/2:Nat):Int):=by
 rw [ZaH (n:=(i:Int)+(j:Int)) aC aC];have h1:v64 ((i:Int)+(j:Int))=(i:Int)+(j:Int):=by
  show IntKind.wrap .u64 _=_;simp only [IntKind.wrap,IntKind.bits,IntKind.signed];simp;omega
 rw [h1,show (1:Int)=((1:Nat):Int) from rfl,ZlS _ aC,ZaH aC aC];omega
theorem ZqF (hN:10≤N) (p:Zah) (room:Int) {ns:List Nd} (lp:List Int) (ht:ZhB ns) {x t:Nat} (hx:x<ns.length) (htt:t<ns.length) (r:LL) :
  ZcE N (x:Int) (t:Int) (ZaS.mk (tOf p room ns lp) r)=some (if x=t then 0 else if hvT ns x t=true then -1 else 1):=by
 unfold ZcE;by_cases e:x=t
 ·rw [aA (by simp [e]),aA e]
 rw [aB aE,aB e,ZoK hN p room lp ht hx htt,Zab];cases hvT ns x t<;>rfl
theorem ZsS (hN:1000≤N) (p:Zah) (room:Int) {ns:List Nd} (lp:List Int) (ht:ZhB ns) {l:List Nat} (hs:ZgM ns l) (hl:l.length≤900) {t:Nat} (htt:t<ns.length) :
  ∃k:Nat,Zcr N (ZaS.mk (tOf p room ns lp) (Zfg l)) (t:Int)=some ((k:Int),decide (t∈l))∧cutT ns l t k:=by
 unfold Zcr Zai
 suffices h : ∃r,loopN (Zai.p1 N (Zfg l) (t:Int) (ZaS.mk (tOf p room ns lp) (Zfg l))) N (0,len (Zfg l))=some r∧∃k:Nat,r=((k:Int),decide (t∈l))∧cutT ns l t k by
  obtain ⟨r,e,k,rfl,hc⟩:=h;exact ⟨k,by dsimp only;rw [e];rfl,hc⟩
 have hlt : ∀a (h:a<l.length),l[a]<ns.length:=fun a h=>hs.2 _ (yL h);refine Zei (Q:=fun r:Int×Bool=>∃k:Nat,r=((k:Int),decide (t∈l))∧cutT ns l t k) (fun m (s:Int×Int)=>∃i j:Nat,s=((i:Int),(j:Int))∧i≤j∧j≤l.length∧m=j-i∧(∀a (h:a<l.length),a<i→hvT ns l[a] t=true)∧∀a (h:a<l.length),j≤a→hvT ns l[a] t=false)
  ?_ N l.length _ ⟨0,l.length,by rw [ZeP];rfl,aC,aC,aC,fun a h h1=>aC,fun a h h1=>aC⟩ aC
 rintro G m _ ⟨i,j,rfl,hij,hjl,rfl,h1,h2⟩ hG;unfold Zai.p1;dsimp only;by_cases hlt2:i<j
 ·have hm:(i+j)/2<l.length:=by omega
  rw [aA aE,midT aC,Zag aC,Zag (by rw [ZeP];omega),zH,Zgy hm,Zax,Zds,ZqF aC p room lp ht (hlt _ hm) htt,Zab];by_cases hP:hvT ns l[(i+j)/2] t=true
  ·have hne:l[(i+j)/2]≠t:=fun e=>by rw [e,ZiO] at hP;cases hP
   rw [aB hne,aA hP,aA aD,ZaH aC aC];refine hG (j-((i+j)/2+1)) _ aC ⟨(i+j)/2+1,j,rfl,aC,hjl,rfl,fun a h ha=>?_,h2⟩;by_cases e:a=(i+j)/2
   ·subst e;exact hP
   exact ZhY (ZiD hs h hm aC) hP
  have hP':hvT ns l[(i+j)/2] t=false:=by simpa using hP
  rw [aB (by split<;>simp)];refine hG ((i+j)/2-i) _ aC ⟨i,(i+j)/2,rfl,aC,aC,rfl,h1,fun a h ha=>?_⟩;by_cases e:a=(i+j)/2
  ·subst e;exact hP'
  cases h3:hvT ns l[a] t with
  | false=>rfl
  | true=>have:=ZhY (ZiD hs hm h aC) h3;rw [hP'] at this;cases this
 have e:i=j:=aC
 subst e;have hc:cutT ns l t i:=⟨hjl,h1,h2⟩
 have hmem:=Ztf hs hc;rw [aB aD,ZeP];by_cases h3:i<l.length
 ·rw [aA aE,Zag aC,zH,Zgy h3,Zax,Zds,ZqF aC p room lp ht (hlt _ h3) htt,Zab];refine ⟨_,rfl,i,?_,hc⟩;rw [zO h3] at hmem;simp only [Option.some.injEq] at hmem;by_cases e:l[i]=t
  ·rw [aA e,decide_eq_true (hmem.2 e)];rfl
  rw [aB e,decide_eq_false (fun h=>e (hmem.1 h))];split<;>rfl
 rw [aB aE];refine ⟨_,rfl,i,?_,hc⟩;rw [decide_eq_false (fun h=>by rw [hmem,zN aC] at h;cases h)]
noncomputable def ZiE (it:Nat) (l:List Nat):List L:=[yN (some it),yT true 1 (Zfg l)]
theorem ZgA {α:Type} (it:Nat) (l:List Nat) (k:Option Nat→LL→Option α):Zbw (ZiE it l) k=k (some it) (Zfg l):=rfl
structure ZjF (st:LL) (ia it is:Nat) (p:Zah) (room:Int) (ns:List Nd) (lp:List Int) (l:List Nat):Prop where
 T:Zhc st ia it p room ns lp
 s:st[is]? = some (ZiE it l)
 na:is≠ia
 nt:is≠it
 srt:ZgM ns l
 sm:ns.length≤500
section
variable {st:LL} {ia it is:Nat} {p:Zah} {room:Int} {ns:List Nd} {lp:List Int} {l:List Nat}
theorem Zhc.other {x:List L} {j:Nat} (T:Zhc st ia it p room ns lp) (na:j≠ia) (nt:j≠it):Zhc (st.set j x) ia it p room ns lp:=
 ⟨by rw [zU na];exact T.a,by rw [zU nt];exact T.t,T.ne,T.lv,T.len,T.tr⟩
theorem tLen_eq (T:Zhc st ia it p room ns lp):Zdj N (some it) st=some ((ns.length:Int),st):=by
 unfold Zdj;rw [aB aD,Zab,T.t,Zax];unfold Zhf;rw [ZcP,Zab,T.a,Zax,ZbK,Len_v_eq,Zab]
def inT (ns:List Nd) (k:Int):Bool:=decide (0≤k)&&decide (k<(ns.length:Int))
theorem inT_true {k:Int}:inT ns k=true↔0≤k∧k<(ns.length:Int):=by simp [inT]
theorem ZiN {k:Int} (h:inT ns k=true) : ∃j:Nat,k=(j:Int)∧j<ns.length:=by
 rw [inT_true] at h;exact ⟨k.toNat,aC,aC⟩
theorem ZqA {j:Nat} (h:j<ns.length):inT ns (j:Int)=true:=inT_true.2 ⟨aC,aC⟩
theorem ZjF.lt (S:ZjF st ia it is p room ns lp l):is<st.length:=(yE.1 S.s).1
theorem ZjF.turn (S:ZjF st ia it is p room ns lp l) {l':List Nat} (h:ZgM ns l'):ZjF (st.set is (ZiE it l')) ia it is p room ns lp l':=
 ⟨S.T.other S.na S.nt,zP S.lt,S.na,S.nt,h,S.sm⟩
theorem ZpX (S:ZjF st ia it is p room ns lp l) (k:Int):Zcl N (some is) k st=some (inT ns k,st):=by
 unfold Zcl inT;rw [aA aD];by_cases h:0≤k
 ·rw [aA (aH h),Zab,S.s,Zax,ZgA,tLen_eq S.T,Zab];simp [h]
 rw [aB (aH h)];simp [h]
theorem tHas_eq (hN:1000≤N) (S:ZjF st ia it is p room ns lp l) (hl:l.length≤900) (k:Int):ZcV N (some is) k st=some (inT ns k&&decide (k.toNat∈l),st):=by
 unfold ZcV;rw [ZpX S,Zab];dsimp only;cases h:inT ns k
 ·rw [aA (by rfl)];rfl
 obtain ⟨j,rfl,hj⟩:=ZiN h;obtain ⟨q,e,_⟩:=ZsS hN p room lp S.T.tr S.srt hl hj;rw [aB aD,Zab,S.s,Zax,ZgA,Zab,S.T.t,Zax];unfold Zhf;rw [ZcP,Zab,S.T.a,Zax,ZbK,show (Zau.mk (aOf p room ns) (ZdL lp))=tOf p room ns lp from rfl,e,Zab];dsimp only;rw [zH,wU]
theorem tAll_eq (hl:l.length≤900) (T:Zau):Zdh N (ZaS.mk T (Zfg l))=some (Zfg l):=by
 unfold Zdh;show Zbj (Zbm N (Zfg l)) _=_;rw [Zbm,Zag aE,Zab]
theorem ZmK (T:Zau):ZcA N (ZaS.mk T (Zfg l))=some (l.length:Int):=by
 unfold ZcA;simp
def Zsj (ns:List Nd) (l:List Nat) (ps:List Int) (x:Nat):Prop:=x∈l∨(x<ns.length∧(x:Int)∈ps)
theorem Zpr (hN:1000≤N) (S:ZjF st ia it is p room ns lp l) (hl:l.length≤800) (t:Nat) (ht:t<ns.length) :
  ∃k:Nat,Zcr N (ZaS.mk (tOf p room ns lp) (Zfg l)) (t:Int)=some ((k:Int),decide (t∈l))∧k≤l.length∧(t∉l→ZgM ns (l.take k++t::l.drop k)∧∀x,x∈l.take k++t::l.drop k↔x∈l∨x=t)∧(t∈l→k<l.length∧ZgM ns (l.take k++l.drop (k+1))∧∀x,x∈l.take k++l.drop (k+1)↔x∈l∧x≠t):=by
 obtain ⟨k,e,hc⟩:=ZsS hN p room lp S.T.tr S.srt aC ht;refine ⟨k,e,hc.1,fun h=>ZsG S.srt ht h hc,fun h=>?_⟩;have:=(Ztf S.srt hc).1 h;exact ⟨(yE.1 this).1,del_srt S.srt this⟩
theorem ZrH (hN:1000≤N) (S:ZjF st ia it is p room ns lp l) (ps:List Int) (hl:l.length+ps.length≤600) :
  ∃l',ZaJ N (some is) (ZdL ps) st=some ((l'.length:Int)-(l.length:Int),st.set is (ZiE it l'))∧ZgM ns l'∧l'.length≤l.length+ps.length∧∀x,x∈l'↔Zsj ns l ps x:=by
 unfold ZaJ
 suffices h : ∃r,loopN (ZaJ.p1 N (ZdL ps)) N (some is,0,0,st)=some r∧∃l':List Nat,r=((l'.length:Int)-(l.length:Int),st.set is (ZiE it l'))∧ZgM ns l'∧l'.length≤l.length+ps.length∧∀x,x∈l'↔Zsj ns l ps x by
  obtain ⟨r,e,l',rfl,h⟩:=h;exact ⟨l',e,h⟩
 refine Zei (Q:=fun r:Int×LL=>∃l':List Nat,r=((l'.length:Int)-(l.length:Int),st.set is (ZiE it l'))∧ZgM ns l'∧l'.length≤l.length+ps.length∧∀x,x∈l'↔Zsj ns l ps x)
  (fun m (s:(Option Nat)×Int×Int×LL)=>∃(j:Nat) (l':List Nat),j+m=ps.length∧s=(some is,(l'.length:Int)-(l.length:Int),(j:Int),st.set is (ZiE it l'))∧ZgM ns l'∧l.length≤l'.length∧l'.length≤l.length+j∧∀x,x∈l'↔Zsj ns l (ps.take j) x)
  ?_ N ps.length _ ⟨0,l,aC,by rw [uX,Zgw S.s];rfl,S.srt,zJ _,aC,fun x=>by simp [Zsj]⟩ aC
 rintro G m _ ⟨j,l',hj,rfl,hs,hl1,hl2,hm⟩ hG;have S':=S.turn hs;have hss : ∀l2,(st.set is (ZiE it l')).set is (ZiE it l2)=st.set is (ZiE it l2):=fun l2=>xX ..;unfold ZaJ.p1;dsimp only;rw [Zel];by_cases hlt:j<ps.length
 ·have w1:w64 ((j:Int)+1)=((j+1:Nat):Int):=by rw [ZaH aC aC];rfl
  have htk : ∀x,Zsj ns l (ps.take (j+1)) x↔Zsj ns l (ps.take j) x∨(x<ns.length∧(x:Int)=ps[j]):=fun x=>by
   unfold Zsj;rw [zZ hlt];simp only [xB,yM];constructor
   ·rintro (h | ⟨h1,h2 | h2⟩)
    ·exact .inl (.inl h)
    ·exact .inl (.inr ⟨h1,h2⟩)
    exact .inr ⟨h1,h2⟩
   rintro ((h | ⟨h1,h2⟩) | ⟨h1,h2⟩)
   ·exact .inl h
   ·exact .inr ⟨h1,.inl h2⟩
   exact .inr ⟨h1,.inr h2⟩
  rw [aA aE,Zag aC,zH,Zin hlt,Zax,Zds,ZpX S',Zab];dsimp only;cases hin:inT ns ps[j]
  ·rw [aA (by rfl)];unfold ZaJ.p2;rw [w1];refine hG (m-1) _ aC ⟨j+1,l',aC,rfl,hs,hl1,aC,fun x=>?_⟩;rw [hm,htk];refine ⟨.inl,fun h=>h.elim id fun ⟨h1,h2⟩=>?_⟩;rw [←h2,ZqA h1] at hin;cases hin
  obtain ⟨t,et,ht⟩:=ZiN hin;obtain ⟨k,ef,hk,hi,_⟩:=Zpr hN S' aC t ht;rw [aB aD,Zab,S'.s,Zax,ZgA,Zab,S'.T.t,Zax];unfold Zhf;rw [ZcP,Zab,S'.T.a,Zax,ZbK,show (Zau.mk (aOf p room ns) (ZdL lp))=tOf p room ns lp from rfl,et,ef,Zab];dsimp only;by_cases hmem:t∈l'
  ·rw [decide_eq_true hmem,aB aD];unfold ZaJ.p2;rw [w1];refine hG (m-1) _ aC ⟨j+1,l',aC,rfl,hs,hl1,aC,fun x=>?_⟩;rw [hm,htk];refine ⟨.inl,fun h=>h.elim id fun ⟨h1,h2⟩=>?_⟩;rw [et] at h2;have:x=t:=by omega
   subst this;exact (hm x).1 hmem
  obtain ⟨hi1,hi2⟩:=hi hmem;rw [decide_eq_false hmem,aA (by rfl),Zag aC,Zag (by rw [ZeP];omega),Zag (Zqi l'),Zag (by rw [ZeR];omega),zH,Zqj,xX];unfold ZaJ.p2;have hln:(l'.take k++t::l'.drop k).length=l'.length+1:=by simp;omega
  rw [w1,ZaH (n:=(l'.length:Int)-(l.length:Int)+1) aC aC];refine hG (m-1) _ aC ⟨j+1,l'.take k++t::l'.drop k,aC,?_,hi1,aC,aC,fun x=>?_⟩
  ·rw [hln];show ((some is,(l'.length:Int)-(l.length:Int)+1,((j+1:Nat):Int),(st.set is (ZiE it l')).set is (ZiE it (l'.take k++t::l'.drop k))):(Option Nat)×Int×Int×LL)=_;rw [hss,show (l'.length:Int)-(l.length:Int)+1=((l'.length+1:Nat):Int)-(l.length:Int) by omega]
  rw [hi2,htk,hm];refine or_congr_right ⟨fun h=>by subst h;exact ⟨ht,et.symm⟩,fun ⟨h1,h2⟩=>by rw [et] at h2;omega⟩
 rw [aB aE];have hjl:j=ps.length:=aC
 subst hjl;exact ⟨_,rfl,l',rfl,hs,aC,fun x=>by rw [hm,sR]⟩
theorem Ztd {l:List Nat} {k:Nat} (hk:k<l.length) (hl:l.length≤900):ZcH N (Zfg l) (k:Int) ((k:Int)+1)=some (Zfg (l.take k++l.drop (k+1))):=by
 have e1:((k:Int)+1).toNat=k+1:=aC
 have e2:(len (Zfg l)).toNat=l.length:=by simp
 have hA:(yO k (Zfg l)++yO (l.length-(k+1)) (wE (k+1) (Zfg l)))=Zfg (l.take k++l.drop (k+1)):=by
  rw [show yO (l.length-(k+1)) (wE (k+1) (Zfg l))=wE (k+1) (Zfg l) from zW aD];exact rowN_del l k
 have hAl:(Zfg (l.take k++l.drop (k+1))).length=k+(l.length-(k+1)):=by simp;omega
 unfold ZcH;rw [ZeP];simp only [e1,zH,zY,ZeR,hA];generalize Zfg (l.take k++l.drop (k+1))=A at hAl ⊢;have h1:(A++wE (k+(l.length-(k+1))) (Zfg l)).length=l.length:=by rw [zT,hAl,List.length_drop,ZeR];omega
 have h2:yO (k+(l.length-(k+1))) (A++wE (k+(l.length-(k+1))) (Zfg l))=A:=by rw [vL aC,zW aC]
 have h3 : ∀r:LL,yO (k+(l.length-(k+1))) (A++r)=A:=fun r=>by rw [vL aC,zW aC]
 rw [Zag aC,Zag aC,Zag aC,Zag aC,Zag aC,aB aE,Zag aC,Zag aC,Zag aC,Zag aC,h1,h2,Zag aC,Zag aC,Zag aC,Zag (by rw [zT,hAl];omega),h3]
theorem tDrop_eq (hN:1000≤N) (S:ZjF st ia it is p room ns lp l) (ps:List Int) (hp:ps.length≤600) (hl:l.length≤600) :
  ∃l',ZaN N (some is) (ZdL ps) st=some ((l.length:Int)-(l'.length:Int),st.set is (ZiE it l'))∧ZgM ns l'∧l'.length≤l.length∧∀x,x∈l'↔x∈l∧¬ (x:Int)∈ps:=by
 unfold ZaN
 suffices h : ∃r,loopN (ZaN.p1 N (ZdL ps)) N (some is,0,0,st)=some r∧∃l':List Nat,r=((l.length:Int)-(l'.length:Int),st.set is (ZiE it l'))∧ZgM ns l'∧l'.length≤l.length∧∀x,x∈l'↔x∈l∧¬ (x:Int)∈ps by
  obtain ⟨r,e,l',rfl,h⟩:=h;exact ⟨l',e,h⟩
 refine Zei (Q:=fun r:Int×LL=>∃l':List Nat,r=((l.length:Int)-(l'.length:Int),st.set is (ZiE it l'))∧ZgM ns l'∧l'.length≤l.length∧∀x,x∈l'↔x∈l∧¬ (x:Int)∈ps)
  (fun m (s:(Option Nat)×Int×Int×LL)=>∃(j:Nat) (l':List Nat),j+m=ps.length∧s=(some is,(l.length:Int)-(l'.length:Int),(j:Int),st.set is (ZiE it l'))∧ZgM ns l'∧l'.length≤l.length∧∀x,x∈l'↔x∈l∧¬ (x:Int)∈ps.take j)
  ?_ N ps.length _ ⟨0,l,aC,by rw [uX,Zgw S.s];rfl,S.srt,zJ _,fun x=>by simp⟩ aC
 rintro G m _ ⟨j,l',hj,rfl,hs,hl2,hm⟩ hG;have S':=S.turn hs;unfold ZaN.p1;dsimp only;rw [Zel];by_cases hlt:j<ps.length
 ·have w1:w64 ((j:Int)+1)=((j+1:Nat):Int):=by rw [ZaH aC aC];rfl
  have htk : ∀x:Nat,(x:Int)∈ps.take (j+1)↔(x:Int)∈ps.take j∨(x:Int)=ps[j]:=fun x=>by
   rw [zZ hlt];simp only [xB,yM]
  rw [aA aE,Zag aC,zH,Zin hlt,Zax,Zds,ZpX S',Zab];dsimp only;cases hin:inT ns ps[j]
  ·rw [aA (by rfl)];unfold ZaN.p2;rw [w1];refine hG (m-1) _ aC ⟨j+1,l',aC,rfl,hs,aC,fun x=>?_⟩;rw [hm,htk];constructor
   ·rintro ⟨h1,h2⟩;refine ⟨h1,fun h=>h.elim h2 fun h3=>?_⟩;rw [←h3,ZqA (S.srt.2 x h1)] at hin;cases hin
   rintro ⟨h1,h2⟩;exact ⟨h1,fun h=>h2 (.inl h)⟩
  obtain ⟨t,et,ht⟩:=ZiN hin;obtain ⟨k,ef,hk,_,hi⟩:=Zpr hN S' aC t ht;rw [aB aD,Zab,S'.s,Zax,ZgA,Zab,S'.T.t,Zax];unfold Zhf;rw [ZcP,Zab,S'.T.a,Zax,ZbK,show (Zau.mk (aOf p room ns) (ZdL lp))=tOf p room ns lp from rfl,et,ef,Zab];dsimp only;by_cases hmem:t∈l'
  ·obtain ⟨hkl,hi1,hi2⟩:=hi hmem;have hln:(l'.take k++l'.drop (k+1)).length=l'.length-1:=by simp;omega
   rw [decide_eq_true hmem,aA rfl,Zag aC,List.drop_zero,zW (zJ _),ZaH (n:=(k:Int)+1) aC aC,Ztd hkl aC,Zab];unfold ZaN.p2;rw [w1,ZaH (n:=(l.length:Int)-(l'.length:Int)+1) aC aC];refine hG (m-1) _ aC ⟨j+1,l'.take k++l'.drop (k+1),aC,?_,hi1,aC,fun x=>?_⟩
   ·rw [hln,xX];show ((some is,(l.length:Int)-(l'.length:Int)+1,((j+1:Nat):Int),(st.set is (ZiE it l')).set is (ZiE it (l'.take k++l'.drop (k+1)))):(Option Nat)×Int×Int×LL)=_;rw [xX,show (l.length:Int)-(l'.length:Int)+1=(l.length:Int)-((l'.length-1:Nat):Int) by omega]
   rw [hi2,hm,htk,et];constructor
   ·rintro ⟨⟨h1,h2⟩,h3⟩;exact ⟨h1,fun h=>h.elim h2 fun h4=>h3 aC⟩
   rintro ⟨h1,h2⟩;exact ⟨⟨h1,fun h=>h2 (.inl h)⟩,fun h=>h2 (.inr aC)⟩
  rw [decide_eq_false hmem,aB aD];unfold ZaN.p2;rw [w1];refine hG (m-1) _ aC ⟨j+1,l',aC,rfl,hs,aC,fun x=>?_⟩;rw [hm,htk,et];constructor
  ·rintro ⟨h1,h2⟩;refine ⟨h1,fun h=>h.elim h2 fun h3=>?_⟩;have:x=t:=by omega
   subst this;exact hmem ((hm x).2 ⟨h1,h2⟩)
  rintro ⟨h1,h2⟩;exact ⟨h1,fun h=>h2 (.inl h)⟩
 rw [aB aE];have hjl:j=ps.length:=aC
 subst hjl;exact ⟨_,rfl,l',rfl,hs,aC,fun x=>by rw [hm,sR]⟩
end
end Go.Dn.F
namespace Go.Dn.F
open Go.Dn Go.Proofs
variable {N:Nat}
structure WfA15 (c:ZaI):Prop where
 h:WfH c.Header
 n:Znv c.Now
abbrev tysAc5:List Ty:=[.int .i64,.int .i64,.arr .u8 32,.arr .u8 32,.int .i64,.int .i64,.int .i64,.int .i64,.int .i64]
noncomputable def Zhz (l:List ZaI):LL:=l.map ZaI.ls
theorem Zmp {l:List ZaI} {i:Nat} (h:i<l.length):(Zhz l)[i]? = some l[i].ls:=by simp [Zhz,h]
@[simp] theorem ZjY (l:List ZaI):len (Zhz l)=(l.length:Int):=by simp [len,Zhz]
@[simp] theorem ZmV (l:List ZaI):(Zhz l).length=l.length:=by simp [Zhz]
theorem open_A15 {xs:LL} (h : ∀x∈xs,Zhs tysAc5 x) : ∃l,xs=Zhz l∧∀x∈l,WfA15 x:=
 ZqI fun x hx=>by
  obtain ⟨_,_,rfl,h0,h⟩:=(h x hx).cons_inv;obtain ⟨_,_,rfl,h1,h⟩:=h.cons_inv;obtain ⟨_,_,rfl,h2,h⟩:=h.cons_inv;obtain ⟨_,_,rfl,h3,h⟩:=h.cons_inv;obtain ⟨_,_,rfl,h4,h⟩:=h.cons_inv;obtain ⟨_,_,rfl,h5,h⟩:=h.cons_inv;obtain ⟨_,_,rfl,h6,h⟩:=h.cons_inv;obtain ⟨_,_,rfl,h7,h⟩:=h.cons_inv;obtain ⟨_,_,rfl,h8,h⟩:=h.cons_inv;cases h.nil_inv;obtain ⟨a0,rfl,w0⟩:=h0.int_inv;obtain ⟨a1,rfl,w1⟩:=h1.int_inv;obtain ⟨a2,rfl,k2,w2⟩:=h2.arr_inv;obtain ⟨a3,rfl,k3,w3⟩:=h3.arr_inv;obtain ⟨a4,rfl,w4⟩:=h4.int_inv;obtain ⟨a5,rfl,w5⟩:=h5.int_inv;obtain ⟨a6,rfl,w6⟩:=h6.int_inv;obtain ⟨a7,rfl,w7⟩:=h7.int_inv;obtain ⟨a8,rfl,w8⟩:=h8.int_inv;refine ⟨⟨a0,⟨a1,a2,a3,a4,a5,a6⟩,a7,a8⟩,rfl,⟨⟨ZfH w1,?_,ZfH w4,ZfH w5,ZfH w6⟩,ZfH w7⟩⟩;simp only [wfH,zV];exact ⟨ZpS k2 w2,ZpS k3 w3⟩
theorem Zro {p:Zah} (hp:WfP p) (l:List ZaI) (hl:l.length+900≤N) (hb:l.length≤maxLen) :
  ∃b,ZbS N p (Zhz l)=some b∧(b=false→(∀x∈l,0≤x.Now)∧l.length≤40∧∃gs cs,p.Gates=Zmo gs∧p.Checks=ZjG cs∧gs.length≤400∧cs.length≤400∧ZmW p gs cs=true):=by
 unfold ZbS;have hm:maxLen=9223372036854775807:=rfl;refine Zei (fun m (v:Int)=>∃k:Nat,k+m=l.length∧v=(k:Int)∧∀x∈l.take k,0≤x.Now) ?_ N l.length 0 ⟨0,aC,rfl,by simp⟩ aC;rintro G m _ ⟨k,hk,rfl,ha⟩ hG;unfold ZbS.p1;rw [ZjY];by_cases hlt:k<l.length
 ·rw [aA aF,Zag aC,zH,Zmp hlt,Zax,Zfk,ZaH aC aC];by_cases h:l[k].Now<0
  ·rw [aA (aH h)];exact ⟨true,rfl,fun h=>by cases h⟩
  rw [aB (aH h)];refine hG (m-1) _ aC ⟨k+1,aC,aC,fun x hx=>?_⟩;rw [zZ hlt] at hx;rcases xB.1 hx with hx | hx
  ·exact ha x hx
  cases yM.1 hx;omega
 rw [aB aF];rw [zW aC] at ha;by_cases h1:len p.Gates>20
 ·rw [aA (aH h1)];exact ⟨true,rfl,fun h=>by cases h⟩
 rw [aB (aH h1)];by_cases h2:len p.Checks>20
 ·rw [aA (aH h2)];exact ⟨true,rfl,fun h=>by cases h⟩
 rw [aB (aH h2)];by_cases h3:(l.length:Int)>40
 ·rw [aA (aH h3)];exact ⟨true,rfl,fun h=>by cases h⟩
 rw [aB (aH h3)];obtain ⟨gs,eg⟩:=open_G hp.g;obtain ⟨cs,ec⟩:=open_K hp.c;have lg:gs.length≤400:=by simp [len,eg] at h1;omega
 have lc:cs.length≤400:=by simp [len,ec] at h2;omega
 rw [Znc aC eg lg ec lc,Zab];refine ⟨_,rfl,fun h=>⟨ha,aC,gs,cs,eg,ec,lg,lc,by simpa using h⟩⟩
theorem ZrI (it:Nat) (st:LL):ZeA N (some it) st=some (some st.length,st ++ [ZiE it []]):=rfl
theorem new_set {st:LL} {ia it:Nat} {p:Zah} {room:Int} {ns:List Nd} {lp:List Int} (T:Zhc st ia it p room ns lp) (sm:ns.length≤500) (x:LL):ZjF ((st ++ [ZiE it []])++x) ia it st.length p room ns lp []:=by
 have h1:=(yE.1 T.a).1;have h2:=(yE.1 T.t).1;exact ⟨(T.app _).app x,by rw [zS aD];simp,aC,aC,Zpx ns,sm⟩
def bestT:List Nat→Int
 | []=>-1
 | a::_=>(a:Int)
theorem ZpZ (l:List Nat) (T:Zau):ZcG N (ZaS.mk T (Zfg l))=some (bestT l):=by
 unfold ZcG;rw [ZmK,Zab];cases l with
 | nil=>rfl
 | cons a l=>
  rw [aB aE,Zag (by show 0<len (Zfg (a::l));rw [ZeP];simp)];show ZcS ((Zfg (a::l))[0]?) _ _=_;rw [Zgy aD,Zax,Zds];rfl
theorem alive15 (hN:1000≤N) : ∃st,ZdF N []=some (true,st):=by
 unfold ZdF;rw [show (Zah.mk 545259519 4 10 0 false [] [] (zB 4 0) (zB 4 0) (Zal.mk 0 (zB 32 0) (zB 32 0) 0 0 0))=pA from rfl,Zqb aC (p:=pA) (gs:=[]) (cs:=[]) rfl rfl aD aD pA_wf 5 [],aA aG,Zab,show Zje 5=5 from rfl];dsimp only;rw [aB aD];have T:=Zqc pA_wf 5 [];rw [ZrI,Zab];dsimp only;have S:=new_set T aD [];rw [List.append_nil] at S;obtain ⟨l',e,hs,hl,hm⟩:=ZrH hN S [0,0,1] aD;have el:l' = [0]:=Zhi hs ⟨List.pairwise_singleton _ _,fun x hx=>by cases yM.1 hx;simp⟩ fun x=>by
  rw [hm];unfold Zsj;simp;omega
 subst el;rw [show ([[zM .i64 0],[zM .i64 0],[zM .i64 1]]:LL)=ZdL [0,0,1] from rfl,show (zG ([]:LL)+1)=1 from rfl] at *;rw [e,Zab];dsimp only;have S2:=S.turn hs;revert S2;generalize List.set _ _ (ZiE _ [0])=st2;intro S2;rw [aA (by rfl),Zab,S2.s,Zax,ZgA,Zab,S2.T.t,Zax];unfold Zhf;rw [ZcP,Zab,S2.T.a,Zax,ZbK,ZpZ,Zab];rw [aA (by rfl),ZmK,Zab];exact ⟨_,rfl⟩
end Go.Dn.F
namespace Go.Dn.F
open Go.Dn Go.Proofs
variable {N:Nat} {ia it is:Nat} {p:Zah} {room:Int} {ns:List Nd} {lp:List Int}
def ZfQ (ns:List Nd) (t x:Nat):Bool:=!hvT ns t x
theorem ZpW (hN:10≤N) (p:Zah) (room:Int) (lp:List Int) (ht:ZhB ns) {x t:Nat} (hx:x<ns.length) (htt:t<ns.length):ZcF N (x:Int) (tOf p room ns lp) (t:Int)=some (hvT ns t x):=by
 unfold ZcF;rw [ZoK hN p room lp ht htt hx,Zab]
theorem index_eq (hN:1000≤N) (p:Zah) (room:Int) (lp:List Int) (ht:ZhB ns) {l:List Nat} (hs : ∀x∈l,x<ns.length) (hl:l.length≤900) {t:Nat} (htt:t<ns.length) :
  ∃r,Zas N (Zfg l) (tOf p room ns lp) (t:Int)=some r∧((r = -1∧∀x∈l,ZfQ ns t x=true)∨∃k:Nat,k<l.length∧r=(k:Int)∧(l.take (k+1)).filter (ZfQ ns t)=l.take k):=by
 unfold Zas;refine Zei (Q:=fun r:Int=>(r = -1∧∀x∈l,ZfQ ns t x=true)∨∃k:Nat,k<l.length∧r=(k:Int)∧(l.take (k+1)).filter (ZfQ ns t)=l.take k) (fun m (v:Int)=>∃j:Nat,j+m=l.length∧v=(j:Int)∧∀x∈l.take j,ZfQ ns t x=true) ?_ N l.length _ ⟨0,aC,rfl,by simp⟩ aC;rintro G m _ ⟨j,hj,rfl,ha⟩ hG;unfold Zas.p1;rw [ZeP];by_cases hlt:j<l.length
 ·rw [aA aE,Zag aC,zH,Zgy hlt,Zax,Zds,ZpW aC p room lp ht (hs _ (yL hlt)) htt,Zab];cases hk:hvT ns t l[j] with
  | true=>
   rw [aA rfl];refine ⟨_,rfl,.inr ⟨j,hlt,rfl,?_⟩⟩;rw [zZ hlt,tF,List.filter_eq_self.2 ha,wS (by unfold ZfQ;rw [hk];simp)];simp
  | false=>
   rw [aB aD,ZaH aC aC];refine hG (m-1) _ aC ⟨j+1,aC,rfl,fun x hx=>?_⟩;rw [zZ hlt] at hx;rcases xB.1 hx with h | h
   ·exact ha x h
   cases yM.1 h;unfold ZfQ;rw [hk];rfl
 rw [aB aE];refine ⟨_,rfl,.inl ⟨rfl,fun x hx=>ha x ?_⟩⟩;rw [zW aC];exact hx
theorem Ztc (hN:1000≤N) (p:Zah) (room:Int) (lp:List Int) (ht:ZhB ns) {l:List Nat} (hs : ∀x∈l,x<ns.length) (hl:l.length≤900) {t:Nat} (htt:t<ns.length) :
  Zaf N (Zfg l) (tOf p room ns lp) (t:Int)=some (Zfg (l.filter (ZfQ ns t))):=by
 unfold Zaf;obtain ⟨r,e,h⟩:=index_eq hN p room lp ht hs hl htt;rw [e,Zab];rcases h with ⟨rfl,h⟩ | ⟨k,hk,rfl,h⟩
 ·rw [aA (by rfl),List.filter_eq_self.2 h]
 rw [aB aD,ZaH aC aC];refine ZbZ (fun m (s:Int×Int×LL)=>∃(j:Nat) (q:LL),j+m=l.length∧j≤l.length∧s=((((l.take j).filter (ZfQ ns t)).length:Int),(j:Int),q)∧q.length=l.length∧q.take ((l.take j).filter (ZfQ ns t)).length=Zfg ((l.take j).filter (ZfQ ns t))∧∀a (h:a<l.length),j≤a→q[a]? = some [zM .i64 (l[a]:Int)])
  ?_ N (l.length-(k+1)) _ ⟨k+1,Zfg l,aC,aC,?_,by simp,?_,fun a h _=>Zgy h⟩ aC
 ·rintro G m _ ⟨j,q,hj,hjl,rfl,hq,hqt,hqa⟩ hG;have hfl:((l.take j).filter (ZfQ ns t)).length≤j:=Nat.le_trans (sL ..) aE;unfold Zaf.p1 Zaf.p2;dsimp only;rw [ZeP];by_cases hlt:j<l.length
  ·have w1:w64 ((j:Int)+1)=((j+1:Nat):Int):=by rw [ZaH aC aC];rfl
   have htk:=zZ hlt;rw [aA aE,Zag aC,zH,zY,hqa j hlt (zJ _),Zax,Zds,ZpW aC p room lp ht (hs _ (yL hlt)) htt,Zab,w1];cases hk2:hvT ns t l[j] with
   | true=>
    rw [aB aD];have e2:(l.take (j+1)).filter (ZfQ ns t)=(l.take j).filter (ZfQ ns t):=by
     rw [htk,tF,wS (by unfold ZfQ;rw [hk2];simp)];simp
    refine hG (m-1) _ aC ⟨j+1,q,aC,aC,by rw [e2],hq,by rw [e2];exact hqt,fun a h h2=>hqa a h aC⟩
   | false=>
    have e2:(l.take (j+1)).filter (ZfQ ns t)=(l.take j).filter (ZfQ ns t) ++ [l[j]]:=by
     rw [htk,tF,vC (by unfold ZfQ;rw [hk2];rfl)];rfl
    rw [aA (by rfl),Zag aC,Zag aC,zH,zY,ZaH aC aC];refine hG (m-1) _ aC ⟨j+1,_,aC,aC,by rw [e2,zT];rfl,by simpa using hq,?_,fun a h h2=>?_⟩
    ·rw [e2,zT,yY,zZ aE,List.take_set_of_le aC,hqt,List.getElem_set_self];simp [Zfg]
    rw [zU aC];exact hqa a h aC
  have hjl2:j=l.length:=aC
  subst hjl2;rw [sR] at hqt hfl ⊢;rw [aB aD,Zag aC,zH,ZeR,zY,Zag hfl,Zag aC,Zag aE,Zag aE];rw [vL aE,List.take_take,Nat.min_self,hqt]
 ·rw [h];simp;omega
 rw [h];simp only [Zfg,sS,List.length_take,Nat.min_eq_left (Nat.le_of_lt hk)]
def ZgJ (ns:List Nd) (l:List Nat) (k:Int):List Nat:=if inT ns k=true then l.filter (ZfQ ns k.toNat) else l
theorem ZpY (hN:1000≤N) {st:LL} {l:List Nat} (S:ZjF st ia it is p room ns lp l) (hl:l.length≤900) (k:Int) :
  ZcM N (some is) k st=some ((l.length:Int)-((ZgJ ns l k).length:Int),st.set is (ZiE it (ZgJ ns l k)))∧ZgM ns (ZgJ ns l k)∧(ZgJ ns l k).length≤l.length:=by
 have hle:(ZgJ ns l k).length≤l.length:=by unfold ZgJ;split<;>first | exact sL .. | exact zJ _
 refine ⟨?_,by unfold ZgJ;split;exact fil_srt S.srt _;exact S.srt,hle⟩;unfold ZcM;rw [ZpX S,Zab];dsimp only;cases h:inT ns k
 ·have e:ZgJ ns l k=l:=by unfold ZgJ;rw [h,aB aD]
  rw [aA (by rfl),e,uX,Zgw S.s]
 have e:ZgJ ns l k=l.filter (ZfQ ns k.toNat):=by unfold ZgJ;rw [h,aA rfl]
 obtain ⟨j,rfl,hj⟩:=ZiN h;rw [zH] at e;have T2:Zhc (st.set is [yN (some it),L.gone]) ia it p room ns lp:=S.T.other S.na S.nt;rw [aB aD,Zab,S.s,Zax,ZgA,Zab,T2.t,Zax];unfold Zhf;rw [ZcP,Zab,T2.a,Zax,ZbK,show (Zau.mk (aOf p room ns) (ZdL lp))=tOf p room ns lp from rfl,Ztc hN p room lp S.T.tr S.srt.2 hl hj,Zab,Zag (Zqi _),xX,ZeP,ZeP,e];rw [e] at hle;rw [ZaH aC aC];rfl
end Go.Dn.F
namespace Go.Dn.F
open Go.Dn Go.Proofs
variable {N:Nat} {p:Zah} {room:Int} {ns:List Nd} {lp:List Int}
def ZjP (bs:List Bool):LL:=bs.map fun b=>[L.bool b]
@[simp] theorem Zle (bs:List Bool):(ZjP bs).length=bs.length:=by simp [ZjP]
@[simp] theorem len_rowY (bs:List Bool):len (ZjP bs)=(bs.length:Int):=by simp [len]
theorem ZiZ {bs:List Bool} {i:Nat} (h:i<bs.length):(ZjP bs)[i]? = some [L.bool (bs.getD i false)]:=by
 simp [ZjP,xA,h]
theorem ZmR (bs:List Bool) (i:Nat) (b:Bool):List.set (ZjP bs) i [L.bool b]=ZjP (bs.set i b):=by simp [ZjP,List.map_set]
theorem Zid {α:Type} (b:Bool) (k:Bool→Option α):ZnD [L.bool b] k=k b:=rfl
theorem Zju {bs:List Bool} {i:Nat} (hi:i<bs.length) (b:Bool) (x:Nat):(bs.set i b).getD x false=if x=i then b else bs.getD x false:=by
 rw [xA,xA];by_cases h:x=i
 ·subst h;rw [zP hi,aA rfl];rfl
 rw [zU (Ne.symm h),aB h]
theorem Zqm (p:Zah) (room:Int) (ns:List Nd):len (rOf p room ns).List_=(ns.length:Int):=by
 rw [show (rOf p room ns).List_=ZjQ (ns.map Nd.hd) from rfl];simp
theorem Zop (hN:300≤N) (p:Zah) (room:Int) (ht:ZhB ns) {x y:Nat} (hx:x<ns.length) (hy:y<ns.length):ZcD N (rOf p room ns) (x:Int) (y:Int)=some (hvT ns x y):=by
 have kx:=ht.wk _ (yL hx);have ky:=ht.wk _ (yL hy);unfold ZcD Zcn;rw [show (rOf p room ns).Works=Zsb (ns.map Nd.wk) from rfl,Zqt,wI,Zag aC,Zag aC,zH,ZmS (aH hx),Zax,tP,Zib,Zab,Zag aC,Zag aC,zH,ZmS (aH hy),Zax,tP,Zib,Zab,Zfn hN ky kx,Zab,ZsN hx hy];by_cases h:ns[y].wk<ns[x].wk
 ·rw [aA (aH h),decide_eq_true h];rfl
 rw [aB (aH h),decide_eq_false h];by_cases e:ns[x].wk=ns[y].wk
 ·rw [aA (by rw [e];simp),e];simp
 rw [aB (by intro h2;exact e (Zqp kx ky (aH h2)))];simp [e]
theorem ZrN (hN:1000≤N) (p:Zah) (room:Int) (ht:ZhB ns) (hn:ns.length≤90) {bs:List Bool} (hb:bs.length=100) :
  ∃l,Zav N (rOf p room ns) (ZjP bs)=some (Zfg l)∧ZgM ns l∧∀x,x∈l↔x<ns.length∧bs.getD x false=true:=by
 unfold Zav
 suffices h : ∃r,loopN (Zav.p1 N (rOf p room ns) (ZjP bs)) N ([],0)=some r∧∃l,r=Zfg l∧ZgM ns l∧∀x,x∈l↔x<ns.length∧bs.getD x false=true by
  obtain ⟨r,e,l,rfl,h⟩:=h;exact ⟨l,e,h⟩
 refine Zei (Q:=fun r:LL=>∃l,r=Zfg l∧ZgM ns l∧∀x,x∈l↔x<ns.length∧bs.getD x false=true)
  (fun m (s:LL×Int)=>∃(j:Nat) (l:List Nat),j+m=ns.length∧s=(Zfg l,(j:Int))∧ZgM ns l∧l.length≤j∧∀x,x∈l↔x<j∧bs.getD x false=true)
  ?_ N ns.length _ ⟨0,[],aC,rfl,Zpx ns,by simp,fun x=>by simp⟩ aC
 rintro G m _ ⟨j,l,hj,rfl,hs,hl,hm⟩ hG;unfold Zav.p1;dsimp only;rw [Zqm];by_cases hlt:j<ns.length
 ·have w1:w64 ((j:Int)+1)=((j+1:Nat):Int):=by rw [ZaH aC aC];rfl
  rw [aA aE,len_rowY,aB aE,Zag aC,Zag aC,zH,ZiZ aC,Zax,Zid];cases hbj:bs.getD j false with
  | false=>
   rw [aA (by rfl)];unfold Zav.p3;rw [w1];refine hG (m-1) _ aC ⟨j+1,l,aC,rfl,hs,aC,fun x=>?_⟩;rw [hm];constructor
   ·rintro ⟨h1,h2⟩;exact ⟨aC,h2⟩
   rintro ⟨h1,h2⟩;refine ⟨?_,h2⟩;by_cases e:x=j
   ·subst e;rw [hbj] at h2;cases h2
   omega
  | true=>
   rw [aB aD];have hnl:j∉l:=fun h=>by have:=((hm j).1 h).1;omega
   have fin : ∀k,cutT ns l j k→∃r,Zav.p3 N G (rOf p room ns) (ZjP bs) ((([]++(yO k (Zfg l))) ++ [[zM .i64 (j:Int)]])++(yO ((zG (Zfg l))-k) (wE (0+k) (Zfg l)))) (j:Int)=some r∧∃l,r=Zfg l∧ZgM ns l∧∀x,x∈l↔x<ns.length∧bs.getD x false=true:=fun k hc=>by
    obtain ⟨s1,s2⟩:=ZsG hs hlt hnl hc;have e:((([]++(yO k (Zfg l))) ++ [[zM .i64 (j:Int)]])++(yO ((zG (Zfg l))-k) (wE (0+k) (Zfg l))))=Zfg (l.take k++j::l.drop k):=by
     rw [zY,zW (l:=wE k (Zfg l)) aD,vZ,List.append_assoc];exact Zqj l k j
    unfold Zav.p3;rw [e,w1];have hcl:=hc.1;refine hG (m-1) _ aC ⟨j+1,_,aC,rfl,s1,by simp;omega,fun x=>?_⟩;rw [s2,hm];constructor
    ·rintro (⟨h1,h2⟩ | rfl)
     ·exact ⟨aC,h2⟩
     exact ⟨aC,hbj⟩
    rintro ⟨h1,h2⟩;by_cases e:x=j
    ·exact .inr e
    exact .inl ⟨aC,h2⟩
   refine Zei (Q:=fun r:LL=>∃l,r=Zfg l∧ZgM ns l∧∀x,x∈l↔x<ns.length∧bs.getD x false=true)
    (fun m (v:Int)=>∃k:Nat,k+m=l.length∧v=(k:Int)∧∀a (h:a<l.length),a<k→hvT ns l[a] j=true)
    ?_ N l.length _ ⟨0,aC,rfl,fun a h h2=>aC⟩ aC
   rintro G2 m2 _ ⟨k,hk,rfl,hpre⟩ hG2;unfold Zav.p2;rw [ZeP];by_cases hkl:k<l.length
   ·rw [aA aE,Zag aC,zH,zY,Zgy hkl,Zax,Zds,Zop aC p room ht (hs.2 _ (yL hkl)) hlt,Zab];cases hv:hvT ns l[k] j with
    | true=>
     rw [aA rfl,ZaH aC aC];refine hG2 (m2-1) _ aC ⟨k+1,aC,rfl,fun a h h2=>?_⟩;by_cases e:a=k
     ·subst e;exact hv
     exact hpre a h aC
    | false=>
     rw [aB aD,ZeR,Zag aC,Zag aE,Zag aE,Zag aC,Zag aE];have:=fin k ⟨aC,hpre,fun a h h2=>?_⟩
     ·rw [ZeR,zY] at this;exact this
     by_cases e:a=k
     ·subst e;exact hv
     cases h3:hvT ns l[a] j with
     | false=>rfl
     | true=>have:=ZhY (ZiD hs hkl h aC) h3;rw [hv] at this;cases this
   have hkl2:k=l.length:=aC
   subst hkl2;rw [aB aD,Zag aC,zH,ZeR,zY,Zag aC,Zag aE,Zag aE,Zag aC,Zag aE];have:=fin l.length ⟨zJ _,hpre,fun a h h2=>aC⟩;rw [ZeR,zY] at this;exact this
 rw [aB aE];refine ⟨_,rfl,l,rfl,hs,fun x=>?_⟩;rw [hm,show j=ns.length by omega]
theorem ZrL {l:List Nat} (h:ZgM ns l):l.Nodup:=h.1.imp fun h e=>by rw [e,ZiO] at h;cases h
theorem Znj : ∀{l m:List Nat},l.Nodup→(∀x∈l,x∈m)→l.length≤m.length
 | [],_,_,_=>Nat.zero_le _
 | a::l,m,hn,hs=>by
  obtain ⟨h1,h2⟩:=List.nodup_cons.1 hn;have ha:=hs a (List.mem_cons_self ..);have:=Znj (m:=m.erase a) h2 fun x hx=>(List.mem_erase_of_ne (fun e=>h1 (by rw [←e];exact hx))).2 (hs x (yK _ hx));rw [List.length_erase_of_mem ha] at this;have hp:=List.length_pos_of_mem ha;simp only [xW];omega
theorem ZsV (f:Nat→Bool) : ∀l:List Nat,l.length=(l.filter f).length+(l.filter fun x=>!f x).length
 | []=>rfl
 | a::l=>by
  have ih:=ZsV f l;cases h:f a with
  | true=>rw [vC h,wS (by rw [h];simp)];simp only [xW];omega
  | false=>rw [wS (by rw [h];simp),vC (by rw [h];rfl)];simp only [xW];omega
theorem count_eq {l:List Nat} (hs:ZgM ns l) {bs:List Bool} (hm : ∀x,x∈l↔x<ns.length∧bs.getD x false=true) (t:Nat) :
  (((vP ns.length).filter fun x=>bs.getD x false&&hvT ns t x).length:Int)=(l.length:Int)-((l.filter (ZfQ ns t)).length:Int):=by
 have h1:=ZsV (ZfQ ns t) l;have e:(l.filter fun x=>!ZfQ ns t x)=l.filter fun x=>hvT ns t x:=by
  congr 1;funext x;unfold ZfQ;simp
 rw [e] at h1;have n1:((vP ns.length).filter fun x=>bs.getD x false&&hvT ns t x).Nodup:=List.nodup_range.sublist rH;have n2:(l.filter fun x=>hvT ns t x).Nodup:=(ZrL hs).sublist rH;have hmem : ∀x,x∈((vP ns.length).filter fun x=>bs.getD x false&&hvT ns t x)↔x∈l.filter fun x=>hvT ns t x:=fun x=>by
  simp only [tT,List.mem_range,zV];rw [hm];constructor
  ·rintro ⟨h1,h2,h3⟩;exact ⟨⟨h1,h2⟩,h3⟩
  rintro ⟨⟨h1,h2⟩,h3⟩;exact ⟨h1,h2,h3⟩
 have a1:=Znj n1 fun x h=>(hmem x).1 h;have a2:=Znj n2 fun x h=>(hmem x).2 h;omega
theorem hvT_grow {x y:Nat} (nd:Nd) (hx:x<ns.length) (hy:y<ns.length):hvT (ns ++ [nd]) x y=hvT ns x y:=by
 unfold hvT;rw [zS hx,zS hy]
theorem srt_grow {l:List Nat} (h:ZgM ns l) (nd:Nd):ZgM (ns ++ [nd]) l:=by
 refine ⟨?_,fun x hx=>by have:=h.2 x hx;simp;omega⟩;rw [rT];intro i j hi hj hij;rw [hvT_grow nd (h.2 _ (yL hi)) (h.2 _ (yL hj))];exact ZiD h hi hj hij
end Go.Dn.F
namespace Go.Dn.F
open Go.Dn Go.Proofs
variable {N:Nat} {ia it im is:Nat} {p:Zah} {ns:List Nd} {lp:List Int} {l:List Nat} {bs:List Bool} {st:LL}
structure ZgF (st:LL) (ia it im is:Nat) (p:Zah) (ns:List Nd) (lp:List Int) (l:List Nat) (bs:List Bool):Prop where
 S:ZjF st ia it is p 100 ns lp l
 m:st[im]? = some (rOf p 100 ns).lo
 ma:im≠ia
 mt:im≠it
 ms:im≠is
 bl:bs.length=100
 mem : ∀x,x∈l↔x<ns.length∧bs.getD x false=true
 out : ∀x,ns.length≤x→bs.getD x false=false
 sm:ns.length≤45
 ll:l.length≤45
theorem ZgF.turn (Z0:ZgF st ia it im is p ns lp l bs) {l':List Nat} {bs':List Bool} (h:ZgM ns l') (hb:bs'.length=100) (hm : ∀x,x∈l'↔x<ns.length∧bs'.getD x false=true) (ho : ∀x,ns.length≤x→bs'.getD x false=false) (hl:l'.length≤45) :
  ZgF (st.set is (ZiE it l')) ia it im is p ns lp l' bs':=
 ⟨Z0.S.turn h,by rw [zU (Ne.symm Z0.ms)];exact Z0.m,Z0.ma,Z0.mt,Z0.ms,hb,hm,ho,Z0.sm,hl⟩
theorem does8 (hN:1000≤N) {Q:Bool×LL→Prop} {c1:((Option Nat)×(Option Nat)×Int×LL×LL)→Option (Bool×LL)} {x4:Option Nat} {acts v142 st171:LL} {v11 x168 x169 best:Int} {x106:ZaI} {x170 b1 b2 b3:Bool} (hl:l.length≤45)
  (h : ∃r,c1 (some im,some is,w64 (v11+1),v142,st171)=some r∧Q r) : ∃r,Zaa.p7 N c1 x4 im is (Zfg l) (Zfg l) acts v11 x168 x169 best x106 x170 b1 b2 b3 v142 st171=some r∧Q r:=by
 unfold Zaa.p7;refine Zei (Q:=Q) (fun m (v:Int)=>∃j:Nat,j+m=l.length∧v=(j:Int)) ?_ N l.length _ ⟨0,aC,rfl⟩ aC;rintro G m _ ⟨j,hj,rfl⟩ hG;unfold Zaa.p8;rw [ZeP];by_cases hlt:j<l.length
 ·rw [aA aE,Zag aC,Zag aC,zH,zY,Zgy hlt,Zax,Zds,Zax,Zds,aB aD,ZaH aC aC];exact hG (m-1) _ aC ⟨j+1,aC,rfl⟩
 rw [aB aE];exact h
theorem clampT {k:Int} (h0:0≤k) (h1:k≤99):(if (0:Int)>(if (99:Int)<k then 99 else k) then 0 else (if (99:Int)<k then 99 else k))=k:=by
 rw [aB (show ¬ (99:Int)<k by omega),aB aC]
theorem Zrs (hN:1000≤N) {Q:Bool×LL→Prop} {c1:((Option Nat)×(Option Nat)×Int×LL×LL)→Option (Bool×LL)} {x4:Option Nat} {acts:LL} {v11 w:Int} {x106:ZaI} {isb:Bool} (Z0:ZgF st ia it im is p ns lp l bs)
  (hi:isb=true→0≤x106.N∧x106.N<(ns.length:Int)) (hi2:isb=false→(inT ns x106.N&&decide (x106.N.toNat∈l))=false)
  (h : ∃r,c1 (some im,some is,w64 (v11+1),ZjP bs,st)=some r∧Q r) : ∃r,Zaa.p5 N c1 x4 (some im) (some is) isb w w acts v11 x106 (ZjP bs) st=some r∧Q r:=by
 have T:=Z0.S.T;have sm:=Z0.sm;have ll:=Z0.ll;obtain ⟨l2,e2,s2,m2⟩:=ZrN hN p 100 T.tr aC Z0.bl;have el:l2=l:=Zhi s2 Z0.S.srt fun x=>by rw [m2,Z0.mem]
 subst el;unfold Zaa.p5;rw [Zab,Z0.m,Zax,Zcm,Zle,Z0.bl,Zag (by decide),zW (by rw [Zle,Z0.bl];decide),e2,Zab,Zag (Zmm _),Zab,Z0.S.s,Zax,ZgA,Zab,T.t,Zax];unfold Zhf;rw [ZcP,Zab,T.a,Zax,ZbK,tAll_eq aC,Zab,Zag (Zmm _)];have fin : ∃r,Zaa.p6 N c1 x4 im is isb w w (Zfg l2) (Zfg l2) (bestT l2) acts v11 x106 (ZjP bs) st=some r∧Q r:=by
  unfold Zaa.p6;rw [aB aD,aB aD,Z0.S.s,Zax,ZgA,Zab,T.t,Zax];unfold Zhf;rw [ZcP,Zab,T.a,Zax,ZbK,ZmK,Zab,ZeP,aB aD,ZpZ,Zab,aB aD,tHas_eq hN Z0.S aC,Zab];dsimp only;cases isb with
  | true=>
   obtain ⟨h0,h1⟩:=hi rfl;have ht:x106.N.toNat<ns.length:=aC
   have hg:(inT ns x106.N&&decide (x106.N.toNat∈l2))=bs.getD x106.N.toNat false:=by
    rw [inT_true.2 ⟨h0,h1⟩,wU];have:=Z0.mem x106.N.toNat;cases hb:bs.getD x106.N.toNat false with
    | true=>exact decide_eq_true (this.2 ⟨ht,hb⟩)
    | false=>exact decide_eq_false fun h=>by have:=(this.1 h).2;rw [hb] at this;cases this
   rw [aA rfl,clampT h0 aC,Zag h0,Zag aE,zY,ZiZ (by rw [Z0.bl];omega),Zax,Zid,hg,aB aD];exact does8 hN ll h
  | false=>
   rw [aB aD,hi2 rfl,aB aD];exact does8 hN ll h
 rw [ZeP];cases l2 with
 | nil=>rw [aB aD];exact fin
 | cons a l3=>
  rw [aA aD,Zag aD,Zgy aD,Zax,Zds];exact fin
theorem Zsq {ns2:List Nd} {k:Int} (hs : ∀x∈l,x<ns.length) (h:inT ns k=false):(inT ns2 k&&decide (k.toNat∈l))=false:=by
 cases h2:inT ns2 k with
 | false=>rfl
 | true=>
  have h0:=(inT_true.1 h2).1;rw [wU];refine decide_eq_false fun h3=>?_;have h4:=hs _ h3;rw [inT_true.2 ⟨h0,aC⟩] at h;cases h
theorem Zsi (hN:1000≤N) (S:ZjF st ia it is p 100 ns lp l) (hl:l.length≤100) {t:Nat} (ht:t<ns.length) {l':List Nat} (hs:ZgM ns l') :
  (t∉l→(∀x,x∈l'↔x∈l∨x=t)→l'.length=l.length+1)∧(t∈l→(∀x,x∈l'↔x∈l∧x≠t)→l'.length+1=l.length):=by
 obtain ⟨k,_,hk,h1,h2⟩:=Zpr hN S aC t ht;constructor
 ·intro h hm;obtain ⟨a,b⟩:=h1 h;rw [Zhi hs a fun x=>by rw [hm,b]];simp;omega
 intro h hm;obtain ⟨a,b,c⟩:=h2 h;rw [Zhi hs b fun x=>by rw [hm,c]];simp;omega
theorem does3 (hN:1000≤N) {Q:Bool×LL→Prop} {c1:((Option Nat)×(Option Nat)×Int×LL×LL)→Option (Bool×LL)} {acts:LL} {v11:Int} {x:ZaI} (Z0:ZgF st ia it im is p ns lp l bs)
  (h : ∀st' l' bs',ZgF st' ia it im is p ns lp l' bs'→l'.length≤l.length→∃r,c1 (some im,some is,w64 (v11+1),ZjP bs',st')=some r∧Q r) :
  ∃r,loopN (Zaa.p3 N c1 (some it) im (some is) (inT ns x.N) ((l.length:Int)-((ZgJ ns l x.N).length:Int)) acts v11 (rOf p 100 ns) x (st.set is (ZiE it (ZgJ ns l x.N)))) N (0,0,ZjP bs)=some r∧Q r:=by
 have sm:=Z0.sm;have ll:=Z0.ll;have bl:=Z0.bl;obtain ⟨_,s2,k2⟩:=ZpY hN Z0.S aC x.N;cases hin:inT ns x.N with
 | false=>
  have e:ZgJ ns l x.N=l:=by unfold ZgJ;rw [hin,aB aD]
  rw [e,Zgw Z0.S.s,uX];refine Zei (Q:=Q) (fun m (s:Int×Int×LL)=>∃j:Nat,j+m=ns.length∧s=(0,(j:Int),ZjP bs)) ?_ N ns.length _ ⟨0,aC,rfl⟩ aC;rintro G m _ ⟨j,hj,rfl⟩ hG;unfold Zaa.p3 Zaa.p4;dsimp only;rw [Zqm];by_cases hlt:j<ns.length
  ·rw [aA aE,aB aD,ZaH (n:=(j:Int)+1) aC aC];exact hG (m-1) _ aC ⟨j+1,aC,rfl⟩
  rw [aB aE];exact Zrs hN Z0 (fun h=>by cases h) (fun _=>Zsq Z0.S.srt.2 hin) (h _ _ _ Z0 (zJ _))
 | true=>
  obtain ⟨t,et,ht⟩:=ZiN hin;have e:ZgJ ns l x.N=l.filter (ZfQ ns t):=by unfold ZgJ;rw [hin,aA rfl,et,zH]
  have hcnt:=count_eq Z0.S.srt Z0.mem t;rw [←e] at hcnt;rw [←hcnt,et];have hst:(st.set is (ZiE it (ZgJ ns l (t:Int))))[im]? = some (rOf p 100 ns).lo:=by rw [zU (Ne.symm Z0.ms)];exact Z0.m
  refine Zei (Q:=Q) (fun m (s:Int×Int×LL)=>∃(j:Nat) (b:List Bool),j+m=ns.length∧s=((((vP j).filter fun x=>bs.getD x false&&hvT ns t x).length:Int),(j:Int),ZjP b)∧b.length=100∧∀y,b.getD y false=(bs.getD y false && !(decide (y<j)&&hvT ns t y)))
   ?_ N ns.length _ ⟨0,bs,aC,rfl,bl,fun y=>by simp⟩ aC
  rintro G m _ ⟨j,b,hj,rfl,hb,hby⟩ hG;unfold Zaa.p3 Zaa.p4;dsimp only;rw [Zqm];have hfl:((vP j).filter fun x=>bs.getD x false&&hvT ns t x).length≤j:=Nat.le_trans (sL ..) aD;by_cases hlt:j<ns.length
  ·have w1:w64 ((j:Int)+1)=((j+1:Nat):Int):=by rw [ZaH aC aC];rfl
   have ebj:b.getD j false=bs.getD j false:=by rw [hby,decide_eq_false (Nat.lt_irrefl j)];simp
   rw [aA aE,aA rfl,Zag aC,Zag aE,zH,zY,ZiZ aC,Zax,Zid,ebj,w1];have nxt : ∀y,y≠j→(decide (y<j+1))=decide (y<j):=fun y hy=>by
    by_cases h:y<j
    ·rw [decide_eq_true h,decide_eq_true aC]
    rw [decide_eq_false h,decide_eq_false aC]
   have same:(bs.getD j false&&hvT ns t j)=false→∃r,G ((((vP j).filter fun x=>bs.getD x false&&hvT ns t x).length:Int),((j+1:Nat):Int),ZjP b)=some r∧Q r:=fun hz=>by
    refine hG (m-1) _ aC ⟨j+1,b,aC,?_,hb,fun y=>?_⟩
    ·rw [List.range_succ,tF,wS (by rw [hz];simp)];simp
    rw [hby];by_cases hy:y=j
    ·subst hy;rw [decide_eq_false (Nat.lt_irrefl y),decide_eq_true (Nat.lt_succ_self y)];cases h1:bs.getD y false
     ·rfl
     rw [h1,wU] at hz;rw [hz];rfl
    rw [nxt y hy]
   cases hbj:bs.getD j false with
   | false=>rw [aB aD];exact same (by rw [hbj];rfl)
   | true=>
    rw [aA rfl,hst,Zax,Zcm,et,Zop aC p 100 Z0.S.T.tr ht hlt,Zab];cases hv:hvT ns t j with
    | false=>rw [aB aD];exact same (by rw [hv];simp)
    | true=>
     rw [aA rfl,ZmR,ZaH aC aC];refine hG (m-1) _ aC ⟨j+1,b.set j false,aC,?_,by simpa using hb,fun y=>?_⟩
     ·rw [List.range_succ,tF,vC (by rw [hbj,hv];rfl)];simp
     rw [Zju aC];by_cases hy:y=j
     ·subst hy;rw [aA rfl,hv,decide_eq_true (Nat.lt_succ_self y)];simp
     rw [aB hy,hby,nxt y hy]
  have hjl:j=ns.length:=aC
  subst hjl;rw [aB aD];rw [et] at s2 k2 e;have Z1:ZgF (st.set is (ZiE it (ZgJ ns l (t:Int)))) ia it im is p ns lp (ZgJ ns l (t:Int)) b:=Z0.turn s2 hb (fun y=>by
   rw [e,tT,Z0.mem,hby];unfold ZfQ;constructor
   ·rintro ⟨⟨h1,h2⟩,h3⟩;refine ⟨h1,?_⟩;rw [h2,decide_eq_true h1];simpa using h3
   rintro ⟨h1,h2⟩;rw [decide_eq_true h1] at h2;simp only [zV,wU] at h2;exact ⟨⟨h1,h2.1⟩,h2.2⟩) (fun y hy=>by rw [hby,Z0.out y hy];rfl) aC
  exact Zrs hN Z1 (fun _=>by rw [et];exact ⟨aC,aC⟩) (fun h=>by cases h) (h _ _ _ Z1 k2)
theorem does2 (hN:1000≤N) (hp:WfP p) {gs:List Zcy} {cs:List Zcb} (hg:p.Gates=Zmo gs) (hc:p.Checks=ZjG cs) (lg:gs.length≤400) (lc:cs.length≤400) {Q:Bool×LL→Prop} {c1:((Option Nat)×(Option Nat)×Int×LL×LL)→Option (Bool×LL)} {acts:LL} {v11:Int} {x:ZaI}
  (wx:WfH x.Header) (nx:0≤x.Now∧x.Now≤9223372036854775807) (Z0:ZgF st ia it im is p ns lp l bs) (h1:ns.length≤44) (h2:l.length≤44)
  (h : ∀st' ns' lp' l' bs',ZgF st' ia it im is p ns' lp' l' bs'→ns'.length≤ns.length+1→l'.length≤l.length+1→∃r,c1 (some im,some is,w64 (v11+1),ZjP bs',st')=some r∧Q r) :
  ∃r,Zaa.p2 N c1 (some it) (some im) (some is) (inT ns x.N) acts v11 x (ZjP bs) st=some r∧Q r:=by
 unfold Zaa.p2;have bl:=Z0.bl;have i1:inT ns x.N=true→0≤x.N∧x.N<(ns.length:Int):=fun h=>inT_true.1 h;have stay:st.set is (ZiE it l)=st:=Zgw Z0.S.s;have fin0 : ∃r,Zaa.p5 N c1 (some it) (some im) (some is) (inT ns x.N) 0 0 acts v11 x (ZjP bs) st=some r∧Q r:=Zrs hN Z0 i1 (fun h=>Zsq Z0.S.srt.2 h) (h _ _ _ _ _ Z0 aC aC);by_cases k0:x.Kind=0
 ·rw [aA (aH k0)];obtain ⟨lp',st',ea,T',keep⟩:=skAdd_eq (N:=N) aC hg hc lg lc aC Z0.S.T wx x.Now aC;have hib:st'[im]? = some (rOf p 100 ns).lo:=by rw [keep _ Z0.ma Z0.mt];exact Z0.m
  have l1:=addT_len p gs cs 100 ns x.Header x.Now;rw [ea,Zab];dsimp only;rw [Zon aC hg hc lg lc aC Z0.S.T.tr aC hib wx _ nx,Zab];dsimp only;have hs':ZgM (ZiS p gs cs 100 ns x.Header x.Now).2.2.2 l:=by
   rcases Zix p gs cs 100 ns x.Header x.Now with e | ⟨q,_,_,_,_,_,e⟩
   ·rw [e];exact Z0.S.srt
   rw [e];exact srt_grow Z0.S.srt _
  have hge:ns.length≤(ZiS p gs cs 100 ns x.Header x.Now).2.2.2.length:=by
   rcases Zix p gs cs 100 ns x.Header x.Now with e | ⟨q,_,_,_,_,_,e⟩
   ·rw [e];exact zJ _
   rw [e];simp
  have Z1:ZgF (st'.set im (rOf p 100 (ZiS p gs cs 100 ns x.Header x.Now).2.2.2).lo) ia it im is p (ZiS p gs cs 100 ns x.Header x.Now).2.2.2 lp' l bs:=by
   refine ⟨⟨T'.other Z0.ma Z0.mt,by rw [zU Z0.ms,keep _ Z0.S.na Z0.S.nt];exact Z0.S.s,Z0.S.na,Z0.S.nt,hs',aC⟩,zP (yE.1 hib).1,Z0.ma,Z0.mt,Z0.ms,bl,fun y=>?_,fun y hy=>Z0.out y aC,aC,Z0.ll⟩;rw [Z0.mem];constructor
   ·rintro ⟨a,b⟩;exact ⟨aC,b⟩
   rintro ⟨a,b⟩;refine ⟨?_,b⟩;by_cases e:y<ns.length
   ·exact e
   rw [Z0.out y aC] at b;cases b
  exact Zrs hN Z1 (fun h=>by have:=i1 h;exact ⟨this.1,aC⟩) (fun h=>Zsq Z0.S.srt.2 h) (h _ _ _ _ _ Z1 aC aC)
 rw [aB (aH k0)];by_cases k1:x.Kind=1
 ·rw [aA (aH k1),show ([[zM .i64 x.N]]:LL)=ZdL [x.N] from rfl];obtain ⟨l',e,s',k',m'⟩:=ZrH hN Z0.S [x.N] aE;have k'':l'.length≤l.length+1:=by simpa using k'
  rw [e,Zab];dsimp only;cases hin:inT ns x.N with
  | false=>
   have el:l'=l:=Zhi s' Z0.S.srt fun y=>by
    rw [m'];unfold Zsj;refine ⟨fun h=>h.elim id fun ⟨a,b⟩=>?_,.inl⟩;rw [←yM.1 b,ZqA a] at hin;cases hin
   subst el;rw [aB aD,uX,stay,←hin];exact fin0
  | true=>
   obtain ⟨t,et,ht⟩:=ZiN hin;have hm1 : ∀y,y∈l'↔y∈l∨y=t:=fun y=>by
    rw [m'];unfold Zsj;rw [yM,et];constructor
    ·rintro (h | ⟨_,h⟩)
     ·exact .inl h
     exact .inr aC
    rintro (h | h)
    ·exact .inl h
    exact .inr ⟨aC,aC⟩
   rw [aA rfl,Zag aC,Zag (by rw [et];simp;omega),zY,et,zH,ZiZ aC,Zax,Zid];cases hb:bs.getD t false with
   | false=>
    have hnl:t∉l:=fun h=>by have:=((Z0.mem t).1 h).2;rw [hb] at this;cases this
    have hl':=(Zsi hN Z0.S aC ht s').1 hnl hm1;have Z1:ZgF (st.set is (ZiE it l')) ia it im is p ns lp l' (bs.set t true):=Z0.turn s' (aH bl) (fun y=>by
     rw [hm1,Z0.mem,Zju aC];by_cases hy:y=t
     ·subst hy;rw [aA rfl];simp [ht]
     rw [aB hy];simp [hy]) (fun y hy=>by rw [Zju aC,aB aC];exact Z0.out y hy) aC
    rw [aA (by rfl),ZmR,hl',show ((l.length+1:Nat):Int)-(l.length:Int)=1 by omega];exact Zrs hN Z1 (fun _=>i1 hin) (fun h=>by cases h) (h _ _ _ _ _ Z1 aC k'')
   | true=>
    have hml:t∈l:=(Z0.mem t).2 ⟨ht,hb⟩;have el:l'=l:=Zhi s' Z0.S.srt fun y=>by rw [hm1];exact ⟨fun h=>h.elim id fun e=>e ▸ hml,.inl⟩
    subst el;rw [aB aD,uX,stay,←hin];exact fin0
 rw [aB (aH k1)];by_cases k2:x.Kind=2
 ·rw [aA (aH k2),show ([[zM .i64 x.N]]:LL)=ZdL [x.N] from rfl];obtain ⟨l',e,s',k',m'⟩:=tDrop_eq hN Z0.S [x.N] aD aC;rw [e,Zab];dsimp only;cases hin:inT ns x.N with
  | false=>
   have el:l'=l:=Zhi s' Z0.S.srt fun y=>by
    rw [m'];refine ⟨fun h=>h.1,fun h=>⟨h,fun b=>?_⟩⟩;rw [←yM.1 b,ZqA (Z0.S.srt.2 y h)] at hin;cases hin
   subst el;rw [aB aD,uX,stay,←hin];exact fin0
  | true=>
   obtain ⟨t,et,ht⟩:=ZiN hin;have hm1 : ∀y,y∈l'↔y∈l∧y≠t:=fun y=>by
    rw [m',yM,et];exact and_congr_right fun _=>⟨fun h e=>h aC,fun h e=>h aC⟩
   rw [aA rfl,Zag aC,Zag (by rw [et];simp;omega),zY,et,zH,ZiZ aC,Zax,Zid];cases hb:bs.getD t false with
   | true=>
    have hml:t∈l:=(Z0.mem t).2 ⟨ht,hb⟩;have hl':=(Zsi hN Z0.S aC ht s').2 hml hm1;have Z1:ZgF (st.set is (ZiE it l')) ia it im is p ns lp l' (bs.set t false):=Z0.turn s' (aH bl) (fun y=>by
     rw [hm1,Z0.mem,Zju aC];by_cases hy:y=t
     ·subst hy;rw [aA rfl];simp
     rw [aB hy];simp [hy]) (fun y hy=>by rw [Zju aC,aB aC];exact Z0.out y hy) aC
    rw [aA rfl,ZmR,show (l.length:Int)-(l'.length:Int)=1 by omega];exact Zrs hN Z1 (fun _=>i1 hin) (fun h=>by cases h) (h _ _ _ _ _ Z1 aC aC)
   | false=>
    have hnl:t∉l:=fun h=>by have:=((Z0.mem t).1 h).2;rw [hb] at this;cases this
    have el:l'=l:=Zhi s' Z0.S.srt fun y=>by rw [hm1];exact ⟨fun h=>h.1,fun h=>⟨h,fun e=>hnl (e ▸ h)⟩⟩
    subst el;rw [aB aD,uX,stay,←hin];exact fin0
 rw [aB (aH k2)];by_cases k3:x.Kind=3
 ·obtain ⟨e,s',k'⟩:=ZpY hN Z0.S aC x.N;rw [aA (aH k3),e,Zab];dsimp only;rw [Zab,zU (Ne.symm Z0.ms),Z0.m,Zax,Zcm];exact does3 hN Z0 fun st' l' bs' Z1 hl=>h _ _ _ _ _ Z1 aC aC
 rw [aB (aH k3)];exact fin0
theorem nilPut (hN:1000≤N) (st:LL):ZaJ N none [[zM .i64 0]] st=some (0,st):=by
 unfold ZaJ;refine ZbZ (fun m (s:(Option Nat)×Int×Int×LL)=>∃j:Nat,j+m=1∧s=(none,0,(j:Int),st)) ?_ N 1 _ ⟨0,aC,rfl⟩ aC;rintro G m _ ⟨j,hj,rfl⟩ hG;unfold ZaJ.p1 ZaJ.p2 Zcl;dsimp only;rw [show len ([[zM .i64 0]]:LL)=1 from rfl];by_cases hlt:j<1
 ·have e:j=0:=by omega
  subst e;rw [aA aD,Zag aD,show (zC ((0:Nat):Int))=0 from rfl,show ([[zM .i64 0]]:LL)[0]? = some [zM .i64 0] from rfl,Zax,Zds,aB aD,Zab];dsimp only;rw [aA (by rfl),ZaH aC aC];exact hG (m-1) _ aC ⟨1,aC,rfl⟩
 rw [aB aE]
theorem nilDrop (hN:1000≤N) (st:LL):ZaN N none [[zM .i64 0]] st=some (0,st):=by
 unfold ZaN;refine ZbZ (fun m (s:(Option Nat)×Int×Int×LL)=>∃j:Nat,j+m=1∧s=(none,0,(j:Int),st)) ?_ N 1 _ ⟨0,aC,rfl⟩ aC;rintro G m _ ⟨j,hj,rfl⟩ hG;unfold ZaN.p1 ZaN.p2 Zcl;dsimp only;rw [show len ([[zM .i64 0]]:LL)=1 from rfl];by_cases hlt:j<1
 ·have e:j=0:=by omega
  subst e;rw [aA aD,Zag aD,show (zC ((0:Nat):Int))=0 from rfl,show ([[zM .i64 0]]:LL)[0]? = some [zM .i64 0] from rfl,Zax,Zds,aB aD,Zab];dsimp only;rw [aA (by rfl),ZaH aC aC];exact hG (m-1) _ aC ⟨1,aC,rfl⟩
 rw [aB aE]
theorem barePut (hN:1000≤N) (st:LL):ZaJ N (some st.length) [[zM .i64 0]] (st ++ [[yN none,yT true 1 []]])=some (0,st ++ [[yN none,yT true 1 []]]):=by
 have hg:(st ++ [[yN none,yT true 1 []]]:LL)[st.length]? = some [yN none,yT true 1 []]:=by simp
 have eo : ∀{α:Type} (k:Option Nat→LL→Option α),Zbw [yN none,yT true 1 []] k=k none []:=fun k=>rfl;generalize (st ++ [[yN none,yT true 1 []]]:LL)=st1 at hg ⊢;have ei:Zcl N (some st.length) 0 st1=some (false,st1):=by
  unfold Zcl;rw [aA aD,aA aD,Zab,hg,Zax,eo];unfold Zdj;rw [aA (by rfl),Zab];rfl
 unfold ZaJ;refine ZbZ (fun m (s:(Option Nat)×Int×Int×LL)=>∃j:Nat,j+m=1∧s=(some st.length,0,(j:Int),st1)) ?_ N 1 _ ⟨0,aC,rfl⟩ aC;rintro G m _ ⟨j,hj,rfl⟩ hG;unfold ZaJ.p1 ZaJ.p2;dsimp only;rw [show len ([[zM .i64 0]]:LL)=1 from rfl];by_cases hlt:j<1
 ·have e:j=0:=by omega
  subst e;rw [aA aD,Zag aD,show (zC ((0:Nat):Int))=0 from rfl,show ([[zM .i64 0]]:LL)[0]? = some [zM .i64 0] from rfl,Zax,Zds,ei,Zab];dsimp only;rw [aA (by rfl),ZaH aC aC];exact hG (m-1) _ aC ⟨1,aC,rfl⟩
 rw [aB aE]
theorem doesEnd (hN:1000≤N) {G:((Option Nat)×(Option Nat)×Int×LL×LL)→Option (Bool×LL)} (acts:LL) {v11:Int} (hv : ¬ v11<len acts) (m s:Option Nat) (v102 st:LL) : ∃st',Zaa.p1 N (some it) acts G (m,s,v11,v102,st)=some (true,st'):=by
 unfold Zaa.p1;dsimp only;have e1:Zcl N none 0 st=some (false,st):=by unfold Zcl;rfl
 have e2:ZcM N none 0 st=some (0,st):=by unfold ZcM;rw [e1];rfl
 have e3:Zdd N none st=some (0,st):=by unfold Zdd;rfl
 have e4:ZdB N none st=some ([],st):=by unfold ZdB;rfl
 have e5:ZcV N none 0 st=some (false,st):=by unfold ZcV;rw [e1];rfl
 have e6:Zdq N none st=some (-1,st):=by unfold Zdq;rw [e3];rfl
 rw [aB (aH hv),nilPut hN,Zab];dsimp only;rw [nilDrop hN,Zab];dsimp only;rw [e2,Zab];dsimp only;rw [e3,Zab];dsimp only;rw [e4,Zab];dsimp only;rw [aA (by rfl),e5,Zab];dsimp only;rw [aA (by rfl),e6,Zab];dsimp only;rw [aA (by rfl)];unfold ZeA;rw [Zab];dsimp only;rw [barePut hN,Zab];exact ⟨_,rfl⟩
theorem ZpK {p:Zah} (hp:WfP p) (l:List ZaI) (hl : ∀x∈l,WfA15 x) (hb:l.length≤maxLen) : ∃st,Zaa (l.length+1000) p (Zhz l) []=some (true,st):=by
 unfold Zaa;obtain ⟨st0,ea⟩:=alive15 (N:=l.length+1000) aC;rw [ea,Zab];dsimp only;rw [aB aD];obtain ⟨b,eg,hgr⟩:=Zro (N:=l.length+1000) hp l aC hb;rw [eg,Zab];cases b with
 | true=>exact ⟨st0,by rw [aA rfl]⟩
 | false=>
  obtain ⟨hnow,h40,gs,cs,hg,hc,lg,lc,hgd⟩:=hgr rfl;rw [aB aD,Zqb aC hg hc lg lc hp 100 st0,aA hgd,Zab,show Zje 100=100 from rfl];dsimp only;rw [Zom aC hp,Zab,show Zje 100=100 from rfl];dsimp only;rw [ZrI,Zab];dsimp only;have T0:=Zqc hp 100 st0;have l1:(((st0 ++ [(aOf p 100 [Ziy p]).lo]) ++ [Zhf st0.length [-1]]):LL).length=st0.length+2:=by simp
  have l2:((((st0 ++ [(aOf p 100 [Ziy p]).lo]) ++ [Zhf st0.length [-1]]) ++ [(rOf p 100 [Ziy p]).lo]):LL).length=st0.length+3:=by simp
  rw [l1,l2];have hrep : ∀y,(zB 100 false).getD y false=false:=fun y=>by rw [xA,List.getElem?_replicate];split<;>rfl
  have Z0:ZgF ((((st0 ++ [(aOf p 100 [Ziy p]).lo]) ++ [Zhf st0.length [-1]]) ++ [(rOf p 100 [Ziy p]).lo]) ++ [ZiE (st0.length+1) []]) st0.length (st0.length+1) (st0.length+2) (st0.length+3) p [Ziy p] [-1] [] (zB 100 false):=by
   refine ⟨⟨(T0.app _).app _,?_,aC,aC,Zpx _,by simp⟩,?_,aC,aC,aC,by simp,(fun y=>by rw [hrep];simp),(fun y _=>hrep y),by simp,by simp⟩
   ·rw [zX (by rw [l2];exact zJ _),l2];simp
   rw [zS (by rw [l2];omega),zX (by rw [l1];exact zJ _),l1];simp
  have hrow:zB (zC 100) [L.bool false]=ZjP (zB 100 false):=by unfold ZjP;rw [List.map_replicate];rfl
  rw [hrow];generalize ((((st0 ++ [(aOf p 100 [Ziy p]).lo]) ++ [Zhf st0.length [-1]]) ++ [(rOf p 100 [Ziy p]).lo]) ++ [ZiE (st0.length+1) []]:LL)=st1 at Z0 ⊢;generalize st0.length+1=it at Z0 ⊢;generalize st0.length+2=im at Z0 ⊢;generalize st0.length+3=is at Z0 ⊢
  suffices h : ∃r,loopN (Zaa.p1 (l.length+1000) (some it) (Zhz l)) (l.length+1000) (some im,some is,0,ZjP (zB 100 false),st1)=some r∧∃st',r=(true,st') by
   obtain ⟨r,e,st',rfl⟩:=h;exact ⟨st',e⟩
  refine Zei (Q:=fun r:Bool×LL=>∃st',r=(true,st')) (fun m (s:(Option Nat)×(Option Nat)×Int×LL×LL)=>∃(j:Nat) (st:LL) (ns:List Nd) (lp:List Int) (q:List Nat) (bs:List Bool),j+m=l.length∧s=(some im,some is,(j:Int),ZjP bs,st)∧ZgF st st0.length it im is p ns lp q bs∧ns.length≤j+1∧q.length≤j)
   ?_ (l.length+1000) l.length _ ⟨0,st1,[Ziy p],[-1],[],_,aC,rfl,Z0,by simp,by simp⟩ aC
  rintro G m _ ⟨j,st,ns,lp,q,bs,hj,rfl,Z1,hn,hq⟩ hG;by_cases hlt:j<l.length
  ·have wx:=hl _ (yL hlt);have nx:=hnow _ (yL hlt);have rx:=wx.n;unfold Znv at rx;have go:=does2 (N:=l.length+1000) aC hp hg hc lg lc (Q:=fun r:Bool×LL=>∃st',r=(true,st')) (c1:=G) (acts:=Zhz l) (v11:=(j:Int)) (x:=l[j]) wx.h ⟨nx,aC⟩ Z1 aC aC fun st' ns' lp' l' bs' Z2 a1 a2=>by
    rw [ZaH aC aC];exact hG (m-1) _ aC ⟨j+1,st',ns',lp',l',bs',aC,rfl,Z2,aC,aC⟩
   unfold Zaa.p1;dsimp only;rw [ZjY,aA aF,Zag aC,zH,Zmp hlt,Zax,Zfk];by_cases h0:0≤(l[j]).N
   ·rw [aA (aH h0),Zab,Z1.m,Zax,Zcm,Zqm];have e:inT ns (l[j]).N=decide ((l[j]).N<(ns.length:Int)):=by unfold inT;rw [decide_eq_true h0,wU]
    rw [←e];exact go
   rw [aB (aH h0)];have e:inT ns (l[j]).N=false:=by unfold inT;rw [decide_eq_false h0,Bool.false_and]
   rw [e] at go;exact go
  obtain ⟨st',e⟩:=doesEnd (N:=l.length+1000) (it:=it) aC (G:=G) (Zhz l) (v11:=(j:Int)) (by rw [ZjY];omega) (some im) (some is) (ZjP bs) st;exact ⟨_,e,st',rfl⟩
theorem TipsDoes_true {ls:List L} (xs:LL) (h0:Zhs tysP ls) (h1 : ∀x∈xs,Zhs tysAc5 x) (l1:xs.length≤maxLen) :
  ∃st,Snd Tryz.prog 5 [.agg ls,.one (.sl 71 xs)] [] [.one (.bool true)] st:=by
 obtain ⟨p,rfl,hp⟩:=open_P h0;obtain ⟨l,rfl,hl⟩:=open_A15 h1;obtain ⟨st,h⟩:=ZpK hp l hl (by rw [ZmV] at l1;exact l1);exact ⟨st,Zaa.snd h⟩
end Go.Dn.F
