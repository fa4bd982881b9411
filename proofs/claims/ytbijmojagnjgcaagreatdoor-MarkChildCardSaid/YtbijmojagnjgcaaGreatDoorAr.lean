import Derived.Test.YtbijmojagnjgcaaGreatDoorNum
import Derived.Test.YtbijmojagnjgcaaGreatDoorRul
set_option linter.all false
open Bool renaming true_and→vC,and_eq_true→zS,false_or→uW
open Go.Dn.L renaming arr→zH,int→zJ,ptr→zQ,own→yB
open Int renaming toNat_natCast→zG
open List renaming replicate→zB,foldl_append→vH,length_map→xQ,length_append→zT,length_singleton→yS,set_set→yR,ext_getElem?→xG,getElem?_set_self→zN,getElem?_set_ne→zO,getElem_mem→yM,drop_eq_getElem_cons→yU,getElem_map→tR,getElem_append_left→uX,getElem_append_right→sR,getElem?_eq_getElem→zP,getElem?_append_left→zV,getElem?_append_right→yA,take_of_length_le→zX,mem_of_getElem?→wS,getElem?_eq_none→zL,range→vA,dropLast_concat→sD,take_succ_eq_append_getElem→yE,getElem?_take_of_lt→uY,set→zM,map_set→uQ,getD_eq_getElem?_getD→yC,any_cons→uV,map_congr_left→vI,all_cons→yP,all_nil→rC,getElem?_take_eq_none→sQ,getElem?_replicate→wP
open Nat renaming zero_add→yG,add_sub_cancel→uJ,strongRecOn→vU,lt_or_ge→zU
set_option maxRecDepth 40000
namespace Go.Dn.F
open Go.Dn Go.Proofs
variable {N:Nat}
structure Nd where
 ch:List Zaj
 ah:Int
 wk:Int
def h0:Zaj:=⟨0,zB 32 0,zB 32 0,0,0,0⟩
def Nd.hd (n:Nd):Zaj:=n.ch.getLast?.getD h0
def Nd.id (n:Nd):List Int:=hid n.hd
noncomputable def Nd.en (n:Nd):Zck:=⟨n.hd,n.id,n.ah,(n.ch.length:Int)-1,nw n.wk⟩
noncomputable def ZhJ (ns:List Nd):LL:=ns.map fun n=>n.en.ls
noncomputable def rowS (p:Zae) (ns:List Nd):LL:=ns.map fun n=>(Zdf p n.ch).ls
def Zjr:Nat→List (List Int)→LM
 | _,[]=>[]
 | i,x::l=>(zH .u8 32 x,zJ .i64 (i:Int))::Zjr (i+1) l
def ids (ns:List Nd):List (List Int):=ns.map Nd.id
def ZeK:Nat→List (List Int)→List Int→Option Nat
 | _,[],_=>none
 | i,y::l,x=>if x=y then some i else ZeK (i+1) l x
theorem ZkH : ∀(l:List (List Int)) (i:Nat) (x:List Int),ZhZ (Zjr i l) (zH .u8 32 x)=some ((ZeK i l x).map fun k=>(k-i,zJ .i64 (k:Int)))
 | [],i,x=>rfl
 | y::l,i,x=>by
  rw [Zjr,ZhZ];simp only [ZnJ,and_self,if_true];unfold ZeK;by_cases h:x=y
  ·subst h;simp
  rw [show (x==y)=false by simpa using h,if_neg h,ZkH l (i+1) x];cases e:ZeK (i+1) l x with
  | none=>rfl
  | some k=>
   have : ∀(l:List (List Int)) (i k:Nat),ZeK i l x=some k→i≤k:=by
    intro l
    induction l with
    | nil=>intro i k h;cases h
    | cons z l ih=>
     intro i k h;unfold ZeK at h;split at h
     ·cases h;omega
     have:=ih _ _ h;omega
   have:=this l (i+1) k e;simp only [Option.map_some];rw [show k-(i+1)+1=k-i by omega]
theorem Zkr : ∀(l:List (List Int)) (i:Nat) (x:List Int),Zjr i (l ++ [x])=Zjr i l ++ [(zH .u8 32 x,zJ .i64 ((i+l.length:Nat):Int))]
 | [],i,x=>rfl
 | y::l,i,x=>by rw [List.cons_append,Zjr,Zkr l (i+1) x,Zjr,List.length_cons,show i+1+l.length=i+(l.length+1) by omega];rfl
theorem Zgq : ∀{l:List (List Int)} {i k:Nat} {x:List Int},ZeK i l x=some k→i≤k∧∃h:k-i<l.length,l[k-i]=x
 | y::l,i,k,x,h=>by
  unfold ZeK at h;split at h
  ·rename_i e;cases h;exact ⟨by omega,by simp,by simp [e]⟩
  obtain ⟨h1,h2,h3⟩:=Zgq h;refine ⟨by omega,by simp;omega,?_⟩;have:k-i=(k-(i+1))+1:=by omega
  simp only [this,List.getElem_cons_succ];exact h3
theorem ZmK : ∀{l:List (List Int)} {i:Nat} {x:List Int},ZeK i l x=none→x∉l
 | [],_,_,_=>by simp
 | y::l,i,x,h=>by
  unfold ZeK at h;split at h
  ·cases h
  rename_i e;simp [e,ZmK h]
noncomputable def aOf (p:Zae) (room:Int) (ns:List Nd):ZaG:=⟨p,ZhJ ns,rowS p ns,Zjr 0 (ids ns),room⟩
theorem ZkD {ns:List Nd} {i:Nat} (h:i<ns.length):(ZhJ ns)[i]? = some ns[i].en.ls:=by simp [ZhJ,h]
theorem rowS_get {p:Zae} {ns:List Nd} {i:Nat} (h:i<ns.length):(rowS p ns)[i]? = some (Zdf p ns[i].ch).ls:=by simp [rowS,h]
@[simp] theorem ZgR (ns:List Nd):len (ZhJ ns)=(ns.length:Int):=by simp [len,ZhJ]
@[simp] theorem len_rowS (p:Zae) (ns:List Nd):len (rowS p ns)=(ns.length:Int):=by simp [len,rowS]
structure Zhp (ns:List Nd):Prop where
 small:ns.length≤512
 ch : ∀n∈ns,n.ch ≠ []∧n.ch.length≤ns.length
 wf : ∀n∈ns,∀x∈n.ch,WfH x
 wk : ∀n∈ns,isN n.wk
 ah : ∀(i:Nat) (h:i<ns.length),(i=0∧ns[i].ah = -1∧ns[i].ch.length=1)∨∃(k:Nat) (hk:k<i),ns[i].ah=(k:Int)∧ns[i].ch=ns[k].ch ++ [ns[i].hd]
 one:(ids ns).Nodup
theorem Nd.hd_snoc {n:Nd} {c:List Zaj} {h:Zaj} (e:n.ch=c ++ [h]):n.hd=h:=by unfold Nd.hd;rw [e];simp
theorem Zmx (p:Zae) (c:List Zaj) (h:Zaj):(Zdf p (c ++ [h])).Prev=hid h:=by
 unfold Zdf;rw [vH];rfl
theorem Ztn {st:LL} {i:Nat} {p:Zae} {room:Int} {ns:List Nd} (hst:st[i]? = some (aOf p room ns).lo) (hl:ns.length≤512) (nd:Nd) (hid':ZeK 0 (ids ns) nd.id=none) :
  Zbc.p1 N (some i) (Zdf p nd.ch) nd.en st=some ((ns.length:Int),st.set i (aOf p room (ns ++ [nd])).lo):=by
 unfold Zbc.p1;have e1:(aOf p room ns).list ++ [nd.en.ls]=ZhJ (ns ++ [nd]):=by show ZhJ ns++_=_;simp [ZhJ]
 have e2:(aOf p room ns).spots ++ [(Zdf p nd.ch).ls]=rowS p (ns ++ [nd]):=by show rowS p ns++_=_;simp [rowS]
 have e3:(aOf p room ns).places ++ [(zH .u8 32 nd.en.Id,zJ .i64 (ns.length:Int))]=Zjr 0 (ids (ns ++ [nd])):=by
  show Zjr 0 (ids ns)++_=_;unfold ids;rw [List.map_append];show _=Zjr 0 (List.map Nd.id ns ++ [nd.id]);rw [Zkr,xQ,yG];rfl
 have l1:(ZhJ (ns ++ [nd])).length=ns.length+1:=by simp [ZhJ]
 have l2:(rowS p (ns ++ [nd])).length=ns.length+1:=by simp [rowS]
 rw [Zaa,hst,Zat,Zcf,e1,e2,Zag (by rw [l1];omega),Zag (by rw [l2];omega),show ZhZ (aOf p room ns).places (zH .u8 32 nd.en.Id)=some none by
  show ZhZ (Zjr 0 (ids ns)) (zH .u8 32 nd.id)=_;rw [ZkH,hid'];rfl]
 show some _=_;rw [ZgR,zT,yS,ZaH (by omega) (by omega),show ((ns.length+1:Nat):Int)-1=(ns.length:Int) by omega,e3];simp only [yR];rfl
theorem keep_eq (hN:300≤N) {st:LL} {i:Nat} {p:Zae} {room:Int} {ns:List Nd} (hst:st[i]? = some (aOf p room ns).lo) (hl:ns.length≤512) {k:Nat} (hk:k<ns.length) (hw:isN ns[k].wk) (hlen:ns[k].ch.length≤600)
  {h:Zaj} (nd:Nd) (hch:nd.ch=ns[k].ch ++ [h]) (hah:nd.ah=(k:Int)) (hwk:nd.wk=ZlZ ns[k].wk (ZgN h.Bits)) (hid':ZeK 0 (ids ns) (hid h)=none) :
  Zbc N (some i) h (k:Int) (Zdf p nd.ch) st=some ((ns.length:Int),st.set i (aOf p room (ns ++ [nd])).lo):=by
 have hd:=nd.hd_snoc hch;unfold Zbc;rw [ZiE hN,Zaa,if_pos (by simp<;>omega),Zaa,hst,Zat,Zcf,show (aOf p room ns).list=ZhJ ns from rfl,ZgR,Zag (by omega),Zag (by omega),zG,yG,ZkD hk,Zat,ZeZ,show (ns[k].en).Work=nw ns[k].wk from rfl,ZpG (by omega) hw (Zin _),Zaa,show (ns[k].en).Height=(ns[k].ch.length:Int)-1 from rfl,ZaH (by omega) (by omega)];have e:Zck.mk h (Zdf p nd.ch).Prev (k:Int) ((ns[k].ch.length:Int)-1+1) (nw (ZlZ ns[k].wk (ZgN h.Bits)))=nd.en:=by
  unfold Nd.en Nd.id;rw [hd,hch,Zmx,hah,hwk,zT,yS]
  congr 1;omega
 rw [e];refine Ztn hst hl nd ?_;unfold Nd.id;rw [hd];exact hid'
theorem keep0_eq (hN:300≤N) {st:LL} {i:Nat} {p:Zae} {room:Int} (hst:st[i]? = some (aOf p room []).lo) {h:Zaj} (nd:Nd) (hch:nd.ch = [h]) (hah:nd.ah = -1) (hwk:nd.wk=ZgN h.Bits) :
  Zbc N (some i) h (-1) (Zdf p nd.ch) st=some (0,st.set i (aOf p room [nd]).lo):=by
 have hd:nd.hd=h:=nd.hd_snoc (c:=[]) hch;unfold Zbc;rw [ZiE hN,Zaa,if_neg (by simp)];have e:Zck.mk h (Zdf p nd.ch).Prev (-1) 0 (nw (ZgN h.Bits))=nd.en:=by
  unfold Nd.en Nd.id;rw [hd,hch,show (Zdf p [h]).Prev=hid h from Zmx p [] h,hah,hwk];rfl
 rw [e];exact Ztn (ns:=[]) hst (by simp) nd rfl
def chAt (ns:List Nd) (k:Nat):List Zaj:=(ns[k]?.map Nd.ch).getD []
def wkAt (ns:List Nd) (k:Nat):Int:=(ns[k]?.map Nd.wk).getD 0
theorem ZjY {ns:List Nd} {k:Nat} (h:k<ns.length):chAt ns k=ns[k].ch:=by simp [chAt,h]
theorem ZpH {ns:List Nd} {k:Nat} (h:k<ns.length):wkAt ns k=ns[k].wk:=by simp [wkAt,h]
def ZdU (ns:List Nd) (k:Nat) (h:Zaj):Nd:=⟨chAt ns k ++ [h],(k:Int),ZlZ (wkAt ns k) (ZgN h.Bits)⟩
def ZiW (p:Zae) (gs:List ZcJ) (cs:List Zci) (room:Int) (ns:List Nd) (h:Zaj) (now:Int):Int×Int×Int×List Nd:=
 if Zgi h=false then (-1,1,8,ns) else
 match ZeK 0 (ids ns) (hid h) with
 | some k=>((k:Int),0,0,ns)
 | none=>match ZeK 0 (ids ns) h.Prev with
  | none=>(-1,2,5,ns)
  | some k=>if Zfx p gs cs (Zdf p (chAt ns k)) h now≠0 then (-1,Zfx p gs cs (Zdf p (chAt ns k)) h now,8,ns)
   else if room≤(ns.length:Int) then (-1,0,6,ns) else ((ns.length:Int),0,0,ns ++ [ZdU ns k h])
theorem Zip {st:LL} {i:Nat} {x:List L} (h:st[i]? = some x):st.set i x=st:=by
 apply xG;intro j;by_cases e:i=j
 ·subst e;obtain ⟨hi,e⟩:=List.getElem?_eq_some_iff.1 h;rw [zN hi,h]
 rw [zO e]
theorem Zsx (p:Zae) (c:List Zaj):wfS (Zdf p c)=true:=by
 have h : ∀l:List Zaj,∃ts:List Int,(Zdf p l).Times=ZdY ts∧ts.length≤11:=by
  refine Znm ⟨[],rfl,by simp⟩ (fun l h ih=>?_);unfold Zdf at *;rw [vH];exact ⟨_,rfl,by simp;omega⟩
 obtain ⟨ts,h1,h2⟩:=h c;simp only [wfS,h1,isI_row,vC,decide_eq_true_eq,ZdH];omega
theorem Add_eq (hN:500≤N) {st:LL} {i:Nat} {p:Zae} {gs:List ZcJ} {cs:List Zci} (hg:p.Gates=Zme gs) (hc:p.Checks=ZjF cs) (lg:gs.length≤400) (lc:cs.length≤400) {room:Int} (hroom:room≤512) {ns:List Nd} (ht:Zhp ns) (hst:st[i]? = some (aOf p room ns).lo)
  {h:Zaj} (hh:WfH h) (now:Int) (hnow : -1152921504606846976≤now∧now≤9223372036854775807) :
  ZaK N (some i) h now st=some ((ZiW p gs cs room ns h now).1,(ZiW p gs cs room ns h now).2.1,(ZiW p gs cs room ns h now).2.2.1,st.set i (aOf p room (ZiW p gs cs room ns h now).2.2.2).lo):=by
 have ss:=Zip hst;unfold ZaK ZiW;rw [if_neg (c:=Option.isNone (some i)=true) (by simp),ZeS,Zaa];cases hgd:Zgi h with
 | false=>rw [if_pos (by rfl),if_pos (c:=false=false) rfl];dsimp only;rw [ss]
 | true=>
  rw [if_neg (c:=(!true)=true) (by simp),if_neg (c:=true=false) (by simp),Zaa,hst,Zat,Zcf,Zgj hN hh.w,Zaa,show (aOf p room ns).places=Zjr 0 (ids ns) from rfl,ZkH];cases e1:ZeK 0 (ids ns) (hid h) with
  | some k=>
   show ZaK.p1 N i now (k:Int) true h st=_;unfold ZaK.p1;rw [if_pos rfl];dsimp only;rw [ss]
  | none=>
   show ZaK.p1 N i now 0 false h st=_;unfold ZaK.p1;rw [if_neg (by simp),hst,Zat,Zcf,show (aOf p room ns).places=Zjr 0 (ids ns) from rfl,ZkH];cases e2:ZeK 0 (ids ns) h.Prev with
   | none=>
    show ZaK.p2 N i now 0 false h st=_;unfold ZaK.p2;rw [if_pos (by rfl)];dsimp only;rw [ss]
   | some k=>
    show ZaK.p2 N i now (k:Int) true h st=_;obtain ⟨_,hk,_⟩:=Zgq e2;have hk':k<ns.length:=by simpa [ids] using hk
    have sw:=Zsx p ns[k].ch;have isT:isI (Zdf p ns[k].ch).Times=true:=by simp only [wfS,zS] at sw;exact sw.1
    unfold ZaK.p2;dsimp only;rw [if_neg (c:=(!true)=true) (by simp),hst,Zat,Zcf,show (aOf p room ns).spots=rowS p ns from rfl,len_rowS,Zag (by omega),Zag (by omega),zG,yG,rowS_get hk',Zat,Zkz,show (aOf p room ns).rules=p from rfl,Zng hN hg hc lg lc hh.w isT now hnow,Zaa,ZjY hk'];by_cases h4:Zfx p gs cs (Zdf p ns[k].ch) h now=0
    ·rw [if_neg (c:=(Zfx p gs cs (Zdf p ns[k].ch) h now != 0)=true) (by simp [h4]),if_neg (c:=Zfx p gs cs (Zdf p ns[k].ch) h now≠0) (by simp [h4]),show (aOf p room ns).list=ZhJ ns from rfl,ZgR,show (aOf p room ns).room=room from rfl];by_cases h5:room≤(ns.length:Int)
     ·rw [if_pos (by simpa using h5),if_pos h5];dsimp only;rw [ss]
     rw [if_neg (by simpa using h5),if_neg h5,ZhQ hN hh.w sw,Zaa];have be:ZfI p (Zdf p ns[k].ch) h=Zdf p (ZdU ns k h).ch:=by
      unfold ZdU Zdf;rw [ZjY hk',vH];rfl
     have hm:=yM hk';have sm:=ht.small;have cl:=(ht.ch _ hm).2;rw [be,keep_eq (by omega) hst ht.small hk' (ht.wk _ hm) (by omega) (ZdU ns k h) (by unfold ZdU;rw [ZjY hk']) rfl (by unfold ZdU;rw [ZpH hk']) e1,Zaa]
    rw [if_pos (c:=(Zfx p gs cs (Zdf p ns[k].ch) h now != 0)=true) (by simpa using h4),if_pos (c:=Zfx p gs cs (Zdf p ns[k].ch) h now≠0) h4];dsimp only;rw [ss]
noncomputable def ZhF (l:List (List Int)):LL:=l.map fun x=>[zH .u8 32 x]
noncomputable def Zuj (l:List Int):LL:=l.map fun x=>[zH .u64 4 (nw x)]
noncomputable def rOf (p:Zae) (room:Int) (ns:List Nd):Zab:=⟨p,ZjN (ns.map Nd.hd),ZhF (ids ns),ZdY (ns.map Nd.ah),Zuj (ns.map Nd.wk),room⟩
theorem Zry {l:List (List Int)} {i:Nat} (h:i<l.length):(ZhF l)[i]? = some [zH .u8 32 l[i]]:=by simp [ZhF,h]
theorem rowW_get {l:List Int} {i:Nat} (h:i<l.length):(Zuj l)[i]? = some [zH .u64 4 (nw l[i])]:=by simp [Zuj,h]
@[simp] theorem ZrP (l:List (List Int)):len (ZhF l)=(l.length:Int):=by simp [len,ZhF]
@[simp] theorem len_rowW (l:List Int):len (Zuj l)=(l.length:Int):=by simp [len,Zuj]
@[simp] theorem ZnG (l:List Zaj):len (ZjN l)=(l.length:Int):=by simp [len]
theorem ZrE (i:Nat) (y:List Int) (l:List (List Int)) (x:List Int):ZeK i (y::l) x=if x=y then some i else ZeK (i+1) l x:=rfl
def ZoP (o:Option Nat):Int:=match o with
 | some k=>(k:Int)
 | none=>-1
theorem Zji {st:LL} {i:Nat} {p:Zae} {room:Int} {ns:List Nd} (hN:ns.length<N) (hl:ns.length≤512) (hst:st[i]? = some (rOf p room ns).lo) (x:List Int) :
  Zbf N (some i) x st=some (ZoP (ZeK 0 (ids ns) x),st):=by
 unfold Zbf;rw [Zaa,hst,Zat,ZcA];have li:(ids ns).length=ns.length:=by simp [ids]
 refine ZbY (fun m (v:Int)=>∃k:Nat,k+m=ns.length∧v=(k:Int)∧ZeK 0 (ids ns) x=ZeK k ((ids ns).drop k) x) ?_ N ns.length 0 ⟨0,by omega,rfl,by rw [List.drop_zero]⟩ hN;rintro G m _ ⟨k,hk,rfl,hp⟩ hG;unfold Zbf.p1;rw [show (rOf p room ns).Ids=ZhF (ids ns) from rfl,ZrP,li];by_cases hlt:k<ns.length
 ·have hk':k<(ids ns).length:=by omega
  rw [yU hk'] at hp;rw [ZrE] at hp;rw [if_pos (by simp<;>omega),Zag (by omega),hst,Zat,ZcA,show (rOf p room ns).Ids=ZhF (ids ns) from rfl,zG,yG,Zry hk',Zat,Zkt,ZaH (by omega) (by omega)];by_cases he:x=(ids ns)[k]
  ·rw [if_pos he] at hp;rw [if_pos (by simp [he]),hp];rfl
  rw [if_neg he] at hp;rw [if_neg (by simpa using fun e=>he e.symm)];exact hG (m-1) _ (by omega) ⟨k+1,by omega,by omega,hp⟩
 rw [if_neg (by simp<;>omega),hp,List.drop_of_length_le (by omega)];rfl
theorem Zmg {p:Zae} {room:Int} {ns:List Nd} (ht:Zhp ns) (hN:ns.length+2≤N) {k:Nat} (hk:k<ns.length):ZaW N (rOf p room ns) (k:Int)=some (ZjN (chAt ns k)):=by
 have sm:=ht.small;unfold ZaW;rw [ZjY hk];refine ZbY (fun m (x:LL×Int)=>∃out:List Zaj,x=(ZjN out,(m:Int)-1)∧m≤ns.length∧((m=0∧out=ns[k].ch)∨∃h:0<m∧m-1<ns.length,ns[m-1].ch++out=ns[k].ch)) ?_ N (k+1) _ ⟨[],by simp;rfl,by omega,.inr ⟨⟨by omega,by omega⟩,by simp⟩⟩ (by omega);rintro G m _ ⟨out,rfl,hm,ho⟩ hG;unfold ZaW.p1;dsimp only;rcases ho with ⟨rfl,rfl⟩ | ⟨⟨h0,h1⟩,ho⟩
 ·rw [if_neg (by simp)]
 obtain ⟨j,rfl⟩ : ∃j,m=j+1:=⟨m-1,by omega⟩
 simp only [uJ] at ho h1;have hj:j<(ns.map Nd.hd).length:=by simp;omega
 have hj2:j<(ns.map Nd.ah).length:=by simp;omega
 have cl:=congrArg List.length ho;rw [zT] at cl;have cb:=(ht.ch _ (yM hk)).2;rw [show (rOf p room ns).List_=ZjN (ns.map Nd.hd) from rfl,show (rOf p room ns).Ahead=ZdY (ns.map Nd.ah) from rfl,show ((j+1:Nat):Int)-1=(j:Int) by omega,if_pos (by simp),ZnG,Zet,Zag (by omega),Zag (by omega),zG,Zje hj,Zat,ZeD,Zag (by rw [zT,Zld];simp;omega),Zag (by omega),Ziq hj2,Zat,ZdV,tR,tR];have e : [ns[j].hd.ls]++ZjN out=ZjN (ns[j].hd::out):=rfl;rw [e];have nl:=ht.ch _ (yM h1);rcases ht.ah j h1 with ⟨z,a,c⟩ | ⟨q,hq,a,c⟩
 ·have c1:ns[j].ch = [ns[j].hd]:=by
   unfold Nd.hd
   match hch:ns[j].ch,c with
   | [x],_=>rfl
  rw [a];rw [c1] at ho;exact hG 0 _ (by omega) ⟨_,rfl,by omega,.inl ⟨rfl,ho⟩⟩
 rw [a];rw [c,List.append_assoc] at ho;exact hG (q+1) _ (by omega) ⟨_,by rw [show ((q+1:Nat):Int)-1=(q:Int) by omega],by omega,.inr ⟨⟨by omega,by omega⟩,by simpa using ho⟩⟩
theorem ZtG (p:Zae) (gs:List ZcJ) (cs:List Zci) (s:ZaU) (h:Zaj) (now:Int):0≤Zfx p gs cs s h now:=by
 unfold Zfx;repeat' split
 all_goals omega
theorem ZoK (hN:900≤N) {st:LL} {i:Nat} {p:Zae} {gs:List ZcJ} {cs:List Zci} (hg:p.Gates=Zme gs) (hc:p.Checks=ZjF cs) (lg:gs.length≤400) (lc:cs.length≤400) {room:Int} (hroom:room≤512) {ns:List Nd} (ht:Zhp ns) (hlen:ns.length≤200) (hst:st[i]? = some (rOf p room ns).lo)
  {h:Zaj} (hh:WfH h) (now:Int) (hnow:0≤now∧now≤9223372036854775807) :
  Zdb N (some i) h now st=some ((ZiW p gs cs room ns h now).1,(ZiW p gs cs room ns h now).2.1,(ZiW p gs cs room ns h now).2.2.1,st.set i (rOf p room (ZiW p gs cs room ns h now).2.2.2).lo):=by
 have ss:=Zip hst;unfold Zdb ZiW;rw [Zir,Zaa];cases hgd:Zgi h with
 | false=>rw [if_pos (by rfl),if_pos (c:=false=false) rfl];dsimp only;rw [ss]
 | true=>
  rw [if_neg (c:=(!true)=true) (by simp),if_neg (c:=true=false) (by simp),Zjh (by omega) h hh.w,Zaa,Zji (by omega) ht.small hst,Zaa];dsimp only;cases e1:ZeK 0 (ids ns) (hid h) with
  | some k=>
   rw [show ZoP (some k)=(k:Int) from rfl,if_pos (by simp)];dsimp only;rw [ss]
  | none=>
   rw [show ZoP none = -1 from rfl,if_neg (by simp),Zji (by omega) ht.small hst,Zaa];dsimp only;cases e2:ZeK 0 (ids ns) h.Prev with
   | none=>
    rw [show ZoP none = -1 from rfl,if_pos (by simp)];dsimp only;rw [ss]
   | some k=>
    obtain ⟨_,hk,_⟩:=Zgq e2;have hk':k<ns.length:=by simpa [ids] using hk
    have hm:=yM hk';have cl:=ht.ch _ hm;have c0:0<ns[k].ch.length:=List.length_pos_iff.2 cl.1;dsimp only;rw [show ZoP (some k)=(k:Int) from rfl,if_neg (by simp<;>omega),Zaa,hst,Zat,ZcA,Zmg ht (by omega) hk',Zaa,ZjY hk',Zag (by simp [Zex,ZjN,Zaj.ls,L.plain]),show (rOf p room ns).Rules=p from rfl,Zmh hN hg lg hc lc ns[k].ch c0 (by omega) (fun x hx=>(ht.wf _ hm x hx).w) hh.w now hnow,Zaa];have nn:=ZtG p gs cs (Zdf p ns[k].ch) h now;by_cases h4:Zfx p gs cs (Zdf p ns[k].ch) h now=0
    ·rw [if_neg (c:=decide (Zfx p gs cs (Zdf p ns[k].ch) h now>0)=true) (by simp<;>omega),if_neg (c:=Zfx p gs cs (Zdf p ns[k].ch) h now≠0) (by simp [h4]),show (rOf p room ns).List_=ZjN (ns.map Nd.hd) from rfl,ZnG,xQ,show (rOf p room ns).Room=room from rfl];by_cases h5:room≤(ns.length:Int)
     ·rw [if_pos (by simpa using h5),if_pos h5];dsimp only;rw [ss]
     have hd:=(ZdU ns k h).hd_snoc rfl;have i1:ZjN (ns.map Nd.hd) ++ [h.ls]=ZjN ((ns ++ [ZdU ns k h]).map Nd.hd):=by simp [ZjN,hd]
     have i2:ZhF (ids ns) ++ [[zH .u8 32 (hid h)]]=ZhF (ids (ns ++ [ZdU ns k h])):=by simp [ZhF,ids,Nd.id,hd]
     have i3:Zuj (ns.map Nd.wk) ++ [[zH .u64 4 (nw (ZlZ ns[k].wk (ZgN h.Bits)))]]=Zuj ((ns ++ [ZdU ns k h]).map Nd.wk):=by simp [Zuj,ZdU,ZpH hk']
     have i4:ZdY (ns.map Nd.ah) ++ [[zJ .i64 (k:Int)]]=ZdY ((ns ++ [ZdU ns k h]).map Nd.ah):=by simp [ZdY,ZdU]
     have kw:k<(ns.map Nd.wk).length:=by simp;omega
     have sm:=ht.small;rw [if_neg (by simpa using h5),if_neg h5,show (rOf p room ns).Ids=ZhF (ids ns) from rfl,show (rOf p room ns).Works=Zuj (ns.map Nd.wk) from rfl,show (rOf p room ns).Ahead=ZdY (ns.map Nd.ah) from rfl,i1,i2,i4,Zag (by rw [Zld,xQ,zT,yS];omega),Zag (by simp [ZhF,ids];omega),Zag (by omega),len_rowW,Zag (by rw [xQ];omega),zG,yG,rowW_get kw,Zat,tR,Zpr,ZhU (by omega),Zaa,ZoL (by omega) (ht.wk _ hm) (Zin _),Zaa,i3,Zag (by simp [Zuj];omega),Zag (by rw [ZdH,xQ,zT,yS];omega),ZnG,xQ,zT,yS,ZaH (by omega) (by omega)];simp only [yR];rw [show ((ns.length+1:Nat):Int)-1=(ns.length:Int) by omega];rfl
    rw [if_pos (c:=decide (Zfx p gs cs (Zdf p ns[k].ch) h now>0)=true) (by simp<;>omega),if_pos (c:=Zfx p gs cs (Zdf p ns[k].ch) h now≠0) h4];dsimp only;rw [ss]
theorem Zhp.one_node {g:Zaj} (hg:WfH g):Zhp [⟨[g],-1,ZgN g.Bits⟩] where
 small:=by simp
 ch:=fun n hn=>by cases List.mem_singleton.1 hn;simp
 wf:=fun n hn x hx=>by cases List.mem_singleton.1 hn;cases List.mem_singleton.1 hx;exact hg
 wk:=fun n hn=>by cases List.mem_singleton.1 hn;exact Zin _
 ah:=fun i h=>.inl ⟨by simpa using h,by simp at h;subst h;rfl,by simp at h;subst h;rfl⟩
 one:=by simp [ids]
theorem Zhp.grow {ns:List Nd} (ht:Zhp ns) {k:Nat} (hk:k<ns.length) {h:Zaj} (hh:WfH h) (hs:ns.length<512) (hid':ZeK 0 (ids ns) (hid h)=none):Zhp (ns ++ [ZdU ns k h]):=by
 have hm:=yM hk;have cl:=ht.ch _ hm;have hc:(ZdU ns k h).ch=ns[k].ch ++ [h]:=by unfold ZdU;rw [ZjY hk]
 have hd:=(ZdU ns k h).hd_snoc rfl;refine ⟨by simp;omega,?_,?_,?_,?_,?_⟩
 ·intro n hn;rcases List.mem_append.1 hn with hn | hn
  ·have:=ht.ch n hn;exact ⟨this.1,by simp;omega⟩
  cases List.mem_singleton.1 hn;rw [hc];exact ⟨by simp,by simp;omega⟩
 ·intro n hn x hx;rcases List.mem_append.1 hn with hn | hn
  ·exact ht.wf n hn x hx
  cases List.mem_singleton.1 hn;rw [hc] at hx;rcases List.mem_append.1 hx with hx | hx
  ·exact ht.wf _ hm x hx
  cases List.mem_singleton.1 hx;exact hh
 ·intro n hn;rcases List.mem_append.1 hn with hn | hn
  ·exact ht.wk n hn
  cases List.mem_singleton.1 hn;unfold ZdU;rw [ZpH hk];exact Zsn (ht.wk _ hm) (Zin _)
 ·intro i hi;by_cases hlt:i<ns.length
  ·rw [uX hlt];rcases ht.ah i hlt with a | ⟨q,hq,a,b⟩
   ·exact .inl a
   exact .inr ⟨q,hq,a,by rw [uX (by omega)];exact b⟩
  have:i=ns.length:=by simp at hi;omega
  subst this;refine .inr ⟨k,hk,?_,?_⟩
  ·rw [sR (by omega)];simp [ZdU]
  rw [sR (by omega),uX hk];simp only [Nat.sub_self,List.getElem_singleton];rw [hc,hd]
 have np:=ZmK hid';unfold ids at *;rw [List.map_append,List.nodup_append];refine ⟨ht.one,by simp,?_⟩;intro a ha b hb;simp only [List.map_cons,List.map_nil,List.mem_singleton] at hb;subst hb;intro e;unfold Nd.id at e;rw [hd] at e;exact np (by rw [←e];exact ha)
theorem Zkb (p:Zae) (gs:List ZcJ) (cs:List Zci) (room:Int) (ns:List Nd) (h:Zaj) (now:Int) :
  (ZiW p gs cs room ns h now).2.2.2=ns∨∃k:Nat,k<ns.length∧Zgi h=true∧ZeK 0 (ids ns) (hid h)=none∧Zfx p gs cs (Zdf p (chAt ns k)) h now=0∧(ns.length:Int)<room ∧
   ZiW p gs cs room ns h now=((ns.length:Int),0,0,ns ++ [ZdU ns k h]):=by
 unfold ZiW;by_cases hg:Zgi h=false
 ·rw [if_pos hg];exact .inl rfl
 rw [if_neg hg];cases e1:ZeK 0 (ids ns) (hid h) with
 | some k=>exact .inl rfl
 | none=>
  dsimp only;cases e2:ZeK 0 (ids ns) h.Prev with
  | none=>exact .inl rfl
  | some k=>
   dsimp only;obtain ⟨_,hk,_⟩:=Zgq e2;have hk':k<ns.length:=by simpa [ids] using hk
   by_cases h1:Zfx p gs cs (Zdf p (chAt ns k)) h now=0
   ·rw [if_neg (by simp [h1])];by_cases h2:room≤(ns.length:Int)
    ·rw [if_pos h2];exact .inl rfl
    rw [if_neg h2];exact .inr ⟨k,hk',by simpa using hg,rfl,h1,by omega,rfl⟩
   rw [if_pos h1];exact .inl rfl
theorem ZtZ {p:Zae} {gs:List ZcJ} {cs:List Zci} {room:Int} (hr:room≤512) {ns:List Nd} (ht:Zhp ns) {h:Zaj} (hh:WfH h) (now:Int):Zhp (ZiW p gs cs room ns h now).2.2.2:=by
 rcases Zkb p gs cs room ns h now with e | ⟨k,hk,_,hi,_,hl,e⟩
 ·rw [e];exact ht
 rw [e];exact ht.grow hk hh (by omega) hi
theorem addT_len (p:Zae) (gs:List ZcJ) (cs:List Zci) (room:Int) (ns:List Nd) (h:Zaj) (now:Int):ns.length≤(ZiW p gs cs room ns h now).2.2.2.length∧(ZiW p gs cs room ns h now).2.2.2.length≤ns.length+1:=by
 rcases Zkb p gs cs room ns h now with e | ⟨k,hk,_,hi,_,hl,e⟩
 ·rw [e];omega
 rw [e];simp
def Zkm (room:Int):Int:=if (512:Int)<(if (1:Int)>room then 1 else room) then 512 else (if (1:Int)>room then 1 else room)
def ZfC (p:Zae):Nd:=⟨[p.Genesis],-1,ZgN p.Genesis.Bits⟩
theorem set_last (st:LL) (a b:List L):(st ++ [a]).set st.length b=st ++ [b]:=by simp
theorem New_eq (hN:500≤N) {p:Zae} {gs:List ZcJ} {cs:List Zci} (hg:p.Gates=Zme gs) (hc:p.Checks=ZjF cs) (lg:gs.length≤400) (lc:cs.length≤400) (hp:WfP p) (room:Int) (st:LL) :
  ZeP N p room st=if Zmf p gs cs=true then some (some st.length,0,st ++ [(aOf p (Zkm room) [ZfC p]).lo]) else some (none,1,st):=by
 unfold ZeP;rw [ZoA hN hg lg hc lc,Zaa];cases hgd:Zmf p gs cs with
 | false=>rfl
 | true=>
  have pp:({p with Gates:=[]++p.Gates,Checks:=[]++p.Checks}:Zae)=p:=rfl;rw [if_neg (c:=(!true)=true) (by simp),pp,Zag (by rw [hg,List.nil_append,ZpT];omega),Zag (by rw [hc,List.nil_append,ZpU];omega),Zmd hN hp.h.w,Zaa];have hst:(st ++ [(aOf p (Zkm room) []).lo])[st.length]? = some (aOf p (Zkm room) []).lo:=by simp
  have k:=keep0_eq (N:=N) (by omega) hst (h:=p.Genesis) (ZfC p) rfl rfl rfl;rw [set_last] at k;rw [if_pos (c:=true=true) rfl];show Zbj (Zbc N (some st.length) p.Genesis (-1) (Zdf p (ZfC p).ch) (st ++ [(aOf p (Zkm room) []).lo])) _=_;rw [k,Zaa]
theorem ZoJ (hN:900≤N) {p:Zae} (hp:WfP p) (room:Int) (st:LL):ZeF N p room st=some (some st.length,st ++ [(rOf p (Zkm room) [ZfC p]).lo]):=by
 unfold ZeF;rw [Zjh (by omega) _ hp.h.w,Zaa,ZhU (by omega),Zaa];rfl
theorem Len_v_eq (p:Zae) (room:Int) (ns:List Nd):ZcW N (aOf p room ns)=some (ns.length:Int):=by
 unfold ZcW;rw [show (aOf p room ns).list=ZhJ ns from rfl,ZgR]
theorem Zui (p:Zae) (room:Int) {ns:List Nd} {k:Nat} (hk:k<ns.length):Zch N (aOf p room ns) (k:Int)=some (ns[k].en,true):=by
 unfold Zch ZbH;rw [show (aOf p room ns).list=ZhJ ns from rfl,ZgR,if_pos (by simp),Zaa,if_neg (by simp<;>omega),Zag (by omega),Zag (by omega),zG,ZkD hk,Zat,ZeZ]
theorem Zuh (p:Zae) (room:Int) {ns:List Nd} {k:Int} (hk:k<0∨(ns.length:Int)≤k):Zch N (aOf p room ns) k=some (Zck.mk (Zaj.mk 0 (zB 32 0) (zB 32 0) 0 0 0) (zB 32 0) (-1) 0 (zB 4 0),false):=by
 unfold Zch ZbH;rw [show (aOf p room ns).list=ZhJ ns from rfl,ZgR];by_cases h:k≥0
 ·rw [if_pos (by simpa using h),Zaa,if_pos (by simp<;>omega)]
 rw [if_neg (by simpa using h),Zaa,if_pos (by rfl)]
end Go.Dn.F
set_option maxRecDepth 100000
namespace Go.Dn.F
open Go.Dn Go.Proofs
variable {N:Nat}
def pA:Zae:=⟨545259519,4,10,0,false,[],[],zB 4 0,zB 4 0,h0⟩
theorem h0_wf:WfH h0:=⟨by unfold ZnM h0;simp,by unfold wfH h0;decide,by unfold ZnM h0;simp,by unfold ZnM h0;simp,by unfold ZnM h0;simp⟩
theorem pA_wf:WfP pA where
 l:=by unfold ZnM pA;simp
 i:=by unfold ZnM pA;simp
 s:=by unfold ZnM pA;simp
 f:=by unfold ZnM pA;simp
 g:=by unfold pA;simp
 gl:=by unfold pA;simp
 c:=by unfold pA;simp
 cl:=by unfold pA;simp
 m:=by unfold pA;exact ⟨rfl,fun x hx=>by obtain ⟨_,rfl⟩:=List.mem_replicate.1 hx;decide⟩
 r:=by unfold pA;exact ⟨rfl,fun x hx=>by obtain ⟨_,rfl⟩:=List.mem_replicate.1 hx;decide⟩
 h:=h0_wf
end Go.Dn.F
set_option maxRecDepth 40000
namespace Go.Dn.F
open Go.Dn Go.Proofs
variable {N:Nat}
def Zsi (ns:List Nd):Nat→Nat→List Nat
 | 0,k=>[k]
 | f+1,k=>match ns[k]? with
  | some n=>if n.ah<0 then [k] else Zsi ns f n.ah.toNat ++ [k]
  | none=>[k]
def Zfa (ns:List Nd) (k:Nat):List Nat:=Zsi ns k k
theorem ZsO {ns:List Nd} (ht:Zhp ns) : ∀(k f g:Nat),k<ns.length→k≤f→k≤g→Zsi ns f k=Zsi ns g k:=by
 intro k
 induction k using vU with
 | ind k ih=>
  intro f g hk hf hg;rcases ht.ah k hk with ⟨z,a,c⟩ | ⟨q,hq,a,c⟩
  ·have e : ∀f,Zsi ns f k = [k]:=fun f=>by
    cases f with
    | zero=>rfl
    | succ f=>unfold Zsi;rw [zP hk];dsimp only;rw [a,if_pos (by omega)]
   rw [e,e]
  obtain ⟨f,rfl⟩ : ∃x,f=x+1:=⟨f-1,by omega⟩
  obtain ⟨g,rfl⟩ : ∃x,g=x+1:=⟨g-1,by omega⟩
  unfold Zsi;rw [zP hk];dsimp only;rw [a,if_neg (by omega),if_neg (by omega),zG,ih q hq f g (by omega) (by omega) (by omega)]
theorem ZsL {ns:List Nd} {k:Nat} (hk:k<ns.length) (a:ns[k].ah = -1):Zfa ns k = [k]:=by
 unfold Zfa;cases k with
 | zero=>rfl
 | succ f=>unfold Zsi;rw [zP hk];dsimp only;rw [a,if_pos (by omega)]
theorem ZoD {ns:List Nd} (ht:Zhp ns) {k q:Nat} (hk:k<ns.length) (hq:q<k) (a:ns[k].ah=(q:Int)):Zfa ns k=Zfa ns q ++ [k]:=by
 obtain ⟨f,rfl⟩ : ∃x,k=x+1:=⟨k-1,by omega⟩
 unfold Zfa;rw [Zsi,zP hk];dsimp only;rw [a,if_neg (by omega),zG,ZsO ht q f q (by omega) (by omega) (by omega)]
theorem Zee {ns:List Nd} (ht:Zhp ns) {k:Nat} (hk:k<ns.length) :
  (k=0∧ns[k].ah = -1∧Zfa ns k = [k]∧ns[k].ch.length=1)∨∃q,q<k∧ns[k].ah=(q:Int)∧Zfa ns k=Zfa ns q ++ [k]∧∃hq:q<ns.length,ns[k].ch=ns[q].ch ++ [ns[k].hd]:=by
 rcases ht.ah k hk with ⟨z,a,c⟩ | ⟨q,hq,a,c⟩
 ·exact .inl ⟨z,a,ZsL hk a,c⟩
 exact .inr ⟨q,hq,a,ZoD ht hk hq a,by omega,c⟩
theorem Zjc {ns:List Nd} (ht:Zhp ns) : ∀{k:Nat} (hk:k<ns.length),(Zfa ns k).length=ns[k].ch.length:=by
 intro k
 induction k using vU with
 | ind k ih=>
  intro hk;rcases Zee ht hk with ⟨z,a,e,c⟩ | ⟨q,hq,a,e,hq',c⟩
  ·rw [e,c];rfl
  rw [e,c,zT,zT,ih q hq hq'];rfl
theorem ZoE {ns:List Nd} (ht:Zhp ns) {k:Nat} (hk:k<ns.length):(Zfa ns k)[(Zfa ns k).length-1]? = some k:=by
 rcases Zee ht hk with ⟨z,a,e,c⟩ | ⟨q,hq,a,e,hq',c⟩
 ·rw [e];rfl
 rw [e];simp
theorem ZpS {ns:List Nd} (ht:Zhp ns) : ∀{k:Nat},k<ns.length→∀x∈Zfa ns k,x≤k:=by
 intro k
 induction k using vU with
 | ind k ih=>
  intro hk x hx;rcases Zee ht hk with ⟨z,a,e,c⟩ | ⟨q,hq,a,e,hq',c⟩
  ·rw [e] at hx;simp at hx;omega
  rw [e] at hx;rcases List.mem_append.1 hx with hx | hx
  ·have:=ih q hq hq' x hx;omega
  simp at hx;omega
theorem ZqM {ns:List Nd} (ht:Zhp ns) : ∀{k:Nat},k<ns.length→∀{h x:Nat},(Zfa ns k)[h]? = some x→x<ns.length∧Zfa ns x=(Zfa ns k).take (h+1):=by
 intro k
 induction k using vU with
 | ind k ih=>
  intro hk h x hx;rcases Zee ht hk with ⟨z,a,e,c⟩ | ⟨q,hq,a,e,hq',c⟩
  ·rw [e] at hx ⊢;cases h with
   | zero=>cases hx;exact ⟨hk,by rw [e];rfl⟩
   | succ h=>cases hx
  rw [e] at hx ⊢;by_cases hlt:h<(Zfa ns q).length
  ·rw [zV hlt] at hx;obtain ⟨h1,h2⟩:=ih q hq hq' hx;exact ⟨h1,by rw [h2,List.take_append_of_le_length (by omega)]⟩
  rw [yA (by omega)] at hx;have e0:h-(Zfa ns q).length=0:=by
   cases e1:h-(Zfa ns q).length with
   | zero=>rfl
   | succ n=>rw [e1] at hx;cases hx
  rw [e0] at hx;cases hx;exact ⟨hk,by rw [e,zX (by simp;omega)]⟩
theorem rowP_at {ns:List Nd} (ht:Zhp ns) {k h x:Nat} (hk:k<ns.length) (hx:(Zfa ns k)[h]? = some x) : ∃h':x<ns.length,ns[x].ch.length=h+1:=by
 obtain ⟨h1,h2⟩:=ZqM ht hk hx;refine ⟨h1,?_⟩;have hl:h<(Zfa ns k).length:=(List.getElem?_eq_some_iff.1 hx).1;rw [←Zjc ht h1,h2,List.length_take];omega
theorem Znk {ns:List Nd} (ht:Zhp ns) {k x:Nat} (hk:k<ns.length) (hx:x∈Zfa ns k) : ∃h':x<ns.length,(Zfa ns k)[ns[x].ch.length-1]? = some x:=by
 obtain ⟨h,hx⟩:=List.mem_iff_getElem?.1 hx;obtain ⟨h1,h2⟩:=rowP_at ht hk hx;exact ⟨h1,by rw [h2];exact hx⟩
theorem ZsN (ns:List Nd) (nd:Nd) (ht:Zhp ns) : ∀(k f:Nat),k<ns.length→Zsi (ns ++ [nd]) f k=Zsi ns f k:=by
 intro k
 induction k using vU with
 | ind k ih=>
  intro f hk;cases f with
  | zero=>rfl
  | succ f=>
   unfold Zsi;rw [zV hk,zP hk];dsimp only;rcases ht.ah k hk with ⟨z,a,c⟩ | ⟨q,hq,a,c⟩
   ·rw [a,if_pos (by omega),if_pos (by omega)]
   rw [a,if_neg (by omega),if_neg (by omega),zG,ih q hq f (by omega)]
theorem ZhS {ns:List Nd} (nd:Nd) (ht:Zhp ns) {k:Nat} (hk:k<ns.length):Zfa (ns ++ [nd]) k=Zfa ns k:=ZsN ns nd ht k k hk
def Zuk (l:List Nat):List Int:=l.map (fun x:Nat=>(x:Int))
theorem Zlj {p:Zae} {room:Int} {ns:List Nd} (ht:Zhp ns) (hN:ns.length+2≤N) {k:Nat} (hk:k<ns.length):ZaP N (rOf p room ns) (k:Int)=some (ZdY (Zuk (Zfa ns k))):=by
 have sm:=ht.small;unfold ZaP;have lk:=Zjc ht hk;have cb:=(ht.ch _ (yM hk)).2;have key:loopN (ZaP.p1 N (rOf p room ns)) N ([],(k:Int))=some (ZdY (Zuk (Zfa ns k))):=by
  refine ZbY (fun m (s:LL×Int)=>∃(q:Nat) (c:List Nat),q=m∧s=(ZdY (Zuk c),(q:Int)-1)∧((q=0∧c=Zfa ns k)∨∃h:0<q∧q-1<ns.length,Zfa ns (q-1)++c=Zfa ns k)) ?_ N (k+1) _ ⟨k+1,[],rfl,by rw [show ((k+1:Nat):Int)-1=(k:Int) by omega];rfl,.inr ⟨⟨by omega,by omega⟩,by simp⟩⟩ (by omega);rintro G m _ ⟨q,c,rfl,rfl,ho⟩ hG;unfold ZaP.p1;dsimp only;rcases ho with ⟨rfl,rfl⟩ | ⟨⟨h0,h1⟩,ho⟩
  ·rw [if_neg (by simp)]
  obtain ⟨j,rfl⟩ : ∃j,q=j+1:=⟨q-1,by omega⟩
  simp only [uJ] at ho h1;have hj2:j<(ns.map Nd.ah).length:=by simp;omega
  have lo:=congrArg List.length ho;rw [zT,lk] at lo;have e1 : [(j:Int)]++Zuk c=Zuk (j::c):=rfl;rw [show (rOf p room ns).Ahead=ZdY (ns.map Nd.ah) from rfl,show ((j+1:Nat):Int)-1=(j:Int) by omega,if_pos (by simp),ZkC,Zhq,e1,Zag (by rw [ZdH];simp [Zuk];omega),Zag (by omega),Zet,Zag (by omega),zG,Ziq hj2,Zat,ZdV,tR];rcases Zee ht h1 with ⟨z,a,e,cl⟩ | ⟨q,hq,a,e,hq',cl⟩
  ·rw [a];exact hG 0 _ (by omega) ⟨0,_,rfl,rfl,.inl ⟨rfl,by rw [←ho,e];rfl⟩⟩
  rw [a];exact hG (q+1) _ (by omega) ⟨q+1,_,rfl,by rw [show ((q+1:Nat):Int)-1=(q:Int) by omega],.inr ⟨⟨by omega,by simp;omega⟩,by simp only [uJ];rw [←ho,e];simp⟩⟩
 exact key
noncomputable def tOf (p:Zae) (room:Int) (ns:List Nd) (lp:List Int):ZaF:=⟨aOf p room ns,ZdY lp⟩
structure Zqw (ns:List Nd) (lp:List Int):Prop where
 len:lp.length≤ns.length
 ok : ∀(i:Nat) (v:Int),lp[i]? = some v→v = -1∨∃x:Nat,v=(x:Int)∧x≠i∧x∈Zfa ns i
def hZ (ns:List Nd) (k:Int):Int:=if 0≤k∧k<(ns.length:Int) then ((ns[k.toNat]?.map Nd.ch).getD []).length-1 else -1
theorem ZrV {ns:List Nd} {k:Nat} (hk:k<ns.length):hZ ns (k:Int)=(ns[k].ch.length:Int)-1:=by
 unfold hZ;rw [if_pos (by omega),zG,zP hk];rfl
theorem Zqm {ns:List Nd} {k:Int} (hk:k<0∨(ns.length:Int)≤k):hZ ns k = -1:=by
 unfold hZ;rw [if_neg (by omega)]
theorem ZkW (p:Zae) (room:Int) {ns:List Nd} (lp:List Int) {k:Nat} (hk:k<ns.length):ZbE N (tOf p room ns lp) (k:Int)=some (ns[k].en,true):=by
 unfold ZbE;rw [show (tOf p room ns lp).store=aOf p room ns from rfl,Zui p room hk,Zaa]
theorem Zsz (p:Zae) (room:Int) {ns:List Nd} (lp:List Int) {k:Int} (hk:k<0∨(ns.length:Int)≤k) : ∃e,ZbE N (tOf p room ns lp) k=some (e,false):=by
 unfold ZbE;rw [show (tOf p room ns lp).store=aOf p room ns from rfl,Zuh p room hk,Zaa];exact ⟨_,rfl⟩
theorem Zic (p:Zae) (room:Int) (ns:List Nd) (lp:List Int) (k:Int):Zbb N (tOf p room ns lp) k=some (hZ ns k):=by
 unfold Zbb;by_cases h:0≤k∧k<(ns.length:Int)
 ·obtain ⟨j,rfl⟩ : ∃j:Nat,k=(j:Int):=⟨k.toNat,by omega⟩
  have hj:j<ns.length:=by omega
  rw [ZkW p room lp hj,Zaa];dsimp only;rw [if_neg (by simp),ZrV hj];rfl
 obtain ⟨e,h1⟩:=Zsz (N:=N) p room (ns:=ns) lp (k:=k) (by omega);rw [h1,Zaa];dsimp only;rw [if_pos (by rfl),Zqm (by omega)]
def ancZ (ns:List Nd) (k h:Int):Int:=if 0≤k∧k<(ns.length:Int)∧0≤h then ((Zfa ns k.toNat)[h.toNat]?.map fun (x:Nat)=>(x:Int)).getD (-1) else -1
theorem ancZ_at {ns:List Nd} {k h x:Nat} (hk:k<ns.length) (hx:(Zfa ns k)[h]? = some x):ancZ ns (k:Int) (h:Int)=(x:Int):=by
 unfold ancZ;rw [if_pos (by omega),zG,zG,hx];rfl
theorem ZoB {ns:List Nd} (ht:Zhp ns) {k x y:Nat} (hk:k<ns.length) (hx:x∈Zfa ns k) (hy:y∈Zfa ns x):y∈Zfa ns k:=by
 obtain ⟨h,hx⟩:=List.mem_iff_getElem?.1 hx;obtain ⟨_,e⟩:=ZqM ht hk hx;rw [e] at hy;exact List.mem_of_mem_take hy
theorem row_lt {ns:List Nd} (ht:Zhp ns) {x y:Nat} (hx:x<ns.length) (hy:y∈Zfa ns x) (hne:y≠x) : ∃h:y<ns.length,ns[y].ch.length<ns[x].ch.length:=by
 obtain ⟨h,e⟩:=Znk ht hx hy;refine ⟨h,?_⟩;have hl:=(List.getElem?_eq_some_iff.1 e).1;have ll:=ZoE ht hx;have e2:=Zjc ht hx;have p1:=List.length_pos_iff.2 (ht.ch _ (yM h)).1;rcases zU ns[y].ch.length ns[x].ch.length with h3 | h3
 ·exact h3
 rw [show ns[y].ch.length-1=(Zfa ns x).length-1 by omega,ll] at e;cases e;exact absurd rfl hne
theorem Znj {ns:List Nd} (ht:Zhp ns) {k:Nat} (hk:k<ns.length):k∈Zfa ns k:=wS (ZoE ht hk)
theorem ZsK {ns:List Nd} (ht:Zhp ns) {k q:Nat} (hk:k<ns.length) (hq:q<k) (e:Zfa ns k=Zfa ns q ++ [k]):q∈Zfa ns k:=by
 rw [e];exact List.mem_append.2 (.inl (Znj ht (by omega)))
theorem ZlV (hN:600≤N) {p:Zae} {room:Int} {ns:List Nd} {lp:List Int} (ht:Zhp ns) (hl:Zqw ns lp) (k h:Int) (hb:k<(lp.length:Int)∨ns.length≤lp.length):Zau N (tOf p room ns lp) k h=some (ancZ ns k h):=by
 have sm:=ht.small;unfold Zau;rw [Zic,Zaa];by_cases h0:h<0
 ·rw [if_pos (by simpa using h0)];unfold ancZ;rw [if_neg (by omega)]
 rw [if_neg (by simpa using h0)];by_cases hk0:k<0∨(ns.length:Int)≤k
 ·rw [Zqm (by omega),if_pos (by simp;omega)];unfold ancZ;rw [if_neg (by omega)]
 obtain ⟨k,rfl⟩ : ∃j:Nat,k=(j:Int):=⟨k.toNat,by omega⟩
 obtain ⟨h,rfl⟩ : ∃j:Nat,h=(j:Int):=⟨h.toNat,by omega⟩
 have hk:k<ns.length:=by omega
 have lk:=Zjc ht hk;have lb:=(ht.ch _ (yM hk)).2;rw [ZrV hk];by_cases h1:(h:Int)>(ns[k].ch.length:Int)-1
 ·rw [if_pos (by simpa using h1)];unfold ancZ;rw [if_pos (by omega),zG,zG,zL (by omega)];rfl
 rw [if_neg (by simpa using h1)];have hh:h<(Zfa ns k).length:=by omega
 obtain ⟨t,et⟩ : ∃t,(Zfa ns k)[h]? = some t:=⟨_,zP hh⟩
 rw [ancZ_at hk et];refine ZbY (fun m (s:Int×Int)=>∃(x:Nat) (hx:x<ns.length),m=ns[x].ch.length∧s=((x:Int),(ns[x].ch.length:Int)-1)∧x∈Zfa ns k∧h+1≤ns[x].ch.length) ?_ N ns[k].ch.length _ ⟨k,hk,rfl,rfl,Znj ht hk,by omega⟩ (by omega);rintro G m _ ⟨x,hx,rfl,rfl,hm,hle⟩ hG;unfold Zau.p1 Zau.p2;dsimp only;by_cases hgt:(ns[x].ch.length:Int)-1>(h:Int)
 ·have hx2:x<lp.length:=by
   have:=ZpS ht hk x hm;omega
  rw [if_pos (by simpa using hgt),ZkW p room lp hx,Zaa];dsimp only;rw [show (tOf p room ns lp).leaps=ZdY lp from rfl,Zag (by omega),Zet,Zag (by omega),zG,Ziq hx2,Zat,ZdV,show (ns[x].en).Ahead=ns[x].ah from rfl];rcases Zee ht hx with ⟨z,a,e,c⟩ | ⟨q,hq,a,e,hq',c⟩
  ·omega
  have cl:=congrArg List.length c;rw [zT,yS] at cl;have toq:G ((q:Int),(ns[q].ch.length:Int)-1)=some (t:Int):=hG ns[q].ch.length _ (by omega) ⟨q,hq',rfl,rfl,ZoB ht hk hm (ZsK ht hx hq e),by omega⟩;rcases hl.ok x lp[x] (zP hx2) with v | ⟨y,v,hne,hy⟩
  ·rw [v,if_neg (by simp),a,Zic,Zaa,ZrV hq'];exact toq
  obtain ⟨hy',hyl⟩:=row_lt ht hx hy hne;rw [v,if_pos (by simp<;>omega),Zic,Zaa,ZrV hy'];by_cases h3:(ns[y].ch.length:Int)-1≥(h:Int)
  ·rw [if_pos (by simpa using h3),Zaa];exact hG ns[y].ch.length _ hyl ⟨y,hy',rfl,rfl,ZoB ht hk hm hy,by omega⟩
  rw [if_neg (by simpa using h3),a,Zic,Zaa,ZrV hq'];exact toq
 obtain ⟨h3,e3⟩:=Znk ht hk hm;rw [show ns[x].ch.length-1=h by omega,et] at e3;cases e3;rw [if_neg (by simpa using hgt)]
def Zgv (ns:List Nd) (k o:Int):Bool:=decide (0≤k∧k<(ns.length:Int)∧0≤o∧o<(ns.length:Int)∧k.toNat∈Zfa ns o.toNat)
theorem Zpy (hN:600≤N) {p:Zae} {room:Int} {ns:List Nd} {lp:List Int} (ht:Zhp ns) (hl:Zqw ns lp) (hb:ns.length≤lp.length) (k o:Int):Zcy N (tOf p room ns lp) k o=some (Zgv ns k o):=by
 unfold Zcy;rw [Zic,Zaa];by_cases hk0:k<0∨(ns.length:Int)≤k
 ·rw [Zqm (by omega),if_neg (by simp)];unfold Zgv;rw [decide_eq_false (by omega)]
 obtain ⟨k,rfl⟩ : ∃j:Nat,k=(j:Int):=⟨k.toNat,by omega⟩
 have hk:k<ns.length:=by omega
 have pk:=List.length_pos_iff.2 (ht.ch _ (yM hk)).1;rw [ZrV hk,if_pos (by simp;omega),ZlV hN ht hl _ _ (.inr hb),Zaa]
 congr 1
 unfold Zgv ancZ;by_cases ho:o<0∨(ns.length:Int)≤o
 ·rw [if_neg (by omega),decide_eq_false (by omega)];simp<;>omega
 obtain ⟨o,rfl⟩ : ∃j:Nat,o=(j:Int):=⟨o.toNat,by omega⟩
 have ho':o<ns.length:=by omega
 rw [if_pos (by omega),zG,zG,show ((ns[k].ch.length:Int)-1).toNat=ns[k].ch.length-1 by omega];by_cases hm:k∈Zfa ns o
 ·obtain ⟨h1,h2⟩:=Znk ht ho' hm;rw [h2,decide_eq_true ⟨by omega,by omega,by omega,by omega,hm⟩];simp
 rw [decide_eq_false (fun h=>hm h.2.2.2.2)];cases e:(Zfa ns o)[ns[k].ch.length-1]? with
 | none=>simp<;>omega
 | some y=>
  have:y≠k:=fun h=>hm (by rw [←h];exact wS e);simp<;>omega
end Go.Dn.F
set_option maxRecDepth 100000
namespace Go.Dn.F
open Go.Dn Go.Proofs
variable {N:Nat}
end Go.Dn.F
set_option maxRecDepth 40000
namespace Go.Dn.F
open Go.Dn Go.Proofs
variable {N:Nat}
noncomputable def ZgK (ia:Nat) (lp:List Int):List L:=[zQ (some ia),yB true 1 (ZdY lp)]
structure Zhn (st:LL) (ia it:Nat) (p:Zae) (room:Int) (ns:List Nd) (lp:List Int):Prop where
 a:st[ia]? = some (aOf p room ns).lo
 t:st[it]? = some (ZgK ia lp)
 ne:ia≠it
 lv:Zqw ns lp
 len:lp.length=ns.length
 tr:Zhp ns
theorem skH_eq (h:Int) : ∃x,Zej N h=some x:=by
 unfold Zej ZdT;by_cases h1:h<2
 ·rw [if_pos (by simpa using h1)];exact ⟨_,rfl⟩
 rw [if_neg (by simpa using h1)];by_cases h2:ZaE .and .i64 h 1=0
 ·rw [if_pos (by simpa using h2)];exact ⟨_,rfl⟩
 rw [if_neg (by simpa using h2)];exact ⟨_,rfl⟩
theorem Zsg (p:Zae) (gs:List ZcJ) (cs:List Zci) (room:Int) (ns:List Nd) (h:Zaj) (now:Int) :
  ((ZiW p gs cs room ns h now).2.2.2=ns∧((ZiW p gs cs room ns h now).2.2.1≠0∨∃k:Nat,k<ns.length∧(ZiW p gs cs room ns h now).1=(k:Int)))∨∃k:Nat,k<ns.length∧ZeK 0 (ids ns) (hid h)=none∧(ns.length:Int)<room ∧
   ZiW p gs cs room ns h now=((ns.length:Int),0,0,ns ++ [ZdU ns k h]):=by
 unfold ZiW;by_cases hg:Zgi h=false
 ·rw [if_pos hg];exact .inl ⟨rfl,.inl (by simp)⟩
 rw [if_neg hg];cases e1:ZeK 0 (ids ns) (hid h) with
 | some k=>
  obtain ⟨_,hk,_⟩:=Zgq e1;have hk':k<ns.length:=by simpa [ids] using hk
  exact .inl ⟨rfl,.inr ⟨k,hk',rfl⟩⟩
 | none=>
  dsimp only;cases e2:ZeK 0 (ids ns) h.Prev with
  | none=>exact .inl ⟨rfl,.inl (by simp)⟩
  | some k=>
   dsimp only;obtain ⟨_,hk,_⟩:=Zgq e2;have hk':k<ns.length:=by simpa [ids] using hk
   by_cases h1:Zfx p gs cs (Zdf p (chAt ns k)) h now=0
   ·rw [if_neg (by simp [h1])];by_cases h2:room≤(ns.length:Int)
    ·rw [if_pos h2];exact .inl ⟨rfl,.inl (by simp)⟩
    rw [if_neg h2];exact .inr ⟨k,hk',rfl,by omega,rfl⟩
   rw [if_pos h1];exact .inl ⟨rfl,.inl (by simp)⟩
theorem Zqw.grow {ns:List Nd} {lp:List Int} (ht:Zhp ns) (hl:Zqw ns lp) (hlen:lp.length=ns.length) {nd:Nd} (ht':Zhp (ns ++ [nd])) {k:Nat} (hk:k<ns.length) (ha:nd.ah=(k:Int)) (h:Int):Zqw (ns ++ [nd]) (lp ++ [ancZ (ns ++ [nd]) (k:Int) h]) where
 len:=by simp [hlen]
 ok:=fun i v hv=>by
  by_cases hi:i<lp.length
  ·rw [zV hi] at hv;rcases hl.ok i v hv with h1 | ⟨x,h1,h2,h3⟩
   ·exact .inl h1
   exact .inr ⟨x,h1,h2,by rw [ZhS nd ht (by omega)];exact h3⟩
  have e0:i=ns.length:=by
   have:=(List.getElem?_eq_some_iff.1 hv).1;simp at this;omega
  subst e0;rw [yA (by omega),hlen,Nat.sub_self] at hv;cases hv;have hn:ns.length<(ns ++ [nd]).length:=by simp
  have ea:(ns ++ [nd])[ns.length].ah=(k:Int):=by simpa using ha
  rw [ZoD ht' hn hk ea,ZhS nd ht hk];unfold ancZ;by_cases hc:0≤(k:Int)∧(k:Int)<((ns ++ [nd]).length:Int)∧0≤h
  ·rw [if_pos hc,zG,ZhS nd ht hk];cases e:(Zfa ns k)[h.toNat]? with
   | none=>exact .inl rfl
   | some y=>
    have hy:=wS e;have:=ZpS ht hk y hy;exact .inr ⟨y,rfl,by omega,List.mem_append.2 (.inl hy)⟩
  rw [if_neg hc];exact .inl rfl
theorem skAdd_eq (hN:600≤N) {st:LL} {ia it:Nat} {p:Zae} {gs:List ZcJ} {cs:List Zci} (hg:p.Gates=Zme gs) (hc:p.Checks=ZjF cs) (lg:gs.length≤400) (lc:cs.length≤400) {room:Int} (hroom:room≤512) {ns:List Nd} {lp:List Int} (T:Zhn st ia it p room ns lp)
  {h:Zaj} (hh:WfH h) (now:Int) (hnow : -1152921504606846976≤now∧now≤9223372036854775807) :
  ∃lp' st',ZbW N (some it) h now st=some ((ZiW p gs cs room ns h now).1,(ZiW p gs cs room ns h now).2.1,(ZiW p gs cs room ns h now).2.2.1,st')∧Zhn st' ia it p room (ZiW p gs cs room ns h now).2.2.2 lp'∧(∀j,j≠ia→j≠it→st'[j]? = st[j]?):=by
 have ht':=ZtZ (p:=p) (gs:=gs) (cs:=cs) hroom T.tr hh now;unfold ZbW ZbW.p1;rw [if_neg (c:=Option.isNone (some it)=true) (by simp),Zaa,T.t,Zat];unfold ZgK;rw [Zdl,Add_eq (by omega) hg hc lg lc hroom T.tr T.a hh now hnow,Zaa];dsimp only;rcases Zsg p gs cs room ns h now with ⟨e,e1⟩ | ⟨k,hk,hpl,hlr,e⟩
 ·rw [e,Zip T.a];refine ⟨lp,st,?_,T,fun j _ _=>rfl⟩;by_cases h6:(ZiW p gs cs room ns h now).2.2.1=0
  ·rcases e1 with e1 | ⟨k,hk,e1⟩
   ·exact absurd h6 e1
   rw [if_pos (by simpa using h6),T.t,Zat];unfold ZgK;rw [Zdl,if_neg (by rw [e1,Zet,T.len];simp;omega)]
  rw [if_neg (by simpa using h6)]
 rw [e] at ht' ⊢;dsimp only at ht' ⊢;have t2:(st.set ia (aOf p room (ns ++ [ZdU ns k h])).lo)[it]? = some (ZgK ia lp):=by
  rw [zO T.ne];exact T.t
 have a2:(st.set ia (aOf p room (ns ++ [ZdU ns k h])).lo)[ia]? = some (aOf p room (ns ++ [ZdU ns k h])).lo:=zN (List.getElem?_eq_some_iff.1 T.a).1;have hit:=(List.getElem?_eq_some_iff.1 t2).1;have hn:ns.length<(ns ++ [ZdU ns k h]).length:=by simp
 have en:(ns ++ [ZdU ns k h])[ns.length]=ZdU ns k h:=by simp
 obtain ⟨hx,eh⟩:=skH_eq (N:=N) ((ns ++ [ZdU ns k h])[ns.length].en).Height;have lv:Zqw (ns ++ [ZdU ns k h]) lp:=⟨by rw [T.len];simp,fun i v hv=>by
  have hi:=(List.getElem?_eq_some_iff.1 hv).1;rcases T.lv.ok i v hv with h1 | ⟨x,h1,h2,h3⟩
  ·exact .inl h1
  exact .inr ⟨x,h1,h2,by rw [ZhS _ T.tr (by rw [←T.len];exact hi)];exact h3⟩⟩
 have sm:=T.tr.small;rw [if_pos (by rfl),t2,Zat];unfold ZgK;rw [Zdl,if_pos (by rw [Zet,T.len];simp),Zaa,a2,Zat,Zcf,Zui p room hn,Zaa];dsimp only;rw [eh,Zaa,show ((ns ++ [ZdU ns k h])[ns.length].en).Ahead=(ns ++ [ZdU ns k h])[ns.length].ah from rfl,en,show (ZdU ns k h).ah=(k:Int) from rfl,show (ZaF.mk (aOf p room (ns ++ [ZdU ns k h])) (ZdY lp))=tOf p room (ns ++ [ZdU ns k h]) lp from rfl,ZlV hN ht' lv _ _ (.inl (by rw [T.len];omega)),Zaa,ZkC,Zhq,Zag (by rw [ZdH,zT,yS,T.len];omega),yR];refine ⟨_,_,rfl,⟨?_,?_,T.ne,T.lv.grow T.tr T.len ht' hk rfl hx,by simp [T.len],ht'⟩,fun j h1 h2=>?_⟩
 ·rw [zO (Ne.symm T.ne)];exact a2
 ·exact zN hit
 rw [zO (Ne.symm h2),zO (Ne.symm h1)]
theorem ZqI (hN:500≤N) {p:Zae} {gs:List ZcJ} {cs:List Zci} (hg:p.Gates=Zme gs) (hc:p.Checks=ZjF cs) (lg:gs.length≤400) (lc:cs.length≤400) (hp:WfP p) (room:Int) (st:LL) :
  Zfk N p room st=if Zmf p gs cs=true then some (some (st.length+1),0,(st ++ [(aOf p (Zkm room) [ZfC p]).lo]) ++ [ZgK st.length [-1]]) else some (none,1,st):=by
 unfold Zfk;rw [New_eq hN hg hc lg lc hp];cases Zmf p gs cs with
 | false=>rfl
 | true=>
  rw [if_pos rfl,Zaa,if_pos (c:=true=true) rfl];dsimp only;rw [if_neg (by simp),zT,yS];rfl
theorem ZqJ {p:Zae} (hp:WfP p) (room:Int) (st:LL):Zhn ((st ++ [(aOf p room [ZfC p]).lo]) ++ [ZgK st.length [-1]]) st.length (st.length+1) p room [ZfC p] [-1] where
 a:=by rw [zV (by simp)];simp
 t:=by rw [yA (by simp)];simp
 ne:=by omega
 lv:=⟨by simp,fun i v hv=>by
  cases i with
  | zero=>cases hv;exact .inl rfl
  | succ i=>cases hv⟩
 len:=rfl
 tr:=Zhp.one_node hp.h
theorem Zhn.app {st:LL} {ia it:Nat} {p:Zae} {room:Int} {ns:List Nd} {lp:List Int} (T:Zhn st ia it p room ns lp) (x:LL):Zhn (st++x) ia it p room ns lp where
 a:=by rw [zV (List.getElem?_eq_some_iff.1 T.a).1];exact T.a
 t:=by rw [zV (List.getElem?_eq_some_iff.1 T.t).1];exact T.t
 ne:=T.ne
 lv:=T.lv
 len:=T.len
 tr:=T.tr
end Go.Dn.F
set_option maxRecDepth 100000
namespace Go.Dn.F
open Go.Dn Go.Proofs
variable {N:Nat}
def Zse (S:List Int) (O:List Bool) (k:Nat):Bool:=O.getD k false||S.getD k 0==2
def chZ (ns:List Nd) (S:List Int) (O:List Bool) (k:Nat):Bool:=(Zfa ns k).dropLast.any (Zse S O)
def flZ (ns:List Nd) (S:List Int) (O:List Bool) (k:Nat):Bool:=(Zfa ns k).any (Zse S O)
def stZ (ns:List Nd) (S:List Int) (O:List Bool) (k:Nat):ZaO:=⟨S.getD k 0,O.getD k false,chZ ns S O k⟩
def ZeM (ns:List Nd) (S:List Int) (O:List Bool):List ZaO:=(vA ns.length).map (stZ ns S O)
noncomputable def rowM (l:List ZaO):LL:=l.map ZaO.ls
noncomputable def mk2 (it:Nat) (l:List ZaO):List L:=[zQ (some it),yB true 3 (rowM l)]
theorem rowP_cat {ns:List Nd} (ht:Zhp ns) {k:Nat} (hk:k<ns.length) : ∃l,Zfa ns k=l ++ [k]:=by
 rcases Zee ht hk with ⟨_,_,e,_⟩ | ⟨q,_,_,e,_⟩
 ·exact ⟨[],e⟩
 exact ⟨_,e⟩
theorem Ztx {ns:List Nd} (ht:Zhp ns) {k:Nat} (hk:k<ns.length) (S:List Int) (O:List Bool):flZ ns S O k=(chZ ns S O k||Zse S O k):=by
 obtain ⟨l,e⟩:=rowP_cat ht hk;unfold flZ chZ;rw [e,sD,List.any_append];simp
theorem ZnZ {ns:List Nd} (ht:Zhp ns) {k:Nat} (e:Zfa ns k = [k]) (S:List Int) (O:List Bool):chZ ns S O k=false:=by
 unfold chZ;rw [e];rfl
theorem ZnY {ns:List Nd} {k q:Nat} (e:Zfa ns k=Zfa ns q ++ [k]) (S:List Int) (O:List Bool):chZ ns S O k=flZ ns S O q:=by
 unfold chZ flZ;rw [e,sD]
theorem ZlH (x:ZaO):Zcq N x=some (x.out||x.verdict==2):=by
 unfold Zcq;cases h:x.out
 ·rw [if_neg (by simp)];simp
 rw [if_pos rfl];simp
@[simp] theorem Zie (ns:List Nd) (S:List Int) (O:List Bool):(ZeM ns S O).length=ns.length:=by simp [ZeM]
theorem ZfX {ns:List Nd} {S:List Int} {O:List Bool} {k:Nat} (hk:k<ns.length):(ZeM ns S O)[k]? = some (stZ ns S O k):=by simp [ZeM,hk]
@[simp] theorem rowM_length (l:List ZaO):(rowM l).length=l.length:=by simp [rowM]
@[simp] theorem Zjo (l:List ZaO):len (rowM l)=(l.length:Int):=by simp [len,rowM]
theorem Zjd {l:List ZaO} {k:Nat} {x:ZaO} (h:l[k]? = some x):(rowM l)[0+k]? = some x.ls:=by simp [rowM,h]
theorem ZgA {ns:List Nd} {S:List Int} {O:List Bool} {k:Nat} (hk:k<ns.length):(rowM (ZeM ns S O))[0+k]? = some (stZ ns S O k).ls:=Zjd (ZfX hk)
theorem Ztw {ns:List Nd} {S:List Int} {O:List Bool} {j:Nat} (hj:j<ns.length):(ZeM ns S O).take (j+1)=(ZeM ns S O).take j ++ [stZ ns S O j]:=by
 rw [yE (by simpa using hj)]
 congr 2
 have:=ZfX (S:=S) (O:=O) hj;rw [zP (by simpa using hj)] at this;exact Option.some.inj this
theorem ZeW {α:Type} (it:Nat) (l:List ZaO) (k:Option Nat→LL→Option α):Zca (mk2 it l) k=k (some it) (rowM l):=rfl
theorem Ztu {c1:(Int×LL)→Option LL} {im it:Nat} {st:LL} {l:List ZaO} {s:ZaO} (hm:im<st.length) (hl:l.length≤1000) (j:Int) :
  ZaJ.p2 N c1 im j s (st.set im (mk2 it l))=c1 (w64 (j+1),st.set im (mk2 it (l ++ [s]))):=by
 unfold ZaJ.p2;rw [zN hm,Zat,ZeW,Zag (by simp;omega),yR,yR];simp [mk2,rowM]
theorem Zhn.setIm {st:LL} {ia it im:Nat} {p:Zae} {room:Int} {ns:List Nd} {lp:List Int} {x:List L} (T:Zhn st ia it p room ns lp) (na:im≠ia) (nt:im≠it):Zhn (st.set im x) ia it p room ns lp:=
 ⟨by rw [zO na];exact T.a,by rw [zO nt];exact T.t,T.ne,T.lv,T.len,T.tr⟩
theorem Len_eq {st:LL} {ia it:Nat} {p:Zae} {room:Int} {ns:List Nd} {lp:List Int} (T:Zhn st ia it p room ns lp):ZdA N (some it) st=some ((ns.length:Int),st):=by
 unfold ZdA;rw [if_neg (by simp),Zaa,T.t,Zat];unfold ZgK;rw [Zdl,Zaa,T.a,Zat,Zcf,Len_v_eq,Zaa]
theorem grow_eq (hN:600≤N) {st:LL} {ia it im:Nat} {p:Zae} {room:Int} {ns:List Nd} {lp:List Int} {S:List Int} {O:List Bool} {k:Nat} (T:Zhn st ia it p room ns lp) (h1:im≠ia) (h2:im≠it)
  (hm:st[im]? = some (mk2 it ((ZeM ns S O).take k))) (hk:k≤ns.length) (hnew : ∀i,k≤i→i<ns.length→S.getD i 0=(if i=0 then 1 else 0)∧O.getD i false=false) (small:ns.length≤500) :
  ZaJ N (some im) st=some (st.set im (mk2 it (ZeM ns S O))):=by
 unfold ZaJ;have him:im<st.length:=(List.getElem?_eq_some_iff.1 hm).1;have e0:len (rowM ((ZeM ns S O).take k))=(k:Int):=by simp;omega
 rw [Zaa,hm,Zat,ZeW,e0]
 conv=>lhs;rw [←Zip hm]
 refine ZbY (fun m (s:Int×LL)=>∃j,k≤j∧j+m=ns.length∧s=((j:Int),st.set im (mk2 it ((ZeM ns S O).take j)))) ?_ N (ns.length-k) _ ⟨k,by omega,by omega,rfl⟩ (by omega);rintro G m _ ⟨j,hj,hjm,rfl⟩ hG;unfold ZaJ.p1;dsimp only;rw [zN him,Zat,ZeW,Len_eq (T.setIm h1 h2),Zaa];dsimp only;by_cases hlt:j<ns.length
 ·rw [if_pos (by simp;omega),zN him,Zat,ZeW,Zaa,zO h2,T.t,Zat];unfold ZgK;rw [Zdl,Zaa,zO h1,T.a,Zat,Zcf,show (ZaF.mk (aOf p room ns) (ZdY lp))=tOf p room ns lp from rfl,ZkW p room lp hlt,Zaa];dsimp only;have hn:=hnew j hj hlt;have el:((ZeM ns S O).take j).length=j:=by simp;omega
  have fin : ∀s,s=stZ ns S O j→ZaJ.p2 N G im (j:Int) s (st.set im (mk2 it ((ZeM ns S O).take j)))=some (st.set im (mk2 it (ZeM ns S O))):=by
   rintro s rfl;rw [Ztu him (by omega),←Ztw hlt,ZaH (by omega) (by omega)];exact hG (m-1) _ (by omega) ⟨j+1,by omega,by omega,by rw [Int.natCast_add];rfl⟩
  rw [show (ns[j].en).Ahead=ns[j].ah from rfl];rcases Zee T.tr hlt with ⟨z,a,e,_⟩ | ⟨q,hq,a,e,hq',_⟩
  ·rw [a,if_neg (by simp)];refine fin _ ?_;subst z;unfold stZ;rw [ZnZ T.tr e,hn.1,hn.2,if_pos rfl]
  have ec:=ZnY e S O;rw [Ztx T.tr hq'] at ec;have eq:(rowM ((ZeM ns S O).take j))[0+q]? = some (stZ ns S O q).ls:=Zjd (by rw [uY hq];exact ZfX hq');rw [a,if_pos (by simp<;>omega),Zag (by omega),Zag (by rw [Zjo,el];omega),zG,eq,Zat,ZcI,show (stZ ns S O q).child=chZ ns S O q from rfl,ZlH,show ((stZ ns S O q).out||(stZ ns S O q).verdict==2)=Zse S O q from rfl,Zaa];have hj0:j≠0:=by omega
  cases hc:chZ ns S O q
  ·rw [if_neg (by simp)];refine fin _ ?_;unfold stZ;rw [ec,hc,hn.1,hn.2,if_neg hj0,uW]
  rw [if_pos rfl];refine fin _ ?_;unfold stZ;rw [ec,hc,hn.1,hn.2,if_neg hj0,Bool.true_or]
 rw [if_neg (by simp;omega),zX (by simp;omega)]
structure ZiD (st:LL) (ia it im:Nat) (p:Zae) (room:Int) (ns:List Nd) (lp:List Int) (S:List Int) (O:List Bool):Prop where
 T:Zhn st ia it p room ns lp
 na:im≠ia
 nt:im≠it
 k : ∃k,k≤ns.length∧st[im]? = some (mk2 it ((ZeM ns S O).take k))∧∀i,k≤i→S.getD i 0=(if i=0 then 1 else 0)∧O.getD i false=false
 small:ns.length≤500
noncomputable def gst (st:LL) (im it:Nat) (ns:List Nd) (S:List Int) (O:List Bool):LL:=st.set im (mk2 it (ZeM ns S O))
def inB (ns:List Nd) (k:Int):Bool:=decide (0≤k)&&decide (k<(ns.length:Int))
theorem inB_true {ns:List Nd} {k:Int}:inB ns k=true↔0≤k∧k<(ns.length:Int):=by simp [inB]
theorem ZlD {ns:List Nd} {k:Int} (h:inB ns k=true) : ∃j:Nat,k=(j:Int)∧j<ns.length:=by
 rw [inB_true] at h;exact ⟨k.toNat,by omega,by omega⟩
section
variable {st:LL} {ia it im:Nat} {p:Zae} {room:Int} {ns:List Nd} {lp:List Int} {S:List Int} {O:List Bool}
theorem ZiD.im_lt (M:ZiD st ia it im p room ns lp S O):im<st.length:=by
 obtain ⟨k,_,h,_⟩:=M.k;exact (List.getElem?_eq_some_iff.1 h).1
theorem ZiD.gm (M:ZiD st ia it im p room ns lp S O):(gst st im it ns S O)[im]? = some (mk2 it (ZeM ns S O)):=zN M.im_lt
theorem ZiD.gst_len (M:ZiD st ia it im p room ns lp S O) : ∀i,ns.length≤i→S.getD i 0=(if i=0 then 1 else 0)∧O.getD i false=false:=by
 obtain ⟨k,hk,_,h⟩:=M.k;exact fun i hi=>h i (by omega)
theorem ZiD.gst (M:ZiD st ia it im p room ns lp S O):ZiD (gst st im it ns S O) ia it im p room ns lp S O:=
 ⟨M.T.setIm M.na M.nt,M.na,M.nt,⟨ns.length,Nat.le_refl _,by rw [M.gm,zX (by simp)],M.gst_len⟩,M.small⟩
theorem ZjV:F.gst (F.gst st im it ns S O) im it ns S O=F.gst st im it ns S O:=by unfold F.gst;rw [yR]
theorem ZrT (hN:600≤N) (M:ZiD st ia it im p room ns lp S O) (k:Int):ZbM N (some im) k st=some (inB ns k,gst st im it ns S O):=by
 unfold ZbM;obtain ⟨j,hj,hm,hn⟩:=M.k;rw [if_neg (by simp),grow_eq hN M.T M.na M.nt hm hj (fun i h1 _=>hn i h1) M.small,Zaa,show st.set im (mk2 it (ZeM ns S O))=gst st im it ns S O from rfl];by_cases h:0≤k
 ·rw [if_pos (by simpa using h),Zaa,M.gm,Zat,ZeW];simp [inB,h]
 rw [if_neg (by simpa using h)];simp [inB,h]
def atZ (ns:List Nd) (f:Nat→Bool) (k:Int):Bool:=inB ns k&&f k.toNat
theorem ZpE (hN:600≤N) (M:ZiD st ia it im p room ns lp S O) (k:Int):ZcH N (some im) k st=some (atZ ns (flZ ns S O) k,gst st im it ns S O):=by
 unfold ZcH;rw [ZrT hN M,Zaa];dsimp only;unfold atZ;cases h:inB ns k
 ·rw [if_neg (by simp)];rfl
 obtain ⟨j,rfl,hj⟩:=ZlD h;rw [if_pos rfl,Zaa,M.gm,Zat,ZeW,Zag (by omega),Zag (by simp<;>omega),zG,ZgA hj,Zat,ZcI,ZlH,Zaa,Ztx M.T.tr hj];show (if chZ ns S O j=true then _ else _)=_;cases chZ ns S O j<;>rfl
theorem Child_eq (hN:600≤N) (M:ZiD st ia it im p room ns lp S O) (k:Int):Zda N (some im) k st=some (atZ ns (chZ ns S O) k,gst st im it ns S O):=by
 unfold Zda;rw [ZrT hN M,Zaa];dsimp only;unfold atZ;cases h:inB ns k
 ·rw [if_neg (by simp)];rfl
 obtain ⟨j,rfl,hj⟩:=ZlD h;rw [if_pos rfl,Zaa,M.gm,Zat,ZeW,Zag (by omega),Zag (by simp<;>omega),zG,ZgA hj,Zat,ZcI];rfl
theorem Zub (hN:600≤N) (M:ZiD st ia it im p room ns lp S O) (k:Int):ZcV N (some im) k st=some (if inB ns k=true then S.getD k.toNat 0 else 0,if inB ns k=true then O.getD k.toNat false else false,gst st im it ns S O):=by
 unfold ZcV;rw [ZrT hN M,Zaa];dsimp only;cases h:inB ns k
 ·rw [if_pos (by rfl),if_neg (by simp),if_neg (by simp)]
 obtain ⟨j,rfl,hj⟩:=ZlD h;rw [if_neg (by simp),Zaa,M.gm,Zat,ZeW,Zag (by omega),Zag (by simp<;>omega),zG,ZgA hj,Zat,ZcI,if_pos rfl,if_pos rfl]
 try rfl
def ZiH (ns:List Nd) (k:Int):Int:=if inB ns k=true then (if k=0 then 1 else 0) else 5
theorem ZlQ (hN:600≤N) (M:ZiD st ia it im p room ns lp S O) (k:Int):ZbU N (some im) k st=some (ZiH ns k,gst st im it ns S O):=by
 unfold ZbU ZiH;rw [if_neg (by simp),ZrT hN M,Zaa];dsimp only;cases h:inB ns k
 ·rw [if_pos (by rfl),if_neg (by simp)]
 rw [if_neg (by simp),if_pos rfl];by_cases h0:k=0
 ·rw [if_pos (by simpa using h0),if_pos h0]
 rw [if_neg (by simpa using h0),if_neg h0]
theorem full_ext {l:List ZaO} (hl:l.length=ns.length) (h : ∀i,i<ns.length→l[i]? = some (stZ ns S O i)):l=ZeM ns S O:=by
 refine xG fun i=>?_;rcases zU i ns.length with hi | hi
 ·rw [h i hi,ZfX hi]
 rw [zL (by omega),zL (by simp;omega)]
theorem Zox (hN:600≤N) (T:Zhn st ia it p room ns lp) (na:im≠ia) (nt:im≠it) {l:List ZaO} (hm:st[im]? = some (mk2 it l)) (hl:l.length=ns.length)
  (h1 : ∀i,i<ns.length→∃c,l[i]? = some ⟨S.getD i 0,O.getD i false,c⟩) {fr:Int} {f:Nat} (hf:(if (1:Int)>fr then 1 else fr)=(f:Int)) (hfp:1≤f) (h0 : ∀i,i<ns.length→i<f→l[i]? = some (stZ ns S O i)) (small:ns.length≤500) :
  ZaZ N (some im) fr st=some (st.set im (mk2 it (ZeM ns S O))):=by
 unfold ZaZ;have him:im<st.length:=(List.getElem?_eq_some_iff.1 hm).1;rw [hf]
 conv=>lhs;rw [←Zip hm]
 refine ZbY (fun m (s:(Option Nat)×Int×LL)=>∃(j:Nat) (l:List ZaO),1≤j∧ns.length≤j+m∧s=(some im,(j:Int),st.set im (mk2 it l))∧l.length=ns.length∧(∀i,i<ns.length→∃c,l[i]? = some ⟨S.getD i 0,O.getD i false,c⟩)∧(∀i,i<ns.length→i<j→l[i]? = some (stZ ns S O i))) ?_ N ns.length _ ⟨f,l,hfp,by omega,rfl,hl,h1,h0⟩ (by omega);rintro G m _ ⟨j,l,hj,hjm,rfl,hl,h1,h0⟩ hG;unfold ZaZ.p1;dsimp only;rw [Zaa,zN him,Zat,ZeW,Zjo,hl];by_cases hlt:j<ns.length
 ·rw [if_pos (by simp<;>omega),Zaa,zO nt,T.t,Zat];unfold ZgK;rw [Zdl,Zaa,zO na,T.a,Zat,Zcf,show (ZaF.mk (aOf p room ns) (ZdY lp))=tOf p room ns lp from rfl,ZkW p room lp hlt,Zaa];dsimp only;rw [show (ns[j].en).Ahead=ns[j].ah from rfl];obtain ⟨q,hq,a,e,hq',_⟩ : ∃q,q<j∧ns[j].ah=(q:Int)∧Zfa ns j=Zfa ns q ++ [j]∧∃hq:q<ns.length,True:=by
   rcases Zee T.tr hlt with ⟨z,_,_,_⟩ | ⟨q,hq,a,e,hq',_⟩
   ·omega
   exact ⟨q,hq,a,e,hq',trivial⟩
  obtain ⟨c,hc⟩:=h1 j hlt;have ec:=ZnY e S O;rw [Ztx T.tr hq'] at ec;have gq:=Zjd (h0 q hq' hq);have gj:=Zjd hc;have fin : ∀x,x=chZ ns S O j→G (some im,w64 ((j:Int)+1),zM (st.set im (mk2 it l)) im [zQ (some it),yB true 3 (zM (rowM l) (0+j) (ZaO.ls ⟨S.getD j 0,O.getD j false,x⟩))])=some (st.set im (mk2 it (ZeM ns S O))):=by
   rintro x rfl;rw [ZaH (by omega) (by omega),yR];refine hG (m-1) _ (by omega) ⟨j+1,l.set j (stZ ns S O j),by omega,by omega,?_,by simpa using hl,fun i hi=>?_,fun i hi hij=>?_⟩
   ·simp only [mk2,rowM,uQ,yG];rfl
   ·by_cases hij:i=j
    ·subst hij;exact ⟨_,zN (by omega)⟩
    rw [zO (by omega)];exact h1 i hi
   by_cases hij':i=j
   ·subst hij';exact zN (by omega)
   rw [zO (by omega)];exact h0 i hi (by omega)
  rw [a,Zag (by omega),Zag (by omega),zG,gq,Zat,ZcI,ZlH,Zaa,zG,gj,Zat,ZcI,Zag (by omega),Zat,ZcI];show (if chZ ns S O q=true then _ else _)=_;cases hc:chZ ns S O q
  ·rw [if_neg (by simp)];refine fin (Zse S O q) ?_;rw [ec,hc,uW]
  rw [if_pos rfl];refine fin true ?_;rw [ec,hc,Bool.true_or]
 rw [if_neg (by simp<;>omega),full_ext hl fun i hi=>h0 i hi (by omega)]
end
end Go.Dn.F
namespace Go.Dn.F
open Go.Dn Go.Proofs
variable {N:Nat}
theorem Zgk {α:Type} {l:List α} {k:Nat} (hk:k<l.length) (v d:α) (i:Nat):(l.set k v).getD i d=if i=k then v else l.getD i d:=by
 rw [yC,yC];by_cases h:i=k
 ·subst h;rw [zN hk,if_pos rfl];rfl
 rw [zO (fun e=>h e.symm),if_neg h]
theorem Zsb {ns:List Nd} (ht:Zhp ns) {S S':List Int} {O O':List Bool} {k:Nat} (h : ∀x,x<k→Zse S' O' x=Zse S O x) {i:Nat} (hi:i<ns.length) (hik:i≤k):chZ ns S' O' i=chZ ns S O i:=by
 unfold chZ;rcases Zee ht hi with ⟨_,_,e,_⟩ | ⟨q,hq,_,e,hq',_⟩
 ·rw [e];rfl
 rw [e,sD];have key : ∀l:List Nat,(∀x∈l,x<k)→l.any (Zse S' O')=l.any (Zse S O):=by
  intro l
  induction l with
  | nil=>intro _;rfl
  | cons y l ih=>intro hy;rw [uV,uV,h y (hy y (by simp)),ih fun x hx=>hy x (by simp [hx])]
 exact key _ fun x hx=>by have:=ZpS ht hq' x hx;omega
section
variable {st:LL} {ia it im:Nat} {p:Zae} {room:Int} {ns:List Nd} {lp:List Int} {S:List Int} {O:List Bool}
theorem Zgm {ns:List Nd} {k:Int} (h:ZiH ns k=0) : ∃j:Nat,k=(j:Int)∧j<ns.length∧1≤j:=by
 unfold ZiH at h;cases hb:inB ns k
 ·rw [hb,if_neg (by simp)] at h;cases h
 obtain ⟨j,rfl,hj⟩:=ZlD hb;rw [hb,if_pos rfl] at h;refine ⟨j,rfl,hj,?_⟩;by_cases h0:(j:Int)=0
 ·rw [if_pos h0] at h;cases h
 omega
theorem Zss (hN:600≤N) (M:ZiD st ia it im p room ns lp S O) {S':List Int} {O':List Bool} {j:Nat} (hj:j<ns.length) (hj1:1≤j) (hS : ∀i,i≠j→S'.getD i 0=S.getD i 0) (hO : ∀i,i≠j→O'.getD i false=O.getD i false) {x:ZaO} (hx:x=⟨S'.getD j 0,O'.getD j false,chZ ns S O j⟩) :
  ZaZ N (some im) (j:Int) (zM (gst st im it ns S O) im [zQ (some it),yB true 3 (zM (rowM (ZeM ns S O)) (0+j) x.ls)])=some (gst st im it ns S' O'):=by
 subst hx;have hb : ∀i,i<j→Zse S' O' i=Zse S O i:=fun i hi=>by unfold Zse;rw [hS i (by omega),hO i (by omega)]
 have e : [zQ (some it),yB true 3 (zM (rowM (ZeM ns S O)) (0+j) (ZaO.ls ⟨S'.getD j 0,O'.getD j false,chZ ns S O j⟩))]=mk2 it ((ZeM ns S O).set j ⟨S'.getD j 0,O'.getD j false,chZ ns S O j⟩):=by
  simp only [mk2,rowM,uQ,yG]
 rw [e];unfold gst;rw [yR];have hlj:j<(ZeM ns S O).length:=by simpa using hj
 rw [Zox (S:=S') (O:=O') (l:=(ZeM ns S O).set j ⟨S'.getD j 0,O'.getD j false,chZ ns S O j⟩) (f:=j) hN (M.T.setIm M.na M.nt) M.na M.nt (zN M.im_lt) (by simp) (fun i hi=>?_) (by rw [if_neg (by omega)]) hj1 (fun i hi hij=>?_) M.small,yR]
 ·by_cases h:i=j
  ·subst h;exact ⟨_,zN hlj⟩
  rw [zO (fun e=>h e.symm),ZfX hi,hS i h,hO i h];exact ⟨_,rfl⟩
 rw [zO (by omega),ZfX hi];unfold stZ;rw [Zsb M.T.tr hb hi (by omega),hS i (by omega),hO i (by omega)]
def invO (ns:List Nd) (O:List Bool) (k:Int):List Bool:=if ZiH ns k=0 then O.set k.toNat true else O
theorem ZjE (hN:600≤N) (M:ZiD st ia it im p room ns lp S O) (hO:O.length=600) (k:Int):ZbV N (some im) k st=some (ZiH ns k,gst st im it ns S (invO ns O k)):=by
 unfold ZbV invO;rw [ZlQ hN M,Zaa];dsimp only;by_cases h:ZiH ns k=0
 ·rw [if_neg (by simpa using h),if_pos h];obtain ⟨j,rfl,hj,hj1⟩:=Zgm h;have sm:=M.small;rw [Zaa,M.gm,Zat,ZeW,Zag (by omega),Zag (by simp<;>omega),zG,ZgA hj,Zat,ZcI,Zss (S':=S) (O':=O.set j true) hN M hj hj1 (fun _ _=>rfl) (fun i hi=>by rw [Zgk (by omega),if_neg hi]) (by unfold stZ;rw [Zgk (by omega),if_pos rfl]),Zaa,h]
 rw [if_pos (by simpa using h),if_neg h]
def ZgJ (right:Bool):Int:=if right=true then 1 else 2
def ZqC (ns:List Nd) (S:List Int) (k:Int) (right:Bool):Int:=if ZiH ns k=0 then (if S.getD k.toNat 0≠0∧S.getD k.toNat 0≠ZgJ right then 1 else 0) else ZiH ns k
def ZpI (ns:List Nd) (S:List Int) (k:Int) (right:Bool):List Int:=if ZqC ns S k right=0 then S.set k.toNat (ZgJ right) else S
theorem Zpz (hN:600≤N) (M:ZiD st ia it im p room ns lp S O) (hS:S.length=600) {j:Nat} (hj:j<ns.length) (hj1:1≤j) (w:Int):Zax.p2 N im (j:Int) w (gst st im it ns S O)=some (0,gst st im it ns (S.set j w) O):=by
 unfold Zax.p2;have sm:=M.small;rw [M.gm,Zat,ZeW,zG,ZgA hj,Zat,ZcI,Zss (S':=S.set j w) (O':=O) hN M hj hj1 (fun i hi=>by rw [Zgk (by omega),if_neg hi]) (fun _ _=>rfl) (by unfold stZ;rw [Zgk (by omega),if_pos rfl]),Zaa]
theorem ZiA (hN:600≤N) (M:ZiD st ia it im p room ns lp S O) (hS:S.length=600) (k:Int) (right:Bool):Zax N (some im) k right st=some (ZqC ns S k right,gst st im it ns (ZpI ns S k right) O):=by
 unfold Zax;rw [ZlQ hN M,Zaa];dsimp only;unfold ZpI ZqC;by_cases h:ZiH ns k=0
 ·rw [if_neg (by simpa using h),if_pos h];obtain ⟨j,rfl,hj,hj1⟩:=Zgm h;have p1 : ∀w,Zax.p1 N (some im) (j:Int) w (gst st im it ns S O)=if S.getD j 0≠0∧S.getD j 0≠w then some (1,gst st im it ns S O) else some (0,gst st im it ns (S.set j w) O):=by
   intro w;unfold Zax.p1;rw [Zaa,M.gm,Zat,ZeW,Zag (by omega),Zag (by simp<;>omega),zG,ZgA hj,Zat,ZcI,show (stZ ns S O j).verdict=S.getD j 0 from rfl,Zpz hN M hS hj hj1];by_cases h1:S.getD j 0=0
   ·rw [if_neg (by simpa using h1),if_neg (fun e=>e.1 h1)]
   rw [if_pos (by simpa using h1)];by_cases h2:S.getD j 0=w
   ·rw [if_neg (by simpa using h2),if_neg (fun e=>e.2 h2)]
   rw [if_pos (by simpa using h2),if_pos ⟨h1,h2⟩]
  rw [p1,p1,zG];cases right
  ·rw [if_neg (by simp),show ZgJ false=2 from rfl];split<;>simp_all
  rw [if_pos rfl,show ZgJ true=1 from rfl];split<;>simp_all
 rw [if_pos (by simpa using h),if_neg h,if_neg h]
def ZnV (ns:List Nd) (a:Int) (i:Nat):Bool:=Zgv ns (i:Int) a||Zgv ns a (i:Int)
def rsF (ns:List Nd) (a:Int) (S:List Int) (j i:Nat):Int:=if decide (i<j)&&ZnV ns a i&&S.getD i 0==2 then 0 else S.getD i 0
def roF (ns:List Nd) (a:Int) (O:List Bool) (j i:Nat):Bool:=if decide (i<j)&&ZnV ns a i then false else O.getD i false
def recS (ns:List Nd) (a:Int) (S:List Int):List Int:=(vA S.length).map (rsF ns a S ns.length)
def recO (ns:List Nd) (a:Int) (O:List Bool):List Bool:=(vA O.length).map (roF ns a O ns.length)
theorem Znw (ns:List Nd) (a:Int) (S:List Int) (i:Nat):(recS ns a S).getD i 0=rsF ns a S ns.length i:=by
 unfold recS;rw [yC];rcases zU i S.length with h | h
 ·simp [h]
 rw [zL (by simpa using h)];unfold rsF;rw [yC,zL h];simp
theorem Znx (ns:List Nd) (a:Int) (O:List Bool) (i:Nat):(recO ns a O).getD i false=roF ns a O ns.length i:=by
 unfold recO;rw [yC];rcases zU i O.length with h | h
 ·simp [h]
 rw [zL (by simpa using h)];unfold roF;rw [yC,zL h];simp
def Zll (ns:List Nd) (a:Int) (S:List Int) (O:List Bool) (j:Nat):List ZaO:=(vA ns.length).map fun i=>⟨rsF ns a S j i,roF ns a O j i,chZ ns S O i⟩
theorem Zht {ns:List Nd} {a:Int} {S:List Int} {O:List Bool} {j i:Nat} (hi:i<ns.length):(Zll ns a S O j)[i]? = some ⟨rsF ns a S j i,roF ns a O j i,chZ ns S O i⟩:=by simp [Zll,hi]
@[simp] theorem recL_length (ns:List Nd) (a:Int) (S:List Int) (O:List Bool) (j:Nat):(Zll ns a S O j).length=ns.length:=by simp [Zll]
theorem ZsR (ns:List Nd) (a:Int) (S:List Int) (O:List Bool):Zll ns a S O 0=ZeM ns S O:=by
 unfold Zll ZeM;refine vI fun i _=>?_;unfold rsF roF stZ;simp
theorem ZqP {ns:List Nd} {a:Int} {S:List Int} {O:List Bool} {j:Nat} (hj:j<ns.length) (hc:ZnV ns a j=true):Zll ns a S O (j+1)=(Zll ns a S O j).set j ⟨if S.getD j 0=2 then 0 else S.getD j 0,false,chZ ns S O j⟩:=by
 refine xG fun i=>?_;rcases zU i ns.length with hi | hi
 ·rw [Zht hi];by_cases h:i=j
  ·subst h;rw [zN (by simpa using hj)];unfold rsF roF;simp [hc]
  rw [zO (fun e=>h e.symm),Zht hi];unfold rsF roF;rw [show decide (i<j+1)=decide (i<j) from decide_eq_decide.2 (by omega)]
 rw [zL (by simpa using hi),zL (by simpa using hi)]
theorem recL_not {ns:List Nd} {a:Int} {S:List Int} {O:List Bool} {j:Nat} (hj:j<ns.length) (hc:ZnV ns a j=false):Zll ns a S O (j+1)=Zll ns a S O j:=by
 refine xG fun i=>?_;rcases zU i ns.length with hi | hi
 ·rw [Zht hi,Zht hi];unfold rsF roF;by_cases h:i=j
  ·subst h;simp [hc]
  rw [show decide (i<j+1)=decide (i<j) from decide_eq_decide.2 (by omega)]
 rw [zL (by simpa using hi),zL (by simpa using hi)]
def rcnS (ns:List Nd) (S:List Int) (k:Int):List Int:=if ZiH ns k=0 then recS ns k S else S
def rcnO (ns:List Nd) (O:List Bool) (k:Int):List Bool:=if ZiH ns k=0 then recO ns k O else O
theorem Zof (hN:600≤N) (M:ZiD st ia it im p room ns lp S O) (k:Int):Zap N (some im) k st=some (ZiH ns k,gst st im it ns (rcnS ns S k) (rcnO ns O k)):=by
 unfold Zap rcnS rcnO;rw [ZlQ hN M,Zaa];dsimp only;by_cases h:ZiH ns k=0
 ·rw [if_neg (by simpa using h),if_pos h,if_pos h,h];have sm:=M.small;have hl:=M.T.len;obtain ⟨z,hz,hz0,hz1⟩:=Zgm h;rw [Zaa,M.gm,Zat,ZeW];have e0:gst st im it ns S O=st.set im (mk2 it (Zll ns k S O 0)):=by rw [ZsR];rfl
  rw [e0];refine ZbY (fun m (s:Int×LL)=>∃j:Nat,j+m=ns.length∧s=((j:Int),st.set im (mk2 it (Zll ns k S O j)))) ?_ N ns.length _ ⟨0,by omega,rfl⟩ (by omega);rintro G m _ ⟨j,hjm,rfl⟩ hG;unfold Zap.p1;dsimp only;rw [Zjo,Zie];have him:=M.im_lt;by_cases hlt:j<ns.length
  ·have hg:=Zjd (Zht (a:=k) (S:=S) (O:=O) (j:=j) hlt);rw [if_pos (by simp<;>omega),zN him,Zat,ZeW,Zag (by omega),Zag (by simp<;>omega),Zaa,zO M.nt,M.T.t,Zat];unfold ZgK;rw [Zdl,Zaa,zO M.na,M.T.a,Zat,Zcf,show (ZaF.mk (aOf p room ns) (ZdY lp))=tOf p room ns lp from rfl,Zpy hN M.T.tr M.T.lv (by omega),Zaa,Zpy hN M.T.tr M.T.lv (by omega),Zaa,zG,hg];have w1:w64 ((j:Int)+1)=((j+1:Nat):Int):=by rw [ZaH (by omega) (by omega)];rfl
   have nxt : ∀l,l=Zll ns k S O (j+1)→Zap.p2 N G im k (rowM (ZeM ns S O)) (j:Int) (st.set im (mk2 it l))=some (0,gst st im it ns (recS ns k S) (recO ns k O)):=by
    rintro l rfl;unfold Zap.p2;rw [w1];exact hG (m-1) _ (by omega) ⟨j+1,by omega,rfl⟩
   have hrs:rsF ns k S j j=S.getD j 0:=by unfold rsF;simp
   have sw : ∀x:ZaO,[zQ (some it),yB true 3 (zM (rowM (Zll ns k S O j)) (0+j) x.ls)]=mk2 it ((Zll ns k S O j).set j x):=fun x=>by simp only [mk2,rowM,uQ,yG]
   have sg : ∀x:ZaO,(zM (rowM (Zll ns k S O j)) (0+j) x.ls)[0+j]? = some x.ls:=fun x=>zN (by simp;omega);have body:ZnV ns k j=true→(ZcX (some (ZaO.ls ⟨rsF ns k S j j,roF ns k O j j,chZ ns S O j⟩)) Zcl fun x31=>
     ZcX ((zM (rowM (Zll ns k S O j)) (0+j) (ZaO.ls {x31 with out:=false}))[0+j]?) Zcl fun x32=>
     if (x32.verdict==2)=true then
      Zap.p2 N G im k (rowM (ZeM ns S O)) (j:Int) (zM (zM (st.set im (mk2 it (Zll ns k S O j))) im [zQ (some it),yB true 3 (zM (rowM (Zll ns k S O j)) (0+j) (ZaO.ls {x31 with out:=false}))]) im [zQ (some it),yB true 3 (zM (zM (rowM (Zll ns k S O j)) (0+j) (ZaO.ls {x31 with out:=false})) (0+j) (ZaO.ls {x32 with verdict:=0}))])
     else Zap.p2 N G im k (rowM (ZeM ns S O)) (j:Int) (zM (st.set im (mk2 it (Zll ns k S O j))) im [zQ (some it),yB true 3 (zM (rowM (Zll ns k S O j)) (0+j) (ZaO.ls {x31 with out:=false}))]))=some (0,gst st im it ns (recS ns k S) (recO ns k O)):=by
    intro hc;rw [Zat,ZcI,sg,Zat,ZcI];dsimp only;rw [yR,yR,sw,yR,sw,hrs];by_cases h2:S.getD j 0=2
    ·rw [if_pos (by simpa using h2)];exact nxt _ (by rw [ZqP hlt hc,if_pos h2])
    rw [if_neg (by simpa using h2),yR];exact nxt _ (by rw [ZqP hlt hc,if_neg h2])
   cases hw:Zgv ns (j:Int) k
   ·rw [if_neg (by simp)];cases hw2:Zgv ns k (j:Int)
    ·rw [if_neg (by simp)];exact nxt _ (by rw [recL_not hlt (by unfold ZnV;rw [hw,hw2];rfl)])
    rw [if_pos rfl];exact body (by unfold ZnV;rw [hw,hw2];rfl)
   rw [if_pos rfl];exact body (by unfold ZnV;rw [hw];rfl)
  have hj:j=ns.length:=by omega
  subst hj;rw [if_neg (by simp<;>omega),Zox (S:=recS ns k S) (O:=recO ns k O) (l:=Zll ns k S O ns.length) (f:=1) hN (M.T.setIm M.na M.nt) M.na M.nt (zN M.im_lt) (by simp) (fun i hi=>?_) rfl (Nat.le_refl _) (fun i hi hi1=>?_) M.small,Zaa,yR]
  ·rfl
  ·rw [Zht hi,Znw,Znx];exact ⟨_,rfl⟩
  have h0:i=0:=by omega
  subst h0;have e:Zfa ns 0 = [0]:=by
   rcases Zee M.T.tr hi with ⟨_,_,e,_⟩ | ⟨q,hq,_⟩
   ·exact e
   omega
  rw [Zht hi];unfold stZ;rw [Znw,Znx,ZnZ M.T.tr e,ZnZ M.T.tr e]
 rw [if_pos (by simpa using h),if_neg h,if_neg h]
end
end Go.Dn.F
namespace Go.Dn.F
open Go.Dn Go.Proofs
variable {N:Nat}
def hvZ (ns:List Nd) (x y:Nat):Bool:=
 match ns[x]?,ns[y]? with
 | some a,some b=>decide (b.wk<a.wk)||(a.wk==b.wk&&decide (x<y))
 | _,_=>false
theorem ZqY (p:Zae) (room:Int) (ns:List Nd) (k:Int):ZbH N (aOf p room ns) k=some (decide (0≤k∧k<(ns.length:Int))):=by
 unfold ZbH;rw [show (aOf p room ns).list=ZhJ ns from rfl,ZgR];by_cases h:k≥0
 ·rw [if_pos (by simpa using h)];congr 1;simp;omega
 rw [if_neg (by simpa using h),decide_eq_false (by omega)]
theorem hvZ_at {ns:List Nd} {x y:Nat} (hx:x<ns.length) (hy:y<ns.length):hvZ ns x y=(decide (ns[y].wk<ns[x].wk)||(ns[x].wk==ns[y].wk&&decide (x<y))):=by
 unfold hvZ;rw [zP hx,zP hy]
theorem Zsh (hN:10≤N) (p:Zae) (room:Int) {ns:List Nd} (lp:List Int) (ht:Zhp ns) {a b:Nat} (ha:a<ns.length) (hb:b<ns.length):Zcp N (tOf p room ns lp) (a:Int) (b:Int)=some (hvZ ns a b):=by
 unfold Zcp Zcx;rw [show (tOf p room ns lp).store=aOf p room ns from rfl,ZqY,Zaa];rw [if_neg (by simp;omega),ZqY,Zaa,if_neg (by simp;omega)];rw [show (aOf p room ns).list=ZhJ ns from rfl,ZgR,Zag (by omega),Zag (by omega),zG,ZkD ha,Zat,ZeZ,Zag (by omega),Zag (by omega),zG,ZkD hb,Zat,ZeZ,show (ns[a].en).Work=nw ns[a].wk from rfl,show (ns[b].en).Work=nw ns[b].wk from rfl,ZhC hN (ht.wk _ (yM ha)) (ht.wk _ (yM hb)),Zaa,hvZ_at ha hb];unfold cmp;by_cases h1:ns[a].wk<ns[b].wk
 ·rw [if_pos h1,if_neg (by simp),if_neg (by simp)];have e1 : ¬ ns[b].wk<ns[a].wk:=by omega
  have e2:ns[a].wk≠ns[b].wk:=by omega
  simp [e1,e2]
 rw [if_neg h1];by_cases h2:ns[b].wk<ns[a].wk
 ·rw [if_pos h2,if_pos (by simp)];simp [h2]
 rw [if_neg h2,if_neg (by simp),if_pos (by simp)];have e2:ns[a].wk=ns[b].wk:=by omega
 simp [h2,e2]
theorem ZpD (hN:10≤N) (p:Zae) (room:Int) {ns:List Nd} (lp:List Int) {a:Nat} (ha:a<ns.length):Zcp N (tOf p room ns lp) (a:Int) (-1)=some true:=by
 unfold Zcp Zcx;rw [show (tOf p room ns lp).store=aOf p room ns from rfl,ZqY,Zaa];rw [if_neg (by simp;omega),ZqY,Zaa,if_pos (by simp),Zaa];simp;omega
section
variable {st:LL} {ia it im:Nat} {p:Zae} {room:Int} {ns:List Nd} {lp:List Int} {S:List Int} {O:List Bool}
def allR (ns:List Nd) (S:List Int) (k:Nat):Bool:=(Zfa ns k).all fun x=>S.getD x 0==1
def vlZ (ns:List Nd) (S:List Int) (O:List Bool) (k:Nat):Bool:=allR ns S k && !flZ ns S O k
theorem Zon (M:ZiD st ia it im p room ns lp S O) : ∀(k n:Nat),k<ns.length→k+2≤n→loopN (Zbi.p1 N im (gst st im it ns S O)) n (k:Int)=some (allR ns S k):=by
 intro k
 induction k using vU with
 | ind k ih=>
  intro n hk hn;obtain ⟨n,rfl⟩ : ∃m,n=m+1:=⟨n-1,by omega⟩
  have T:=M.gst.T;show Zbi.p1 N im (gst st im it ns S O) (loopN (Zbi.p1 N im (gst st im it ns S O)) n) (k:Int)=_;generalize hc:loopN (Zbi.p1 N im (gst st im it ns S O)) n=c;unfold Zbi.p1;rw [if_pos (by simp<;>omega),M.gm,Zat,ZeW,Zag (by omega),Zag (by simp<;>omega),zG,ZgA hk,Zat,ZcI,show (stZ ns S O k).verdict=S.getD k 0 from rfl];rw [Zaa,T.t,Zat];unfold ZgK;rw [Zdl,Zaa,T.a,Zat,Zcf,show (ZaF.mk (aOf p room ns) (ZdY lp))=tOf p room ns lp from rfl,ZkW p room lp hk,Zaa];dsimp only;rw [show (ns[k].en).Ahead=ns[k].ah from rfl];unfold allR;by_cases h:S.getD k 0=1
  ·have h':(S.getD k 0==1)=true:=by rw [h];rfl
   rw [if_neg (by rw [h];decide)];rcases Zee M.T.tr hk with ⟨_,a,e,_⟩ | ⟨q,hq,a,e,hq',_⟩
   ·obtain ⟨n,rfl⟩ : ∃m,n=m+1:=⟨n-1,by omega⟩
    rw [a,e,←hc];show Zbi.p1 N im (gst st im it ns S O) _ (-1)=_;unfold Zbi.p1;rw [if_neg (by simp)];simp only [yP,rC,h',Bool.and_true]
   rw [a,←hc,ih q hq n hq' (by omega),e];unfold allR;simp only [List.all_append,yP,rC,h',Bool.and_true]
  rw [if_pos (by simpa using h)];have hm:=Znj M.T.tr hk;symm;rw [Option.some.injEq,List.all_eq_false];exact ⟨k,hm,by simpa using h⟩
theorem Zoe (hN:600≤N) (M:ZiD st ia it im p room ns lp S O) (k:Int):Zbi N (some im) k st=some (atZ ns (vlZ ns S O) k,gst st im it ns S O):=by
 unfold Zbi;rw [ZrT hN M,Zaa];dsimp only;cases h:inB ns k
 ·rw [if_pos (by rfl)];unfold atZ;rw [h];rfl
 obtain ⟨j,rfl,hj⟩:=ZlD h;rw [if_neg (by simp),ZpE hN M.gst,Zaa,ZjV];dsimp only;have sm:=M.small;have e1:atZ ns (flZ ns S O) (j:Int)=flZ ns S O j:=by unfold atZ;rw [h];simp
 have e2:atZ ns (vlZ ns S O) (j:Int)=vlZ ns S O j:=by unfold atZ;rw [h];simp
 rw [e1,e2];unfold vlZ;cases hf:flZ ns S O j
 ·rw [if_neg (by simp),Zaa,Zon M j N hj (by omega),Zaa];simp
 rw [if_pos rfl];simp
def ZrF (ns:List Nd) (f:Nat→Bool):Nat→Nat→Nat→Nat
 | 0,_,out=>out
 | m+1,j,out=>ZrF ns f m (j+1) (if f j&&hvZ ns j out then j else out)
def Zqa (ns:List Nd) (f:Nat→Bool):Nat:=ZrF ns f ns.length 0 0
theorem ZmL {ns:List Nd} (h:0<ns.length) (f:Nat→Bool):Zqa ns f=ZrF ns f (ns.length-1) 1 0:=by
 unfold Zqa;obtain ⟨m,hm⟩ : ∃m,ns.length=m+1:=⟨ns.length-1,by omega⟩
 rw [hm];show ZrF ns f m 1 (if f 0&&hvZ ns 0 0 then 0 else 0)=_;rw [show (if f 0&&hvZ ns 0 0 then 0 else 0)=0 by split<;>rfl];rfl
theorem Zqb (hN:600≤N) (M:ZiD st ia it im p room ns lp S O) (h0:0<ns.length) (hf:vlZ ns S O 0=true):Zdg N (some im) st=some ((Zqa ns (vlZ ns S O):Int),gst st im it ns S O):=by
 unfold Zdg Zaf;rw [ZrT hN M,Zaa];dsimp only;have i0:inB ns 0=true:=inB_true.2 ⟨by omega,by omega⟩;have sm:=M.small;have T:=M.gst.T;rw [i0,if_neg (by simp),Zaa,M.gm,Zat,ZeW]
 suffices h:loopN (Zaf.p1 N im (some im) (rowM (ZeM ns S O))) N (-1,0,gst st im it ns S O)=some ((Zqa ns (vlZ ns S O):Int),gst st im it ns S O) by rw [h,Zaa]
 refine ZbY (fun m (s:Int×Int×LL)=>∃j:Nat,j+m=ns.length∧((j=0∧s=(-1,0,gst st im it ns S O))∨(1≤j∧∃out:Nat,out<ns.length∧s=((out:Int),(j:Int),gst st im it ns S O)∧ZrF ns (vlZ ns S O) m j out=Zqa ns (vlZ ns S O)))) ?_ N ns.length _ ⟨0,by omega,.inl ⟨rfl,rfl⟩⟩ (by omega);rintro G m _ ⟨j,hjm,hs⟩ hG;unfold Zaf.p1 Zaf.p2;rcases hs with ⟨rfl,rfl⟩ | ⟨hj1,out,ho,rfl,hp⟩
 ·dsimp only;have e2:atZ ns (vlZ ns S O) 0=true:=by unfold atZ;rw [i0];exact hf
  rw [Zjo,Zie,if_pos (by simp<;>omega),Zoe hN M.gst,Zaa,ZjV];dsimp only;rw [e2,if_pos rfl,M.gm,Zat,ZeW,Zaa,T.t,Zat];unfold ZgK;rw [Zdl,Zaa,T.a,Zat,Zcf,show (ZaF.mk (aOf p room ns) (ZdY lp))=tOf p room ns lp from rfl,show (0:Int)=((0:Nat):Int) from rfl,ZpD (by omega) p room lp h0,Zaa,if_pos rfl];exact hG (m-1) _ (by omega) ⟨1,by omega,.inr ⟨by omega,0,h0,rfl,by rw [ZmL h0,show m-1=ns.length-1 by omega]⟩⟩
 dsimp only;rw [Zjo,Zie];by_cases hlt:j<ns.length
 ·have ij:inB ns (j:Int)=true:=inB_true.2 ⟨by omega,by omega⟩;have e2:atZ ns (vlZ ns S O) (j:Int)=vlZ ns S O j:=by unfold atZ;rw [ij];simp
  have w1:w64 ((j:Int)+1)=((j+1:Nat):Int):=by rw [ZaH (by omega) (by omega)];rfl
  obtain ⟨m,rfl⟩ : ∃x,m=x+1:=⟨m-1,by omega⟩
  have hp':ZrF ns (vlZ ns S O) m (j+1) (if vlZ ns S O j&&hvZ ns j out then j else out)=Zqa ns (vlZ ns S O):=hp;rw [if_pos (by simp<;>omega),Zoe hN M.gst,Zaa,ZjV];dsimp only;rw [e2,w1];cases hv:vlZ ns S O j
  ·rw [if_neg (by simp)];rw [hv,Bool.false_and,if_neg (by simp)] at hp';exact hG m _ (by omega) ⟨j+1,by omega,.inr ⟨by omega,out,ho,rfl,hp'⟩⟩
  rw [if_pos rfl,M.gm,Zat,ZeW,Zaa,T.t,Zat];unfold ZgK;rw [Zdl,Zaa,T.a,Zat,Zcf,show (ZaF.mk (aOf p room ns) (ZdY lp))=tOf p room ns lp from rfl,Zsh (by omega) p room lp T.tr hlt ho,Zaa];rw [hv,vC] at hp';cases hh:hvZ ns j out
  ·rw [if_neg (by simp)];rw [hh,if_neg (by simp)] at hp';exact hG m _ (by omega) ⟨j+1,by omega,.inr ⟨by omega,out,ho,rfl,hp'⟩⟩
  rw [if_pos rfl];rw [hh,if_pos rfl] at hp';exact hG m _ (by omega) ⟨j+1,by omega,.inr ⟨by omega,j,hlt,rfl,hp'⟩⟩
 rw [if_neg (by simp<;>omega)];have:m=0:=by omega
 subst this;rw [←hp];rfl
end
end Go.Dn.F
namespace Go.Dn.F
open Go.Dn Go.Proofs
variable {N:Nat}
noncomputable def rm2 (S:List Int) (O:List Bool):List L:=[zH .i64 600 S,L.brr 600 O]
theorem Zqo {α:Type} (S:List Int) (O:List Bool) (k:ZaD→Option α):ZcO (rm2 S O) k=k ⟨S,O⟩:=rfl
noncomputable def rst (st:LL) (ir:Nat) (S:List Int) (O:List Bool):LL:=st.set ir (rm2 S O)
structure Zqv (st:LL) (ib ir:Nat) (p:Zae) (room:Int) (ns:List Nd) (S:List Int) (O:List Bool):Prop where
 b:st[ib]? = some (rOf p room ns).lo
 r:st[ir]? = some (rm2 S O)
 ne:ir≠ib
 tr:Zhp ns
 small:ns.length≤500
 S6:S.length=600
 O6:O.length=600
 pos : ∀i,0≤S.getD i 0
theorem Ztc {l:List Nat} {i:Nat} (h:i<l.length):(ZdY (Zuk l))[0+i]? = some [zJ .i64 ((l[i]:Nat):Int)]:=by simp [ZdY,Zuk,h]
theorem len_natI (l:List Nat):len (ZdY (Zuk l))=(l.length:Int):=by simp [len,ZdY,Zuk]
theorem ZrD (l:List Int):Zex (ZdY l)=true:=by
 unfold Zex ZdY;simp [L.plain]
theorem ZlN {α:Type} (x:Int) (k:Int→Option α):ZdP [zJ .i64 x] k=k x:=rfl
section
variable {st:LL} {ib ir:Nat} {p:Zae} {room:Int} {ns:List Nd} {S:List Int} {O:List Bool}
theorem Zqv.same (R:Zqv st ib ir p room ns S O):rst st ir S O=st:=Zip R.r
theorem Zqv.put (R:Zqv st ib ir p room ns S O) {S':List Int} {O':List Bool} (h1:S'.length=600) (h2:O'.length=600) (h3 : ∀i,0≤S'.getD i 0):Zqv (rst st ir S' O') ib ir p room ns S' O':=
 ⟨by unfold rst;rw [zO R.ne];exact R.b,zN (List.getElem?_eq_some_iff.1 R.r).1,R.ne,R.tr,R.small,h1,h2,h3⟩
theorem rList (p:Zae) (room:Int) (ns:List Nd):len (rOf p room ns).List_=(ns.length:Int):=by
 rw [show (rOf p room ns).List_=ZjN (ns.map Nd.hd) from rfl];simp
theorem ZjQ (R:Zqv st ib ir p room ns S O) (k:Int):ZcQ N (some ib) k st=some (ZiH ns k,st):=by
 unfold ZcQ ZiH;by_cases h1:k<0
 ·rw [if_pos (by simpa using h1),if_neg (by rw [inB_true];omega)]
 rw [if_neg (by simpa using h1),Zaa,R.b,Zat,ZcA,rList];by_cases h2:k≥(ns.length:Int)
 ·rw [if_pos (by simpa using h2),if_neg (by rw [inB_true];omega)]
 rw [if_neg (by simpa using h2),if_pos (c:=inB ns k=true) (by rw [inB_true];omega)];by_cases h3:k=0
 ·rw [if_pos (by simpa using h3),if_pos h3]
 rw [if_neg (by simpa using h3),if_neg h3]
theorem Zmj (R:Zqv st ib ir p room ns S O) (k:Int):ZaN N (some ir) (some ib) k st=some (ZiH ns k,rst st ir S (invO ns O k)):=by
 unfold ZaN ZaN.p1 invO;rw [ZjQ R,Zaa];dsimp only;by_cases h:ZiH ns k=0
 ·rw [if_pos (by simpa using h),if_pos h];obtain ⟨j,rfl,hj,hj1⟩:=Zgm h;have sm:=R.small;rw [Zaa,Zag (by omega),Zag (by omega),R.r,Zat,Zqo,zG];rfl
 rw [if_neg (by simpa using h),if_neg h,R.same]
theorem ZpY (R:Zqv st ib ir p room ns S O) (k:Int) (right:Bool):ZaV N (some ir) (some ib) k right st=some (ZqC ns S k right,rst st ir (ZpI ns S k right) O):=by
 unfold ZaV;rw [ZjQ R,Zaa];dsimp only;unfold ZpI ZqC;by_cases h:ZiH ns k=0
 ·rw [if_neg (by rw [h];simp),if_pos h];obtain ⟨j,rfl,hj,hj1⟩:=Zgm h;have sm:=R.small;have p1 : ∀w,ZaV.p1 N (some ir) (j:Int) w st=if S.getD j 0≠0∧S.getD j 0≠w then some (1,rst st ir S O) else some (0,rst st ir (S.set j w) O):=by
   intro w;unfold ZaV.p1;rw [Zaa,Zag (by omega),Zag (by omega),R.r,Zat,Zqo,zG];dsimp only;have pz:=R.pos j;by_cases h1:S.getD j 0=0
   ·rw [if_neg (by rw [h1];simp),if_neg (fun e=>e.1 h1)];rfl
   rw [if_pos (decide_eq_true (by omega))];by_cases h2:S.getD j 0=w
   ·rw [if_neg (by rw [h2];simp),if_neg (fun e=>e.2 h2)];rfl
   rw [if_pos (by rw [bne_iff_ne];exact h2),if_pos ⟨h1,h2⟩,R.same]
  rw [p1,p1,zG];cases right
  ·rw [if_neg (by simp),show ZgJ false=2 from rfl];by_cases hc:S.getD j 0≠0∧S.getD j 0≠2
   ·rw [if_pos hc,if_pos hc,if_neg (by decide)]
   rw [if_neg hc,if_neg hc,if_pos rfl]
  rw [if_pos rfl,show ZgJ true=1 from rfl];by_cases hc:S.getD j 0≠0∧S.getD j 0≠1
  ·rw [if_pos hc,if_pos hc,if_neg (by decide)]
  rw [if_neg hc,if_neg hc,if_pos rfl]
 have hp:ZiH ns k>0:=by
  unfold ZiH at h ⊢;split
  ·split
   ·omega
   rename_i h1 h2;rw [if_pos h1,if_neg h2] at h;exact absurd rfl h
  omega
 rw [if_pos (by simpa using hp),if_neg h,if_neg h,R.same]
theorem on_eq (ht:Zhp ns) (hN:600≤N) {y:Nat} (hy:y<ns.length) (x:Int):Zcs N (rOf p room ns) x (y:Int)=some ((Zfa ns y).any fun z=>(z:Int)==x):=by
 unfold Zcs;have sm:=ht.small;rw [Zlj ht (by omega) hy,Zaa,Zag (ZrD _)];have hl:(Zfa ns y).length≤ns.length:=by rw [Zjc ht hy];exact (ht.ch _ (yM hy)).2
 refine ZbY (fun m (v:Int)=>∃j:Nat,j+m=(Zfa ns y).length∧v=(j:Int)∧(Zfa ns y).any (fun z=>(z:Int)==x)=((Zfa ns y).drop j).any (fun z=>(z:Int)==x)) ?_ N (Zfa ns y).length 0 ⟨0,by omega,rfl,by rw [List.drop_zero]⟩ (by omega);rintro G m _ ⟨j,hj,rfl,hp⟩ hG;unfold Zcs.p1;rw [len_natI];by_cases hlt:j<(Zfa ns y).length
 ·rw [if_pos (decide_eq_true (by omega)),Zag (by omega),zG,Ztc hlt,Zat,ZlN,ZaH (by omega) (by omega)];rw [yU hlt,uV] at hp;by_cases he:(((Zfa ns y)[j]:Nat):Int)=x
  ·rw [if_pos (by simpa using he),hp];simp [he]
  rw [if_neg (by simpa using he)];refine hG (m-1) _ (by omega) ⟨j+1,by omega,by omega,?_⟩;rw [hp,show ((((Zfa ns y)[j]:Nat):Int)==x)=false by simpa using he,uW]
 rw [if_neg (by simp<;>omega),hp,List.drop_eq_nil_of_le (by omega)];rfl
theorem ZoS {ns:List Nd} {x y:Nat} (hx:x<ns.length) (hy:y<ns.length):((Zfa ns y).any fun z=>(z:Int)==(x:Int))=Zgv ns (x:Int) (y:Int):=by
 unfold Zgv;rw [Bool.eq_iff_iff,List.any_eq_true,decide_eq_true_eq,zG,zG];constructor
 ·rintro ⟨z,hz,he⟩;have:(z:Int)=(x:Int):=by simpa using he
  have:z=x:=by omega
  subst this;exact ⟨by omega,by omega,by omega,by omega,hz⟩
 rintro ⟨_,_,_,_,hz⟩;exact ⟨x,hz,by simp⟩
theorem vlZ_all (ns:List Nd) (S:List Int) (O:List Bool) (k:Nat):vlZ ns S O k=(Zfa ns k).all fun x=>S.getD x 0==1 && !O.getD x false:=by
 unfold vlZ allR flZ;generalize Zfa ns k=l
 induction l with
 | nil=>rfl
 | cons z l ih=>
  rw [yP,uV,yP,←ih];unfold Zse;by_cases h:S.getD z 0=1
  ·rw [h];cases O.getD z false<;>simp
  rw [show (S.getD z 0==1)=false by simpa using h];simp
end
end Go.Dn.F
namespace Go.Dn.F
open Go.Dn Go.Proofs
variable {N:Nat}
def ZgB (ns:List Nd) (a:Int) (S:List Int) (j:Nat):List Int:=(vA S.length).map (rsF ns a S j)
def ZgV (ns:List Nd) (a:Int) (O:List Bool) (j:Nat):List Bool:=(vA O.length).map (roF ns a O j)
theorem Zjk? {ns:List Nd} {a:Int} {S:List Int} {j i:Nat} (hi:i<S.length):(ZgB ns a S j)[i]? = some (rsF ns a S j i):=by simp [ZgB,hi]
theorem Zlk? {ns:List Nd} {a:Int} {O:List Bool} {j i:Nat} (hi:i<O.length):(ZgV ns a O j)[i]? = some (roF ns a O j i):=by simp [ZgV,hi]
@[simp] theorem recSj_len (ns:List Nd) (a:Int) (S:List Int) (j:Nat):(ZgB ns a S j).length=S.length:=by simp [ZgB]
@[simp] theorem recOj_len (ns:List Nd) (a:Int) (O:List Bool) (j:Nat):(ZgV ns a O j).length=O.length:=by simp [ZgV]
theorem Zrz (ns:List Nd) (a:Int) (S:List Int):ZgB ns a S 0=S:=by
 refine xG fun i=>?_;rcases zU i S.length with h | h
 ·rw [Zjk? h];unfold rsF;rw [yC,zP h];simp
 rw [zL (by simpa using h),zL h]
theorem ZrA (ns:List Nd) (a:Int) (O:List Bool):ZgV ns a O 0=O:=by
 refine xG fun i=>?_;rcases zU i O.length with h | h
 ·rw [Zlk? h];unfold roF;rw [yC,zP h];simp
 rw [zL (by simpa using h),zL h]
theorem ZmJ {ns:List Nd} {a:Int} {S:List Int} {j:Nat} (h:ZnV ns a j=false∨S.getD j 0≠2):ZgB ns a S (j+1)=ZgB ns a S j:=by
 unfold ZgB;refine vI fun i _=>?_;unfold rsF;by_cases e:i=j
 ·subst e;rcases h with h | h
  ·simp [h]
  rw [show (S.getD i 0==2)=false by simpa using h];simp
 rw [show decide (i<j+1)=decide (i<j) from decide_eq_decide.2 (by omega)]
theorem ZsQ {ns:List Nd} {a:Int} {S:List Int} {j:Nat} (hj:j<S.length) (h:ZnV ns a j=true) (h2:S.getD j 0=2):ZgB ns a S (j+1)=(ZgB ns a S j).set j 0:=by
 refine xG fun i=>?_;rcases zU i S.length with hi | hi
 ·rw [Zjk? hi];by_cases e:i=j
  ·subst e;rw [zN (by simpa using hj)];unfold rsF;rw [h,h2];simp
  rw [zO (fun h=>e h.symm),Zjk? hi];unfold rsF;rw [show decide (i<j+1)=decide (i<j) from decide_eq_decide.2 (by omega)]
 rw [zL (by simpa using hi),zL (by simpa using hi)]
theorem ZrB {ns:List Nd} {a:Int} {O:List Bool} {j:Nat} (h:ZnV ns a j=false):ZgV ns a O (j+1)=ZgV ns a O j:=by
 unfold ZgV;refine vI fun i _=>?_;unfold roF;by_cases e:i=j
 ·subst e;simp [h]
 rw [show decide (i<j+1)=decide (i<j) from decide_eq_decide.2 (by omega)]
theorem ZoM {ns:List Nd} {a:Int} {O:List Bool} {j:Nat} (hj:j<O.length) (h:ZnV ns a j=true):ZgV ns a O (j+1)=(ZgV ns a O j).set j false:=by
 refine xG fun i=>?_;rcases zU i O.length with hi | hi
 ·rw [Zlk? hi];by_cases e:i=j
  ·subst e;rw [zN (by simpa using hj)];unfold roF;rw [h];simp
  rw [zO (fun h=>e h.symm),Zlk? hi];unfold roF;rw [show decide (i<j+1)=decide (i<j) from decide_eq_decide.2 (by omega)]
 rw [zL (by simpa using hi),zL (by simpa using hi)]
section
variable {st:LL} {ib ir:Nat} {p:Zae} {room:Int} {ns:List Nd} {S:List Int} {O:List Bool}
theorem Zmi (hN:600≤N) (R:Zqv st ib ir p room ns S O) (k:Int):Zam N (some ir) (some ib) k st=some (ZiH ns k,rst st ir (rcnS ns S k) (rcnO ns O k)):=by
 unfold Zam rcnS rcnO;rw [ZjQ R,Zaa];dsimp only;have hb:=R.b;have hne:=R.ne;have hir:ir<st.length:=(List.getElem?_eq_some_iff.1 R.r).1;by_cases h:ZiH ns k=0
 ·rw [if_neg (by rw [h];simp),if_pos h,if_pos h,h];obtain ⟨z,rfl,hz0,hz1⟩:=Zgm h;have sm:=R.small;have s6:=R.S6;have o6:=R.O6;rw [Zaa,R.b,Zat,ZcA];have e0:st=rst st ir (ZgB ns (z:Int) S 0) (ZgV ns (z:Int) O 0):=by rw [Zrz,ZrA,R.same]
  conv=>lhs;rw [e0]
  refine ZbY (fun m (s:(Option Nat)×Int×LL)=>∃j:Nat,j+m=ns.length∧s=(some ir,(j:Int),rst st ir (ZgB ns (z:Int) S j) (ZgV ns (z:Int) O j))) ?_ N ns.length _ ⟨0,by omega,rfl⟩ (by omega);rintro G m _ ⟨j,hjm,rfl⟩ hG;unfold Zam.p1 Zam.p2;dsimp only;rw [rList];by_cases hlt:j<ns.length
  ·have w1:w64 ((j:Int)+1)=((j+1:Nat):Int):=by rw [ZaH (by omega) (by omega)];rfl
   have gb:(rst st ir (ZgB ns (z:Int) S j) (ZgV ns (z:Int) O j))[ib]? = some (rOf p room ns).lo:=by unfold rst;rw [zO hne];exact hb
   have gr:(rst st ir (ZgB ns (z:Int) S j) (ZgV ns (z:Int) O j))[ir]? = some (rm2 (ZgB ns (z:Int) S j) (ZgV ns (z:Int) O j)):=zN hir;have hS:(ZgB ns (z:Int) S j).getD j 0=S.getD j 0:=by
    rw [yC,Zjk? (by omega)];unfold rsF;simp
   have nxt : ∀S' O',S'=ZgB ns (z:Int) S (j+1)→O'=ZgV ns (z:Int) O (j+1)→G (some ir,w64 ((j:Int)+1),rst st ir S' O')=some (0,rst st ir (recS ns (z:Int) S) (recO ns (z:Int) O)):=by
    rintro S' O' rfl rfl;rw [w1];exact hG (m-1) _ (by omega) ⟨j+1,by omega,rfl⟩
   have rr : ∀S1 O1 S2 O2,zM (rst st ir S1 O1) ir (rm2 S2 O2)=rst st ir S2 O2:=fun _ _ _ _=>by unfold rst;rw [yR]
   have body:ZnV ns (z:Int) j=true→(if ((ZgB ns (z:Int) S j).getD j 0==2)=true then
     G (some ir,w64 ((j:Int)+1),zM (zM (rst st ir (ZgB ns (z:Int) S j) (ZgV ns (z:Int) O j)) ir (rm2 (ZgB ns (z:Int) S j) ((ZgV ns (z:Int) O j).set j false))) ir (rm2 ((ZgB ns (z:Int) S j).set j 0) ((ZgV ns (z:Int) O j).set j false)))
     else G (some ir,w64 ((j:Int)+1),zM (rst st ir (ZgB ns (z:Int) S j) (ZgV ns (z:Int) O j)) ir (rm2 (ZgB ns (z:Int) S j) ((ZgV ns (z:Int) O j).set j false))))=some (0,rst st ir (recS ns (z:Int) S) (recO ns (z:Int) O)):=by
    intro hc;rw [rr,rr,hS];by_cases h2:S.getD j 0=2
    ·rw [if_pos (by rw [h2];rfl)];exact nxt _ _ (ZsQ (by omega) hc h2).symm (ZoM (by omega) hc).symm
    rw [if_neg (by simpa using h2)];exact nxt _ _ (ZmJ (.inr h2)).symm (ZoM (by omega) hc).symm
   rw [if_pos (decide_eq_true (by omega)),gb,Zat,ZcA,on_eq R.tr hN hz0,ZoS hlt hz0,Zaa,on_eq R.tr hN hlt,ZoS hz0 hlt,Zaa,Zaa,Zag (by omega),Zag (by omega),gr,Zat,Zqo,zG];dsimp only;cases hw:Zgv ns (j:Int) (z:Int)
   ·rw [if_neg (by simp)];cases hw2:Zgv ns (z:Int) (j:Int)
    ·rw [if_neg (by simp)];have hc:ZnV ns (z:Int) j=false:=by unfold ZnV;rw [hw,hw2];rfl
     exact nxt _ _ (ZmJ (.inl hc)).symm (ZrB hc).symm
    rw [if_pos rfl];exact body (by unfold ZnV;rw [hw,hw2];rfl)
   rw [if_pos rfl];exact body (by unfold ZnV;rw [hw];rfl)
  have hj:j=ns.length:=by omega
  subst hj;rw [if_neg (by simp<;>omega)];rfl
 have hp:ZiH ns k>0:=by
  unfold ZiH at h ⊢;split
  ·split
   ·omega
   rename_i h1 h2;rw [if_pos h1,if_neg h2] at h;exact absurd rfl h
  omega
 rw [if_pos (by simpa using hp),if_neg h,if_neg h,R.same]
end
end Go.Dn.F
namespace Go.Dn.F
open Go.Dn Go.Proofs
variable {N:Nat}
def ZtP (it im ib ir:Nat):List L:=[zQ (some it),zQ (some im),zQ (some ib),zQ (some ir)]
structure Zft (st:LL) (ia it im ib ir ih:Nat) (p:Zae) (ns:List Nd) (lp:List Int) (S:List Int) (O:List Bool):Prop where
 M:ZiD st ia it im p 100 ns lp S O
 R:Zqv st ib ir p 100 ns S O
 h:st[ih]? = some (ZtP it im ib ir)
 nd : [ia,it,im,ib,ir,ih].Nodup
 gen:S.getD 0 0=1∧O.getD 0 false=false
 len1:1≤ns.length
theorem ZrX {ns:List Nd} (ht:Zhp ns) (x:Nd) (S:List Int) (O:List Bool) {k:Nat} (hk:k≤ns.length):(ZeM (ns ++ [x]) S O).take k=(ZeM ns S O).take k:=by
 refine xG fun i=>?_;rcases zU i k with h | h
 ·rw [uY h,uY h,ZfX (by simp;omega),ZfX (by omega)];unfold stZ chZ;rw [ZhS x ht (by omega)]
 rw [sQ h,sQ h]
section
variable {st:LL} {ia it im ib ir ih:Nat} {p:Zae} {ns:List Nd} {lp:List Int} {S:List Int} {O:List Bool}
theorem Zft.ne (B:Zft st ia it im ib ir ih p ns lp S O):(im≠ib∧im≠ir∧im≠ih)∧(ir≠ia∧ir≠it∧ir≠im∧ir≠ih)∧(ib≠ia∧ib≠it∧ib≠im∧ib≠ir∧ib≠ih)∧(ih≠ia∧ih≠it):=by
 have:=B.nd;simp at this;omega
theorem ZiD.turned (M:ZiD st ia it im p 100 ns lp S O) {S':List Int} {O':List Bool} (h : ∀i,ns.length≤i→S'.getD i 0=S.getD i 0∧O'.getD i false=O.getD i false):ZiD (F.gst st im it ns S' O') ia it im p 100 ns lp S' O':=
 ⟨M.T.setIm M.na M.nt,M.na,M.nt,⟨ns.length,Nat.le_refl _,by rw [zX (by simp)];exact zN M.im_lt,fun i hi=>by rw [(h i hi).1,(h i hi).2];exact M.gst_len i hi⟩,M.small⟩
theorem ZiD.other (M:ZiD st ia it im p 100 ns lp S O) {j:Nat} {x:List L} (h1:j≠ia) (h2:j≠it) (h3:j≠im):ZiD (st.set j x) ia it im p 100 ns lp S O:=by
 obtain ⟨k,hk,hm,hn⟩:=M.k;exact ⟨M.T.setIm h1 h2,M.na,M.nt,⟨k,hk,by rw [zO h3];exact hm,hn⟩,M.small⟩
theorem Zqv.other (R:Zqv st ib ir p 100 ns S O) {j:Nat} {x:List L} (h1:j≠ib) (h2:j≠ir):Zqv (st.set j x) ib ir p 100 ns S O:=
 ⟨by rw [zO h1];exact R.b,by rw [zO h2];exact R.r,R.ne,R.tr,R.small,R.S6,R.O6,R.pos⟩
theorem Zft.turn (B:Zft st ia it im ib ir ih p ns lp S O) {S':List Int} {O':List Bool} (h : ∀i,ns.length≤i→S'.getD i 0=S.getD i 0∧O'.getD i false=O.getD i false) (h1:S'.length=600) (h2:O'.length=600) (h3 : ∀i,0≤S'.getD i 0) (h4:S'.getD 0 0=1∧O'.getD 0 false=false) :
  Zft (rst (F.gst st im it ns S' O') ir S' O') ia it im ib ir ih p ns lp S' O':=by
 obtain ⟨⟨n1,n2,n3⟩,⟨n4,n5,n6,n7⟩,⟨n8,n9,n10,n11,n12⟩,n13,n14⟩:=B.ne;have R1:Zqv (F.gst st im it ns S' O') ib ir p 100 ns S O:=B.R.other n1 n2;exact ⟨(B.M.turned h).other n4 n5 n6,R1.put h1 h2 h3,by unfold rst gst;rw [zO n7,zO n3];exact B.h,B.nd,h4,B.len1⟩
theorem Zft.gst (B:Zft st ia it im ib ir ih p ns lp S O):Zft (F.gst st im it ns S O) ia it im ib ir ih p ns lp S O:=by
 obtain ⟨⟨n1,n2,n3⟩,_⟩:=B.ne;exact ⟨B.M.gst,B.R.other n1 n2,by unfold F.gst;rw [zO n3];exact B.h,B.nd,B.gen,B.len1⟩
theorem Zft.ih_gst (B:Zft st ia it im ib ir ih p ns lp S O) (S':List Int) (O':List Bool):(F.gst st im it ns S' O')[ih]? = some (ZtP it im ib ir):=by
 obtain ⟨⟨n1,n2,n3⟩,_⟩:=B.ne;unfold F.gst;rw [zO n3];exact B.h
theorem Zft.R_gst (B:Zft st ia it im ib ir ih p ns lp S O) (S':List Int) (O':List Bool):Zqv (F.gst st im it ns S' O') ib ir p 100 ns S O:=by
 obtain ⟨⟨n1,n2,n3⟩,_⟩:=B.ne;exact B.R.other n1 n2
theorem Zgn {α:Type} {it im ib ir:Nat} (k:Option Nat→Option Nat→Option Nat→Option Nat→Option α):ZbG (ZtP it im ib ir) k=k (some it) (some im) (some ib) (some ir):=rfl
theorem Zft.ck {α:Type} (B:Zft st ia it im ib ir ih p ns lp S O) (S':List Int) (O':List Bool) (A:Option α):chk (eqO ((F.gst st im it ns S' O')[ih]?) (some [zQ (some it),zQ (some im),zQ (some ib),zQ (some ir)])=true) A=A:=Zag (eqO_of (B.ih_gst S' O'))
theorem does_eq (hN:1000≤N) (hp:WfP p) {gs:List ZcJ} {cs:List Zci} (hg:p.Gates=Zme gs) (hc:p.Checks=ZjF cs) (lg:gs.length≤400) (lc:cs.length≤400) (B:Zft st ia it im ib ir ih p ns lp S O) (hsm:ns.length≤150) (x:Zbu) (wx:WfH x.Header) (nx:0≤x.Now∧x.Now≤9223372036854775807) :
  ∃st' ns' lp' S' O',Zbr N (some ih) x st=some (true,st')∧Zft st' ia it im ib ir ih p ns' lp' S' O'∧ns'.length≤ns.length+1:=by
 obtain ⟨⟨n1,n2,n3⟩,⟨n4,n5,n6,n7⟩,⟨n8,n9,n10,n11,n12⟩,n13,n14⟩:=B.ne;have sm:=B.R.small;have gl:=B.M.gst_len;unfold Zbr Zbr.p1;by_cases k0:x.Kind=0
 ·rw [if_pos (by simpa using k0),Zaa,B.h,Zat,Zgn];obtain ⟨lp',st',ea,T',keep⟩:=skAdd_eq (N:=N) (by omega) hg hc lg lc (by omega) B.M.T wx x.Now (by omega);have hib:st'[ib]? = some (rOf p 100 ns).lo:=by rw [keep _ n8 n9];exact B.R.b
  have l1:=addT_len p gs cs 100 ns x.Header x.Now;rw [ea,Zaa];dsimp only;rw [keep _ n13 n14,B.h,Zat,Zgn,ZoK (by omega) hg hc lg lc (by omega) B.M.T.tr (by omega) hib wx _ nx,Zaa];dsimp only;refine ⟨_,(ZiW p gs cs 100 ns x.Header x.Now).2.2.2,lp',S,O,rfl,?_,?_⟩
  ·obtain ⟨k,hk,hm,hn⟩:=B.M.k;have hrow:(ZeM (ZiW p gs cs 100 ns x.Header x.Now).2.2.2 S O).take k=(ZeM ns S O).take k:=by
    rcases Zkb p gs cs 100 ns x.Header x.Now with e | ⟨q,_,_,_,_,_,e⟩
    ·rw [e]
    rw [e];exact ZrX B.M.T.tr _ S O hk
   have him:st'[im]? = some (mk2 it ((ZeM (ZiW p gs cs 100 ns x.Header x.Now).2.2.2 S O).take k)):=by rw [keep _ B.M.na B.M.nt,hrow];exact hm
   have M':ZiD st' ia it im p 100 (ZiW p gs cs 100 ns x.Header x.Now).2.2.2 lp' S O:=⟨T',B.M.na,B.M.nt,⟨k,by omega,him,hn⟩,by omega⟩
   refine ⟨M'.other n8 n9 n10,⟨zN (List.getElem?_eq_some_iff.1 hib).1,by rw [zO n11,keep _ n4 n5];exact B.R.r,B.R.ne,T'.tr,by omega,B.R.S6,B.R.O6,B.R.pos⟩,by rw [zO n12,keep _ n13 n14];exact B.h,B.nd,B.gen,by have:=B.len1;omega⟩
  omega
 rw [if_neg (by simpa using k0)];have fin : ∀(S':List Int) (O':List Bool),(∀i,ns.length≤i→S'.getD i 0=S.getD i 0∧O'.getD i false=O.getD i false)→S'.length=600→O'.length=600→(∀i,0≤S'.getD i 0)→(S'.getD 0 0=1∧O'.getD 0 false=false)→∀o:Option (Bool×LL),o=some (true,rst (F.gst st im it ns S' O') ir S' O') →
   ∃st' ns' lp' S' O',o=some (true,st')∧Zft st' ia it im ib ir ih p ns' lp' S' O'∧ns'.length≤ns.length+1:=
  fun S' O' h h1 h2 h3 h4 o ho=>⟨_,ns,lp,S',O',ho,B.turn h h1 h2 h3 h4,by omega⟩
 have s6:=B.R.S6;have o6:=B.R.O6;by_cases k1:x.Kind=1
 ·rw [if_pos (by simpa using k1),Zaa,B.h,Zat,Zgn,ZiA (by omega) B.M s6,Zaa];dsimp only;have hP : ∀i,(ZpI ns S x.N x.Right).getD i 0=S.getD i 0∨(1≤i∧i<ns.length∧0≤(ZpI ns S x.N x.Right).getD i 0):=by
   intro i;unfold ZpI;by_cases hv:ZqC ns S x.N x.Right=0
   ·rw [if_pos hv];have hz:ZiH ns x.N=0:=by
     unfold ZqC at hv;by_cases hz:ZiH ns x.N=0
     ·exact hz
     rw [if_neg hz] at hv;exact absurd hv hz
    obtain ⟨j,ej,hj,hj1⟩:=Zgm hz;rw [ej,zG,Zgk (by omega)];by_cases hij:i=j
    ·rw [if_pos hij];right;exact ⟨by omega,by omega,by unfold ZgJ;split<;>omega⟩
    rw [if_neg hij];exact .inl rfl
   rw [if_neg hv];exact .inl rfl
  refine fin (ZpI ns S x.N x.Right) O (fun i hi=>?_) (by unfold ZpI;split<;>simp [s6]) o6 (fun i=>?_) ?_ _ ?_
  ·rcases hP i with h | ⟨_,h,_⟩
   ·exact ⟨h,rfl⟩
   omega
  ·rcases hP i with h | ⟨_,_,h⟩
   ·rw [h];exact B.R.pos i
   exact h
  ·rcases hP 0 with h | ⟨h,_⟩
   ·exact ⟨h.trans B.gen.1,B.gen.2⟩
   omega
  rw [B.ck,ZpY (B.R_gst _ _),Zaa];dsimp only;rw [beq_self_eq_true]
 rw [if_neg (by simpa using k1)];by_cases k2:x.Kind=2
 ·rw [if_pos (by simpa using k2),Zaa,B.h,Zat,Zgn,ZjE (by omega) B.M o6,Zaa];dsimp only;have hP : ∀i,(invO ns O x.N).getD i false=O.getD i false∨(1≤i∧i<ns.length):=by
   intro i;unfold invO;by_cases hz:ZiH ns x.N=0
   ·rw [if_pos hz];obtain ⟨j,ej,hj,hj1⟩:=Zgm hz;rw [ej,zG,Zgk (by omega)];by_cases hij:i=j
    ·right;exact ⟨by omega,by omega⟩
    rw [if_neg hij];exact .inl rfl
   rw [if_neg hz];exact .inl rfl
  refine fin S (invO ns O x.N) (fun i hi=>?_) s6 (by unfold invO;split<;>simp [o6]) B.R.pos ?_ _ ?_
  ·rcases hP i with h | ⟨_,h⟩
   ·exact ⟨rfl,h⟩
   omega
  ·rcases hP 0 with h | ⟨h,_⟩
   ·exact ⟨B.gen.1,h.trans B.gen.2⟩
   omega
  rw [B.ck,Zmj (B.R_gst _ _),Zaa];dsimp only;rw [beq_self_eq_true]
 rw [if_neg (by simpa using k2)];by_cases k3:x.Kind=3
 ·rw [if_pos (by simpa using k3),Zaa,B.h,Zat,Zgn,Zof (by omega) B.M,Zaa];dsimp only;have hS : ∀i,(rcnS ns S x.N).getD i 0=S.getD i 0∨(i<ns.length∧S.getD i 0=2∧(rcnS ns S x.N).getD i 0=0):=by
   intro i;unfold rcnS;by_cases hz:ZiH ns x.N=0
   ·rw [if_pos hz,Znw];unfold rsF;by_cases hq:(decide (i<ns.length)&&ZnV ns x.N i&&S.getD i 0==2)=true
    ·rw [if_pos hq];simp only [zS,decide_eq_true_eq,beq_iff_eq] at hq;exact .inr ⟨hq.1.1,hq.2,rfl⟩
    rw [if_neg hq];exact .inl rfl
   rw [if_neg hz];exact .inl rfl
  have hO : ∀i,(rcnO ns O x.N).getD i false=O.getD i false∨(i<ns.length∧(rcnO ns O x.N).getD i false=false):=by
   intro i;unfold rcnO;by_cases hz:ZiH ns x.N=0
   ·rw [if_pos hz,Znx];unfold roF;by_cases hq:(decide (i<ns.length)&&ZnV ns x.N i)=true
    ·rw [if_pos hq];simp only [zS,decide_eq_true_eq] at hq;exact .inr ⟨hq.1,rfl⟩
    rw [if_neg hq];exact .inl rfl
   rw [if_neg hz];exact .inl rfl
  refine fin (rcnS ns S x.N) (rcnO ns O x.N) (fun i hi=>⟨?_,?_⟩) (by unfold rcnS;split<;>simp [recS,s6]) (by unfold rcnO;split<;>simp [recO,o6]) (fun i=>?_) ⟨?_,?_⟩ _ ?_
  ·rcases hS i with h | ⟨h,_⟩
   ·exact h
   omega
  ·rcases hO i with h | ⟨h,_⟩
   ·exact h
   omega
  ·rcases hS i with h | ⟨_,_,h⟩
   ·rw [h];exact B.R.pos i
   omega
  ·rcases hS 0 with h | ⟨_,h,_⟩
   ·exact h.trans B.gen.1
   rw [B.gen.1] at h;omega
  ·rcases hO 0 with h | ⟨_,h⟩
   ·exact h.trans B.gen.2
   exact h
  rw [B.ck,Zmi (by omega) (B.R_gst _ _),Zaa];dsimp only;rw [beq_self_eq_true]
 rw [if_neg (by simpa using k3)];exact ⟨st,ns,lp,S,O,rfl,B,by omega⟩
end
end Go.Dn.F
namespace Go.Dn.F
open Go.Dn Go.Proofs
variable {N:Nat}
section
variable {st:LL} {ia it im ib ir ih:Nat} {p:Zae} {ns:List Nd} {lp:List Int} {S:List Int} {O:List Bool}
end
def S0:List Int:=(zB 600 0).set 0 1
def O0:List Bool:=zB 600 false
theorem ZpB (i:Nat):S0.getD i 0=if i=0 then 1 else 0:=by
 unfold S0;rw [Zgk (by simp)];by_cases h:i=0
 ·rw [if_pos h,if_pos h]
 rw [if_neg h,if_neg h,yC,wP];split<;>rfl
theorem Zrq (i:Nat):O0.getD i false=false:=by
 unfold O0;rw [yC,wP];split<;>rfl
theorem Zsd {p:Zae} (hp:WfP p) (st:LL):Zft ((((((st ++ [(aOf p 100 [ZfC p]).lo]) ++ [ZgK st.length [-1]]) ++ [mk2 (st.length+1) []]) ++ [(rOf p 100 [ZfC p]).lo]) ++ [rm2 S0 O0]) ++ [ZtP (st.length+1) (st.length+2) (st.length+3) (st.length+4)])
  st.length (st.length+1) (st.length+2) (st.length+3) (st.length+4) (st.length+5) p [ZfC p] [-1] S0 O0:=by
 have T:=ZqJ hp 100 st;have T5:=(((T.app [mk2 (st.length+1) []]).app [(rOf p 100 [ZfC p]).lo]).app [rm2 S0 O0]).app [ZtP (st.length+1) (st.length+2) (st.length+3) (st.length+4)];refine ⟨⟨T5,by omega,by omega,⟨0,by simp,?_,fun i _=>⟨ZpB i,Zrq i⟩⟩,by simp⟩,⟨?_,?_,by omega,T.tr,by simp,by simp [S0],by simp [O0],fun i=>by rw [ZpB];split<;>omega⟩,?_,?_,⟨ZpB 0,Zrq 0⟩,by simp⟩
 ·simp
 ·simp
 ·simp
 ·simp
 simp
theorem start_eq (hN:1000≤N) {p:Zae} (hp:WfP p) {gs:List ZcJ} {cs:List Zci} (hg:p.Gates=Zme gs) (hc:p.Checks=ZjF cs) (lg:gs.length≤400) (lc:cs.length≤400) (hgd:Zmf p gs cs=true) (st:LL) :
  ∃ia it im ib ir ih st',ZdR N p st=some (some ih,st')∧Zft st' ia it im ib ir ih p [ZfC p] [-1] S0 O0:=by
 unfold ZdR;rw [ZqI (by omega) hg hc lg lc hp,hgd,if_pos rfl,Zaa];dsimp only;unfold Zfm;rw [Zaa];dsimp only;rw [ZoJ (by omega) hp,Zaa,show Zkm 100=100 from rfl];dsimp only;unfold ZeU;rw [Zaa];dsimp only;have e1 : ∀(l:LL) (x y:List L),(l ++ [x]).set l.length y=l ++ [y]:=fun l x y=>by simp
 rw [e1];have B:=Zsd hp st;have l1:(st ++ [(aOf p 100 [ZfC p]).lo] ++ [ZgK st.length [-1]]:LL).length=st.length+2:=by simp
 have l2:(st ++ [(aOf p 100 [ZfC p]).lo] ++ [ZgK st.length [-1]] ++ [[zQ (some (st.length+1)),yB true 3 []]]:LL).length=st.length+3:=by simp
 have l3:(st ++ [(aOf p 100 [ZfC p]).lo] ++ [ZgK st.length [-1]] ++ [[zQ (some (st.length+1)),yB true 3 []]] ++ [(rOf p 100 [ZfC p]).lo]:LL).length=st.length+4:=by simp
 have l4 : ∀x:List L,(st ++ [(aOf p 100 [ZfC p]).lo] ++ [ZgK st.length [-1]] ++ [[zQ (some (st.length+1)),yB true 3 []]] ++ [(rOf p 100 [ZfC p]).lo] ++ [x]:LL).length=st.length+5:=by simp
 rw [l1,l2,l3,l4];exact ⟨_,_,_,_,_,_,_,rfl,B⟩
end Go.Dn.F
namespace Go.Dn.F
open Go.Dn Go.Proofs
variable {N:Nat}
structure WfA16 (c:Zbu):Prop where
 h:WfH c.Header
 n:ZnM c.Now
abbrev tysAct:List Ty:=[.int .i64,.int .i64,.arr .u8 32,.arr .u8 32,.int .i64,.int .i64,.int .i64,.int .i64,.int .i64,.bool]
noncomputable def ZiF (l:List Zbu):LL:=l.map Zbu.ls
theorem ZmD {l:List Zbu} {i:Nat} (h:i<l.length):(ZiF l)[i]? = some l[i].ls:=by simp [ZiF,h]
@[simp] theorem ZmS (l:List Zbu):len (ZiF l)=(l.length:Int):=by simp [len,ZiF]
@[simp] theorem Znl (l:List Zbu):(ZiF l).length=l.length:=by simp [ZiF]
theorem open_A16 {xs:LL} (h : ∀x∈xs,ZhB tysAct x) : ∃l,xs=ZiF l∧∀x∈l,WfA16 x:=
 Zrg fun x hx=>by
  obtain ⟨_,_,rfl,h0,h⟩:=(h x hx).cons_inv;obtain ⟨_,_,rfl,h1,h⟩:=h.cons_inv;obtain ⟨_,_,rfl,h2,h⟩:=h.cons_inv;obtain ⟨_,_,rfl,h3,h⟩:=h.cons_inv;obtain ⟨_,_,rfl,h4,h⟩:=h.cons_inv;obtain ⟨_,_,rfl,h5,h⟩:=h.cons_inv;obtain ⟨_,_,rfl,h6,h⟩:=h.cons_inv;obtain ⟨_,_,rfl,h7,h⟩:=h.cons_inv;obtain ⟨_,_,rfl,h8,h⟩:=h.cons_inv;obtain ⟨_,_,rfl,h9,h⟩:=h.cons_inv;cases h.nil_inv;obtain ⟨a0,rfl,w0⟩:=h0.int_inv;obtain ⟨a1,rfl,w1⟩:=h1.int_inv;obtain ⟨a2,rfl,k2,w2⟩:=h2.arr_inv;obtain ⟨a3,rfl,k3,w3⟩:=h3.arr_inv;obtain ⟨a4,rfl,w4⟩:=h4.int_inv;obtain ⟨a5,rfl,w5⟩:=h5.int_inv;obtain ⟨a6,rfl,w6⟩:=h6.int_inv;obtain ⟨a7,rfl,w7⟩:=h7.int_inv;obtain ⟨a8,rfl,w8⟩:=h8.int_inv;obtain ⟨a9,rfl⟩:=h9.bool_inv;refine ⟨⟨a0,⟨a1,a2,a3,a4,a5,a6⟩,a7,a8,a9⟩,rfl,⟨⟨ZfR w1,?_,ZfR w4,ZfR w5,ZfR w6⟩,ZfR w7⟩⟩;simp only [wfH,zS];exact ⟨ZqB k2 w2,ZqB k3 w3⟩
theorem ZrW {p:Zae} (hp:WfP p) (l:List Zbu) (hl:l.length+900≤N) (hb:l.length≤maxLen) :
  ∃b,ZbZ N p (ZiF l)=some b∧(b=false→(∀x∈l,0≤x.Now)∧l.length≤40∧∃gs cs,p.Gates=Zme gs∧p.Checks=ZjF cs∧gs.length≤400∧cs.length≤400∧Zmf p gs cs=true):=by
 unfold ZbZ;have hm:maxLen=9223372036854775807:=rfl;refine Ziv (fun m (v:Int)=>∃k:Nat,k+m=l.length∧v=(k:Int)∧∀x∈l.take k,0≤x.Now) ?_ N l.length 0 ⟨0,by omega,rfl,by simp⟩ (by omega);rintro G m _ ⟨k,hk,rfl,ha⟩ hG;unfold ZbZ.p1;rw [ZmS];by_cases hlt:k<l.length
 ·rw [if_pos (by simp<;>omega),Zag (by omega),zG,ZmD hlt,Zat,Zfw,ZaH (by omega) (by omega)];by_cases h:l[k].Now<0
  ·rw [if_pos (by simpa using h)];exact ⟨true,rfl,fun h=>by cases h⟩
  rw [if_neg (by simpa using h)];refine hG (m-1) _ (by omega) ⟨k+1,by omega,by omega,fun x hx=>?_⟩;rw [yE hlt] at hx;rcases List.mem_append.1 hx with hx | hx
  ·exact ha x hx
  cases List.mem_singleton.1 hx;omega
 rw [if_neg (by simp<;>omega)];rw [zX (by omega)] at ha;by_cases h1:len p.Gates>20
 ·rw [if_pos (by simpa using h1)];exact ⟨true,rfl,fun h=>by cases h⟩
 rw [if_neg (by simpa using h1)];by_cases h2:len p.Checks>20
 ·rw [if_pos (by simpa using h2)];exact ⟨true,rfl,fun h=>by cases h⟩
 rw [if_neg (by simpa using h2)];by_cases h3:(l.length:Int)>40
 ·rw [if_pos (by simpa using h3)];exact ⟨true,rfl,fun h=>by cases h⟩
 rw [if_neg (by simpa using h3)];obtain ⟨gs,eg⟩:=open_G hp.g;obtain ⟨cs,ec⟩:=open_K hp.c;have lg:gs.length≤400:=by simp [len,eg] at h1;omega
 have lc:cs.length≤400:=by simp [len,ec] at h2;omega
 rw [Zns (by omega) eg lg ec lc,Zaa];refine ⟨_,rfl,fun h=>⟨ha,by omega,gs,cs,eg,ec,lg,lc,by simpa using h⟩⟩
theorem mk_start {p:Zae} (hp:WfP p) (room:Int) (st:LL):ZiD (((st ++ [(aOf p room [ZfC p]).lo]) ++ [ZgK st.length [-1]]) ++ [mk2 (st.length+1) []]) st.length (st.length+1) (st.length+2) p room [ZfC p] [-1] S0 O0:=
 ⟨(ZqJ hp room st).app [mk2 (st.length+1) []],by omega,by omega,⟨0,by simp,by simp,fun i _=>⟨ZpB i,Zrq i⟩⟩,by simp⟩
theorem alive16 (hN:1000≤N) : ∃st,ZdS N []=some (true,st):=by
 unfold ZdS;rw [show (Zae.mk 545259519 4 10 0 false [] [] (zB 4 0) (zB 4 0) (Zaj.mk 0 (zB 32 0) (zB 32 0) 0 0 0))=pA from rfl,ZqI (by omega) (p:=pA) (gs:=[]) (cs:=[]) rfl rfl (by simp) (by simp) pA_wf 5 [],if_pos (by kernel_rfl),Zaa,show Zkm 5=5 from rfl];dsimp only;rw [if_neg (by simp)];unfold Zfm;rw [Zaa];dsimp only;have M:=mk_start pA_wf 5 [];have e2:(([] ++ [(aOf pA 5 [ZfC pA]).lo]) ++ [ZgK ([]:LL).length [-1]]:LL).length=([]:LL).length+2:=by simp
 have e3 : [[zQ (some (([]:LL).length+1)),yB true 3 []]] = [mk2 (([]:LL).length+1) []]:=rfl;rw [e2,e3];generalize ((([] ++ [(aOf pA 5 [ZfC pA]).lo]) ++ [ZgK ([]:LL).length [-1]]) ++ [mk2 (([]:LL).length+1) []]:LL)=st at M ⊢;generalize ([]:LL).length=z at M ⊢;have hv:vlZ [ZfC pA] S0 O0 0=true:=by
  rw [vlZ_all,show Zfa [ZfC pA] 0 = [0] from rfl];simp only [yP,rC];rw [ZpB,Zrq];rfl
 have ep:Zqa [ZfC pA] (vlZ [ZfC pA] S0 O0)=0:=by rw [ZmL (by simp)];rfl
 rw [Zqb (by omega) M (by simp) hv,Zaa,ep];dsimp only;rw [if_pos (by rfl),Zoe (by omega) M.gst,Zaa,ZjV];dsimp only;rw [show atZ [ZfC pA] (vlZ [ZfC pA] S0 O0) 0=true from by unfold atZ;rw [show inB [ZfC pA] 0=true by decide,vC];exact hv,if_pos rfl,ZjE (by omega) M.gst (by simp [O0]),Zaa];exact ⟨_,rfl⟩
end Go.Dn.F
namespace Go.Dn.F
open Go.Dn Go.Proofs
theorem ZsP {ns:List Nd} {i:Nat} (h:i<ns.length):(ZdY (ns.map Nd.ah))[i]? = some [zJ .i64 ns[i].ah]:=by
 rw [Ziq (by simpa using h)];simp
theorem ZtF {N:Nat} (hN:1000≤N) {st:LL} {ia it im ib ir ih:Nat} {p:Zae} {ns:List Nd} {lp:List Int} {S:List Int} {O:List Bool} (B:Zft st ia it im ib ir ih p ns lp S O) (a:Int) (right:Bool) :
  ∃st',loopN (ZaI.p2 N a right) N (some ih,1,st)=some (true,st'):=by
 suffices h : ∃r,loopN (ZaI.p2 N a right) N (some ih,1,st)=some r∧∃st',r=(true,st') by
  obtain ⟨r,e,st',rfl⟩:=h;exact ⟨st',e⟩
 have sm:=B.R.small;have l1:=B.len1;refine Ziv (Q:=fun r:Bool×LL=>∃st',r=(true,st')) (fun m (s:(Option Nat)×Int×LL)=>∃(i:Nat) (st:LL),1≤i∧i+m=ns.length∧s=(some ih,(i:Int),st)∧Zft st ia it im ib ir ih p ns lp S O) ?_ N (ns.length-1) _ ⟨1,st,by omega,by omega,rfl,B⟩ (by omega);rintro G m _ ⟨i,st,hi,him,rfl,B⟩ hG;obtain ⟨⟨n1,n2,n3⟩,_⟩:=B.ne;unfold ZaI.p2;dsimp only;rw [Zaa,B.h,Zat,Zgn,Zaa,B.R.b,Zat,ZcA,rList];by_cases hlt:i<ns.length
 ·have gb:(F.gst st im it ns S O)[ib]? = some (rOf p 100 ns).lo:=(B.R_gst S O).b;obtain ⟨q,hq,ea,er,hq',_⟩ : ∃q,q<i∧ns[i].ah=(q:Int)∧Zfa ns i=Zfa ns q ++ [i]∧∃hq:q<ns.length,True:=by
   rcases Zee B.M.T.tr hlt with ⟨z,_,_,_⟩ | ⟨q,hq,a,e,hq',_⟩
   ·omega
   exact ⟨q,hq,a,e,hq',trivial⟩
  have e1:atZ ns (chZ ns S O) (i:Int)=chZ ns S O i:=by unfold atZ;rw [show inB ns (i:Int)=true from inB_true.2 ⟨by omega,by omega⟩];simp
  have e2:atZ ns (flZ ns S O) (q:Int)=flZ ns S O q:=by unfold atZ;rw [show inB ns (q:Int)=true from inB_true.2 ⟨by omega,by omega⟩];simp
  rw [if_pos (by simp<;>omega),Child_eq (by omega) B.M,Zaa];dsimp only;rw [B.ck,Zag (eqO_of gb),Zag (by omega),show (rOf p 100 ns).Ahead=ZdY (ns.map Nd.ah) from rfl,Zet,xQ,Zag (by omega),zG,ZsP hlt,Zat,ZlN,ea,ZpE (by omega) B.gst.M,Zaa,ZjV];dsimp only;rw [e1,e2,ZnY er,if_neg (by simp),ZaH (by omega) (by omega)];exact hG (m-1) _ (by omega) ⟨i+1,_,by omega,by omega,rfl,B.gst⟩
 rw [if_neg (by simp<;>omega),ZiA (by omega) B.M B.R.S6,Zaa];dsimp only;by_cases h0:ZqC ns S a right=0
 ·rw [if_neg (by rw [h0];simp)];have hz:ZiH ns a=0:=by
   unfold ZqC at h0;by_cases hz:ZiH ns a=0
   ·exact hz
   rw [if_neg hz] at h0;exact absurd h0 hz
  obtain ⟨j,rfl,hj,hj1⟩:=Zgm hz;have s6:=B.R.S6;have o6:=B.R.O6;have hw : ∀S':List Int,S'.length=600→ZiD (F.gst st im it ns S' O) ia it im p 100 ns lp S' O→∀(b:Bool),(S'.getD j 0=0∨S'.getD j 0=ZgJ b)→ZqC ns S' (j:Int) b=0∧ZpI ns S' (j:Int) b=S'.set j (ZgJ b):=by
   intro S' h6 M' b hb;have e:ZqC ns S' (j:Int) b=0:=by
    unfold ZqC;rw [if_pos hz,zG,if_neg (by rintro ⟨h1,h2⟩;rcases hb with h | h<;>contradiction)]
   refine ⟨e,?_⟩;unfold ZpI;rw [if_pos e,zG]
  have hS1:ZpI ns S (j:Int) right=S.set j (ZgJ right):=by unfold ZpI;rw [if_pos h0,zG]
  rw [hS1];have g1:(S.set j (ZgJ right)).getD j 0=ZgJ right:=by rw [Zgk (by omega),if_pos rfl]
  have M1:ZiD (F.gst st im it ns (S.set j (ZgJ right)) O) ia it im p 100 ns lp (S.set j (ZgJ right)) O:=B.M.turned fun k hk=>⟨by rw [Zgk (by omega),if_neg (by omega)],rfl⟩
  have hid:(S.set j (ZgJ right)).set j (ZgJ right)=S.set j (ZgJ right):=by rw [yR]
  have l6:(S.set j (ZgJ right)).length=600:=by simpa using s6
  generalize S.set j (ZgJ right)=S1 at *;have ij:inB ns (j:Int)=true:=inB_true.2 ⟨by omega,by omega⟩;have gg:F.gst (F.gst st im it ns S1 O) im it ns S1 O=F.gst st im it ns S1 O:=ZjV;obtain ⟨v1,v2⟩:=hw S1 l6 M1 right (.inr g1);rw [hid] at v2;have v3:ZqC ns S1 (j:Int) (!right)=1:=by
   unfold ZqC;rw [if_pos hz,zG,g1,if_pos (by unfold ZgJ;cases right<;>simp)]
  have v4:ZpI ns S1 (j:Int) (!right)=S1:=by unfold ZpI;rw [if_neg (by rw [v3];decide)]
  rw [B.ih_gst,Zat,Zgn,Zub (by omega) M1,Zaa];dsimp only;rw [gg,B.ih_gst,Zat,Zgn,ZiA (by omega) M1 l6,Zaa,v1,v2];dsimp only;rw [gg,B.ck,ZiA (by omega) M1 l6,Zaa,v3,v4];dsimp only;rw [gg,B.ih_gst,Zat,Zgn,Zub (by omega) M1,Zaa];dsimp only;rw [ij,if_pos rfl,if_pos (by rfl),if_pos (by rfl),if_pos (by simp),zG,g1];rw [show ((ZgJ right==1)==right)=true by unfold ZgJ;cases right<;>rfl];exact ⟨_,rfl,_,rfl⟩
 rw [if_pos (by simpa using h0)];exact ⟨_,rfl,_,rfl⟩
theorem ZpC {p:Zae} (hp:WfP p) (l:List Zbu) (hl : ∀x∈l,WfA16 x) (hb:l.length≤maxLen) (a:Int) (right:Bool) : ∃st,ZaI (l.length+1000) p (ZiF l) a right []=some (true,st):=by
 unfold ZaI;obtain ⟨st0,ea⟩:=alive16 (N:=l.length+1000) (by omega);rw [ea,Zaa];dsimp only;rw [if_neg (by simp)];obtain ⟨b,eg,hgr⟩:=ZrW (N:=l.length+1000) hp l (by omega) hb;rw [eg,Zaa];cases b with
 | true=>exact ⟨st0,by rw [if_pos rfl]⟩
 | false=>
  obtain ⟨hnow,h40,gs,cs,hg,hc,lg,lc,hgd⟩:=hgr rfl;rw [if_neg (by simp)];obtain ⟨ia,it,im,ib,ir,ih,st,es,B⟩:=start_eq (N:=l.length+1000) (by omega) hp hg hc lg lc hgd st0;rw [es,Zaa];dsimp only
  suffices h : ∃r,loopN (ZaI.p1 (l.length+1000) a right (some ih) (ZiF l)) (l.length+1000) (0,st)=some r∧∃st',r=(true,st') by
   obtain ⟨r,e,st',rfl⟩:=h;exact ⟨st',e⟩
  refine Ziv (Q:=fun r:Bool×LL=>∃st',r=(true,st')) (fun m (s:Int×LL)=>∃(j:Nat) (st:LL) (ns:List Nd) (lp:List Int) (S:List Int) (O:List Bool),j+m=l.length∧s=((j:Int),st)∧Zft st ia it im ib ir ih p ns lp S O∧ns.length≤j+1) ?_ (l.length+1000) l.length (0,st) ⟨0,st,[ZfC p],[-1],S0,O0,by omega,rfl,B,by simp⟩ (by omega);rintro G m _ ⟨j,st,ns,lp,S,O,hj,rfl,B,hn⟩ hG;unfold ZaI.p1;dsimp only;rw [ZmS];by_cases hlt:j<l.length
  ·have wx:=hl _ (yM hlt);have nx:=hnow _ (yM hlt);have rx:=wx.n;unfold ZnM at rx;obtain ⟨st',ns',lp',S',O',ed,B',hn'⟩:=does_eq (N:=l.length+1000) (by omega) hp hg hc lg lc B (by omega) l[j] wx.h ⟨nx,by omega⟩;rw [if_pos (by simp<;>omega),Zag (by omega),zG,ZmD hlt,Zat,Zfw,ed,Zaa];dsimp only;rw [ZaH (by omega) (by omega)];exact hG (m-1) _ (by omega) ⟨j+1,_,ns',lp',S',O',by omega,rfl,B',by omega⟩
  rw [if_neg (by simp<;>omega)];obtain ⟨st',e⟩:=ZtF (N:=l.length+1000) (by omega) B a right;exact ⟨_,e,st',rfl⟩
theorem MarkChild_true {ls:List L} (xs:LL) (a:Int) (right:Bool) (h0:ZhB tysP ls) (h1 : ∀x∈xs,ZhB tysAct x) (l1:xs.length≤maxLen) (w2:(Lit.int .i64 a).wf=true) :
  ∃st,Snd Tryz.prog 4 [.agg ls,.one (.sl 72 xs),.one (.int .i64 a),.one (.bool right)] [] [.one (.bool true)] st:=by
 obtain ⟨p,rfl,hp⟩:=open_P h0;obtain ⟨l,rfl,hl⟩:=open_A16 h1;obtain ⟨st,h⟩:=ZpC hp l hl (by rw [Znl] at l1;exact l1) a right;exact ⟨st,ZaI.snd h⟩
end Go.Dn.F
