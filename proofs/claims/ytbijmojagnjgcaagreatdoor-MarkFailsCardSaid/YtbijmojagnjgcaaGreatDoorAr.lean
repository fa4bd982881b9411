import Derived.Test.YtbijmojagnjgcaaGreatDoorNum
import Derived.Test.YtbijmojagnjgcaaGreatDoorRul
set_option linter.all false
open Bool renaming true_and→xZ,and_eq_true→zS,false_or→vZ,true_or→rF,false_and→rU,not_eq_true→uK
open Go.Dn.L renaming arr→zH,ptr→zQ,own→yB
open Int renaming toNat_natCast→zG
open List renaming replicate→zB,foldl_append→vI,length_map→wB,length_append→zT,length_singleton→yS,set_set→yT,ext_getElem?→xH,getElem?_set_self→zN,getElem?_set_ne→zO,getElem_mem→yM,drop_zero→vG,drop_eq_getElem_cons→yQ,getElem_map→tT,getElem_append_left→uZ,getElem_append_right→sT,getElem?_eq_getElem→zP,getElem?_append_left→zV,getElem?_append_right→yA,take_of_length_le→zX,mem_of_getElem?→wU,getElem?_eq_none→zL,range→vF,dropLast_concat→uT,take_succ_eq_append_getElem→yG,getElem?_take_of_lt→tA,set→zM,map_set→uU,getD_eq_getElem?_getD→yC,any_cons→vY,map_congr_left→vJ,all_cons→yN,all_nil→sM,drop_eq_nil_of_le→wJ,getElem?_take_eq_none→sS,getElem?_replicate→wR
open Nat renaming zero_add→yE,add_sub_cancel→uM,strongRecOn→vV,lt_or_ge→zU
set_option maxRecDepth 40000
namespace Go.Dn.F
open Go.Dn Go.Proofs
variable {N:Nat}
structure Nd where
 ch:List Zak
 ah:Int
 wk:Int
def h0:Zak:=⟨0,zB 32 0,zB 32 0,0,0,0⟩
def Nd.hd (n:Nd):Zak:=n.ch.getLast?.getD h0
def Nd.id (n:Nd):List Int:=hid n.hd
noncomputable def Nd.en (n:Nd):Zcq:=⟨n.hd,n.id,n.ah,(n.ch.length:Int)-1,nw n.wk⟩
noncomputable def ZhP (ns:List Nd):LL:=ns.map fun n=>n.en.ls
noncomputable def rowS (p:Zae) (ns:List Nd):LL:=ns.map fun n=>(Zdn p n.ch).ls
def ZjB:Nat→List (List Int)→LM
 | _,[]=>[]
 | i,x::l=>(zH .u8 32 x,L.int .i64 (i:Int))::ZjB (i+1) l
def ids (ns:List Nd):List (List Int):=ns.map Nd.id
def ZeQ:Nat→List (List Int)→List Int→Option Nat
 | _,[],_=>none
 | i,y::l,x=>if x=y then some i else ZeQ (i+1) l x
theorem ZkP : ∀(l:List (List Int)) (i:Nat) (x:List Int),Zii (ZjB i l) (zH .u8 32 x)=some ((ZeQ i l x).map fun k=>(k-i,L.int .i64 (k:Int)))
 | [],i,x=>rfl
 | y::l,i,x=>by
  rw [ZjB,Zii];simp only [ZnY,and_self,if_true];unfold ZeQ;by_cases h:x=y
  ·subst h;simp
  rw [show (x==y)=false by simpa using h,if_neg h,ZkP l (i+1) x];cases e:ZeQ (i+1) l x with
  | none=>rfl
  | some k=>
   have : ∀(l:List (List Int)) (i k:Nat),ZeQ i l x=some k→i≤k:=by
    intro l
    induction l with
    | nil=>intro i k h;cases h
    | cons z l ih=>
     intro i k h;unfold ZeQ at h;split at h
     ·cases h;omega
     have:=ih _ _ h;omega
   have:=this l (i+1) k e;simp only [Option.map_some];rw [show k-(i+1)+1=k-i by omega]
theorem Zkx : ∀(l:List (List Int)) (i:Nat) (x:List Int),ZjB i (l ++ [x])=ZjB i l ++ [(zH .u8 32 x,L.int .i64 ((i+l.length:Nat):Int))]
 | [],i,x=>rfl
 | y::l,i,x=>by rw [List.cons_append,ZjB,Zkx l (i+1) x,ZjB,List.length_cons,show i+1+l.length=i+(l.length+1) by omega];rfl
theorem ZgD : ∀{l:List (List Int)} {i k:Nat} {x:List Int},ZeQ i l x=some k→i≤k∧∃h:k-i<l.length,l[k-i]=x
 | y::l,i,k,x,h=>by
  unfold ZeQ at h;split at h
  ·rename_i e;cases h;exact ⟨by omega,by simp,by simp [e]⟩
  obtain ⟨h1,h2,h3⟩:=ZgD h;refine ⟨by omega,by simp;omega,?_⟩;have:k-i=(k-(i+1))+1:=by omega
  simp only [this,List.getElem_cons_succ];exact h3
theorem ZmX : ∀{l:List (List Int)} {i:Nat} {x:List Int},ZeQ i l x=none→x∉l
 | [],_,_,_=>by simp
 | y::l,i,x,h=>by
  unfold ZeQ at h;split at h
  ·cases h
  rename_i e;simp [e,ZmX h]
noncomputable def aOf (p:Zae) (room:Int) (ns:List Nd):ZaG:=⟨p,ZhP ns,rowS p ns,ZjB 0 (ids ns),room⟩
theorem ZkL {ns:List Nd} {i:Nat} (h:i<ns.length):(ZhP ns)[i]? = some ns[i].en.ls:=by simp [ZhP,h]
theorem rowS_get {p:Zae} {ns:List Nd} {i:Nat} (h:i<ns.length):(rowS p ns)[i]? = some (Zdn p ns[i].ch).ls:=by simp [rowS,h]
@[simp] theorem ZgX (ns:List Nd):len (ZhP ns)=(ns.length:Int):=by simp [len,ZhP]
@[simp] theorem len_rowS (p:Zae) (ns:List Nd):len (rowS p ns)=(ns.length:Int):=by simp [len,rowS]
structure Zht (ns:List Nd):Prop where
 small:ns.length≤512
 ch : ∀n∈ns,n.ch ≠ []∧n.ch.length≤ns.length
 wf : ∀n∈ns,∀x∈n.ch,WfH x
 wk : ∀n∈ns,isN n.wk
 ah : ∀(i:Nat) (h:i<ns.length),(i=0∧ns[i].ah = -1∧ns[i].ch.length=1)∨∃(k:Nat) (hk:k<i),ns[i].ah=(k:Int)∧ns[i].ch=ns[k].ch ++ [ns[i].hd]
 one:(ids ns).Nodup
theorem Nd.hd_snoc {n:Nd} {c:List Zak} {h:Zak} (e:n.ch=c ++ [h]):n.hd=h:=by unfold Nd.hd;rw [e];simp
theorem ZmI (p:Zae) (c:List Zak) (h:Zak):(Zdn p (c ++ [h])).Prev=hid h:=by
 unfold Zdn;rw [vI];rfl
theorem Zty {st:LL} {i:Nat} {p:Zae} {room:Int} {ns:List Nd} (hst:st[i]? = some (aOf p room ns).lo) (hl:ns.length≤512) (nd:Nd) (hid':ZeQ 0 (ids ns) nd.id=none) :
  Zbf.p1 N (some i) (Zdn p nd.ch) nd.en st=some ((ns.length:Int),st.set i (aOf p room (ns ++ [nd])).lo):=by
 unfold Zbf.p1;have e1:(aOf p room ns).list ++ [nd.en.ls]=ZhP (ns ++ [nd]):=by show ZhP ns++_=_;simp [ZhP]
 have e2:(aOf p room ns).spots ++ [(Zdn p nd.ch).ls]=rowS p (ns ++ [nd]):=by show rowS p ns++_=_;simp [rowS]
 have e3:(aOf p room ns).places ++ [(zH .u8 32 nd.en.Id,L.int .i64 (ns.length:Int))]=ZjB 0 (ids (ns ++ [nd])):=by
  show ZjB 0 (ids ns)++_=_;unfold ids;rw [List.map_append];show _=ZjB 0 (List.map Nd.id ns ++ [nd.id]);rw [Zkx,wB,yE];rfl
 have l1:(ZhP (ns ++ [nd])).length=ns.length+1:=by simp [ZhP]
 have l2:(rowS p (ns ++ [nd])).length=ns.length+1:=by simp [rowS]
 rw [Zaa,hst,Zar,ZbL,e1,e2,Zah (by rw [l1];omega),Zah (by rw [l2];omega),show Zii (aOf p room ns).places (zH .u8 32 nd.en.Id)=some none by
  show Zii (ZjB 0 (ids ns)) (zH .u8 32 nd.id)=_;rw [ZkP,hid'];rfl]
 show some _=_;rw [ZgX,zT,yS,ZaJ (by omega) (by omega),show ((ns.length+1:Nat):Int)-1=(ns.length:Int) by omega,e3];simp only [yT];rfl
theorem keep_eq (hN:300≤N) {st:LL} {i:Nat} {p:Zae} {room:Int} {ns:List Nd} (hst:st[i]? = some (aOf p room ns).lo) (hl:ns.length≤512) {k:Nat} (hk:k<ns.length) (hw:isN ns[k].wk) (hlen:ns[k].ch.length≤600)
  {h:Zak} (nd:Nd) (hch:nd.ch=ns[k].ch ++ [h]) (hah:nd.ah=(k:Int)) (hwk:nd.wk=Zml ns[k].wk (ZgT h.Bits)) (hid':ZeQ 0 (ids ns) (hid h)=none) :
  Zbf N (some i) h (k:Int) (Zdn p nd.ch) st=some ((ns.length:Int),st.set i (aOf p room (ns ++ [nd])).lo):=by
 have hd:=nd.hd_snoc hch;unfold Zbf;rw [ZiP hN,Zaa,if_pos (by simp<;>omega),Zaa,hst,Zar,ZbL,show (aOf p room ns).list=ZhP ns from rfl,ZgX,Zah (by omega),Zah (by omega),zG,yE,ZkL hk,Zar,Zfh,show (ns[k].en).Work=nw ns[k].wk from rfl,ZpU (by omega) hw (Zix _),Zaa,show (ns[k].en).Height=(ns[k].ch.length:Int)-1 from rfl,ZaJ (by omega) (by omega)];have e:Zcq.mk h (Zdn p nd.ch).Prev (k:Int) ((ns[k].ch.length:Int)-1+1) (nw (Zml ns[k].wk (ZgT h.Bits)))=nd.en:=by
  unfold Nd.en Nd.id;rw [hd,hch,ZmI,hah,hwk,zT,yS]
  congr 1;omega
 rw [e];refine Zty hst hl nd ?_;unfold Nd.id;rw [hd];exact hid'
theorem keep0_eq (hN:300≤N) {st:LL} {i:Nat} {p:Zae} {room:Int} (hst:st[i]? = some (aOf p room []).lo) {h:Zak} (nd:Nd) (hch:nd.ch = [h]) (hah:nd.ah = -1) (hwk:nd.wk=ZgT h.Bits) :
  Zbf N (some i) h (-1) (Zdn p nd.ch) st=some (0,st.set i (aOf p room [nd]).lo):=by
 have hd:nd.hd=h:=nd.hd_snoc (c:=[]) hch;unfold Zbf;rw [ZiP hN,Zaa,if_neg (by simp)];have e:Zcq.mk h (Zdn p nd.ch).Prev (-1) 0 (nw (ZgT h.Bits))=nd.en:=by
  unfold Nd.en Nd.id;rw [hd,hch,show (Zdn p [h]).Prev=hid h from ZmI p [] h,hah,hwk];rfl
 rw [e];exact Zty (ns:=[]) hst (by simp) nd rfl
def chAt (ns:List Nd) (k:Nat):List Zak:=(ns[k]?.map Nd.ch).getD []
def wkAt (ns:List Nd) (k:Nat):Int:=(ns[k]?.map Nd.wk).getD 0
theorem Zkg {ns:List Nd} {k:Nat} (h:k<ns.length):chAt ns k=ns[k].ch:=by simp [chAt,h]
theorem ZpV {ns:List Nd} {k:Nat} (h:k<ns.length):wkAt ns k=ns[k].wk:=by simp [wkAt,h]
def ZdZ (ns:List Nd) (k:Nat) (h:Zak):Nd:=⟨chAt ns k ++ [h],(k:Int),Zml (wkAt ns k) (ZgT h.Bits)⟩
def Zjg (p:Zae) (gs:List ZcN) (cs:List Zco) (room:Int) (ns:List Nd) (h:Zak) (now:Int):Int×Int×Int×List Nd:=
 if Zgv h=false then (-1,1,8,ns) else
 match ZeQ 0 (ids ns) (hid h) with
 | some k=>((k:Int),0,0,ns)
 | none=>match ZeQ 0 (ids ns) h.Prev with
  | none=>(-1,2,5,ns)
  | some k=>if ZfD p gs cs (Zdn p (chAt ns k)) h now≠0 then (-1,ZfD p gs cs (Zdn p (chAt ns k)) h now,8,ns)
   else if room≤(ns.length:Int) then (-1,0,6,ns) else ((ns.length:Int),0,0,ns ++ [ZdZ ns k h])
theorem Ziz {st:LL} {i:Nat} {x:List L} (h:st[i]? = some x):st.set i x=st:=by
 apply xH;intro j;by_cases e:i=j
 ·subst e;obtain ⟨hi,e⟩:=List.getElem?_eq_some_iff.1 h;rw [zN hi,h]
 rw [zO e]
theorem ZsI (p:Zae) (c:List Zak):wfS (Zdn p c)=true:=by
 have h : ∀l:List Zak,∃ts:List Int,(Zdn p l).Times=Zed ts∧ts.length≤11:=by
  refine ZnA ⟨[],rfl,by simp⟩ (fun l h ih=>?_);unfold Zdn at *;rw [vI];exact ⟨_,rfl,by simp;omega⟩
 obtain ⟨ts,h1,h2⟩:=h c;simp only [wfS,h1,isI_row,xZ,decide_eq_true_eq,ZdL];omega
theorem Add_eq (hN:500≤N) {st:LL} {i:Nat} {p:Zae} {gs:List ZcN} {cs:List Zco} (hg:p.Gates=Zmp gs) (hc:p.Checks=ZjN cs) (lg:gs.length≤400) (lc:cs.length≤400) {room:Int} (hroom:room≤512) {ns:List Nd} (ht:Zht ns) (hst:st[i]? = some (aOf p room ns).lo)
  {h:Zak} (hh:WfH h) (now:Int) (hnow : -1152921504606846976≤now∧now≤9223372036854775807) :
  ZaM N (some i) h now st=some ((Zjg p gs cs room ns h now).1,(Zjg p gs cs room ns h now).2.1,(Zjg p gs cs room ns h now).2.2.1,st.set i (aOf p room (Zjg p gs cs room ns h now).2.2.2).lo):=by
 have ss:=Ziz hst;unfold ZaM Zjg;rw [if_neg (c:=Option.isNone (some i)=true) (by simp),Zfb,Zaa];cases hgd:Zgv h with
 | false=>rw [if_pos (by rfl),if_pos (c:=false=false) rfl];dsimp only;rw [ss]
 | true=>
  rw [if_neg (c:=(!true)=true) (by simp),if_neg (c:=true=false) (by simp),Zaa,hst,Zar,ZbL,Zgw hN hh.w,Zaa,show (aOf p room ns).places=ZjB 0 (ids ns) from rfl,ZkP];cases e1:ZeQ 0 (ids ns) (hid h) with
  | some k=>
   show ZaM.p1 N i now (k:Int) true h st=_;unfold ZaM.p1;rw [if_pos rfl];dsimp only;rw [ss]
  | none=>
   show ZaM.p1 N i now 0 false h st=_;unfold ZaM.p1;rw [if_neg (by simp),hst,Zar,ZbL,show (aOf p room ns).places=ZjB 0 (ids ns) from rfl,ZkP];cases e2:ZeQ 0 (ids ns) h.Prev with
   | none=>
    show ZaM.p2 N i now 0 false h st=_;unfold ZaM.p2;rw [if_pos (by rfl)];dsimp only;rw [ss]
   | some k=>
    show ZaM.p2 N i now (k:Int) true h st=_;obtain ⟨_,hk,_⟩:=ZgD e2;have hk':k<ns.length:=by simpa [ids] using hk
    have sw:=ZsI p ns[k].ch;have isT:isI (Zdn p ns[k].ch).Times=true:=by simp only [wfS,zS] at sw;exact sw.1
    unfold ZaM.p2;dsimp only;rw [if_neg (c:=(!true)=true) (by simp),hst,Zar,ZbL,show (aOf p room ns).spots=rowS p ns from rfl,len_rowS,Zah (by omega),Zah (by omega),zG,yE,rowS_get hk',Zar,ZkG,show (aOf p room ns).rules=p from rfl,Znu hN hg hc lg lc hh.w isT now hnow,Zaa,Zkg hk'];by_cases h4:ZfD p gs cs (Zdn p ns[k].ch) h now=0
    ·rw [if_neg (c:=(ZfD p gs cs (Zdn p ns[k].ch) h now != 0)=true) (by simp [h4]),if_neg (c:=ZfD p gs cs (Zdn p ns[k].ch) h now≠0) (by simp [h4]),show (aOf p room ns).list=ZhP ns from rfl,ZgX,show (aOf p room ns).room=room from rfl];by_cases h5:room≤(ns.length:Int)
     ·rw [if_pos (by simpa using h5),if_pos h5];dsimp only;rw [ss]
     rw [if_neg (by simpa using h5),if_neg h5,ZhX hN hh.w sw,Zaa];have be:ZfO p (Zdn p ns[k].ch) h=Zdn p (ZdZ ns k h).ch:=by
      unfold ZdZ Zdn;rw [Zkg hk',vI];rfl
     have hm:=yM hk';have sm:=ht.small;have cl:=(ht.ch _ hm).2;rw [be,keep_eq (by omega) hst ht.small hk' (ht.wk _ hm) (by omega) (ZdZ ns k h) (by unfold ZdZ;rw [Zkg hk']) rfl (by unfold ZdZ;rw [ZpV hk']) e1,Zaa]
    rw [if_pos (c:=(ZfD p gs cs (Zdn p ns[k].ch) h now != 0)=true) (by simpa using h4),if_pos (c:=ZfD p gs cs (Zdn p ns[k].ch) h now≠0) h4];dsimp only;rw [ss]
noncomputable def ZhL (l:List (List Int)):LL:=l.map fun x=>[zH .u8 32 x]
noncomputable def Zuu (l:List Int):LL:=l.map fun x=>[zH .u64 4 (nw x)]
noncomputable def rOf (p:Zae) (room:Int) (ns:List Nd):Zab:=⟨p,ZjV (ns.map Nd.hd),ZhL (ids ns),Zed (ns.map Nd.ah),Zuu (ns.map Nd.wk),room⟩
theorem ZrM {l:List (List Int)} {i:Nat} (h:i<l.length):(ZhL l)[i]? = some [zH .u8 32 l[i]]:=by simp [ZhL,h]
theorem rowW_get {l:List Int} {i:Nat} (h:i<l.length):(Zuu l)[i]? = some [zH .u64 4 (nw l[i])]:=by simp [Zuu,h]
@[simp] theorem Zsc (l:List (List Int)):len (ZhL l)=(l.length:Int):=by simp [len,ZhL]
@[simp] theorem len_rowW (l:List Int):len (Zuu l)=(l.length:Int):=by simp [len,Zuu]
@[simp] theorem ZnU (l:List Zak):len (ZjV l)=(l.length:Int):=by simp [len]
theorem ZrS (i:Nat) (y:List Int) (l:List (List Int)) (x:List Int):ZeQ i (y::l) x=if x=y then some i else ZeQ (i+1) l x:=rfl
def Zpe (o:Option Nat):Int:=match o with
 | some k=>(k:Int)
 | none=>-1
theorem Zjs {st:LL} {i:Nat} {p:Zae} {room:Int} {ns:List Nd} (hN:ns.length<N) (hl:ns.length≤512) (hst:st[i]? = some (rOf p room ns).lo) (x:List Int) :
  Zbg N (some i) x st=some (Zpe (ZeQ 0 (ids ns) x),st):=by
 unfold Zbg;rw [Zaa,hst,Zar,ZbX];have li:(ids ns).length=ns.length:=by simp [ids]
 refine Zcd (fun m (v:Int)=>∃k:Nat,k+m=ns.length∧v=(k:Int)∧ZeQ 0 (ids ns) x=ZeQ k ((ids ns).drop k) x) ?_ N ns.length 0 ⟨0,by omega,rfl,by rw [vG]⟩ hN;rintro G m _ ⟨k,hk,rfl,hp⟩ hG;unfold Zbg.p1;rw [show (rOf p room ns).Ids=ZhL (ids ns) from rfl,Zsc,li];by_cases hlt:k<ns.length
 ·have hk':k<(ids ns).length:=by omega
  rw [yQ hk'] at hp;rw [ZrS] at hp;rw [if_pos (by simp<;>omega),Zah (by omega),hst,Zar,ZbX,show (rOf p room ns).Ids=ZhL (ids ns) from rfl,zG,yE,ZrM hk',Zar,Zkz,ZaJ (by omega) (by omega)];by_cases he:x=(ids ns)[k]
  ·rw [if_pos he] at hp;rw [if_pos (by simp [he]),hp];rfl
  rw [if_neg he] at hp;rw [if_neg (by simpa using fun e=>he e.symm)];exact hG (m-1) _ (by omega) ⟨k+1,by omega,by omega,hp⟩
 rw [if_neg (by simp<;>omega),hp,List.drop_of_length_le (by omega)];rfl
theorem Zmr {p:Zae} {room:Int} {ns:List Nd} (ht:Zht ns) (hN:ns.length+2≤N) {k:Nat} (hk:k<ns.length):ZaX N (rOf p room ns) (k:Int)=some (ZjV (chAt ns k)):=by
 have sm:=ht.small;unfold ZaX;rw [Zkg hk];refine Zcd (fun m (x:LL×Int)=>∃out:List Zak,x=(ZjV out,(m:Int)-1)∧m≤ns.length∧((m=0∧out=ns[k].ch)∨∃h:0<m∧m-1<ns.length,ns[m-1].ch++out=ns[k].ch)) ?_ N (k+1) _ ⟨[],by simp;rfl,by omega,.inr ⟨⟨by omega,by omega⟩,by simp⟩⟩ (by omega);rintro G m _ ⟨out,rfl,hm,ho⟩ hG;unfold ZaX.p1;dsimp only;rcases ho with ⟨rfl,rfl⟩ | ⟨⟨h0,h1⟩,ho⟩
 ·rw [if_neg (by simp)]
 obtain ⟨j,rfl⟩ : ∃j,m=j+1:=⟨m-1,by omega⟩
 simp only [uM] at ho h1;have hj:j<(ns.map Nd.hd).length:=by simp;omega
 have hj2:j<(ns.map Nd.ah).length:=by simp;omega
 have cl:=congrArg List.length ho;rw [zT] at cl;have cb:=(ht.ch _ (yM hk)).2;rw [show (rOf p room ns).List_=ZjV (ns.map Nd.hd) from rfl,show (rOf p room ns).Ahead=Zed (ns.map Nd.ah) from rfl,show ((j+1:Nat):Int)-1=(j:Int) by omega,if_pos (by simp),ZnU,ZeE,Zah (by omega),Zah (by omega),zG,Zjo hj,Zar,ZeK,Zah (by rw [zT,Zlm];simp;omega),Zah (by omega),Zjn hj2,Zar,Zea,tT,tT];have e : [ns[j].hd.ls]++ZjV out=ZjV (ns[j].hd::out):=rfl;rw [e];have nl:=ht.ch _ (yM h1);rcases ht.ah j h1 with ⟨z,a,c⟩ | ⟨q,hq,a,c⟩
 ·have c1:ns[j].ch = [ns[j].hd]:=by
   unfold Nd.hd
   match hch:ns[j].ch,c with
   | [x],_=>rfl
  rw [a];rw [c1] at ho;exact hG 0 _ (by omega) ⟨_,rfl,by omega,.inl ⟨rfl,ho⟩⟩
 rw [a];rw [c,List.append_assoc] at ho;exact hG (q+1) _ (by omega) ⟨_,by rw [show ((q+1:Nat):Int)-1=(q:Int) by omega],by omega,.inr ⟨⟨by omega,by omega⟩,by simpa using ho⟩⟩
theorem ZtT (p:Zae) (gs:List ZcN) (cs:List Zco) (s:ZaV) (h:Zak) (now:Int):0≤ZfD p gs cs s h now:=by
 unfold ZfD;repeat' split
 all_goals omega
theorem ZoZ (hN:900≤N) {st:LL} {i:Nat} {p:Zae} {gs:List ZcN} {cs:List Zco} (hg:p.Gates=Zmp gs) (hc:p.Checks=ZjN cs) (lg:gs.length≤400) (lc:cs.length≤400) {room:Int} (hroom:room≤512) {ns:List Nd} (ht:Zht ns) (hlen:ns.length≤200) (hst:st[i]? = some (rOf p room ns).lo)
  {h:Zak} (hh:WfH h) (now:Int) (hnow:0≤now∧now≤9223372036854775807) :
  Zdi N (some i) h now st=some ((Zjg p gs cs room ns h now).1,(Zjg p gs cs room ns h now).2.1,(Zjg p gs cs room ns h now).2.2.1,st.set i (rOf p room (Zjg p gs cs room ns h now).2.2.2).lo):=by
 have ss:=Ziz hst;unfold Zdi Zjg;rw [ZiB,Zaa];cases hgd:Zgv h with
 | false=>rw [if_pos (by rfl),if_pos (c:=false=false) rfl];dsimp only;rw [ss]
 | true=>
  rw [if_neg (c:=(!true)=true) (by simp),if_neg (c:=true=false) (by simp),Zjr (by omega) h hh.w,Zaa,Zjs (by omega) ht.small hst,Zaa];dsimp only;cases e1:ZeQ 0 (ids ns) (hid h) with
  | some k=>
   rw [show Zpe (some k)=(k:Int) from rfl,if_pos (by simp)];dsimp only;rw [ss]
  | none=>
   rw [show Zpe none = -1 from rfl,if_neg (by simp),Zjs (by omega) ht.small hst,Zaa];dsimp only;cases e2:ZeQ 0 (ids ns) h.Prev with
   | none=>
    rw [show Zpe none = -1 from rfl,if_pos (by simp)];dsimp only;rw [ss]
   | some k=>
    obtain ⟨_,hk,_⟩:=ZgD e2;have hk':k<ns.length:=by simpa [ids] using hk
    have hm:=yM hk';have cl:=ht.ch _ hm;have c0:0<ns[k].ch.length:=List.length_pos_iff.2 cl.1;dsimp only;rw [show Zpe (some k)=(k:Int) from rfl,if_neg (by simp<;>omega),Zaa,hst,Zar,ZbX,Zmr ht (by omega) hk',Zaa,Zkg hk',Zah (by simp [Zez,ZjV,Zak.ls,L.plain]),show (rOf p room ns).Rules=p from rfl,Zms hN hg lg hc lc ns[k].ch c0 (by omega) (fun x hx=>(ht.wf _ hm x hx).w) hh.w now hnow,Zaa];have nn:=ZtT p gs cs (Zdn p ns[k].ch) h now;by_cases h4:ZfD p gs cs (Zdn p ns[k].ch) h now=0
    ·rw [if_neg (c:=decide (ZfD p gs cs (Zdn p ns[k].ch) h now>0)=true) (by simp<;>omega),if_neg (c:=ZfD p gs cs (Zdn p ns[k].ch) h now≠0) (by simp [h4]),show (rOf p room ns).List_=ZjV (ns.map Nd.hd) from rfl,ZnU,wB,show (rOf p room ns).Room=room from rfl];by_cases h5:room≤(ns.length:Int)
     ·rw [if_pos (by simpa using h5),if_pos h5];dsimp only;rw [ss]
     have hd:=(ZdZ ns k h).hd_snoc rfl;have i1:ZjV (ns.map Nd.hd) ++ [h.ls]=ZjV ((ns ++ [ZdZ ns k h]).map Nd.hd):=by simp [ZjV,hd]
     have i2:ZhL (ids ns) ++ [[zH .u8 32 (hid h)]]=ZhL (ids (ns ++ [ZdZ ns k h])):=by simp [ZhL,ids,Nd.id,hd]
     have i3:Zuu (ns.map Nd.wk) ++ [[zH .u64 4 (nw (Zml ns[k].wk (ZgT h.Bits)))]]=Zuu ((ns ++ [ZdZ ns k h]).map Nd.wk):=by simp [Zuu,ZdZ,ZpV hk']
     have i4:Zed (ns.map Nd.ah) ++ [[L.int .i64 (k:Int)]]=Zed ((ns ++ [ZdZ ns k h]).map Nd.ah):=by simp [Zed,ZdZ]
     have kw:k<(ns.map Nd.wk).length:=by simp;omega
     have sm:=ht.small;rw [if_neg (by simpa using h5),if_neg h5,show (rOf p room ns).Ids=ZhL (ids ns) from rfl,show (rOf p room ns).Works=Zuu (ns.map Nd.wk) from rfl,show (rOf p room ns).Ahead=Zed (ns.map Nd.ah) from rfl,i1,i2,i4,Zah (by rw [Zlm,wB,zT,yS];omega),Zah (by simp [ZhL,ids];omega),Zah (by omega),len_rowW,Zah (by rw [wB];omega),zG,yE,rowW_get kw,Zar,tT,ZpI,Zid (by omega),Zaa,Zpa (by omega) (ht.wk _ hm) (Zix _),Zaa,i3,Zah (by simp [Zuu];omega),Zah (by rw [ZdL,wB,zT,yS];omega),ZnU,wB,zT,yS,ZaJ (by omega) (by omega)];simp only [yT];rw [show ((ns.length+1:Nat):Int)-1=(ns.length:Int) by omega];rfl
    rw [if_pos (c:=decide (ZfD p gs cs (Zdn p ns[k].ch) h now>0)=true) (by simp<;>omega),if_pos (c:=ZfD p gs cs (Zdn p ns[k].ch) h now≠0) h4];dsimp only;rw [ss]
theorem Zht.one_node {g:Zak} (hg:WfH g):Zht [⟨[g],-1,ZgT g.Bits⟩] where
 small:=by simp
 ch:=fun n hn=>by cases List.mem_singleton.1 hn;simp
 wf:=fun n hn x hx=>by cases List.mem_singleton.1 hn;cases List.mem_singleton.1 hx;exact hg
 wk:=fun n hn=>by cases List.mem_singleton.1 hn;exact Zix _
 ah:=fun i h=>.inl ⟨by simpa using h,by simp at h;subst h;rfl,by simp at h;subst h;rfl⟩
 one:=by simp [ids]
theorem Zht.grow {ns:List Nd} (ht:Zht ns) {k:Nat} (hk:k<ns.length) {h:Zak} (hh:WfH h) (hs:ns.length<512) (hid':ZeQ 0 (ids ns) (hid h)=none):Zht (ns ++ [ZdZ ns k h]):=by
 have hm:=yM hk;have cl:=ht.ch _ hm;have hc:(ZdZ ns k h).ch=ns[k].ch ++ [h]:=by unfold ZdZ;rw [Zkg hk]
 have hd:=(ZdZ ns k h).hd_snoc rfl;refine ⟨by simp;omega,?_,?_,?_,?_,?_⟩
 ·intro n hn;rcases List.mem_append.1 hn with hn | hn
  ·have:=ht.ch n hn;exact ⟨this.1,by simp;omega⟩
  cases List.mem_singleton.1 hn;rw [hc];exact ⟨by simp,by simp;omega⟩
 ·intro n hn x hx;rcases List.mem_append.1 hn with hn | hn
  ·exact ht.wf n hn x hx
  cases List.mem_singleton.1 hn;rw [hc] at hx;rcases List.mem_append.1 hx with hx | hx
  ·exact ht.wf _ hm x hx
  cases List.mem_singleton.1 hx;exact hh
 ·intro n hn;rcases List.mem_append.1 hn with hn | hn
  ·exact ht.wk n hn
  cases List.mem_singleton.1 hn;unfold ZdZ;rw [ZpV hk];exact Zsz (ht.wk _ hm) (Zix _)
 ·intro i hi;by_cases hlt:i<ns.length
  ·rw [uZ hlt];rcases ht.ah i hlt with a | ⟨q,hq,a,b⟩
   ·exact .inl a
   exact .inr ⟨q,hq,a,by rw [uZ (by omega)];exact b⟩
  have:i=ns.length:=by simp at hi;omega
  subst this;refine .inr ⟨k,hk,?_,?_⟩
  ·rw [sT (by omega)];simp [ZdZ]
  rw [sT (by omega),uZ hk];simp only [Nat.sub_self,List.getElem_singleton];rw [hc,hd]
 have np:=ZmX hid';unfold ids at *;rw [List.map_append,List.nodup_append];refine ⟨ht.one,by simp,?_⟩;intro a ha b hb;simp only [List.map_cons,List.map_nil,List.mem_singleton] at hb;subst hb;intro e;unfold Nd.id at e;rw [hd] at e;exact np (by rw [←e];exact ha)
theorem Zkj (p:Zae) (gs:List ZcN) (cs:List Zco) (room:Int) (ns:List Nd) (h:Zak) (now:Int) :
  (Zjg p gs cs room ns h now).2.2.2=ns∨∃k:Nat,k<ns.length∧Zgv h=true∧ZeQ 0 (ids ns) (hid h)=none∧ZfD p gs cs (Zdn p (chAt ns k)) h now=0∧(ns.length:Int)<room ∧
   Zjg p gs cs room ns h now=((ns.length:Int),0,0,ns ++ [ZdZ ns k h]):=by
 unfold Zjg;by_cases hg:Zgv h=false
 ·rw [if_pos hg];exact .inl rfl
 rw [if_neg hg];cases e1:ZeQ 0 (ids ns) (hid h) with
 | some k=>exact .inl rfl
 | none=>
  dsimp only;cases e2:ZeQ 0 (ids ns) h.Prev with
  | none=>exact .inl rfl
  | some k=>
   dsimp only;obtain ⟨_,hk,_⟩:=ZgD e2;have hk':k<ns.length:=by simpa [ids] using hk
   by_cases h1:ZfD p gs cs (Zdn p (chAt ns k)) h now=0
   ·rw [if_neg (by simp [h1])];by_cases h2:room≤(ns.length:Int)
    ·rw [if_pos h2];exact .inl rfl
    rw [if_neg h2];exact .inr ⟨k,hk',by simpa using hg,rfl,h1,by omega,rfl⟩
   rw [if_pos h1];exact .inl rfl
theorem Zul {p:Zae} {gs:List ZcN} {cs:List Zco} {room:Int} (hr:room≤512) {ns:List Nd} (ht:Zht ns) {h:Zak} (hh:WfH h) (now:Int):Zht (Zjg p gs cs room ns h now).2.2.2:=by
 rcases Zkj p gs cs room ns h now with e | ⟨k,hk,_,hi,_,hl,e⟩
 ·rw [e];exact ht
 rw [e];exact ht.grow hk hh (by omega) hi
theorem addT_len (p:Zae) (gs:List ZcN) (cs:List Zco) (room:Int) (ns:List Nd) (h:Zak) (now:Int):ns.length≤(Zjg p gs cs room ns h now).2.2.2.length∧(Zjg p gs cs room ns h now).2.2.2.length≤ns.length+1:=by
 rcases Zkj p gs cs room ns h now with e | ⟨k,hk,_,hi,_,hl,e⟩
 ·rw [e];omega
 rw [e];simp
def Zkt (room:Int):Int:=if (512:Int)<(if (1:Int)>room then 1 else room) then 512 else (if (1:Int)>room then 1 else room)
def ZfI (p:Zae):Nd:=⟨[p.Genesis],-1,ZgT p.Genesis.Bits⟩
theorem set_last (st:LL) (a b:List L):(st ++ [a]).set st.length b=st ++ [b]:=by simp
theorem New_eq (hN:500≤N) {p:Zae} {gs:List ZcN} {cs:List Zco} (hg:p.Gates=Zmp gs) (hc:p.Checks=ZjN cs) (lg:gs.length≤400) (lc:cs.length≤400) (hp:WfP p) (room:Int) (st:LL) :
  ZeW N p room st=if Zmq p gs cs=true then some (some st.length,0,st ++ [(aOf p (Zkt room) [ZfI p]).lo]) else some (none,1,st):=by
 unfold ZeW;rw [ZoP hN hg lg hc lc,Zaa];cases hgd:Zmq p gs cs with
 | false=>rfl
 | true=>
  have pp:({p with Gates:=[]++p.Gates,Checks:=[]++p.Checks}:Zae)=p:=rfl;rw [if_neg (c:=(!true)=true) (by simp),pp,Zah (by rw [hg,List.nil_append,Zqh];omega),Zah (by rw [hc,List.nil_append,Zqi];omega),Zmo hN hp.h.w,Zaa];have hst:(st ++ [(aOf p (Zkt room) []).lo])[st.length]? = some (aOf p (Zkt room) []).lo:=by simp
  have k:=keep0_eq (N:=N) (by omega) hst (h:=p.Genesis) (ZfI p) rfl rfl rfl;rw [set_last] at k;rw [if_pos (c:=true=true) rfl];show Zbj (Zbf N (some st.length) p.Genesis (-1) (Zdn p (ZfI p).ch) (st ++ [(aOf p (Zkt room) []).lo])) _=_;rw [k,Zaa]
theorem ZoY (hN:900≤N) {p:Zae} (hp:WfP p) (room:Int) (st:LL):ZeM N p room st=some (some st.length,st ++ [(rOf p (Zkt room) [ZfI p]).lo]):=by
 unfold ZeM;rw [Zjr (by omega) _ hp.h.w,Zaa,Zid (by omega),Zaa];rfl
theorem Len_v_eq (p:Zae) (room:Int) (ns:List Nd):Zdf N (aOf p room ns)=some (ns.length:Int):=by
 unfold Zdf;rw [show (aOf p room ns).list=ZhP ns from rfl,ZgX]
theorem Zut (p:Zae) (room:Int) {ns:List Nd} {k:Nat} (hk:k<ns.length):Zcn N (aOf p room ns) (k:Int)=some (ns[k].en,true):=by
 unfold Zcn ZbR;rw [show (aOf p room ns).list=ZhP ns from rfl,ZgX,if_pos (by simp),Zaa,if_neg (by simp<;>omega),Zah (by omega),Zah (by omega),zG,ZkL hk,Zar,Zfh]
theorem Zus (p:Zae) (room:Int) {ns:List Nd} {k:Int} (hk:k<0∨(ns.length:Int)≤k):Zcn N (aOf p room ns) k=some (Zcq.mk (Zak.mk 0 (zB 32 0) (zB 32 0) 0 0 0) (zB 32 0) (-1) 0 (zB 4 0),false):=by
 unfold Zcn ZbR;rw [show (aOf p room ns).list=ZhP ns from rfl,ZgX];by_cases h:k≥0
 ·rw [if_pos (by simpa using h),Zaa,if_pos (by simp<;>omega)]
 rw [if_neg (by simpa using h),Zaa,if_pos (by rfl)]
end Go.Dn.F
set_option maxRecDepth 100000
namespace Go.Dn.F
open Go.Dn Go.Proofs
variable {N:Nat}
def pA:Zae:=⟨545259519,4,10,0,false,[],[],zB 4 0,zB 4 0,h0⟩
theorem h0_wf:WfH h0:=⟨by unfold Zob h0;simp,by unfold wfH h0;decide,by unfold Zob h0;simp,by unfold Zob h0;simp,by unfold Zob h0;simp⟩
theorem pA_wf:WfP pA where
 l:=by unfold Zob pA;simp
 i:=by unfold Zob pA;simp
 s:=by unfold Zob pA;simp
 f:=by unfold Zob pA;simp
 g:=by unfold pA;simp
 gl:=by unfold pA;simp
 c:=by unfold pA;simp
 cl:=by unfold pA;simp
 m:=by unfold pA;exact ⟨rfl,fun x hx=>by obtain ⟨_,rfl⟩:=List.mem_replicate.1 hx;decide⟩
 r:=by unfold pA;exact ⟨rfl,fun x hx=>by obtain ⟨_,rfl⟩:=List.mem_replicate.1 hx;decide⟩
 h:=h0_wf
end Go.Dn.F
set_option maxRecDepth 40000
namespace Go.Dn.F
open Go.Dn Go.Proofs
variable {N:Nat}
def Zsu (ns:List Nd):Nat→Nat→List Nat
 | 0,k=>[k]
 | f+1,k=>match ns[k]? with
  | some n=>if n.ah<0 then [k] else Zsu ns f n.ah.toNat ++ [k]
  | none=>[k]
def ZeD (ns:List Nd) (k:Nat):List Nat:=Zsu ns k k
theorem ZsZ {ns:List Nd} (ht:Zht ns) : ∀(k f g:Nat),k<ns.length→k≤f→k≤g→Zsu ns f k=Zsu ns g k:=by
 intro k
 induction k using vV with
 | ind k ih=>
  intro f g hk hf hg;rcases ht.ah k hk with ⟨z,a,c⟩ | ⟨q,hq,a,c⟩
  ·have e : ∀f,Zsu ns f k = [k]:=fun f=>by
    cases f with
    | zero=>rfl
    | succ f=>unfold Zsu;rw [zP hk];dsimp only;rw [a,if_pos (by omega)]
   rw [e,e]
  obtain ⟨f,rfl⟩ : ∃x,f=x+1:=⟨f-1,by omega⟩
  obtain ⟨g,rfl⟩ : ∃x,g=x+1:=⟨g-1,by omega⟩
  unfold Zsu;rw [zP hk];dsimp only;rw [a,if_neg (by omega),if_neg (by omega),zG,ih q hq f g (by omega) (by omega) (by omega)]
theorem ZsW {ns:List Nd} {k:Nat} (hk:k<ns.length) (a:ns[k].ah = -1):ZeD ns k = [k]:=by
 unfold ZeD;cases k with
 | zero=>rfl
 | succ f=>unfold Zsu;rw [zP hk];dsimp only;rw [a,if_pos (by omega)]
theorem ZoS {ns:List Nd} (ht:Zht ns) {k q:Nat} (hk:k<ns.length) (hq:q<k) (a:ns[k].ah=(q:Int)):ZeD ns k=ZeD ns q ++ [k]:=by
 obtain ⟨f,rfl⟩ : ∃x,k=x+1:=⟨k-1,by omega⟩
 unfold ZeD;rw [Zsu,zP hk];dsimp only;rw [a,if_neg (by omega),zG,ZsZ ht q f q (by omega) (by omega) (by omega)]
theorem ZdY {ns:List Nd} (ht:Zht ns) {k:Nat} (hk:k<ns.length) :
  (k=0∧ns[k].ah = -1∧ZeD ns k = [k]∧ns[k].ch.length=1)∨∃q,q<k∧ns[k].ah=(q:Int)∧ZeD ns k=ZeD ns q ++ [k]∧∃hq:q<ns.length,ns[k].ch=ns[q].ch ++ [ns[k].hd]:=by
 rcases ht.ah k hk with ⟨z,a,c⟩ | ⟨q,hq,a,c⟩
 ·exact .inl ⟨z,a,ZsW hk a,c⟩
 exact .inr ⟨q,hq,a,ZoS ht hk hq a,by omega,c⟩
theorem ZiA {ns:List Nd} (ht:Zht ns) : ∀{k:Nat} (hk:k<ns.length),(ZeD ns k).length=ns[k].ch.length:=by
 intro k
 induction k using vV with
 | ind k ih=>
  intro hk;rcases ZdY ht hk with ⟨z,a,e,c⟩ | ⟨q,hq,a,e,hq',c⟩
  ·rw [e,c];rfl
  rw [e,c,zT,zT,ih q hq hq'];rfl
theorem ZoT {ns:List Nd} (ht:Zht ns) {k:Nat} (hk:k<ns.length):(ZeD ns k)[(ZeD ns k).length-1]? = some k:=by
 rcases ZdY ht hk with ⟨z,a,e,c⟩ | ⟨q,hq,a,e,hq',c⟩
 ·rw [e];rfl
 rw [e];simp
theorem Zll {ns:List Nd} (ht:Zht ns) : ∀{k:Nat},k<ns.length→∀x∈ZeD ns k,x≤k:=by
 intro k
 induction k using vV with
 | ind k ih=>
  intro hk x hx;rcases ZdY ht hk with ⟨z,a,e,c⟩ | ⟨q,hq,a,e,hq',c⟩
  ·rw [e] at hx;simp at hx;omega
  rw [e] at hx;rcases List.mem_append.1 hx with hx | hx
  ·have:=ih q hq hq' x hx;omega
  simp at hx;omega
theorem ZqW {ns:List Nd} (ht:Zht ns) : ∀{k:Nat},k<ns.length→∀{h x:Nat},(ZeD ns k)[h]? = some x→x<ns.length∧ZeD ns x=(ZeD ns k).take (h+1):=by
 intro k
 induction k using vV with
 | ind k ih=>
  intro hk h x hx;rcases ZdY ht hk with ⟨z,a,e,c⟩ | ⟨q,hq,a,e,hq',c⟩
  ·rw [e] at hx ⊢;cases h with
   | zero=>cases hx;exact ⟨hk,by rw [e];rfl⟩
   | succ h=>cases hx
  rw [e] at hx ⊢;by_cases hlt:h<(ZeD ns q).length
  ·rw [zV hlt] at hx;obtain ⟨h1,h2⟩:=ih q hq hq' hx;exact ⟨h1,by rw [h2,List.take_append_of_le_length (by omega)]⟩
  rw [yA (by omega)] at hx;have e0:h-(ZeD ns q).length=0:=by
   cases e1:h-(ZeD ns q).length with
   | zero=>rfl
   | succ n=>rw [e1] at hx;cases hx
  rw [e0] at hx;cases hx;exact ⟨hk,by rw [e,zX (by simp;omega)]⟩
theorem rowP_at {ns:List Nd} (ht:Zht ns) {k h x:Nat} (hk:k<ns.length) (hx:(ZeD ns k)[h]? = some x) : ∃h':x<ns.length,ns[x].ch.length=h+1:=by
 obtain ⟨h1,h2⟩:=ZqW ht hk hx;refine ⟨h1,?_⟩;have hl:h<(ZeD ns k).length:=(List.getElem?_eq_some_iff.1 hx).1;rw [←ZiA ht h1,h2,List.length_take];omega
theorem Zny {ns:List Nd} (ht:Zht ns) {k x:Nat} (hk:k<ns.length) (hx:x∈ZeD ns k) : ∃h':x<ns.length,(ZeD ns k)[ns[x].ch.length-1]? = some x:=by
 obtain ⟨h,hx⟩:=List.mem_iff_getElem?.1 hx;obtain ⟨h1,h2⟩:=rowP_at ht hk hx;exact ⟨h1,by rw [h2];exact hx⟩
theorem ZsY (ns:List Nd) (nd:Nd) (ht:Zht ns) : ∀(k f:Nat),k<ns.length→Zsu (ns ++ [nd]) f k=Zsu ns f k:=by
 intro k
 induction k using vV with
 | ind k ih=>
  intro f hk;cases f with
  | zero=>rfl
  | succ f=>
   unfold Zsu;rw [zV hk,zP hk];dsimp only;rcases ht.ah k hk with ⟨z,a,c⟩ | ⟨q,hq,a,c⟩
   ·rw [a,if_pos (by omega),if_pos (by omega)]
   rw [a,if_neg (by omega),if_neg (by omega),zG,ih q hq f (by omega)]
theorem ZhZ {ns:List Nd} (nd:Nd) (ht:Zht ns) {k:Nat} (hk:k<ns.length):ZeD (ns ++ [nd]) k=ZeD ns k:=ZsY ns nd ht k k hk
def Zuv (l:List Nat):List Int:=l.map (fun x:Nat=>(x:Int))
theorem Zic {p:Zae} {room:Int} {ns:List Nd} (ht:Zht ns) (hN:ns.length+2≤N) {k:Nat} (hk:k<ns.length):ZaN N (rOf p room ns) (k:Int)=some (Zed (Zuv (ZeD ns k))):=by
 have sm:=ht.small;unfold ZaN;have lk:=ZiA ht hk;have cb:=(ht.ch _ (yM hk)).2;have key:loopN (ZaN.p1 N (rOf p room ns)) N ([],(k:Int))=some (Zed (Zuv (ZeD ns k))):=by
  refine Zcd (fun m (s:LL×Int)=>∃(q:Nat) (c:List Nat),q=m∧s=(Zed (Zuv c),(q:Int)-1)∧((q=0∧c=ZeD ns k)∨∃h:0<q∧q-1<ns.length,ZeD ns (q-1)++c=ZeD ns k)) ?_ N (k+1) _ ⟨k+1,[],rfl,by rw [show ((k+1:Nat):Int)-1=(k:Int) by omega];rfl,.inr ⟨⟨by omega,by omega⟩,by simp⟩⟩ (by omega);rintro G m _ ⟨q,c,rfl,rfl,ho⟩ hG;unfold ZaN.p1;dsimp only;rcases ho with ⟨rfl,rfl⟩ | ⟨⟨h0,h1⟩,ho⟩
  ·rw [if_neg (by simp)]
  obtain ⟨j,rfl⟩ : ∃j,q=j+1:=⟨q-1,by omega⟩
  simp only [uM] at ho h1;have hj2:j<(ns.map Nd.ah).length:=by simp;omega
  have lo:=congrArg List.length ho;rw [zT,lk] at lo;have e1 : [(j:Int)]++Zuv c=Zuv (j::c):=rfl;rw [show (rOf p room ns).Ahead=Zed (ns.map Nd.ah) from rfl,show ((j+1:Nat):Int)-1=(j:Int) by omega,if_pos (by simp),ZkK,Zhu,e1,Zah (by rw [ZdL];simp [Zuv];omega),Zah (by omega),ZeE,Zah (by omega),zG,Zjn hj2,Zar,Zea,tT];rcases ZdY ht h1 with ⟨z,a,e,cl⟩ | ⟨q,hq,a,e,hq',cl⟩
  ·rw [a];exact hG 0 _ (by omega) ⟨0,_,rfl,rfl,.inl ⟨rfl,by rw [←ho,e];rfl⟩⟩
  rw [a];exact hG (q+1) _ (by omega) ⟨q+1,_,rfl,by rw [show ((q+1:Nat):Int)-1=(q:Int) by omega],.inr ⟨⟨by omega,by simp;omega⟩,by simp only [uM];rw [←ho,e];simp⟩⟩
 exact key
noncomputable def tOf (p:Zae) (room:Int) (ns:List Nd) (lp:List Int):Zaz:=⟨aOf p room ns,Zed lp⟩
structure ZqI (ns:List Nd) (lp:List Int):Prop where
 len:lp.length≤ns.length
 ok : ∀(i:Nat) (v:Int),lp[i]? = some v→v = -1∨∃x:Nat,v=(x:Int)∧x≠i∧x∈ZeD ns i
def hZ (ns:List Nd) (k:Int):Int:=if 0≤k∧k<(ns.length:Int) then ((ns[k.toNat]?.map Nd.ch).getD []).length-1 else -1
theorem Zsh {ns:List Nd} {k:Nat} (hk:k<ns.length):hZ ns (k:Int)=(ns[k].ch.length:Int)-1:=by
 unfold hZ;rw [if_pos (by omega),zG,zP hk];rfl
theorem ZqA {ns:List Nd} {k:Int} (hk:k<0∨(ns.length:Int)≤k):hZ ns k = -1:=by
 unfold hZ;rw [if_neg (by omega)]
theorem Zle (p:Zae) (room:Int) {ns:List Nd} (lp:List Int) {k:Nat} (hk:k<ns.length):ZbP N (tOf p room ns lp) (k:Int)=some (ns[k].en,true):=by
 unfold ZbP;rw [show (tOf p room ns lp).store=aOf p room ns from rfl,Zut p room hk,Zaa]
theorem ZsK (p:Zae) (room:Int) {ns:List Nd} (lp:List Int) {k:Int} (hk:k<0∨(ns.length:Int)≤k) : ∃e,ZbP N (tOf p room ns lp) k=some (e,false):=by
 unfold ZbP;rw [show (tOf p room ns lp).store=aOf p room ns from rfl,Zus p room hk,Zaa];exact ⟨_,rfl⟩
theorem Zim (p:Zae) (room:Int) (ns:List Nd) (lp:List Int) (k:Int):Zbe N (tOf p room ns lp) k=some (hZ ns k):=by
 unfold Zbe;by_cases h:0≤k∧k<(ns.length:Int)
 ·obtain ⟨j,rfl⟩ : ∃j:Nat,k=(j:Int):=⟨k.toNat,by omega⟩
  have hj:j<ns.length:=by omega
  rw [Zle p room lp hj,Zaa];dsimp only;rw [if_neg (by simp),Zsh hj];rfl
 obtain ⟨e,h1⟩:=ZsK (N:=N) p room (ns:=ns) lp (k:=k) (by omega);rw [h1,Zaa];dsimp only;rw [if_pos (by rfl),ZqA (by omega)]
def ancZ (ns:List Nd) (k h:Int):Int:=if 0≤k∧k<(ns.length:Int)∧0≤h then ((ZeD ns k.toNat)[h.toNat]?.map fun (x:Nat)=>(x:Int)).getD (-1) else -1
theorem ancZ_at {ns:List Nd} {k h x:Nat} (hk:k<ns.length) (hx:(ZeD ns k)[h]? = some x):ancZ ns (k:Int) (h:Int)=(x:Int):=by
 unfold ancZ;rw [if_pos (by omega),zG,zG,hx];rfl
theorem ZoQ {ns:List Nd} (ht:Zht ns) {k x y:Nat} (hk:k<ns.length) (hx:x∈ZeD ns k) (hy:y∈ZeD ns x):y∈ZeD ns k:=by
 obtain ⟨h,hx⟩:=List.mem_iff_getElem?.1 hx;obtain ⟨_,e⟩:=ZqW ht hk hx;rw [e] at hy;exact List.mem_of_mem_take hy
theorem row_lt {ns:List Nd} (ht:Zht ns) {x y:Nat} (hx:x<ns.length) (hy:y∈ZeD ns x) (hne:y≠x) : ∃h:y<ns.length,ns[y].ch.length<ns[x].ch.length:=by
 obtain ⟨h,e⟩:=Zny ht hx hy;refine ⟨h,?_⟩;have hl:=(List.getElem?_eq_some_iff.1 e).1;have ll:=ZoT ht hx;have e2:=ZiA ht hx;have p1:=List.length_pos_iff.2 (ht.ch _ (yM h)).1;rcases zU ns[y].ch.length ns[x].ch.length with h3 | h3
 ·exact h3
 rw [show ns[y].ch.length-1=(ZeD ns x).length-1 by omega,ll] at e;cases e;exact absurd rfl hne
theorem Znx {ns:List Nd} (ht:Zht ns) {k:Nat} (hk:k<ns.length):k∈ZeD ns k:=wU (ZoT ht hk)
theorem ZsV {ns:List Nd} (ht:Zht ns) {k q:Nat} (hk:k<ns.length) (hq:q<k) (e:ZeD ns k=ZeD ns q ++ [k]):q∈ZeD ns k:=by
 rw [e];exact List.mem_append.2 (.inl (Znx ht (by omega)))
theorem Zmh (hN:600≤N) {p:Zae} {room:Int} {ns:List Nd} {lp:List Int} (ht:Zht ns) (hl:ZqI ns lp) (k h:Int) (hb:k<(lp.length:Int)∨ns.length≤lp.length):Zaw N (tOf p room ns lp) k h=some (ancZ ns k h):=by
 have sm:=ht.small;unfold Zaw;rw [Zim,Zaa];by_cases h0:h<0
 ·rw [if_pos (by simpa using h0)];unfold ancZ;rw [if_neg (by omega)]
 rw [if_neg (by simpa using h0)];by_cases hk0:k<0∨(ns.length:Int)≤k
 ·rw [ZqA (by omega),if_pos (by simp;omega)];unfold ancZ;rw [if_neg (by omega)]
 obtain ⟨k,rfl⟩ : ∃j:Nat,k=(j:Int):=⟨k.toNat,by omega⟩
 obtain ⟨h,rfl⟩ : ∃j:Nat,h=(j:Int):=⟨h.toNat,by omega⟩
 have hk:k<ns.length:=by omega
 have lk:=ZiA ht hk;have lb:=(ht.ch _ (yM hk)).2;rw [Zsh hk];by_cases h1:(h:Int)>(ns[k].ch.length:Int)-1
 ·rw [if_pos (by simpa using h1)];unfold ancZ;rw [if_pos (by omega),zG,zG,zL (by omega)];rfl
 rw [if_neg (by simpa using h1)];have hh:h<(ZeD ns k).length:=by omega
 obtain ⟨t,et⟩ : ∃t,(ZeD ns k)[h]? = some t:=⟨_,zP hh⟩
 rw [ancZ_at hk et];refine Zcd (fun m (s:Int×Int)=>∃(x:Nat) (hx:x<ns.length),m=ns[x].ch.length∧s=((x:Int),(ns[x].ch.length:Int)-1)∧x∈ZeD ns k∧h+1≤ns[x].ch.length) ?_ N ns[k].ch.length _ ⟨k,hk,rfl,rfl,Znx ht hk,by omega⟩ (by omega);rintro G m _ ⟨x,hx,rfl,rfl,hm,hle⟩ hG;unfold Zaw.p1 Zaw.p2;dsimp only;by_cases hgt:(ns[x].ch.length:Int)-1>(h:Int)
 ·have hx2:x<lp.length:=by
   have:=Zll ht hk x hm;omega
  rw [if_pos (by simpa using hgt),Zle p room lp hx,Zaa];dsimp only;rw [show (tOf p room ns lp).leaps=Zed lp from rfl,Zah (by omega),ZeE,Zah (by omega),zG,Zjn hx2,Zar,Zea,show (ns[x].en).Ahead=ns[x].ah from rfl];rcases ZdY ht hx with ⟨z,a,e,c⟩ | ⟨q,hq,a,e,hq',c⟩
  ·omega
  have cl:=congrArg List.length c;rw [zT,yS] at cl;have toq:G ((q:Int),(ns[q].ch.length:Int)-1)=some (t:Int):=hG ns[q].ch.length _ (by omega) ⟨q,hq',rfl,rfl,ZoQ ht hk hm (ZsV ht hx hq e),by omega⟩;rcases hl.ok x lp[x] (zP hx2) with v | ⟨y,v,hne,hy⟩
  ·rw [v,if_neg (by simp),a,Zim,Zaa,Zsh hq'];exact toq
  obtain ⟨hy',hyl⟩:=row_lt ht hx hy hne;rw [v,if_pos (by simp<;>omega),Zim,Zaa,Zsh hy'];by_cases h3:(ns[y].ch.length:Int)-1≥(h:Int)
  ·rw [if_pos (by simpa using h3),Zaa];exact hG ns[y].ch.length _ hyl ⟨y,hy',rfl,rfl,ZoQ ht hk hm hy,by omega⟩
  rw [if_neg (by simpa using h3),a,Zim,Zaa,Zsh hq'];exact toq
 obtain ⟨h3,e3⟩:=Zny ht hk hm;rw [show ns[x].ch.length-1=h by omega,et] at e3;cases e3;rw [if_neg (by simpa using hgt)]
def ZfS (ns:List Nd) (k o:Int):Bool:=decide (0≤k∧k<(ns.length:Int)∧0≤o∧o<(ns.length:Int)∧k.toNat∈ZeD ns o.toNat)
theorem Zmf (hN:600≤N) {p:Zae} {room:Int} {ns:List Nd} {lp:List Int} (ht:Zht ns) (hl:ZqI ns lp) (hb:ns.length≤lp.length) (k o:Int):Zcl N (tOf p room ns lp) k o=some (ZfS ns k o):=by
 unfold Zcl;rw [Zim,Zaa];by_cases hk0:k<0∨(ns.length:Int)≤k
 ·rw [ZqA (by omega),if_neg (by simp)];unfold ZfS;rw [decide_eq_false (by omega)]
 obtain ⟨k,rfl⟩ : ∃j:Nat,k=(j:Int):=⟨k.toNat,by omega⟩
 have hk:k<ns.length:=by omega
 have pk:=List.length_pos_iff.2 (ht.ch _ (yM hk)).1;rw [Zsh hk,if_pos (by simp;omega),Zmh hN ht hl _ _ (.inr hb),Zaa]
 congr 1
 unfold ZfS ancZ;by_cases ho:o<0∨(ns.length:Int)≤o
 ·rw [if_neg (by omega),decide_eq_false (by omega)];simp<;>omega
 obtain ⟨o,rfl⟩ : ∃j:Nat,o=(j:Int):=⟨o.toNat,by omega⟩
 have ho':o<ns.length:=by omega
 rw [if_pos (by omega),zG,zG,show ((ns[k].ch.length:Int)-1).toNat=ns[k].ch.length-1 by omega];by_cases hm:k∈ZeD ns o
 ·obtain ⟨h1,h2⟩:=Zny ht ho' hm;rw [h2,decide_eq_true ⟨by omega,by omega,by omega,by omega,hm⟩];simp
 rw [decide_eq_false (fun h=>hm h.2.2.2.2)];cases e:(ZeD ns o)[ns[k].ch.length-1]? with
 | none=>simp<;>omega
 | some y=>
  have:y≠k:=fun h=>hm (by rw [←h];exact wU e);simp<;>omega
end Go.Dn.F
set_option maxRecDepth 100000
namespace Go.Dn.F
open Go.Dn Go.Proofs
variable {N:Nat}
end Go.Dn.F
set_option maxRecDepth 40000
namespace Go.Dn.F
open Go.Dn Go.Proofs
variable {N:Nat}
noncomputable def Zgi (ia:Nat) (lp:List Int):List L:=[zQ (some ia),yB true 1 (Zed lp)]
structure Zhr (st:LL) (ia it:Nat) (p:Zae) (room:Int) (ns:List Nd) (lp:List Int):Prop where
 a:st[ia]? = some (aOf p room ns).lo
 t:st[it]? = some (Zgi ia lp)
 ne:ia≠it
 lv:ZqI ns lp
 len:lp.length=ns.length
 tr:Zht ns
theorem skH_eq (h:Int) : ∃x,Zeo N h=some x:=by
 unfold Zeo ZdX;by_cases h1:h<2
 ·rw [if_pos (by simpa using h1)];exact ⟨_,rfl⟩
 rw [if_neg (by simpa using h1)];by_cases h2:ZaH .and .i64 h 1=0
 ·rw [if_pos (by simpa using h2)];exact ⟨_,rfl⟩
 rw [if_neg (by simpa using h2)];exact ⟨_,rfl⟩
theorem Zss (p:Zae) (gs:List ZcN) (cs:List Zco) (room:Int) (ns:List Nd) (h:Zak) (now:Int) :
  ((Zjg p gs cs room ns h now).2.2.2=ns∧((Zjg p gs cs room ns h now).2.2.1≠0∨∃k:Nat,k<ns.length∧(Zjg p gs cs room ns h now).1=(k:Int)))∨∃k:Nat,k<ns.length∧ZeQ 0 (ids ns) (hid h)=none∧(ns.length:Int)<room ∧
   Zjg p gs cs room ns h now=((ns.length:Int),0,0,ns ++ [ZdZ ns k h]):=by
 unfold Zjg;by_cases hg:Zgv h=false
 ·rw [if_pos hg];exact .inl ⟨rfl,.inl (by simp)⟩
 rw [if_neg hg];cases e1:ZeQ 0 (ids ns) (hid h) with
 | some k=>
  obtain ⟨_,hk,_⟩:=ZgD e1;have hk':k<ns.length:=by simpa [ids] using hk
  exact .inl ⟨rfl,.inr ⟨k,hk',rfl⟩⟩
 | none=>
  dsimp only;cases e2:ZeQ 0 (ids ns) h.Prev with
  | none=>exact .inl ⟨rfl,.inl (by simp)⟩
  | some k=>
   dsimp only;obtain ⟨_,hk,_⟩:=ZgD e2;have hk':k<ns.length:=by simpa [ids] using hk
   by_cases h1:ZfD p gs cs (Zdn p (chAt ns k)) h now=0
   ·rw [if_neg (by simp [h1])];by_cases h2:room≤(ns.length:Int)
    ·rw [if_pos h2];exact .inl ⟨rfl,.inl (by simp)⟩
    rw [if_neg h2];exact .inr ⟨k,hk',rfl,by omega,rfl⟩
   rw [if_pos h1];exact .inl ⟨rfl,.inl (by simp)⟩
theorem ZqI.grow {ns:List Nd} {lp:List Int} (ht:Zht ns) (hl:ZqI ns lp) (hlen:lp.length=ns.length) {nd:Nd} (ht':Zht (ns ++ [nd])) {k:Nat} (hk:k<ns.length) (ha:nd.ah=(k:Int)) (h:Int):ZqI (ns ++ [nd]) (lp ++ [ancZ (ns ++ [nd]) (k:Int) h]) where
 len:=by simp [hlen]
 ok:=fun i v hv=>by
  by_cases hi:i<lp.length
  ·rw [zV hi] at hv;rcases hl.ok i v hv with h1 | ⟨x,h1,h2,h3⟩
   ·exact .inl h1
   exact .inr ⟨x,h1,h2,by rw [ZhZ nd ht (by omega)];exact h3⟩
  have e0:i=ns.length:=by
   have:=(List.getElem?_eq_some_iff.1 hv).1;simp at this;omega
  subst e0;rw [yA (by omega),hlen,Nat.sub_self] at hv;cases hv;have hn:ns.length<(ns ++ [nd]).length:=by simp
  have ea:(ns ++ [nd])[ns.length].ah=(k:Int):=by simpa using ha
  rw [ZoS ht' hn hk ea,ZhZ nd ht hk];unfold ancZ;by_cases hc:0≤(k:Int)∧(k:Int)<((ns ++ [nd]).length:Int)∧0≤h
  ·rw [if_pos hc,zG,ZhZ nd ht hk];cases e:(ZeD ns k)[h.toNat]? with
   | none=>exact .inl rfl
   | some y=>
    have hy:=wU e;have:=Zll ht hk y hy;exact .inr ⟨y,rfl,by omega,List.mem_append.2 (.inl hy)⟩
  rw [if_neg hc];exact .inl rfl
theorem skAdd_eq (hN:600≤N) {st:LL} {ia it:Nat} {p:Zae} {gs:List ZcN} {cs:List Zco} (hg:p.Gates=Zmp gs) (hc:p.Checks=ZjN cs) (lg:gs.length≤400) (lc:cs.length≤400) {room:Int} (hroom:room≤512) {ns:List Nd} {lp:List Int} (T:Zhr st ia it p room ns lp)
  {h:Zak} (hh:WfH h) (now:Int) (hnow : -1152921504606846976≤now∧now≤9223372036854775807) :
  ∃lp' st',Zch N (some it) h now st=some ((Zjg p gs cs room ns h now).1,(Zjg p gs cs room ns h now).2.1,(Zjg p gs cs room ns h now).2.2.1,st')∧Zhr st' ia it p room (Zjg p gs cs room ns h now).2.2.2 lp'∧(∀j,j≠ia→j≠it→st'[j]? = st[j]?):=by
 have ht':=Zul (p:=p) (gs:=gs) (cs:=cs) hroom T.tr hh now;unfold Zch Zch.p1;rw [if_neg (c:=Option.isNone (some it)=true) (by simp),Zaa,T.t,Zar];unfold Zgi;rw [ZcU,Add_eq (by omega) hg hc lg lc hroom T.tr T.a hh now hnow,Zaa];dsimp only;rcases Zss p gs cs room ns h now with ⟨e,e1⟩ | ⟨k,hk,hpl,hlr,e⟩
 ·rw [e,Ziz T.a];refine ⟨lp,st,?_,T,fun j _ _=>rfl⟩;by_cases h6:(Zjg p gs cs room ns h now).2.2.1=0
  ·rcases e1 with e1 | ⟨k,hk,e1⟩
   ·exact absurd h6 e1
   rw [if_pos (by simpa using h6),T.t,Zar];unfold Zgi;rw [ZcU,if_neg (by rw [e1,ZeE,T.len];simp;omega)]
  rw [if_neg (by simpa using h6)]
 rw [e] at ht' ⊢;dsimp only at ht' ⊢;have t2:(st.set ia (aOf p room (ns ++ [ZdZ ns k h])).lo)[it]? = some (Zgi ia lp):=by
  rw [zO T.ne];exact T.t
 have a2:(st.set ia (aOf p room (ns ++ [ZdZ ns k h])).lo)[ia]? = some (aOf p room (ns ++ [ZdZ ns k h])).lo:=zN (List.getElem?_eq_some_iff.1 T.a).1;have hit:=(List.getElem?_eq_some_iff.1 t2).1;have hn:ns.length<(ns ++ [ZdZ ns k h]).length:=by simp
 have en:(ns ++ [ZdZ ns k h])[ns.length]=ZdZ ns k h:=by simp
 obtain ⟨hx,eh⟩:=skH_eq (N:=N) ((ns ++ [ZdZ ns k h])[ns.length].en).Height;have lv:ZqI (ns ++ [ZdZ ns k h]) lp:=⟨by rw [T.len];simp,fun i v hv=>by
  have hi:=(List.getElem?_eq_some_iff.1 hv).1;rcases T.lv.ok i v hv with h1 | ⟨x,h1,h2,h3⟩
  ·exact .inl h1
  exact .inr ⟨x,h1,h2,by rw [ZhZ _ T.tr (by rw [←T.len];exact hi)];exact h3⟩⟩
 have sm:=T.tr.small;rw [if_pos (by rfl),t2,Zar];unfold Zgi;rw [ZcU,if_pos (by rw [ZeE,T.len];simp),Zaa,a2,Zar,ZbL,Zut p room hn,Zaa];dsimp only;rw [eh,Zaa,show ((ns ++ [ZdZ ns k h])[ns.length].en).Ahead=(ns ++ [ZdZ ns k h])[ns.length].ah from rfl,en,show (ZdZ ns k h).ah=(k:Int) from rfl,show (Zaz.mk (aOf p room (ns ++ [ZdZ ns k h])) (Zed lp))=tOf p room (ns ++ [ZdZ ns k h]) lp from rfl,Zmh hN ht' lv _ _ (.inl (by rw [T.len];omega)),Zaa,ZkK,Zhu,Zah (by rw [ZdL,zT,yS,T.len];omega),yT];refine ⟨_,_,rfl,⟨?_,?_,T.ne,T.lv.grow T.tr T.len ht' hk rfl hx,by simp [T.len],ht'⟩,fun j h1 h2=>?_⟩
 ·rw [zO (Ne.symm T.ne)];exact a2
 ·exact zN hit
 rw [zO (Ne.symm h2),zO (Ne.symm h1)]
theorem ZqS (hN:500≤N) {p:Zae} {gs:List ZcN} {cs:List Zco} (hg:p.Gates=Zmp gs) (hc:p.Checks=ZjN cs) (lg:gs.length≤400) (lc:cs.length≤400) (hp:WfP p) (room:Int) (st:LL) :
  Zfr N p room st=if Zmq p gs cs=true then some (some (st.length+1),0,(st ++ [(aOf p (Zkt room) [ZfI p]).lo]) ++ [Zgi st.length [-1]]) else some (none,1,st):=by
 unfold Zfr;rw [New_eq hN hg hc lg lc hp];cases Zmq p gs cs with
 | false=>rfl
 | true=>
  rw [if_pos rfl,Zaa,if_pos (c:=true=true) rfl];dsimp only;rw [if_neg (by simp),zT,yS];rfl
theorem ZqT {p:Zae} (hp:WfP p) (room:Int) (st:LL):Zhr ((st ++ [(aOf p room [ZfI p]).lo]) ++ [Zgi st.length [-1]]) st.length (st.length+1) p room [ZfI p] [-1] where
 a:=by rw [zV (by simp)];simp
 t:=by rw [yA (by simp)];simp
 ne:=by omega
 lv:=⟨by simp,fun i v hv=>by
  cases i with
  | zero=>cases hv;exact .inl rfl
  | succ i=>cases hv⟩
 len:=rfl
 tr:=Zht.one_node hp.h
theorem Zhr.app {st:LL} {ia it:Nat} {p:Zae} {room:Int} {ns:List Nd} {lp:List Int} (T:Zhr st ia it p room ns lp) (x:LL):Zhr (st++x) ia it p room ns lp where
 a:=by rw [zV (List.getElem?_eq_some_iff.1 T.a).1];exact T.a
 t:=by rw [zV (List.getElem?_eq_some_iff.1 T.t).1];exact T.t
 ne:=T.ne
 lv:=T.lv
 len:=T.len
 tr:=T.tr
end Go.Dn.F
set_option maxRecDepth 100000
namespace Go.Dn.F
open Go.Dn Go.Proofs
variable {N:Nat}
def ZkI (S:List Int) (O:List Bool) (k:Nat):Bool:=O.getD k false||S.getD k 0==2
def chZ (ns:List Nd) (S:List Int) (O:List Bool) (k:Nat):Bool:=(ZeD ns k).dropLast.any (ZkI S O)
def flZ (ns:List Nd) (S:List Int) (O:List Bool) (k:Nat):Bool:=(ZeD ns k).any (ZkI S O)
def stZ (ns:List Nd) (S:List Int) (O:List Bool) (k:Nat):ZaQ:=⟨S.getD k 0,O.getD k false,chZ ns S O k⟩
def ZeS (ns:List Nd) (S:List Int) (O:List Bool):List ZaQ:=(vF ns.length).map (stZ ns S O)
noncomputable def rowM (l:List ZaQ):LL:=l.map ZaQ.ls
noncomputable def mk2 (it:Nat) (l:List ZaQ):List L:=[zQ (some it),yB true 3 (rowM l)]
theorem rowP_cat {ns:List Nd} (ht:Zht ns) {k:Nat} (hk:k<ns.length) : ∃l,ZeD ns k=l ++ [k]:=by
 rcases ZdY ht hk with ⟨_,_,e,_⟩ | ⟨q,_,_,e,_⟩
 ·exact ⟨[],e⟩
 exact ⟨_,e⟩
theorem Zro {ns:List Nd} (ht:Zht ns) {k:Nat} (hk:k<ns.length) (S:List Int) (O:List Bool):flZ ns S O k=(chZ ns S O k||ZkI S O k):=by
 obtain ⟨l,e⟩:=rowP_cat ht hk;unfold flZ chZ;rw [e,uT,List.any_append];simp
theorem Zoo {ns:List Nd} (ht:Zht ns) {k:Nat} (e:ZeD ns k = [k]) (S:List Int) (O:List Bool):chZ ns S O k=false:=by
 unfold chZ;rw [e];rfl
theorem Zrv {ns:List Nd} {k q:Nat} (e:ZeD ns k=ZeD ns q ++ [k]) (S:List Int) (O:List Bool):chZ ns S O k=flZ ns S O q:=by
 unfold chZ flZ;rw [e,uT]
theorem ZlR (x:ZaQ):Zcu N x=some (x.out||x.verdict==2):=by
 unfold Zcu;cases h:x.out
 ·rw [if_neg (by simp)];simp
 rw [if_pos rfl];simp
@[simp] theorem Zgg (ns:List Nd) (S:List Int) (O:List Bool):(ZeS ns S O).length=ns.length:=by simp [ZeS]
theorem Zgh {ns:List Nd} {S:List Int} {O:List Bool} {k:Nat} (hk:k<ns.length):(ZeS ns S O)[k]? = some (stZ ns S O k):=by simp [ZeS,hk]
@[simp] theorem rowM_length (l:List ZaQ):(rowM l).length=l.length:=by simp [rowM]
@[simp] theorem ZhD (l:List ZaQ):len (rowM l)=(l.length:Int):=by simp [len,rowM]
theorem Zjm {l:List ZaQ} {k:Nat} {x:ZaQ} (h:l[k]? = some x):(rowM l)[0+k]? = some x.ls:=by simp [rowM,h]
theorem Zia {ns:List Nd} {S:List Int} {O:List Bool} {k:Nat} (hk:k<ns.length):(rowM (ZeS ns S O))[0+k]? = some (stZ ns S O k).ls:=Zjm (Zgh hk)
theorem ZtK {ns:List Nd} {S:List Int} {O:List Bool} {j:Nat} (hj:j<ns.length):(ZeS ns S O).take (j+1)=(ZeS ns S O).take j ++ [stZ ns S O j]:=by
 rw [yG (by simpa using hj)]
 congr 2
 have:=Zgh (S:=S) (O:=O) hj;rw [zP (by simpa using hj)] at this;exact Option.some.inj this
theorem ZeR {α:Type} (it:Nat) (l:List ZaQ) (k:Option Nat→LL→Option α):Zcj (mk2 it l) k=k (some it) (rowM l):=rfl
theorem ZtI {c1:(Int×LL)→Option LL} {im it:Nat} {st:LL} {l:List ZaQ} {s:ZaQ} (hm:im<st.length) (hl:l.length≤1000) (j:Int) :
  ZaL.p2 N c1 im j s (st.set im (mk2 it l))=c1 (w64 (j+1),st.set im (mk2 it (l ++ [s]))):=by
 unfold ZaL.p2;rw [zN hm,Zar,ZeR,Zah (by simp;omega),yT,yT];simp [mk2,rowM]
theorem Zhr.setIm {st:LL} {ia it im:Nat} {p:Zae} {room:Int} {ns:List Nd} {lp:List Int} {x:List L} (T:Zhr st ia it p room ns lp) (na:im≠ia) (nt:im≠it):Zhr (st.set im x) ia it p room ns lp:=
 ⟨by rw [zO na];exact T.a,by rw [zO nt];exact T.t,T.ne,T.lv,T.len,T.tr⟩
theorem Len_eq {st:LL} {ia it:Nat} {p:Zae} {room:Int} {ns:List Nd} {lp:List Int} (T:Zhr st ia it p room ns lp):ZdE N (some it) st=some ((ns.length:Int),st):=by
 unfold ZdE;rw [if_neg (by simp),Zaa,T.t,Zar];unfold Zgi;rw [ZcU,Zaa,T.a,Zar,ZbL,Len_v_eq,Zaa]
theorem grow_eq (hN:600≤N) {st:LL} {ia it im:Nat} {p:Zae} {room:Int} {ns:List Nd} {lp:List Int} {S:List Int} {O:List Bool} {k:Nat} (T:Zhr st ia it p room ns lp) (h1:im≠ia) (h2:im≠it)
  (hm:st[im]? = some (mk2 it ((ZeS ns S O).take k))) (hk:k≤ns.length) (hnew : ∀i,k≤i→i<ns.length→S.getD i 0=(if i=0 then 1 else 0)∧O.getD i false=false) (small:ns.length≤500) :
  ZaL N (some im) st=some (st.set im (mk2 it (ZeS ns S O))):=by
 unfold ZaL;have him:im<st.length:=(List.getElem?_eq_some_iff.1 hm).1;have e0:len (rowM ((ZeS ns S O).take k))=(k:Int):=by simp;omega
 rw [Zaa,hm,Zar,ZeR,e0]
 conv=>lhs;rw [←Ziz hm]
 refine Zcd (fun m (s:Int×LL)=>∃j,k≤j∧j+m=ns.length∧s=((j:Int),st.set im (mk2 it ((ZeS ns S O).take j)))) ?_ N (ns.length-k) _ ⟨k,by omega,by omega,rfl⟩ (by omega);rintro G m _ ⟨j,hj,hjm,rfl⟩ hG;unfold ZaL.p1;dsimp only;rw [zN him,Zar,ZeR,Len_eq (T.setIm h1 h2),Zaa];dsimp only;by_cases hlt:j<ns.length
 ·rw [if_pos (by simp;omega),zN him,Zar,ZeR,Zaa,zO h2,T.t,Zar];unfold Zgi;rw [ZcU,Zaa,zO h1,T.a,Zar,ZbL,show (Zaz.mk (aOf p room ns) (Zed lp))=tOf p room ns lp from rfl,Zle p room lp hlt,Zaa];dsimp only;have hn:=hnew j hj hlt;have el:((ZeS ns S O).take j).length=j:=by simp;omega
  have fin : ∀s,s=stZ ns S O j→ZaL.p2 N G im (j:Int) s (st.set im (mk2 it ((ZeS ns S O).take j)))=some (st.set im (mk2 it (ZeS ns S O))):=by
   rintro s rfl;rw [ZtI him (by omega),←ZtK hlt,ZaJ (by omega) (by omega)];exact hG (m-1) _ (by omega) ⟨j+1,by omega,by omega,by rw [Int.natCast_add];rfl⟩
  rw [show (ns[j].en).Ahead=ns[j].ah from rfl];rcases ZdY T.tr hlt with ⟨z,a,e,_⟩ | ⟨q,hq,a,e,hq',_⟩
  ·rw [a,if_neg (by simp)];refine fin _ ?_;subst z;unfold stZ;rw [Zoo T.tr e,hn.1,hn.2,if_pos rfl]
  have ec:=Zrv e S O;rw [Zro T.tr hq'] at ec;have eq:(rowM ((ZeS ns S O).take j))[0+q]? = some (stZ ns S O q).ls:=Zjm (by rw [tA hq];exact Zgh hq');rw [a,if_pos (by simp<;>omega),Zah (by omega),Zah (by rw [ZhD,el];omega),zG,eq,Zar,Zde,show (stZ ns S O q).child=chZ ns S O q from rfl,ZlR,show ((stZ ns S O q).out||(stZ ns S O q).verdict==2)=ZkI S O q from rfl,Zaa];have hj0:j≠0:=by omega
  cases hc:chZ ns S O q
  ·rw [if_neg (by simp)];refine fin _ ?_;unfold stZ;rw [ec,hc,hn.1,hn.2,if_neg hj0,vZ]
  rw [if_pos rfl];refine fin _ ?_;unfold stZ;rw [ec,hc,hn.1,hn.2,if_neg hj0,rF]
 rw [if_neg (by simp;omega),zX (by simp;omega)]
structure ZiO (st:LL) (ia it im:Nat) (p:Zae) (room:Int) (ns:List Nd) (lp:List Int) (S:List Int) (O:List Bool):Prop where
 T:Zhr st ia it p room ns lp
 na:im≠ia
 nt:im≠it
 k : ∃k,k≤ns.length∧st[im]? = some (mk2 it ((ZeS ns S O).take k))∧∀i,k≤i→S.getD i 0=(if i=0 then 1 else 0)∧O.getD i false=false
 small:ns.length≤500
noncomputable def gst (st:LL) (im it:Nat) (ns:List Nd) (S:List Int) (O:List Bool):LL:=st.set im (mk2 it (ZeS ns S O))
def inB (ns:List Nd) (k:Int):Bool:=decide (0≤k)&&decide (k<(ns.length:Int))
theorem inB_true {ns:List Nd} {k:Int}:inB ns k=true↔0≤k∧k<(ns.length:Int):=by simp [inB]
theorem Zqz {ns:List Nd} {k:Int} (h:inB ns k=true) : ∃j:Nat,k=(j:Int)∧j<ns.length:=by
 rw [inB_true] at h;exact ⟨k.toNat,by omega,by omega⟩
section
variable {st:LL} {ia it im:Nat} {p:Zae} {room:Int} {ns:List Nd} {lp:List Int} {S:List Int} {O:List Bool}
theorem ZiO.im_lt (M:ZiO st ia it im p room ns lp S O):im<st.length:=by
 obtain ⟨k,_,h,_⟩:=M.k;exact (List.getElem?_eq_some_iff.1 h).1
theorem ZiO.gm (M:ZiO st ia it im p room ns lp S O):(gst st im it ns S O)[im]? = some (mk2 it (ZeS ns S O)):=zN M.im_lt
theorem ZiO.gst_len (M:ZiO st ia it im p room ns lp S O) : ∀i,ns.length≤i→S.getD i 0=(if i=0 then 1 else 0)∧O.getD i false=false:=by
 obtain ⟨k,hk,_,h⟩:=M.k;exact fun i hi=>h i (by omega)
theorem ZiO.gst (M:ZiO st ia it im p room ns lp S O):ZiO (gst st im it ns S O) ia it im p room ns lp S O:=
 ⟨M.T.setIm M.na M.nt,M.na,M.nt,⟨ns.length,Nat.le_refl _,by rw [M.gm,zX (by simp)],M.gst_len⟩,M.small⟩
theorem Zjc:F.gst (F.gst st im it ns S O) im it ns S O=F.gst st im it ns S O:=by unfold F.gst;rw [yT]
theorem ZtA (hN:600≤N) (M:ZiO st ia it im p room ns lp S O) (k:Int):Zcs N (some im) k st=some (inB ns k,gst st im it ns S O):=by
 unfold Zcs;obtain ⟨j,hj,hm,hn⟩:=M.k;rw [if_neg (by simp),grow_eq hN M.T M.na M.nt hm hj (fun i h1 _=>hn i h1) M.small,Zaa,show st.set im (mk2 it (ZeS ns S O))=gst st im it ns S O from rfl];by_cases h:0≤k
 ·rw [if_pos (by simpa using h),Zaa,M.gm,Zar,ZeR];simp [inB,h]
 rw [if_neg (by simpa using h)];simp [inB,h]
def atZ (ns:List Nd) (f:Nat→Bool) (k:Int):Bool:=inB ns k&&f k.toNat
theorem Ziw (hN:600≤N) (M:ZiO st ia it im p room ns lp S O) (k:Int):ZbJ N (some im) k st=some (atZ ns (flZ ns S O) k,gst st im it ns S O):=by
 unfold ZbJ;rw [ZtA hN M,Zaa];dsimp only;unfold atZ;cases h:inB ns k
 ·rw [if_neg (by simp)];rfl
 obtain ⟨j,rfl,hj⟩:=Zqz h;rw [if_pos rfl,Zaa,M.gm,Zar,ZeR,Zah (by omega),Zah (by simp<;>omega),zG,Zia hj,Zar,Zde,ZlR,Zaa,Zro M.T.tr hj];show (if chZ ns S O j=true then _ else _)=_;cases chZ ns S O j<;>rfl
def ZiJ (ns:List Nd) (k:Int):Int:=if inB ns k=true then (if k=0 then 1 else 0) else 5
theorem Zma (hN:600≤N) (M:ZiO st ia it im p room ns lp S O) (k:Int):Zcg N (some im) k st=some (ZiJ ns k,gst st im it ns S O):=by
 unfold Zcg ZiJ;rw [if_neg (by simp),ZtA hN M,Zaa];dsimp only;cases h:inB ns k
 ·rw [if_pos (by rfl),if_neg (by simp)]
 rw [if_neg (by simp),if_pos rfl];by_cases h0:k=0
 ·rw [if_pos (by simpa using h0),if_pos h0]
 rw [if_neg (by simpa using h0),if_neg h0]
theorem full_ext {l:List ZaQ} (hl:l.length=ns.length) (h : ∀i,i<ns.length→l[i]? = some (stZ ns S O i)):l=ZeS ns S O:=by
 refine xH fun i=>?_;rcases zU i ns.length with hi | hi
 ·rw [h i hi,Zgh hi]
 rw [zL (by omega),zL (by simp;omega)]
theorem ZoM (hN:600≤N) (T:Zhr st ia it p room ns lp) (na:im≠ia) (nt:im≠it) {l:List ZaQ} (hm:st[im]? = some (mk2 it l)) (hl:l.length=ns.length)
  (h1 : ∀i,i<ns.length→∃c,l[i]? = some ⟨S.getD i 0,O.getD i false,c⟩) {fr:Int} {f:Nat} (hf:(if (1:Int)>fr then 1 else fr)=(f:Int)) (hfp:1≤f) (h0 : ∀i,i<ns.length→i<f→l[i]? = some (stZ ns S O i)) (small:ns.length≤500) :
  Zba N (some im) fr st=some (st.set im (mk2 it (ZeS ns S O))):=by
 unfold Zba;have him:im<st.length:=(List.getElem?_eq_some_iff.1 hm).1;rw [hf]
 conv=>lhs;rw [←Ziz hm]
 refine Zcd (fun m (s:(Option Nat)×Int×LL)=>∃(j:Nat) (l:List ZaQ),1≤j∧ns.length≤j+m∧s=(some im,(j:Int),st.set im (mk2 it l))∧l.length=ns.length∧(∀i,i<ns.length→∃c,l[i]? = some ⟨S.getD i 0,O.getD i false,c⟩)∧(∀i,i<ns.length→i<j→l[i]? = some (stZ ns S O i))) ?_ N ns.length _ ⟨f,l,hfp,by omega,rfl,hl,h1,h0⟩ (by omega);rintro G m _ ⟨j,l,hj,hjm,rfl,hl,h1,h0⟩ hG;unfold Zba.p1;dsimp only;rw [Zaa,zN him,Zar,ZeR,ZhD,hl];by_cases hlt:j<ns.length
 ·rw [if_pos (by simp<;>omega),Zaa,zO nt,T.t,Zar];unfold Zgi;rw [ZcU,Zaa,zO na,T.a,Zar,ZbL,show (Zaz.mk (aOf p room ns) (Zed lp))=tOf p room ns lp from rfl,Zle p room lp hlt,Zaa];dsimp only;rw [show (ns[j].en).Ahead=ns[j].ah from rfl];obtain ⟨q,hq,a,e,hq',_⟩ : ∃q,q<j∧ns[j].ah=(q:Int)∧ZeD ns j=ZeD ns q ++ [j]∧∃hq:q<ns.length,True:=by
   rcases ZdY T.tr hlt with ⟨z,_,_,_⟩ | ⟨q,hq,a,e,hq',_⟩
   ·omega
   exact ⟨q,hq,a,e,hq',trivial⟩
  obtain ⟨c,hc⟩:=h1 j hlt;have ec:=Zrv e S O;rw [Zro T.tr hq'] at ec;have gq:=Zjm (h0 q hq' hq);have gj:=Zjm hc;have fin : ∀x,x=chZ ns S O j→G (some im,w64 ((j:Int)+1),zM (st.set im (mk2 it l)) im [zQ (some it),yB true 3 (zM (rowM l) (0+j) (ZaQ.ls ⟨S.getD j 0,O.getD j false,x⟩))])=some (st.set im (mk2 it (ZeS ns S O))):=by
   rintro x rfl;rw [ZaJ (by omega) (by omega),yT];refine hG (m-1) _ (by omega) ⟨j+1,l.set j (stZ ns S O j),by omega,by omega,?_,by simpa using hl,fun i hi=>?_,fun i hi hij=>?_⟩
   ·simp only [mk2,rowM,uU,yE];rfl
   ·by_cases hij:i=j
    ·subst hij;exact ⟨_,zN (by omega)⟩
    rw [zO (by omega)];exact h1 i hi
   by_cases hij':i=j
   ·subst hij';exact zN (by omega)
   rw [zO (by omega)];exact h0 i hi (by omega)
  rw [a,Zah (by omega),Zah (by omega),zG,gq,Zar,Zde,ZlR,Zaa,zG,gj,Zar,Zde,Zah (by omega),Zar,Zde];show (if chZ ns S O q=true then _ else _)=_;cases hc:chZ ns S O q
  ·rw [if_neg (by simp)];refine fin (ZkI S O q) ?_;rw [ec,hc,vZ]
  rw [if_pos rfl];refine fin true ?_;rw [ec,hc,rF]
 rw [if_neg (by simp<;>omega),full_ext hl fun i hi=>h0 i hi (by omega)]
end
end Go.Dn.F
namespace Go.Dn.F
open Go.Dn Go.Proofs
variable {N:Nat}
theorem Zgx {α:Type} {l:List α} {k:Nat} (hk:k<l.length) (v d:α) (i:Nat):(l.set k v).getD i d=if i=k then v else l.getD i d:=by
 rw [yC,yC];by_cases h:i=k
 ·subst h;rw [zN hk,if_pos rfl];rfl
 rw [zO (fun e=>h e.symm),if_neg h]
theorem Zsn {ns:List Nd} (ht:Zht ns) {S S':List Int} {O O':List Bool} {k:Nat} (h : ∀x,x<k→ZkI S' O' x=ZkI S O x) {i:Nat} (hi:i<ns.length) (hik:i≤k):chZ ns S' O' i=chZ ns S O i:=by
 unfold chZ;rcases ZdY ht hi with ⟨_,_,e,_⟩ | ⟨q,hq,_,e,hq',_⟩
 ·rw [e];rfl
 rw [e,uT];have key : ∀l:List Nat,(∀x∈l,x<k)→l.any (ZkI S' O')=l.any (ZkI S O):=by
  intro l
  induction l with
  | nil=>intro _;rfl
  | cons y l ih=>intro hy;rw [vY,vY,h y (hy y (by simp)),ih fun x hx=>hy x (by simp [hx])]
 exact key _ fun x hx=>by have:=Zll ht hq' x hx;omega
section
variable {st:LL} {ia it im:Nat} {p:Zae} {room:Int} {ns:List Nd} {lp:List Int} {S:List Int} {O:List Bool}
theorem ZgA {ns:List Nd} {k:Int} (h:ZiJ ns k=0) : ∃j:Nat,k=(j:Int)∧j<ns.length∧1≤j:=by
 unfold ZiJ at h;cases hb:inB ns k
 ·rw [hb,if_neg (by simp)] at h;cases h
 obtain ⟨j,rfl,hj⟩:=Zqz hb;rw [hb,if_pos rfl] at h;refine ⟨j,rfl,hj,?_⟩;by_cases h0:(j:Int)=0
 ·rw [if_pos h0] at h;cases h
 omega
theorem ZsD (hN:600≤N) (M:ZiO st ia it im p room ns lp S O) {S':List Int} {O':List Bool} {j:Nat} (hj:j<ns.length) (hj1:1≤j) (hS : ∀i,i≠j→S'.getD i 0=S.getD i 0) (hO : ∀i,i≠j→O'.getD i false=O.getD i false) {x:ZaQ} (hx:x=⟨S'.getD j 0,O'.getD j false,chZ ns S O j⟩) :
  Zba N (some im) (j:Int) (zM (gst st im it ns S O) im [zQ (some it),yB true 3 (zM (rowM (ZeS ns S O)) (0+j) x.ls)])=some (gst st im it ns S' O'):=by
 subst hx;have hb : ∀i,i<j→ZkI S' O' i=ZkI S O i:=fun i hi=>by unfold ZkI;rw [hS i (by omega),hO i (by omega)]
 have e : [zQ (some it),yB true 3 (zM (rowM (ZeS ns S O)) (0+j) (ZaQ.ls ⟨S'.getD j 0,O'.getD j false,chZ ns S O j⟩))]=mk2 it ((ZeS ns S O).set j ⟨S'.getD j 0,O'.getD j false,chZ ns S O j⟩):=by
  simp only [mk2,rowM,uU,yE]
 rw [e];unfold gst;rw [yT];have hlj:j<(ZeS ns S O).length:=by simpa using hj
 rw [ZoM (S:=S') (O:=O') (l:=(ZeS ns S O).set j ⟨S'.getD j 0,O'.getD j false,chZ ns S O j⟩) (f:=j) hN (M.T.setIm M.na M.nt) M.na M.nt (zN M.im_lt) (by simp) (fun i hi=>?_) (by rw [if_neg (by omega)]) hj1 (fun i hi hij=>?_) M.small,yT]
 ·by_cases h:i=j
  ·subst h;exact ⟨_,zN hlj⟩
  rw [zO (fun e=>h e.symm),Zgh hi,hS i h,hO i h];exact ⟨_,rfl⟩
 rw [zO (by omega),Zgh hi];unfold stZ;rw [Zsn M.T.tr hb hi (by omega),hS i (by omega),hO i (by omega)]
def Zuw (ns:List Nd) (O:List Bool) (k:Int):List Bool:=if ZiJ ns k=0 then O.set k.toNat true else O
theorem ZhH (hN:600≤N) (M:ZiO st ia it im p room ns lp S O) (hO:O.length=600) (k:Int):ZbN N (some im) k st=some (ZiJ ns k,gst st im it ns S (Zuw ns O k)):=by
 unfold ZbN Zuw;rw [Zma hN M,Zaa];dsimp only;by_cases h:ZiJ ns k=0
 ·rw [if_neg (by simpa using h),if_pos h];obtain ⟨j,rfl,hj,hj1⟩:=ZgA h;have sm:=M.small;rw [Zaa,M.gm,Zar,ZeR,Zah (by omega),Zah (by simp<;>omega),zG,Zia hj,Zar,Zde,ZsD (S':=S) (O':=O.set j true) hN M hj hj1 (fun _ _=>rfl) (fun i hi=>by rw [Zgx (by omega),if_neg hi]) (by unfold stZ;rw [Zgx (by omega),if_pos rfl]),Zaa,h]
 rw [if_pos (by simpa using h),if_neg h]
def ZpX (right:Bool):Int:=if right=true then 1 else 2
def vrdE (ns:List Nd) (S:List Int) (k:Int) (right:Bool):Int:=if ZiJ ns k=0 then (if S.getD k.toNat 0≠0∧S.getD k.toNat 0≠ZpX right then 1 else 0) else ZiJ ns k
def vrdS (ns:List Nd) (S:List Int) (k:Int) (right:Bool):List Int:=if vrdE ns S k right=0 then S.set k.toNat (ZpX right) else S
theorem ZpP (hN:600≤N) (M:ZiO st ia it im p room ns lp S O) (hS:S.length=600) {j:Nat} (hj:j<ns.length) (hj1:1≤j) (w:Int):ZaI.p2 N im (j:Int) w (gst st im it ns S O)=some (0,gst st im it ns (S.set j w) O):=by
 unfold ZaI.p2;have sm:=M.small;rw [M.gm,Zar,ZeR,zG,Zia hj,Zar,Zde,ZsD (S':=S.set j w) (O':=O) hN M hj hj1 (fun i hi=>by rw [Zgx (by omega),if_neg hi]) (fun _ _=>rfl) (by unfold stZ;rw [Zgx (by omega),if_pos rfl]),Zaa]
theorem Zst (hN:600≤N) (M:ZiO st ia it im p room ns lp S O) (hS:S.length=600) (k:Int) (right:Bool):ZaI N (some im) k right st=some (vrdE ns S k right,gst st im it ns (vrdS ns S k right) O):=by
 unfold ZaI;rw [Zma hN M,Zaa];dsimp only;unfold vrdS vrdE;by_cases h:ZiJ ns k=0
 ·rw [if_neg (by simpa using h),if_pos h];obtain ⟨j,rfl,hj,hj1⟩:=ZgA h;have p1 : ∀w,ZaI.p1 N (some im) (j:Int) w (gst st im it ns S O)=if S.getD j 0≠0∧S.getD j 0≠w then some (1,gst st im it ns S O) else some (0,gst st im it ns (S.set j w) O):=by
   intro w;unfold ZaI.p1;rw [Zaa,M.gm,Zar,ZeR,Zah (by omega),Zah (by simp<;>omega),zG,Zia hj,Zar,Zde,show (stZ ns S O j).verdict=S.getD j 0 from rfl,ZpP hN M hS hj hj1];by_cases h1:S.getD j 0=0
   ·rw [if_neg (by simpa using h1),if_neg (fun e=>e.1 h1)]
   rw [if_pos (by simpa using h1)];by_cases h2:S.getD j 0=w
   ·rw [if_neg (by simpa using h2),if_neg (fun e=>e.2 h2)]
   rw [if_pos (by simpa using h2),if_pos ⟨h1,h2⟩]
  rw [p1,p1,zG];cases right
  ·rw [if_neg (by simp),show ZpX false=2 from rfl];split<;>simp_all
  rw [if_pos rfl,show ZpX true=1 from rfl];split<;>simp_all
 rw [if_pos (by simpa using h),if_neg h,if_neg h]
def Zol (ns:List Nd) (a:Int) (i:Nat):Bool:=ZfS ns (i:Int) a||ZfS ns a (i:Int)
def rsF (ns:List Nd) (a:Int) (S:List Int) (j i:Nat):Int:=if decide (i<j)&&Zol ns a i&&S.getD i 0==2 then 0 else S.getD i 0
def roF (ns:List Nd) (a:Int) (O:List Bool) (j i:Nat):Bool:=if decide (i<j)&&Zol ns a i then false else O.getD i false
def recS (ns:List Nd) (a:Int) (S:List Int):List Int:=(vF S.length).map (rsF ns a S ns.length)
def recO (ns:List Nd) (a:Int) (O:List Bool):List Bool:=(vF O.length).map (roF ns a O ns.length)
theorem ZnK (ns:List Nd) (a:Int) (S:List Int) (i:Nat):(recS ns a S).getD i 0=rsF ns a S ns.length i:=by
 unfold recS;rw [yC];rcases zU i S.length with h | h
 ·simp [h]
 rw [zL (by simpa using h)];unfold rsF;rw [yC,zL h];simp
theorem ZnL (ns:List Nd) (a:Int) (O:List Bool) (i:Nat):(recO ns a O).getD i false=roF ns a O ns.length i:=by
 unfold recO;rw [yC];rcases zU i O.length with h | h
 ·simp [h]
 rw [zL (by simpa using h)];unfold roF;rw [yC,zL h];simp
def Zlt (ns:List Nd) (a:Int) (S:List Int) (O:List Bool) (j:Nat):List ZaQ:=(vF ns.length).map fun i=>⟨rsF ns a S j i,roF ns a O j i,chZ ns S O i⟩
theorem Zhx {ns:List Nd} {a:Int} {S:List Int} {O:List Bool} {j i:Nat} (hi:i<ns.length):(Zlt ns a S O j)[i]? = some ⟨rsF ns a S j i,roF ns a O j i,chZ ns S O i⟩:=by simp [Zlt,hi]
@[simp] theorem recL_length (ns:List Nd) (a:Int) (S:List Int) (O:List Bool) (j:Nat):(Zlt ns a S O j).length=ns.length:=by simp [Zlt]
theorem Ztb (ns:List Nd) (a:Int) (S:List Int) (O:List Bool):Zlt ns a S O 0=ZeS ns S O:=by
 unfold Zlt ZeS;refine vJ fun i _=>?_;unfold rsF roF stZ;simp
theorem ZqZ {ns:List Nd} {a:Int} {S:List Int} {O:List Bool} {j:Nat} (hj:j<ns.length) (hc:Zol ns a j=true):Zlt ns a S O (j+1)=(Zlt ns a S O j).set j ⟨if S.getD j 0=2 then 0 else S.getD j 0,false,chZ ns S O j⟩:=by
 refine xH fun i=>?_;rcases zU i ns.length with hi | hi
 ·rw [Zhx hi];by_cases h:i=j
  ·subst h;rw [zN (by simpa using hj)];unfold rsF roF;simp [hc]
  rw [zO (fun e=>h e.symm),Zhx hi];unfold rsF roF;rw [show decide (i<j+1)=decide (i<j) from decide_eq_decide.2 (by omega)]
 rw [zL (by simpa using hi),zL (by simpa using hi)]
theorem recL_not {ns:List Nd} {a:Int} {S:List Int} {O:List Bool} {j:Nat} (hj:j<ns.length) (hc:Zol ns a j=false):Zlt ns a S O (j+1)=Zlt ns a S O j:=by
 refine xH fun i=>?_;rcases zU i ns.length with hi | hi
 ·rw [Zhx hi,Zhx hi];unfold rsF roF;by_cases h:i=j
  ·subst h;simp [hc]
  rw [show decide (i<j+1)=decide (i<j) from decide_eq_decide.2 (by omega)]
 rw [zL (by simpa using hi),zL (by simpa using hi)]
def rcnS (ns:List Nd) (S:List Int) (k:Int):List Int:=if ZiJ ns k=0 then recS ns k S else S
def rcnO (ns:List Nd) (O:List Bool) (k:Int):List Bool:=if ZiJ ns k=0 then recO ns k O else O
theorem Zou (hN:600≤N) (M:ZiO st ia it im p room ns lp S O) (k:Int):Zaq N (some im) k st=some (ZiJ ns k,gst st im it ns (rcnS ns S k) (rcnO ns O k)):=by
 unfold Zaq rcnS rcnO;rw [Zma hN M,Zaa];dsimp only;by_cases h:ZiJ ns k=0
 ·rw [if_neg (by simpa using h),if_pos h,if_pos h,h];have sm:=M.small;have hl:=M.T.len;obtain ⟨z,hz,hz0,hz1⟩:=ZgA h;rw [Zaa,M.gm,Zar,ZeR];have e0:gst st im it ns S O=st.set im (mk2 it (Zlt ns k S O 0)):=by rw [Ztb];rfl
  rw [e0];refine Zcd (fun m (s:Int×LL)=>∃j:Nat,j+m=ns.length∧s=((j:Int),st.set im (mk2 it (Zlt ns k S O j)))) ?_ N ns.length _ ⟨0,by omega,rfl⟩ (by omega);rintro G m _ ⟨j,hjm,rfl⟩ hG;unfold Zaq.p1;dsimp only;rw [ZhD,Zgg];have him:=M.im_lt;by_cases hlt:j<ns.length
  ·have hg:=Zjm (Zhx (a:=k) (S:=S) (O:=O) (j:=j) hlt);rw [if_pos (by simp<;>omega),zN him,Zar,ZeR,Zah (by omega),Zah (by simp<;>omega),Zaa,zO M.nt,M.T.t,Zar];unfold Zgi;rw [ZcU,Zaa,zO M.na,M.T.a,Zar,ZbL,show (Zaz.mk (aOf p room ns) (Zed lp))=tOf p room ns lp from rfl,Zmf hN M.T.tr M.T.lv (by omega),Zaa,Zmf hN M.T.tr M.T.lv (by omega),Zaa,zG,hg];have w1:w64 ((j:Int)+1)=((j+1:Nat):Int):=by rw [ZaJ (by omega) (by omega)];rfl
   have nxt : ∀l,l=Zlt ns k S O (j+1)→Zaq.p2 N G im k (rowM (ZeS ns S O)) (j:Int) (st.set im (mk2 it l))=some (0,gst st im it ns (recS ns k S) (recO ns k O)):=by
    rintro l rfl;unfold Zaq.p2;rw [w1];exact hG (m-1) _ (by omega) ⟨j+1,by omega,rfl⟩
   have hrs:rsF ns k S j j=S.getD j 0:=by unfold rsF;simp
   have sw : ∀x:ZaQ,[zQ (some it),yB true 3 (zM (rowM (Zlt ns k S O j)) (0+j) x.ls)]=mk2 it ((Zlt ns k S O j).set j x):=fun x=>by simp only [mk2,rowM,uU,yE]
   have sg : ∀x:ZaQ,(zM (rowM (Zlt ns k S O j)) (0+j) x.ls)[0+j]? = some x.ls:=fun x=>zN (by simp;omega);have body:Zol ns k j=true→(ZcY (some (ZaQ.ls ⟨rsF ns k S j j,roF ns k O j j,chZ ns S O j⟩)) ZcF fun x31=>
     ZcY ((zM (rowM (Zlt ns k S O j)) (0+j) (ZaQ.ls {x31 with out:=false}))[0+j]?) ZcF fun x32=>
     if (x32.verdict==2)=true then
      Zaq.p2 N G im k (rowM (ZeS ns S O)) (j:Int) (zM (zM (st.set im (mk2 it (Zlt ns k S O j))) im [zQ (some it),yB true 3 (zM (rowM (Zlt ns k S O j)) (0+j) (ZaQ.ls {x31 with out:=false}))]) im [zQ (some it),yB true 3 (zM (zM (rowM (Zlt ns k S O j)) (0+j) (ZaQ.ls {x31 with out:=false})) (0+j) (ZaQ.ls {x32 with verdict:=0}))])
     else Zaq.p2 N G im k (rowM (ZeS ns S O)) (j:Int) (zM (st.set im (mk2 it (Zlt ns k S O j))) im [zQ (some it),yB true 3 (zM (rowM (Zlt ns k S O j)) (0+j) (ZaQ.ls {x31 with out:=false}))]))=some (0,gst st im it ns (recS ns k S) (recO ns k O)):=by
    intro hc;rw [Zar,Zde,sg,Zar,Zde];dsimp only;rw [yT,yT,sw,yT,sw,hrs];by_cases h2:S.getD j 0=2
    ·rw [if_pos (by simpa using h2)];exact nxt _ (by rw [ZqZ hlt hc,if_pos h2])
    rw [if_neg (by simpa using h2),yT];exact nxt _ (by rw [ZqZ hlt hc,if_neg h2])
   cases hw:ZfS ns (j:Int) k
   ·rw [if_neg (by simp)];cases hw2:ZfS ns k (j:Int)
    ·rw [if_neg (by simp)];exact nxt _ (by rw [recL_not hlt (by unfold Zol;rw [hw,hw2];rfl)])
    rw [if_pos rfl];exact body (by unfold Zol;rw [hw,hw2];rfl)
   rw [if_pos rfl];exact body (by unfold Zol;rw [hw];rfl)
  have hj:j=ns.length:=by omega
  subst hj;rw [if_neg (by simp<;>omega),ZoM (S:=recS ns k S) (O:=recO ns k O) (l:=Zlt ns k S O ns.length) (f:=1) hN (M.T.setIm M.na M.nt) M.na M.nt (zN M.im_lt) (by simp) (fun i hi=>?_) rfl (Nat.le_refl _) (fun i hi hi1=>?_) M.small,Zaa,yT]
  ·rfl
  ·rw [Zhx hi,ZnK,ZnL];exact ⟨_,rfl⟩
  have h0:i=0:=by omega
  subst h0;have e:ZeD ns 0 = [0]:=by
   rcases ZdY M.T.tr hi with ⟨_,_,e,_⟩ | ⟨q,hq,_⟩
   ·exact e
   omega
  rw [Zhx hi];unfold stZ;rw [ZnK,ZnL,Zoo M.T.tr e,Zoo M.T.tr e]
 rw [if_pos (by simpa using h),if_neg h,if_neg h]
end
end Go.Dn.F
namespace Go.Dn.F
open Go.Dn Go.Proofs
variable {N:Nat}
def hvZ (ns:List Nd) (x y:Nat):Bool:=
 match ns[x]?,ns[y]? with
 | some a,some b=>decide (b.wk<a.wk)||(a.wk==b.wk&&decide (x<y))
 | _,_=>false
theorem Zrj (p:Zae) (room:Int) (ns:List Nd) (k:Int):ZbR N (aOf p room ns) k=some (decide (0≤k∧k<(ns.length:Int))):=by
 unfold ZbR;rw [show (aOf p room ns).list=ZhP ns from rfl,ZgX];by_cases h:k≥0
 ·rw [if_pos (by simpa using h)];congr 1;simp;omega
 rw [if_neg (by simpa using h),decide_eq_false (by omega)]
theorem hvZ_at {ns:List Nd} {x y:Nat} (hx:x<ns.length) (hy:y<ns.length):hvZ ns x y=(decide (ns[y].wk<ns[x].wk)||(ns[x].wk==ns[y].wk&&decide (x<y))):=by
 unfold hvZ;rw [zP hx,zP hy]
theorem Znn (hN:10≤N) (p:Zae) (room:Int) {ns:List Nd} (lp:List Int) (ht:Zht ns) {a b:Nat} (ha:a<ns.length) (hb:b<ns.length):Zca N (tOf p room ns lp) (a:Int) (b:Int)=some (hvZ ns a b):=by
 unfold Zca ZcB;rw [show (tOf p room ns lp).store=aOf p room ns from rfl,Zrj,Zaa];rw [if_neg (by simp;omega),Zrj,Zaa,if_neg (by simp;omega)];rw [show (aOf p room ns).list=ZhP ns from rfl,ZgX,Zah (by omega),Zah (by omega),zG,ZkL ha,Zar,Zfh,Zah (by omega),Zah (by omega),zG,ZkL hb,Zar,Zfh,show (ns[a].en).Work=nw ns[a].wk from rfl,show (ns[b].en).Work=nw ns[b].wk from rfl,ZhI hN (ht.wk _ (yM ha)) (ht.wk _ (yM hb)),Zaa,hvZ_at ha hb];unfold cmp;by_cases h1:ns[a].wk<ns[b].wk
 ·rw [if_pos h1,if_neg (by simp),if_neg (by simp)];have e1 : ¬ ns[b].wk<ns[a].wk:=by omega
  have e2:ns[a].wk≠ns[b].wk:=by omega
  simp [e1,e2]
 rw [if_neg h1];by_cases h2:ns[b].wk<ns[a].wk
 ·rw [if_pos h2,if_pos (by simp)];simp [h2]
 rw [if_neg h2,if_neg (by simp),if_pos (by simp)];have e2:ns[a].wk=ns[b].wk:=by omega
 simp [h2,e2]
theorem ZkC (hN:10≤N) (p:Zae) (room:Int) {ns:List Nd} (lp:List Int) {a:Nat} (ha:a<ns.length):Zca N (tOf p room ns lp) (a:Int) (-1)=some true:=by
 unfold Zca ZcB;rw [show (tOf p room ns lp).store=aOf p room ns from rfl,Zrj,Zaa];rw [if_neg (by simp;omega),Zrj,Zaa,if_pos (by simp),Zaa];simp;omega
section
variable {st:LL} {ia it im:Nat} {p:Zae} {room:Int} {ns:List Nd} {lp:List Int} {S:List Int} {O:List Bool}
def allR (ns:List Nd) (S:List Int) (k:Nat):Bool:=(ZeD ns k).all fun x=>S.getD x 0==1
def vlZ (ns:List Nd) (S:List Int) (O:List Bool) (k:Nat):Bool:=allR ns S k && !flZ ns S O k
theorem ZoC (M:ZiO st ia it im p room ns lp S O) : ∀(k n:Nat),k<ns.length→k+2≤n→loopN (Zbh.p1 N im (gst st im it ns S O)) n (k:Int)=some (allR ns S k):=by
 intro k
 induction k using vV with
 | ind k ih=>
  intro n hk hn;obtain ⟨n,rfl⟩ : ∃m,n=m+1:=⟨n-1,by omega⟩
  have T:=M.gst.T;show Zbh.p1 N im (gst st im it ns S O) (loopN (Zbh.p1 N im (gst st im it ns S O)) n) (k:Int)=_;generalize hc:loopN (Zbh.p1 N im (gst st im it ns S O)) n=c;unfold Zbh.p1;rw [if_pos (by simp<;>omega),M.gm,Zar,ZeR,Zah (by omega),Zah (by simp<;>omega),zG,Zia hk,Zar,Zde,show (stZ ns S O k).verdict=S.getD k 0 from rfl];rw [Zaa,T.t,Zar];unfold Zgi;rw [ZcU,Zaa,T.a,Zar,ZbL,show (Zaz.mk (aOf p room ns) (Zed lp))=tOf p room ns lp from rfl,Zle p room lp hk,Zaa];dsimp only;rw [show (ns[k].en).Ahead=ns[k].ah from rfl];unfold allR;by_cases h:S.getD k 0=1
  ·have h':(S.getD k 0==1)=true:=by rw [h];rfl
   rw [if_neg (by rw [h];decide)];rcases ZdY M.T.tr hk with ⟨_,a,e,_⟩ | ⟨q,hq,a,e,hq',_⟩
   ·obtain ⟨n,rfl⟩ : ∃m,n=m+1:=⟨n-1,by omega⟩
    rw [a,e,←hc];show Zbh.p1 N im (gst st im it ns S O) _ (-1)=_;unfold Zbh.p1;rw [if_neg (by simp)];simp only [yN,sM,h',Bool.and_true]
   rw [a,←hc,ih q hq n hq' (by omega),e];unfold allR;simp only [List.all_append,yN,sM,h',Bool.and_true]
  rw [if_pos (by simpa using h)];have hm:=Znx M.T.tr hk;symm;rw [Option.some.injEq,List.all_eq_false];exact ⟨k,hm,by simpa using h⟩
theorem ZkX (hN:600≤N) (M:ZiO st ia it im p room ns lp S O) (k:Int):Zbh N (some im) k st=some (atZ ns (vlZ ns S O) k,gst st im it ns S O):=by
 unfold Zbh;rw [ZtA hN M,Zaa];dsimp only;cases h:inB ns k
 ·rw [if_pos (by rfl)];unfold atZ;rw [h];rfl
 obtain ⟨j,rfl,hj⟩:=Zqz h;rw [if_neg (by simp),Ziw hN M.gst,Zaa,Zjc];dsimp only;have sm:=M.small;have e1:atZ ns (flZ ns S O) (j:Int)=flZ ns S O j:=by unfold atZ;rw [h];simp
 have e2:atZ ns (vlZ ns S O) (j:Int)=vlZ ns S O j:=by unfold atZ;rw [h];simp
 rw [e1,e2];unfold vlZ;cases hf:flZ ns S O j
 ·rw [if_neg (by simp),Zaa,ZoC M j N hj (by omega),Zaa];simp
 rw [if_pos rfl];simp
def ZjZ (ns:List Nd) (f:Nat→Bool):Nat→Nat→Nat→Nat
 | 0,_,out=>out
 | m+1,j,out=>ZjZ ns f m (j+1) (if f j&&hvZ ns j out then j else out)
def Zhz (ns:List Nd) (f:Nat→Bool):Nat:=ZjZ ns f ns.length 0 0
theorem ZiC {ns:List Nd} (h:0<ns.length) (f:Nat→Bool):Zhz ns f=ZjZ ns f (ns.length-1) 1 0:=by
 unfold Zhz;obtain ⟨m,hm⟩ : ∃m,ns.length=m+1:=⟨ns.length-1,by omega⟩
 rw [hm];show ZjZ ns f m 1 (if f 0&&hvZ ns 0 0 then 0 else 0)=_;rw [show (if f 0&&hvZ ns 0 0 then 0 else 0)=0 by split<;>rfl];rfl
theorem Zlw (hN:600≤N) (M:ZiO st ia it im p room ns lp S O) (h0:0<ns.length) (hf:vlZ ns S O 0=true):ZcW N (some im) st=some ((Zhz ns (vlZ ns S O):Int),gst st im it ns S O):=by
 unfold ZcW Zag;rw [ZtA hN M,Zaa];dsimp only;have i0:inB ns 0=true:=inB_true.2 ⟨by omega,by omega⟩;have sm:=M.small;have T:=M.gst.T;rw [i0,if_neg (by simp),Zaa,M.gm,Zar,ZeR]
 suffices h:loopN (Zag.p1 N im (some im) (rowM (ZeS ns S O))) N (-1,0,gst st im it ns S O)=some ((Zhz ns (vlZ ns S O):Int),gst st im it ns S O) by rw [h,Zaa]
 refine Zcd (fun m (s:Int×Int×LL)=>∃j:Nat,j+m=ns.length∧((j=0∧s=(-1,0,gst st im it ns S O))∨(1≤j∧∃out:Nat,out<ns.length∧s=((out:Int),(j:Int),gst st im it ns S O)∧ZjZ ns (vlZ ns S O) m j out=Zhz ns (vlZ ns S O)))) ?_ N ns.length _ ⟨0,by omega,.inl ⟨rfl,rfl⟩⟩ (by omega);rintro G m _ ⟨j,hjm,hs⟩ hG;unfold Zag.p1 Zag.p2;rcases hs with ⟨rfl,rfl⟩ | ⟨hj1,out,ho,rfl,hp⟩
 ·dsimp only;have e2:atZ ns (vlZ ns S O) 0=true:=by unfold atZ;rw [i0];exact hf
  rw [ZhD,Zgg,if_pos (by simp<;>omega),ZkX hN M.gst,Zaa,Zjc];dsimp only;rw [e2,if_pos rfl,M.gm,Zar,ZeR,Zaa,T.t,Zar];unfold Zgi;rw [ZcU,Zaa,T.a,Zar,ZbL,show (Zaz.mk (aOf p room ns) (Zed lp))=tOf p room ns lp from rfl,show (0:Int)=((0:Nat):Int) from rfl,ZkC (by omega) p room lp h0,Zaa,if_pos rfl];exact hG (m-1) _ (by omega) ⟨1,by omega,.inr ⟨by omega,0,h0,rfl,by rw [ZiC h0,show m-1=ns.length-1 by omega]⟩⟩
 dsimp only;rw [ZhD,Zgg];by_cases hlt:j<ns.length
 ·have ij:inB ns (j:Int)=true:=inB_true.2 ⟨by omega,by omega⟩;have e2:atZ ns (vlZ ns S O) (j:Int)=vlZ ns S O j:=by unfold atZ;rw [ij];simp
  have w1:w64 ((j:Int)+1)=((j+1:Nat):Int):=by rw [ZaJ (by omega) (by omega)];rfl
  obtain ⟨m,rfl⟩ : ∃x,m=x+1:=⟨m-1,by omega⟩
  have hp':ZjZ ns (vlZ ns S O) m (j+1) (if vlZ ns S O j&&hvZ ns j out then j else out)=Zhz ns (vlZ ns S O):=hp;rw [if_pos (by simp<;>omega),ZkX hN M.gst,Zaa,Zjc];dsimp only;rw [e2,w1];cases hv:vlZ ns S O j
  ·rw [if_neg (by simp)];rw [hv,rU,if_neg (by simp)] at hp';exact hG m _ (by omega) ⟨j+1,by omega,.inr ⟨by omega,out,ho,rfl,hp'⟩⟩
  rw [if_pos rfl,M.gm,Zar,ZeR,Zaa,T.t,Zar];unfold Zgi;rw [ZcU,Zaa,T.a,Zar,ZbL,show (Zaz.mk (aOf p room ns) (Zed lp))=tOf p room ns lp from rfl,Znn (by omega) p room lp T.tr hlt ho,Zaa];rw [hv,xZ] at hp';cases hh:hvZ ns j out
  ·rw [if_neg (by simp)];rw [hh,if_neg (by simp)] at hp';exact hG m _ (by omega) ⟨j+1,by omega,.inr ⟨by omega,out,ho,rfl,hp'⟩⟩
  rw [if_pos rfl];rw [hh,if_pos rfl] at hp';exact hG m _ (by omega) ⟨j+1,by omega,.inr ⟨by omega,j,hlt,rfl,hp'⟩⟩
 rw [if_neg (by simp<;>omega)];have:m=0:=by omega
 subst this;rw [←hp];rfl
def ldZ (ns:List Nd) (S:List Int) (O:List Bool) (k:Nat):Bool:=!flZ ns S O k
theorem ZrE (hN:600≤N) (M:ZiO st ia it im p room ns lp S O) {j:Nat} (hj:j<ns.length):Zdd N (j:Int) (some im) st=some (ldZ ns S O j,gst st im it ns S O):=by
 unfold Zdd;have ij:inB ns (j:Int)=true:=inB_true.2 ⟨by omega,by omega⟩;rw [Ziw hN M,Zaa];unfold atZ ldZ;rw [ij];simp
theorem Zqo (hN:600≤N) (M:ZiO st ia it im p room ns lp S O) (h0:0<ns.length) (hf:ldZ ns S O 0=true):Zdo N (some im) st=some ((Zhz ns (ldZ ns S O):Int),gst st im it ns S O):=by
 unfold Zdo Zaf;rw [ZtA hN M,Zaa];dsimp only;have i0:inB ns 0=true:=inB_true.2 ⟨by omega,by omega⟩;have sm:=M.small;have T:=M.gst.T;rw [i0,if_neg (by simp),Zaa,M.gm,Zar,ZeR]
 suffices h:loopN (Zaf.p1 N im (some im) (rowM (ZeS ns S O))) N (-1,0,gst st im it ns S O)=some ((Zhz ns (ldZ ns S O):Int),gst st im it ns S O) by rw [h,Zaa]
 refine Zcd (fun m (s:Int×Int×LL)=>∃j:Nat,j+m=ns.length∧((j=0∧s=(-1,0,gst st im it ns S O))∨(1≤j∧∃out:Nat,out<ns.length∧s=((out:Int),(j:Int),gst st im it ns S O)∧ZjZ ns (ldZ ns S O) m j out=Zhz ns (ldZ ns S O)))) ?_ N ns.length _ ⟨0,by omega,.inl ⟨rfl,rfl⟩⟩ (by omega);rintro G m _ ⟨j,hjm,hs⟩ hG;unfold Zaf.p1 Zaf.p2;rcases hs with ⟨rfl,rfl⟩ | ⟨hj1,out,ho,rfl,hp⟩
 ·dsimp only;rw [ZhD,Zgg,if_pos (by simp<;>omega),show (0:Int)=((0:Nat):Int) from rfl,ZrE hN M.gst h0,Zaa,Zjc];dsimp only;rw [hf,if_pos rfl,M.gm,Zar,ZeR,Zaa,T.t,Zar];unfold Zgi;rw [ZcU,Zaa,T.a,Zar,ZbL,show (Zaz.mk (aOf p room ns) (Zed lp))=tOf p room ns lp from rfl,ZkC (by omega) p room lp h0,Zaa,if_pos rfl];exact hG (m-1) _ (by omega) ⟨1,by omega,.inr ⟨by omega,0,h0,rfl,by rw [ZiC h0,show m-1=ns.length-1 by omega]⟩⟩
 dsimp only;rw [ZhD,Zgg];by_cases hlt:j<ns.length
 ·have w1:w64 ((j:Int)+1)=((j+1:Nat):Int):=by rw [ZaJ (by omega) (by omega)];rfl
  obtain ⟨m,rfl⟩ : ∃x,m=x+1:=⟨m-1,by omega⟩
  have hp':ZjZ ns (ldZ ns S O) m (j+1) (if ldZ ns S O j&&hvZ ns j out then j else out)=Zhz ns (ldZ ns S O):=hp;rw [if_pos (by simp<;>omega),ZrE hN M.gst hlt,Zaa,Zjc];dsimp only;rw [w1];cases hv:ldZ ns S O j
  ·rw [if_neg (by simp)];rw [hv,rU,if_neg (by simp)] at hp';exact hG m _ (by omega) ⟨j+1,by omega,.inr ⟨by omega,out,ho,rfl,hp'⟩⟩
  rw [if_pos rfl,M.gm,Zar,ZeR,Zaa,T.t,Zar];unfold Zgi;rw [ZcU,Zaa,T.a,Zar,ZbL,show (Zaz.mk (aOf p room ns) (Zed lp))=tOf p room ns lp from rfl,Znn (by omega) p room lp T.tr hlt ho,Zaa];rw [hv,xZ] at hp';cases hh:hvZ ns j out
  ·rw [if_neg (by simp)];rw [hh,if_neg (by simp)] at hp';exact hG m _ (by omega) ⟨j+1,by omega,.inr ⟨by omega,out,ho,rfl,hp'⟩⟩
  rw [if_pos rfl];rw [hh,if_pos rfl] at hp';exact hG m _ (by omega) ⟨j+1,by omega,.inr ⟨by omega,j,hlt,rfl,hp'⟩⟩
 rw [if_neg (by simp<;>omega)];have:m=0:=by omega
 subst this;rw [←hp];rfl
end
end Go.Dn.F
namespace Go.Dn.F
open Go.Dn Go.Proofs
variable {N:Nat}
noncomputable def rm2 (S:List Int) (O:List Bool):List L:=[zH .i64 600 S,L.brr 600 O]
theorem Zok {α:Type} (S:List Int) (O:List Bool) (k:ZaF→Option α):ZcC (rm2 S O) k=k ⟨S,O⟩:=rfl
noncomputable def rst (st:LL) (ir:Nat) (S:List Int) (O:List Bool):LL:=st.set ir (rm2 S O)
structure Zoy (st:LL) (ib ir:Nat) (p:Zae) (room:Int) (ns:List Nd) (S:List Int) (O:List Bool):Prop where
 b:st[ib]? = some (rOf p room ns).lo
 r:st[ir]? = some (rm2 S O)
 ne:ir≠ib
 tr:Zht ns
 small:ns.length≤500
 S6:S.length=600
 O6:O.length=600
 pos : ∀i,0≤S.getD i 0
theorem Zpl {l:List Nat} {i:Nat} (h:i<l.length):(Zed (Zuv l))[0+i]? = some [L.int .i64 ((l[i]:Nat):Int)]:=by simp [Zed,Zuv,h]
theorem Zrf (l:List Nat):len (Zed (Zuv l))=(l.length:Int):=by simp [len,Zed,Zuv]
theorem ZmW (l:List Int):Zez (Zed l)=true:=by
 unfold Zez Zed;simp [L.plain]
theorem ZlX {α:Type} (x:Int) (k:Int→Option α):ZdT [L.int .i64 x] k=k x:=rfl
section
variable {st:LL} {ib ir:Nat} {p:Zae} {room:Int} {ns:List Nd} {S:List Int} {O:List Bool}
theorem Zoy.same (R:Zoy st ib ir p room ns S O):rst st ir S O=st:=Ziz R.r
theorem Zoy.put (R:Zoy st ib ir p room ns S O) {S':List Int} {O':List Bool} (h1:S'.length=600) (h2:O'.length=600) (h3 : ∀i,0≤S'.getD i 0):Zoy (rst st ir S' O') ib ir p room ns S' O':=
 ⟨by unfold rst;rw [zO R.ne];exact R.b,zN (List.getElem?_eq_some_iff.1 R.r).1,R.ne,R.tr,R.small,h1,h2,h3⟩
theorem Ztc (p:Zae) (room:Int) (ns:List Nd):len (rOf p room ns).List_=(ns.length:Int):=by
 rw [show (rOf p room ns).List_=ZjV (ns.map Nd.hd) from rfl];simp
theorem ZjY (R:Zoy st ib ir p room ns S O) (k:Int):ZcX N (some ib) k st=some (ZiJ ns k,st):=by
 unfold ZcX ZiJ;by_cases h1:k<0
 ·rw [if_pos (by simpa using h1),if_neg (by rw [inB_true];omega)]
 rw [if_neg (by simpa using h1),Zaa,R.b,Zar,ZbX,Ztc];by_cases h2:k≥(ns.length:Int)
 ·rw [if_pos (by simpa using h2),if_neg (by rw [inB_true];omega)]
 rw [if_neg (by simpa using h2),if_pos (c:=inB ns k=true) (by rw [inB_true];omega)];by_cases h3:k=0
 ·rw [if_pos (by simpa using h3),if_pos h3]
 rw [if_neg (by simpa using h3),if_neg h3]
theorem Zmu (R:Zoy st ib ir p room ns S O) (k:Int):ZaP N (some ir) (some ib) k st=some (ZiJ ns k,rst st ir S (Zuw ns O k)):=by
 unfold ZaP ZaP.p1 Zuw;rw [ZjY R,Zaa];dsimp only;by_cases h:ZiJ ns k=0
 ·rw [if_pos (by simpa using h),if_pos h];obtain ⟨j,rfl,hj,hj1⟩:=ZgA h;have sm:=R.small;rw [Zaa,Zah (by omega),Zah (by omega),R.r,Zar,Zok,zG];rfl
 rw [if_neg (by simpa using h),if_neg h,R.same]
theorem Zqm (R:Zoy st ib ir p room ns S O) (k:Int) (right:Bool):ZaW N (some ir) (some ib) k right st=some (vrdE ns S k right,rst st ir (vrdS ns S k right) O):=by
 unfold ZaW;rw [ZjY R,Zaa];dsimp only;unfold vrdS vrdE;by_cases h:ZiJ ns k=0
 ·rw [if_neg (by rw [h];simp),if_pos h];obtain ⟨j,rfl,hj,hj1⟩:=ZgA h;have sm:=R.small;have p1 : ∀w,ZaW.p1 N (some ir) (j:Int) w st=if S.getD j 0≠0∧S.getD j 0≠w then some (1,rst st ir S O) else some (0,rst st ir (S.set j w) O):=by
   intro w;unfold ZaW.p1;rw [Zaa,Zah (by omega),Zah (by omega),R.r,Zar,Zok,zG];dsimp only;have pz:=R.pos j;by_cases h1:S.getD j 0=0
   ·rw [if_neg (by rw [h1];simp),if_neg (fun e=>e.1 h1)];rfl
   rw [if_pos (decide_eq_true (by omega))];by_cases h2:S.getD j 0=w
   ·rw [if_neg (by rw [h2];simp),if_neg (fun e=>e.2 h2)];rfl
   rw [if_pos (by rw [bne_iff_ne];exact h2),if_pos ⟨h1,h2⟩,R.same]
  rw [p1,p1,zG];cases right
  ·rw [if_neg (by simp),show ZpX false=2 from rfl];by_cases hc:S.getD j 0≠0∧S.getD j 0≠2
   ·rw [if_pos hc,if_pos hc,if_neg (by decide)]
   rw [if_neg hc,if_neg hc,if_pos rfl]
  rw [if_pos rfl,show ZpX true=1 from rfl];by_cases hc:S.getD j 0≠0∧S.getD j 0≠1
  ·rw [if_pos hc,if_pos hc,if_neg (by decide)]
  rw [if_neg hc,if_neg hc,if_pos rfl]
 have hp:ZiJ ns k>0:=by
  unfold ZiJ at h ⊢;split
  ·split
   ·omega
   rename_i h1 h2;rw [if_pos h1,if_neg h2] at h;exact absurd rfl h
  omega
 rw [if_pos (by simpa using hp),if_neg h,if_neg h,R.same]
theorem on_eq (ht:Zht ns) (hN:600≤N) {y:Nat} (hy:y<ns.length) (x:Int):Zcw N (rOf p room ns) x (y:Int)=some ((ZeD ns y).any fun z=>(z:Int)==x):=by
 unfold Zcw;have sm:=ht.small;rw [Zic ht (by omega) hy,Zaa,Zah (ZmW _)];have hl:(ZeD ns y).length≤ns.length:=by rw [ZiA ht hy];exact (ht.ch _ (yM hy)).2
 refine Zcd (fun m (v:Int)=>∃j:Nat,j+m=(ZeD ns y).length∧v=(j:Int)∧(ZeD ns y).any (fun z=>(z:Int)==x)=((ZeD ns y).drop j).any (fun z=>(z:Int)==x)) ?_ N (ZeD ns y).length 0 ⟨0,by omega,rfl,by rw [vG]⟩ (by omega);rintro G m _ ⟨j,hj,rfl,hp⟩ hG;unfold Zcw.p1;rw [Zrf];by_cases hlt:j<(ZeD ns y).length
 ·rw [if_pos (decide_eq_true (by omega)),Zah (by omega),zG,Zpl hlt,Zar,ZlX,ZaJ (by omega) (by omega)];rw [yQ hlt,vY] at hp;by_cases he:(((ZeD ns y)[j]:Nat):Int)=x
  ·rw [if_pos (by simpa using he),hp];simp [he]
  rw [if_neg (by simpa using he)];refine hG (m-1) _ (by omega) ⟨j+1,by omega,by omega,?_⟩;rw [hp,show ((((ZeD ns y)[j]:Nat):Int)==x)=false by simpa using he,vZ]
 rw [if_neg (by simp<;>omega),hp,wJ (by omega)];rfl
theorem Zpi {ns:List Nd} {x y:Nat} (hx:x<ns.length) (hy:y<ns.length):((ZeD ns y).any fun z=>(z:Int)==(x:Int))=ZfS ns (x:Int) (y:Int):=by
 unfold ZfS;rw [Bool.eq_iff_iff,List.any_eq_true,decide_eq_true_eq,zG,zG];constructor
 ·rintro ⟨z,hz,he⟩;have:(z:Int)=(x:Int):=by simpa using he
  have:z=x:=by omega
  subst this;exact ⟨by omega,by omega,by omega,by omega,hz⟩
 rintro ⟨_,_,_,_,hz⟩;exact ⟨x,hz,by simp⟩
theorem ZmV (R:Zoy st ib ir p room ns S O) {j:Nat} (hj:j<600):Zcx N (some ir) (j:Int) st=some (ZkI S O j,st):=by
 unfold Zcx ZkI;rw [Zaa,Zah (by omega),Zah (by omega),R.r,Zar,Zok,zG];dsimp only;cases O.getD j false
 ·rw [if_neg (by simp),vZ]
 rw [if_pos rfl,rF]
theorem Ztd (hN:600≤N) (R:Zoy st ib ir p room ns S O) (k:Int):Zbi N (some ir) (some ib) k st=some (atZ ns (chZ ns S O) k,st):=by
 unfold Zbi atZ;have ht:=R.tr;by_cases h1:k<0
 ·rw [if_pos (by simpa using h1),show inB ns k=false by rw [←uK,inB_true];omega];rfl
 rw [if_neg (by simpa using h1),Zaa,R.b,Zar,ZbX,Ztc];by_cases h2:k≥(ns.length:Int)
 ·rw [if_pos (by simpa using h2),show inB ns k=false by rw [←uK,inB_true];omega];rfl
 rw [if_neg (by simpa using h2),show inB ns k=true by rw [inB_true];omega];obtain ⟨k,rfl⟩ : ∃j:Nat,k=(j:Int):=⟨k.toNat,by omega⟩
 have hk:k<ns.length:=by omega
 have sm:=R.small;rw [Zic ht (by omega) hk,Zaa,Zah (ZmW _),zG,xZ];have hl:(ZeD ns k).length≤ns.length:=by rw [ZiA ht hk];exact (ht.ch _ (yM hk)).2
 have hany:chZ ns S O k=(ZeD ns k).any fun x=>x != k&&ZkI S O x:=by
  unfold chZ;rcases ZdY ht hk with ⟨_,_,e,_⟩ | ⟨q,hq,_,e,hq',_⟩
  ·rw [e];simp
  rw [e,uT,List.any_append];have : ∀l:List Nat,(∀x∈l,x<k)→l.any (ZkI S O)=l.any (fun x=>x != k&&ZkI S O x):=by
   intro l
   induction l with
   | nil=>intro _;rfl
   | cons z l ih=>
    intro hz;have h1:=hz z (by simp);rw [vY,vY,ih fun x hx=>hz x (by simp [hx]),show (z != k)=true by rw [bne_iff_ne];omega,xZ]
  rw [this _ fun x hx=>by have:=Zll ht hq' x hx;omega];simp
 rw [hany];refine Zcd (fun m (s:Int×LL)=>∃j:Nat,j+m=(ZeD ns k).length∧s=((j:Int),st)∧(ZeD ns k).any (fun x=>x != k&&ZkI S O x)=((ZeD ns k).drop j).any (fun x=>x != k&&ZkI S O x)) ?_ N (ZeD ns k).length _ ⟨0,by omega,rfl,by rw [vG]⟩ (by omega);rintro G m _ ⟨j,hj,rfl,hp⟩ hG;unfold Zbi.p1;dsimp only;rw [Zrf];by_cases hlt:j<(ZeD ns k).length
 ·rw [if_pos (decide_eq_true (by omega)),Zah (by omega),zG,Zpl hlt,Zar,ZlX,ZaJ (by omega) (by omega)];have hz:=Zll ht hk _ (yM hlt);rw [yQ hlt,vY] at hp;generalize (ZeD ns k)[j]=z at hp hz ⊢;by_cases he:z=k
  ·subst he;rw [if_neg (by simp)];rw [show (z != z)=false by simp,rU,vZ] at hp;exact hG (m-1) _ (by omega) ⟨j+1,by omega,rfl,hp⟩
  rw [if_pos (by rw [bne_iff_ne];omega),ZmV R (by omega),Zaa];dsimp only;rw [show (z != k)=true by rw [bne_iff_ne];exact he,xZ] at hp;cases hb:ZkI S O z
  ·rw [if_neg (by simp)];rw [hb,vZ] at hp;exact hG (m-1) _ (by omega) ⟨j+1,by omega,rfl,hp⟩
  rw [if_pos rfl,hp,hb,rF]
 rw [if_neg (by simp<;>omega),hp,wJ (by omega)];rfl
theorem ZrR (hN:600≤N) (R:Zoy st ib ir p room ns S O) (k:Int):ZcR N (some ir) (some ib) k st=some (atZ ns (flZ ns S O) k,st):=by
 unfold ZcR;have sm:=R.small;by_cases h1:0≤k
 ·rw [if_pos (by simpa using h1),Zaa,R.b,Zar,ZbX,Ztc];by_cases h2:k<(ns.length:Int)
  ·rw [if_pos (by simpa using h2)];obtain ⟨k,rfl⟩ : ∃j:Nat,k=(j:Int):=⟨k.toNat,by omega⟩
   have hk:k<ns.length:=by omega
   have hi:inB ns (k:Int)=true:=by rw [inB_true];omega
   rw [ZmV R (by omega),Zaa];dsimp only;unfold atZ;rw [hi,xZ,zG,Zro R.tr hk];cases hb:ZkI S O k
   ·rw [if_neg (by simp),Ztd hN R,Zaa];unfold atZ;rw [hi,xZ,zG,Bool.or_false]
   rw [if_pos rfl,Bool.or_true]
  rw [if_neg (by simpa using h2)];unfold atZ;rw [show inB ns k=false by rw [←uK,inB_true];omega];rfl
 rw [if_neg (by simpa using h1)];unfold atZ;rw [show inB ns k=false by rw [←uK,inB_true];omega];rfl
theorem ZsB (ns:List Nd) (S:List Int) (O:List Bool) (k:Nat):vlZ ns S O k=(ZeD ns k).all fun x=>S.getD x 0==1 && !O.getD x false:=by
 unfold vlZ allR flZ;generalize ZeD ns k=l
 induction l with
 | nil=>rfl
 | cons z l ih=>
  rw [yN,vY,yN,←ih];unfold ZkI;by_cases h:S.getD z 0=1
  ·rw [h];cases O.getD z false<;>simp
  rw [show (S.getD z 0==1)=false by simpa using h];simp
end
end Go.Dn.F
namespace Go.Dn.F
open Go.Dn Go.Proofs
variable {N:Nat}
def ZgL (ns:List Nd) (a:Int) (S:List Int) (j:Nat):List Int:=(vF S.length).map (rsF ns a S j)
def Zha (ns:List Nd) (a:Int) (O:List Bool) (j:Nat):List Bool:=(vF O.length).map (roF ns a O j)
theorem Zju? {ns:List Nd} {a:Int} {S:List Int} {j i:Nat} (hi:i<S.length):(ZgL ns a S j)[i]? = some (rsF ns a S j i):=by simp [ZgL,hi]
theorem Zls? {ns:List Nd} {a:Int} {O:List Bool} {j i:Nat} (hi:i<O.length):(Zha ns a O j)[i]? = some (roF ns a O j i):=by simp [Zha,hi]
@[simp] theorem recSj_len (ns:List Nd) (a:Int) (S:List Int) (j:Nat):(ZgL ns a S j).length=S.length:=by simp [ZgL]
@[simp] theorem recOj_len (ns:List Nd) (a:Int) (O:List Bool) (j:Nat):(Zha ns a O j).length=O.length:=by simp [Zha]
theorem ZrN (ns:List Nd) (a:Int) (S:List Int):ZgL ns a S 0=S:=by
 refine xH fun i=>?_;rcases zU i S.length with h | h
 ·rw [Zju? h];unfold rsF;rw [yC,zP h];simp
 rw [zL (by simpa using h),zL h]
theorem ZrO (ns:List Nd) (a:Int) (O:List Bool):Zha ns a O 0=O:=by
 refine xH fun i=>?_;rcases zU i O.length with h | h
 ·rw [Zls? h];unfold roF;rw [yC,zP h];simp
 rw [zL (by simpa using h),zL h]
theorem ZmU {ns:List Nd} {a:Int} {S:List Int} {j:Nat} (h:Zol ns a j=false∨S.getD j 0≠2):ZgL ns a S (j+1)=ZgL ns a S j:=by
 unfold ZgL;refine vJ fun i _=>?_;unfold rsF;by_cases e:i=j
 ·subst e;rcases h with h | h
  ·simp [h]
  rw [show (S.getD i 0==2)=false by simpa using h];simp
 rw [show decide (i<j+1)=decide (i<j) from decide_eq_decide.2 (by omega)]
theorem Zta {ns:List Nd} {a:Int} {S:List Int} {j:Nat} (hj:j<S.length) (h:Zol ns a j=true) (h2:S.getD j 0=2):ZgL ns a S (j+1)=(ZgL ns a S j).set j 0:=by
 refine xH fun i=>?_;rcases zU i S.length with hi | hi
 ·rw [Zju? hi];by_cases e:i=j
  ·subst e;rw [zN (by simpa using hj)];unfold rsF;rw [h,h2];simp
  rw [zO (fun h=>e h.symm),Zju? hi];unfold rsF;rw [show decide (i<j+1)=decide (i<j) from decide_eq_decide.2 (by omega)]
 rw [zL (by simpa using hi),zL (by simpa using hi)]
theorem ZrP {ns:List Nd} {a:Int} {O:List Bool} {j:Nat} (h:Zol ns a j=false):Zha ns a O (j+1)=Zha ns a O j:=by
 unfold Zha;refine vJ fun i _=>?_;unfold roF;by_cases e:i=j
 ·subst e;simp [h]
 rw [show decide (i<j+1)=decide (i<j) from decide_eq_decide.2 (by omega)]
theorem Zpb {ns:List Nd} {a:Int} {O:List Bool} {j:Nat} (hj:j<O.length) (h:Zol ns a j=true):Zha ns a O (j+1)=(Zha ns a O j).set j false:=by
 refine xH fun i=>?_;rcases zU i O.length with hi | hi
 ·rw [Zls? hi];by_cases e:i=j
  ·subst e;rw [zN (by simpa using hj)];unfold roF;rw [h];simp
  rw [zO (fun h=>e h.symm),Zls? hi];unfold roF;rw [show decide (i<j+1)=decide (i<j) from decide_eq_decide.2 (by omega)]
 rw [zL (by simpa using hi),zL (by simpa using hi)]
section
variable {st:LL} {ib ir:Nat} {p:Zae} {room:Int} {ns:List Nd} {S:List Int} {O:List Bool}
theorem Zmt (hN:600≤N) (R:Zoy st ib ir p room ns S O) (k:Int):Zan N (some ir) (some ib) k st=some (ZiJ ns k,rst st ir (rcnS ns S k) (rcnO ns O k)):=by
 unfold Zan rcnS rcnO;rw [ZjY R,Zaa];dsimp only;have hb:=R.b;have hne:=R.ne;have hir:ir<st.length:=(List.getElem?_eq_some_iff.1 R.r).1;by_cases h:ZiJ ns k=0
 ·rw [if_neg (by rw [h];simp),if_pos h,if_pos h,h];obtain ⟨z,rfl,hz0,hz1⟩:=ZgA h;have sm:=R.small;have s6:=R.S6;have o6:=R.O6;rw [Zaa,R.b,Zar,ZbX];have e0:st=rst st ir (ZgL ns (z:Int) S 0) (Zha ns (z:Int) O 0):=by rw [ZrN,ZrO,R.same]
  conv=>lhs;rw [e0]
  refine Zcd (fun m (s:(Option Nat)×Int×LL)=>∃j:Nat,j+m=ns.length∧s=(some ir,(j:Int),rst st ir (ZgL ns (z:Int) S j) (Zha ns (z:Int) O j))) ?_ N ns.length _ ⟨0,by omega,rfl⟩ (by omega);rintro G m _ ⟨j,hjm,rfl⟩ hG;unfold Zan.p1 Zan.p2;dsimp only;rw [Ztc];by_cases hlt:j<ns.length
  ·have w1:w64 ((j:Int)+1)=((j+1:Nat):Int):=by rw [ZaJ (by omega) (by omega)];rfl
   have gb:(rst st ir (ZgL ns (z:Int) S j) (Zha ns (z:Int) O j))[ib]? = some (rOf p room ns).lo:=by unfold rst;rw [zO hne];exact hb
   have gr:(rst st ir (ZgL ns (z:Int) S j) (Zha ns (z:Int) O j))[ir]? = some (rm2 (ZgL ns (z:Int) S j) (Zha ns (z:Int) O j)):=zN hir;have hS:(ZgL ns (z:Int) S j).getD j 0=S.getD j 0:=by
    rw [yC,Zju? (by omega)];unfold rsF;simp
   have nxt : ∀S' O',S'=ZgL ns (z:Int) S (j+1)→O'=Zha ns (z:Int) O (j+1)→G (some ir,w64 ((j:Int)+1),rst st ir S' O')=some (0,rst st ir (recS ns (z:Int) S) (recO ns (z:Int) O)):=by
    rintro S' O' rfl rfl;rw [w1];exact hG (m-1) _ (by omega) ⟨j+1,by omega,rfl⟩
   have rr : ∀S1 O1 S2 O2,zM (rst st ir S1 O1) ir (rm2 S2 O2)=rst st ir S2 O2:=fun _ _ _ _=>by unfold rst;rw [yT]
   have body:Zol ns (z:Int) j=true→(if ((ZgL ns (z:Int) S j).getD j 0==2)=true then
     G (some ir,w64 ((j:Int)+1),zM (zM (rst st ir (ZgL ns (z:Int) S j) (Zha ns (z:Int) O j)) ir (rm2 (ZgL ns (z:Int) S j) ((Zha ns (z:Int) O j).set j false))) ir (rm2 ((ZgL ns (z:Int) S j).set j 0) ((Zha ns (z:Int) O j).set j false)))
     else G (some ir,w64 ((j:Int)+1),zM (rst st ir (ZgL ns (z:Int) S j) (Zha ns (z:Int) O j)) ir (rm2 (ZgL ns (z:Int) S j) ((Zha ns (z:Int) O j).set j false))))=some (0,rst st ir (recS ns (z:Int) S) (recO ns (z:Int) O)):=by
    intro hc;rw [rr,rr,hS];by_cases h2:S.getD j 0=2
    ·rw [if_pos (by rw [h2];rfl)];exact nxt _ _ (Zta (by omega) hc h2).symm (Zpb (by omega) hc).symm
    rw [if_neg (by simpa using h2)];exact nxt _ _ (ZmU (.inr h2)).symm (Zpb (by omega) hc).symm
   rw [if_pos (decide_eq_true (by omega)),gb,Zar,ZbX,on_eq R.tr hN hz0,Zpi hlt hz0,Zaa,on_eq R.tr hN hlt,Zpi hz0 hlt,Zaa,Zaa,Zah (by omega),Zah (by omega),gr,Zar,Zok,zG];dsimp only;cases hw:ZfS ns (j:Int) (z:Int)
   ·rw [if_neg (by simp)];cases hw2:ZfS ns (z:Int) (j:Int)
    ·rw [if_neg (by simp)];have hc:Zol ns (z:Int) j=false:=by unfold Zol;rw [hw,hw2];rfl
     exact nxt _ _ (ZmU (.inl hc)).symm (ZrP hc).symm
    rw [if_pos rfl];exact body (by unfold Zol;rw [hw,hw2];rfl)
   rw [if_pos rfl];exact body (by unfold Zol;rw [hw];rfl)
  have hj:j=ns.length:=by omega
  subst hj;rw [if_neg (by simp<;>omega)];rfl
 have hp:ZiJ ns k>0:=by
  unfold ZiJ at h ⊢;split
  ·split
   ·omega
   rename_i h1 h2;rw [if_pos h1,if_neg h2] at h;exact absurd rfl h
  omega
 rw [if_pos (by simpa using hp),if_neg h,if_neg h,R.same]
end
end Go.Dn.F
namespace Go.Dn.F
open Go.Dn Go.Proofs
variable {N:Nat}
def Zsq (it im ib ir:Nat):List L:=[zQ (some it),zQ (some im),zQ (some ib),zQ (some ir)]
structure ZeY (st:LL) (ia it im ib ir ih:Nat) (p:Zae) (ns:List Nd) (lp:List Int) (S:List Int) (O:List Bool):Prop where
 M:ZiO st ia it im p 100 ns lp S O
 R:Zoy st ib ir p 100 ns S O
 h:st[ih]? = some (Zsq it im ib ir)
 nd : [ia,it,im,ib,ir,ih].Nodup
 gen:S.getD 0 0=1∧O.getD 0 false=false
 len1:1≤ns.length
theorem Zsj {ns:List Nd} (ht:Zht ns) (x:Nd) (S:List Int) (O:List Bool) {k:Nat} (hk:k≤ns.length):(ZeS (ns ++ [x]) S O).take k=(ZeS ns S O).take k:=by
 refine xH fun i=>?_;rcases zU i k with h | h
 ·rw [tA h,tA h,Zgh (by simp;omega),Zgh (by omega)];unfold stZ chZ;rw [ZhZ x ht (by omega)]
 rw [sS h,sS h]
section
variable {st:LL} {ia it im ib ir ih:Nat} {p:Zae} {ns:List Nd} {lp:List Int} {S:List Int} {O:List Bool}
theorem ZeY.ne (B:ZeY st ia it im ib ir ih p ns lp S O):(im≠ib∧im≠ir∧im≠ih)∧(ir≠ia∧ir≠it∧ir≠im∧ir≠ih)∧(ib≠ia∧ib≠it∧ib≠im∧ib≠ir∧ib≠ih)∧(ih≠ia∧ih≠it):=by
 have:=B.nd;simp at this;omega
theorem ZiO.turned (M:ZiO st ia it im p 100 ns lp S O) {S':List Int} {O':List Bool} (h : ∀i,ns.length≤i→S'.getD i 0=S.getD i 0∧O'.getD i false=O.getD i false):ZiO (F.gst st im it ns S' O') ia it im p 100 ns lp S' O':=
 ⟨M.T.setIm M.na M.nt,M.na,M.nt,⟨ns.length,Nat.le_refl _,by rw [zX (by simp)];exact zN M.im_lt,fun i hi=>by rw [(h i hi).1,(h i hi).2];exact M.gst_len i hi⟩,M.small⟩
theorem ZiO.other (M:ZiO st ia it im p 100 ns lp S O) {j:Nat} {x:List L} (h1:j≠ia) (h2:j≠it) (h3:j≠im):ZiO (st.set j x) ia it im p 100 ns lp S O:=by
 obtain ⟨k,hk,hm,hn⟩:=M.k;exact ⟨M.T.setIm h1 h2,M.na,M.nt,⟨k,hk,by rw [zO h3];exact hm,hn⟩,M.small⟩
theorem Zoy.other (R:Zoy st ib ir p 100 ns S O) {j:Nat} {x:List L} (h1:j≠ib) (h2:j≠ir):Zoy (st.set j x) ib ir p 100 ns S O:=
 ⟨by rw [zO h1];exact R.b,by rw [zO h2];exact R.r,R.ne,R.tr,R.small,R.S6,R.O6,R.pos⟩
theorem ZeY.turn (B:ZeY st ia it im ib ir ih p ns lp S O) {S':List Int} {O':List Bool} (h : ∀i,ns.length≤i→S'.getD i 0=S.getD i 0∧O'.getD i false=O.getD i false) (h1:S'.length=600) (h2:O'.length=600) (h3 : ∀i,0≤S'.getD i 0) (h4:S'.getD 0 0=1∧O'.getD 0 false=false) :
  ZeY (rst (F.gst st im it ns S' O') ir S' O') ia it im ib ir ih p ns lp S' O':=by
 obtain ⟨⟨n1,n2,n3⟩,⟨n4,n5,n6,n7⟩,⟨n8,n9,n10,n11,n12⟩,n13,n14⟩:=B.ne;have R1:Zoy (F.gst st im it ns S' O') ib ir p 100 ns S O:=B.R.other n1 n2;exact ⟨(B.M.turned h).other n4 n5 n6,R1.put h1 h2 h3,by unfold rst gst;rw [zO n7,zO n3];exact B.h,B.nd,h4,B.len1⟩
theorem ZeY.gst (B:ZeY st ia it im ib ir ih p ns lp S O):ZeY (F.gst st im it ns S O) ia it im ib ir ih p ns lp S O:=by
 obtain ⟨⟨n1,n2,n3⟩,_⟩:=B.ne;exact ⟨B.M.gst,B.R.other n1 n2,by unfold F.gst;rw [zO n3];exact B.h,B.nd,B.gen,B.len1⟩
theorem ZeY.ih_gst (B:ZeY st ia it im ib ir ih p ns lp S O) (S':List Int) (O':List Bool):(F.gst st im it ns S' O')[ih]? = some (Zsq it im ib ir):=by
 obtain ⟨⟨n1,n2,n3⟩,_⟩:=B.ne;unfold F.gst;rw [zO n3];exact B.h
theorem ZeY.R_gst (B:ZeY st ia it im ib ir ih p ns lp S O) (S':List Int) (O':List Bool):Zoy (F.gst st im it ns S' O') ib ir p 100 ns S O:=by
 obtain ⟨⟨n1,n2,n3⟩,_⟩:=B.ne;exact B.R.other n1 n2
theorem ZeY.fl0 (B:ZeY st ia it im ib ir ih p ns lp S O):ZeD ns 0 = [0]:=by
 rcases ZdY B.M.T.tr B.len1 with ⟨_,_,e,_⟩ | ⟨q,hq,_⟩
 ·exact e
 omega
theorem ZeY.vl0 (B:ZeY st ia it im ib ir ih p ns lp S O):vlZ ns S O 0=true:=by
 rw [ZsB,B.fl0];simp only [yN,sM];rw [B.gen.1,B.gen.2];rfl
theorem Zfw {α:Type} {it im ib ir:Nat} (k:Option Nat→Option Nat→Option Nat→Option Nat→Option α):Zbm (Zsq it im ib ir) k=k (some it) (some im) (some ib) (some ir):=rfl
theorem ZeY.ck {α:Type} (B:ZeY st ia it im ib ir ih p ns lp S O) (S':List Int) (O':List Bool) (A:Option α):chk (eqO ((F.gst st im it ns S' O')[ih]?) (some [zQ (some it),zQ (some im),zQ (some ib),zQ (some ir)])=true) A=A:=Zah (eqO_of (B.ih_gst S' O'))
theorem does_eq (hN:1000≤N) (hp:WfP p) {gs:List ZcN} {cs:List Zco} (hg:p.Gates=Zmp gs) (hc:p.Checks=ZjN cs) (lg:gs.length≤400) (lc:cs.length≤400) (B:ZeY st ia it im ib ir ih p ns lp S O) (hsm:ns.length≤150) (x:ZbA) (wx:WfH x.Header) (nx:0≤x.Now∧x.Now≤9223372036854775807) :
  ∃st' ns' lp' S' O',Zbv N (some ih) x st=some (true,st')∧ZeY st' ia it im ib ir ih p ns' lp' S' O'∧ns'.length≤ns.length+1:=by
 obtain ⟨⟨n1,n2,n3⟩,⟨n4,n5,n6,n7⟩,⟨n8,n9,n10,n11,n12⟩,n13,n14⟩:=B.ne;have sm:=B.R.small;have gl:=B.M.gst_len;unfold Zbv Zbv.p1;by_cases k0:x.Kind=0
 ·rw [if_pos (by simpa using k0),Zaa,B.h,Zar,Zfw];obtain ⟨lp',st',ea,T',keep⟩:=skAdd_eq (N:=N) (by omega) hg hc lg lc (by omega) B.M.T wx x.Now (by omega);have hib:st'[ib]? = some (rOf p 100 ns).lo:=by rw [keep _ n8 n9];exact B.R.b
  have l1:=addT_len p gs cs 100 ns x.Header x.Now;rw [ea,Zaa];dsimp only;rw [keep _ n13 n14,B.h,Zar,Zfw,ZoZ (by omega) hg hc lg lc (by omega) B.M.T.tr (by omega) hib wx _ nx,Zaa];dsimp only;refine ⟨_,(Zjg p gs cs 100 ns x.Header x.Now).2.2.2,lp',S,O,rfl,?_,?_⟩
  ·obtain ⟨k,hk,hm,hn⟩:=B.M.k;have hrow:(ZeS (Zjg p gs cs 100 ns x.Header x.Now).2.2.2 S O).take k=(ZeS ns S O).take k:=by
    rcases Zkj p gs cs 100 ns x.Header x.Now with e | ⟨q,_,_,_,_,_,e⟩
    ·rw [e]
    rw [e];exact Zsj B.M.T.tr _ S O hk
   have him:st'[im]? = some (mk2 it ((ZeS (Zjg p gs cs 100 ns x.Header x.Now).2.2.2 S O).take k)):=by rw [keep _ B.M.na B.M.nt,hrow];exact hm
   have M':ZiO st' ia it im p 100 (Zjg p gs cs 100 ns x.Header x.Now).2.2.2 lp' S O:=⟨T',B.M.na,B.M.nt,⟨k,by omega,him,hn⟩,by omega⟩
   refine ⟨M'.other n8 n9 n10,⟨zN (List.getElem?_eq_some_iff.1 hib).1,by rw [zO n11,keep _ n4 n5];exact B.R.r,B.R.ne,T'.tr,by omega,B.R.S6,B.R.O6,B.R.pos⟩,by rw [zO n12,keep _ n13 n14];exact B.h,B.nd,B.gen,by have:=B.len1;omega⟩
  omega
 rw [if_neg (by simpa using k0)];have fin : ∀(S':List Int) (O':List Bool),(∀i,ns.length≤i→S'.getD i 0=S.getD i 0∧O'.getD i false=O.getD i false)→S'.length=600→O'.length=600→(∀i,0≤S'.getD i 0)→(S'.getD 0 0=1∧O'.getD 0 false=false)→∀o:Option (Bool×LL),o=some (true,rst (F.gst st im it ns S' O') ir S' O') →
   ∃st' ns' lp' S' O',o=some (true,st')∧ZeY st' ia it im ib ir ih p ns' lp' S' O'∧ns'.length≤ns.length+1:=
  fun S' O' h h1 h2 h3 h4 o ho=>⟨_,ns,lp,S',O',ho,B.turn h h1 h2 h3 h4,by omega⟩
 have s6:=B.R.S6;have o6:=B.R.O6;by_cases k1:x.Kind=1
 ·rw [if_pos (by simpa using k1),Zaa,B.h,Zar,Zfw,Zst (by omega) B.M s6,Zaa];dsimp only;have hP : ∀i,(vrdS ns S x.N x.Right).getD i 0=S.getD i 0∨(1≤i∧i<ns.length∧0≤(vrdS ns S x.N x.Right).getD i 0):=by
   intro i;unfold vrdS;by_cases hv:vrdE ns S x.N x.Right=0
   ·rw [if_pos hv];have hz:ZiJ ns x.N=0:=by
     unfold vrdE at hv;by_cases hz:ZiJ ns x.N=0
     ·exact hz
     rw [if_neg hz] at hv;exact absurd hv hz
    obtain ⟨j,ej,hj,hj1⟩:=ZgA hz;rw [ej,zG,Zgx (by omega)];by_cases hij:i=j
    ·rw [if_pos hij];right;exact ⟨by omega,by omega,by unfold ZpX;split<;>omega⟩
    rw [if_neg hij];exact .inl rfl
   rw [if_neg hv];exact .inl rfl
  refine fin (vrdS ns S x.N x.Right) O (fun i hi=>?_) (by unfold vrdS;split<;>simp [s6]) o6 (fun i=>?_) ?_ _ ?_
  ·rcases hP i with h | ⟨_,h,_⟩
   ·exact ⟨h,rfl⟩
   omega
  ·rcases hP i with h | ⟨_,_,h⟩
   ·rw [h];exact B.R.pos i
   exact h
  ·rcases hP 0 with h | ⟨h,_⟩
   ·exact ⟨h.trans B.gen.1,B.gen.2⟩
   omega
  rw [B.ck,Zqm (B.R_gst _ _),Zaa];dsimp only;rw [beq_self_eq_true]
 rw [if_neg (by simpa using k1)];by_cases k2:x.Kind=2
 ·rw [if_pos (by simpa using k2),Zaa,B.h,Zar,Zfw,ZhH (by omega) B.M o6,Zaa];dsimp only;have hP : ∀i,(Zuw ns O x.N).getD i false=O.getD i false∨(1≤i∧i<ns.length):=by
   intro i;unfold Zuw;by_cases hz:ZiJ ns x.N=0
   ·rw [if_pos hz];obtain ⟨j,ej,hj,hj1⟩:=ZgA hz;rw [ej,zG,Zgx (by omega)];by_cases hij:i=j
    ·right;exact ⟨by omega,by omega⟩
    rw [if_neg hij];exact .inl rfl
   rw [if_neg hz];exact .inl rfl
  refine fin S (Zuw ns O x.N) (fun i hi=>?_) s6 (by unfold Zuw;split<;>simp [o6]) B.R.pos ?_ _ ?_
  ·rcases hP i with h | ⟨_,h⟩
   ·exact ⟨rfl,h⟩
   omega
  ·rcases hP 0 with h | ⟨h,_⟩
   ·exact ⟨B.gen.1,h.trans B.gen.2⟩
   omega
  rw [B.ck,Zmu (B.R_gst _ _),Zaa];dsimp only;rw [beq_self_eq_true]
 rw [if_neg (by simpa using k2)];by_cases k3:x.Kind=3
 ·rw [if_pos (by simpa using k3),Zaa,B.h,Zar,Zfw,Zou (by omega) B.M,Zaa];dsimp only;have hS : ∀i,(rcnS ns S x.N).getD i 0=S.getD i 0∨(i<ns.length∧S.getD i 0=2∧(rcnS ns S x.N).getD i 0=0):=by
   intro i;unfold rcnS;by_cases hz:ZiJ ns x.N=0
   ·rw [if_pos hz,ZnK];unfold rsF;by_cases hq:(decide (i<ns.length)&&Zol ns x.N i&&S.getD i 0==2)=true
    ·rw [if_pos hq];simp only [zS,decide_eq_true_eq,beq_iff_eq] at hq;exact .inr ⟨hq.1.1,hq.2,rfl⟩
    rw [if_neg hq];exact .inl rfl
   rw [if_neg hz];exact .inl rfl
  have hO : ∀i,(rcnO ns O x.N).getD i false=O.getD i false∨(i<ns.length∧(rcnO ns O x.N).getD i false=false):=by
   intro i;unfold rcnO;by_cases hz:ZiJ ns x.N=0
   ·rw [if_pos hz,ZnL];unfold roF;by_cases hq:(decide (i<ns.length)&&Zol ns x.N i)=true
    ·rw [if_pos hq];simp only [zS,decide_eq_true_eq] at hq;exact .inr ⟨hq.1,rfl⟩
    rw [if_neg hq];exact .inl rfl
   rw [if_neg hz];exact .inl rfl
  refine fin (rcnS ns S x.N) (rcnO ns O x.N) (fun i hi=>⟨?_,?_⟩) (by unfold rcnS;split<;>simp [recS,s6]) (by unfold rcnO;split<;>simp [recO,o6]) (fun i=>?_) ⟨?_,?_⟩ _ ?_
  ·rcases hS i with h | ⟨h,_⟩
   ·exact h
   omega
  ·rcases hO i with h | ⟨h,_⟩
   ·exact h
   omega
  ·rcases hS i with h | ⟨_,_,h⟩
   ·rw [h];exact B.R.pos i
   omega
  ·rcases hS 0 with h | ⟨_,h,_⟩
   ·exact h.trans B.gen.1
   rw [B.gen.1] at h;omega
  ·rcases hO 0 with h | ⟨_,h⟩
   ·exact h.trans B.gen.2
   exact h
  rw [B.ck,Zmt (by omega) (B.R_gst _ _),Zaa];dsimp only;rw [beq_self_eq_true]
 rw [if_neg (by simpa using k3)];exact ⟨st,ns,lp,S,O,rfl,B,by omega⟩
end
end Go.Dn.F
namespace Go.Dn.F
open Go.Dn Go.Proofs
variable {N:Nat}
section
variable {st:LL} {ia it im ib ir ih:Nat} {p:Zae} {ns:List Nd} {lp:List Int} {S:List Int} {O:List Bool}
end
def S0:List Int:=(zB 600 0).set 0 1
def O0:List Bool:=zB 600 false
theorem ZpR (i:Nat):S0.getD i 0=if i=0 then 1 else 0:=by
 unfold S0;rw [Zgx (by simp)];by_cases h:i=0
 ·rw [if_pos h,if_pos h]
 rw [if_neg h,if_neg h,yC,wR];split<;>rfl
theorem ZrD (i:Nat):O0.getD i false=false:=by
 unfold O0;rw [yC,wR];split<;>rfl
theorem Zsp {p:Zae} (hp:WfP p) (st:LL):ZeY ((((((st ++ [(aOf p 100 [ZfI p]).lo]) ++ [Zgi st.length [-1]]) ++ [mk2 (st.length+1) []]) ++ [(rOf p 100 [ZfI p]).lo]) ++ [rm2 S0 O0]) ++ [Zsq (st.length+1) (st.length+2) (st.length+3) (st.length+4)])
  st.length (st.length+1) (st.length+2) (st.length+3) (st.length+4) (st.length+5) p [ZfI p] [-1] S0 O0:=by
 have T:=ZqT hp 100 st;have T5:=(((T.app [mk2 (st.length+1) []]).app [(rOf p 100 [ZfI p]).lo]).app [rm2 S0 O0]).app [Zsq (st.length+1) (st.length+2) (st.length+3) (st.length+4)];refine ⟨⟨T5,by omega,by omega,⟨0,by simp,?_,fun i _=>⟨ZpR i,ZrD i⟩⟩,by simp⟩,⟨?_,?_,by omega,T.tr,by simp,by simp [S0],by simp [O0],fun i=>by rw [ZpR];split<;>omega⟩,?_,?_,⟨ZpR 0,ZrD 0⟩,by simp⟩
 ·simp
 ·simp
 ·simp
 ·simp
 simp
theorem start_eq (hN:1000≤N) {p:Zae} (hp:WfP p) {gs:List ZcN} {cs:List Zco} (hg:p.Gates=Zmp gs) (hc:p.Checks=ZjN cs) (lg:gs.length≤400) (lc:cs.length≤400) (hgd:Zmq p gs cs=true) (st:LL) :
  ∃ia it im ib ir ih st',ZdV N p st=some (some ih,st')∧ZeY st' ia it im ib ir ih p [ZfI p] [-1] S0 O0:=by
 unfold ZdV;rw [ZqS (by omega) hg hc lg lc hp,hgd,if_pos rfl,Zaa];dsimp only;unfold Zfu;rw [Zaa];dsimp only;rw [ZoY (by omega) hp,Zaa,show Zkt 100=100 from rfl];dsimp only;unfold Zfd;rw [Zaa];dsimp only;have e1 : ∀(l:LL) (x y:List L),(l ++ [x]).set l.length y=l ++ [y]:=fun l x y=>by simp
 rw [e1];have B:=Zsp hp st;have l1:(st ++ [(aOf p 100 [ZfI p]).lo] ++ [Zgi st.length [-1]]:LL).length=st.length+2:=by simp
 have l2:(st ++ [(aOf p 100 [ZfI p]).lo] ++ [Zgi st.length [-1]] ++ [[zQ (some (st.length+1)),yB true 3 []]]:LL).length=st.length+3:=by simp
 have l3:(st ++ [(aOf p 100 [ZfI p]).lo] ++ [Zgi st.length [-1]] ++ [[zQ (some (st.length+1)),yB true 3 []]] ++ [(rOf p 100 [ZfI p]).lo]:LL).length=st.length+4:=by simp
 have l4 : ∀x:List L,(st ++ [(aOf p 100 [ZfI p]).lo] ++ [Zgi st.length [-1]] ++ [[zQ (some (st.length+1)),yB true 3 []]] ++ [(rOf p 100 [ZfI p]).lo] ++ [x]:LL).length=st.length+5:=by simp
 rw [l1,l2,l3,l4];exact ⟨_,_,_,_,_,_,_,rfl,B⟩
end Go.Dn.F
namespace Go.Dn.F
open Go.Dn Go.Proofs
variable {N:Nat}
structure WfA16 (c:ZbA):Prop where
 h:WfH c.Header
 n:Zob c.Now
abbrev tysAct:List Ty:=[.int .i64,.int .i64,.arr .u8 32,.arr .u8 32,.int .i64,.int .i64,.int .i64,.int .i64,.int .i64,.bool]
noncomputable def ZiQ (l:List ZbA):LL:=l.map ZbA.ls
theorem ZmO {l:List ZbA} {i:Nat} (h:i<l.length):(ZiQ l)[i]? = some l[i].ls:=by simp [ZiQ,h]
@[simp] theorem Zne (l:List ZbA):len (ZiQ l)=(l.length:Int):=by simp [len,ZiQ]
@[simp] theorem Znz (l:List ZbA):(ZiQ l).length=l.length:=by simp [ZiQ]
theorem open_A16 {xs:LL} (h : ∀x∈xs,ZhG tysAct x) : ∃l,xs=ZiQ l∧∀x∈l,WfA16 x:=
 Zrs fun x hx=>by
  obtain ⟨_,_,rfl,h0,h⟩:=(h x hx).cons_inv;obtain ⟨_,_,rfl,h1,h⟩:=h.cons_inv;obtain ⟨_,_,rfl,h2,h⟩:=h.cons_inv;obtain ⟨_,_,rfl,h3,h⟩:=h.cons_inv;obtain ⟨_,_,rfl,h4,h⟩:=h.cons_inv;obtain ⟨_,_,rfl,h5,h⟩:=h.cons_inv;obtain ⟨_,_,rfl,h6,h⟩:=h.cons_inv;obtain ⟨_,_,rfl,h7,h⟩:=h.cons_inv;obtain ⟨_,_,rfl,h8,h⟩:=h.cons_inv;obtain ⟨_,_,rfl,h9,h⟩:=h.cons_inv;cases h.nil_inv;obtain ⟨a0,rfl,w0⟩:=h0.int_inv;obtain ⟨a1,rfl,w1⟩:=h1.int_inv;obtain ⟨a2,rfl,k2,w2⟩:=h2.arr_inv;obtain ⟨a3,rfl,k3,w3⟩:=h3.arr_inv;obtain ⟨a4,rfl,w4⟩:=h4.int_inv;obtain ⟨a5,rfl,w5⟩:=h5.int_inv;obtain ⟨a6,rfl,w6⟩:=h6.int_inv;obtain ⟨a7,rfl,w7⟩:=h7.int_inv;obtain ⟨a8,rfl,w8⟩:=h8.int_inv;obtain ⟨a9,rfl⟩:=h9.bool_inv;refine ⟨⟨a0,⟨a1,a2,a3,a4,a5,a6⟩,a7,a8,a9⟩,rfl,⟨⟨ZfY w1,?_,ZfY w4,ZfY w5,ZfY w6⟩,ZfY w7⟩⟩;simp only [wfH,zS];exact ⟨ZqN k2 w2,ZqN k3 w3⟩
theorem Zsi {p:Zae} (hp:WfP p) (l:List ZbA) (hl:l.length+900≤N) (hb:l.length≤maxLen) :
  ∃b,Zci N p (ZiQ l)=some b∧(b=false→(∀x∈l,0≤x.Now)∧l.length≤40∧∃gs cs,p.Gates=Zmp gs∧p.Checks=ZjN cs∧gs.length≤400∧cs.length≤400∧Zmq p gs cs=true):=by
 unfold Zci;have hm:maxLen=9223372036854775807:=rfl;refine ZiG (fun m (v:Int)=>∃k:Nat,k+m=l.length∧v=(k:Int)∧∀x∈l.take k,0≤x.Now) ?_ N l.length 0 ⟨0,by omega,rfl,by simp⟩ (by omega);rintro G m _ ⟨k,hk,rfl,ha⟩ hG;unfold Zci.p1;rw [Zne];by_cases hlt:k<l.length
 ·rw [if_pos (by simp<;>omega),Zah (by omega),zG,ZmO hlt,Zar,ZfC,ZaJ (by omega) (by omega)];by_cases h:l[k].Now<0
  ·rw [if_pos (by simpa using h)];exact ⟨true,rfl,fun h=>by cases h⟩
  rw [if_neg (by simpa using h)];refine hG (m-1) _ (by omega) ⟨k+1,by omega,by omega,fun x hx=>?_⟩;rw [yG hlt] at hx;rcases List.mem_append.1 hx with hx | hx
  ·exact ha x hx
  cases List.mem_singleton.1 hx;omega
 rw [if_neg (by simp<;>omega)];rw [zX (by omega)] at ha;by_cases h1:len p.Gates>20
 ·rw [if_pos (by simpa using h1)];exact ⟨true,rfl,fun h=>by cases h⟩
 rw [if_neg (by simpa using h1)];by_cases h2:len p.Checks>20
 ·rw [if_pos (by simpa using h2)];exact ⟨true,rfl,fun h=>by cases h⟩
 rw [if_neg (by simpa using h2)];by_cases h3:(l.length:Int)>40
 ·rw [if_pos (by simpa using h3)];exact ⟨true,rfl,fun h=>by cases h⟩
 rw [if_neg (by simpa using h3)];obtain ⟨gs,eg⟩:=open_G hp.g;obtain ⟨cs,ec⟩:=open_K hp.c;have lg:gs.length≤400:=by simp [len,eg] at h1;omega
 have lc:cs.length≤400:=by simp [len,ec] at h2;omega
 rw [ZnG (by omega) eg lg ec lc,Zaa];refine ⟨_,rfl,fun h=>⟨ha,by omega,gs,cs,eg,ec,lg,lc,by simpa using h⟩⟩
theorem mk_start {p:Zae} (hp:WfP p) (room:Int) (st:LL):ZiO (((st ++ [(aOf p room [ZfI p]).lo]) ++ [Zgi st.length [-1]]) ++ [mk2 (st.length+1) []]) st.length (st.length+1) (st.length+2) p room [ZfI p] [-1] S0 O0:=
 ⟨(ZqT hp room st).app [mk2 (st.length+1) []],by omega,by omega,⟨0,by simp,by simp,fun i _=>⟨ZpR i,ZrD i⟩⟩,by simp⟩
theorem alive16 (hN:1000≤N) : ∃st,ZdW N []=some (true,st):=by
 unfold ZdW;rw [show (Zae.mk 545259519 4 10 0 false [] [] (zB 4 0) (zB 4 0) (Zak.mk 0 (zB 32 0) (zB 32 0) 0 0 0))=pA from rfl,ZqS (by omega) (p:=pA) (gs:=[]) (cs:=[]) rfl rfl (by simp) (by simp) pA_wf 5 [],if_pos (by kernel_rfl),Zaa,show Zkt 5=5 from rfl];dsimp only;rw [if_neg (by simp)];unfold Zfu;rw [Zaa];dsimp only;have M:=mk_start pA_wf 5 [];have e2:(([] ++ [(aOf pA 5 [ZfI pA]).lo]) ++ [Zgi ([]:LL).length [-1]]:LL).length=([]:LL).length+2:=by simp
 have e3 : [[zQ (some (([]:LL).length+1)),yB true 3 []]] = [mk2 (([]:LL).length+1) []]:=rfl;rw [e2,e3];generalize ((([] ++ [(aOf pA 5 [ZfI pA]).lo]) ++ [Zgi ([]:LL).length [-1]]) ++ [mk2 (([]:LL).length+1) []]:LL)=st at M ⊢;generalize ([]:LL).length=z at M ⊢;have hv:vlZ [ZfI pA] S0 O0 0=true:=by
  rw [ZsB,show ZeD [ZfI pA] 0 = [0] from rfl];simp only [yN,sM];rw [ZpR,ZrD];rfl
 have ep:Zhz [ZfI pA] (vlZ [ZfI pA] S0 O0)=0:=by rw [ZiC (by simp)];rfl
 rw [Zlw (by omega) M (by simp) hv,Zaa,ep];dsimp only;rw [if_pos (by rfl),ZkX (by omega) M.gst,Zaa,Zjc];dsimp only;rw [show atZ [ZfI pA] (vlZ [ZfI pA] S0 O0) 0=true from by unfold atZ;rw [show inB [ZfI pA] 0=true by decide,xZ];exact hv,if_pos rfl,ZhH (by omega) M.gst (by simp [O0]),Zaa];exact ⟨_,rfl⟩
end Go.Dn.F
namespace Go.Dn.F
open Go.Dn Go.Proofs
theorem ZlN {ns:List Nd} {x y:Nat} (hx:x<ns.length) (hy:y<ns.length):hvZ ns x y=true↔ns[y].wk<ns[x].wk∨(ns[x].wk=ns[y].wk∧x<y):=by
 rw [hvZ_at hx hy];simp
theorem ZtF {ns:List Nd} {x y z:Nat} (hx:x<ns.length) (hy:y<ns.length) (hz:z<ns.length) (h1:hvZ ns x y=true) (h2:hvZ ns y z=true):hvZ ns x z=true:=by
 rw [ZlN hx hy] at h1;rw [ZlN hy hz] at h2;rw [ZlN hx hz];omega
theorem ZtG {ns:List Nd} {x y:Nat} (hx:x<ns.length) (hy:y<ns.length) (hne:x≠y) (h:hvZ ns x y=false):hvZ ns y x=true:=by
 have h1 : ¬ (hvZ ns x y=true):=by rw [h];simp
 rw [ZlN hx hy] at h1;rw [ZlN hy hx];omega
theorem Zlv {ns:List Nd} {f:Nat→Bool} : ∀(m j out:Nat),j+m=ns.length→out<j→f out=true→(∀i,i<j→f i=true→i=out∨hvZ ns out i=true) →
  ZjZ ns f m j out<ns.length∧f (ZjZ ns f m j out)=true∧∀i,i<ns.length→f i=true→i=ZjZ ns f m j out∨hvZ ns (ZjZ ns f m j out) i=true
 | 0,j,out,hj,ho,hf,hi=>⟨by show out<_;omega,hf,fun i h1 h2=>hi i (by omega) h2⟩
 | m+1,j,out,hj,ho,hf,hi=>by
  unfold ZjZ;by_cases h:(f j&&hvZ ns j out)=true
  ·rw [if_pos h];simp only [zS] at h;refine Zlv m (j+1) j (by omega) (by omega) h.1 fun i h1 h2=>?_;by_cases e:i=j
   ·exact .inl e
   right;rcases hi i (by omega) h2 with rfl | h3
   ·exact h.2
   exact ZtF (by omega) (by omega) (by omega) h.2 h3
  rw [if_neg h];refine Zlv m (j+1) out (by omega) (by omega) hf fun i h1 h2=>?_;by_cases e:i=j
  ·subst e;right;rw [h2,xZ] at h;exact ZtG (by omega) (by omega) (by omega) (by simpa using h)
  exact hi i (by omega) h2
theorem Zpf {ns:List Nd} {f:Nat→Bool} (h:0<ns.length) (h0:f 0=true):Zhz ns f<ns.length∧f (Zhz ns f)=true∧∀i,i<ns.length→f i=true→i=Zhz ns f∨hvZ ns (Zhz ns f) i=true:=by
 rw [ZiC h];exact Zlv _ 1 0 (by omega) (by omega) h0 fun i h1 h2=>.inl (by omega)
theorem Zme {ns:List Nd} {f:Nat→Bool} {j:Nat} (h:j<ns.length):atZ ns f (j:Int)=f j:=by
 unfold atZ;rw [show inB ns (j:Int)=true from inB_true.2 ⟨by omega,by omega⟩];simp
theorem ZpW {ns:List Nd} {x y:Nat} (hx:x<ns.length) (hy:y<ns.length):ZfS ns (x:Int) (y:Int)=decide (x∈ZeD ns y):=by
 unfold ZfS;simp only [zG];refine decide_eq_decide.2 ⟨fun h=>h.2.2.2.2,fun h=>⟨by omega,by omega,by omega,by omega,h⟩⟩
theorem bad_set {S:List Int} {O:List Bool} {j:Nat} (hO:j<O.length) (x:Nat):ZkI S (O.set j true) x=(decide (x=j)||ZkI S O x):=by
 unfold ZkI;rw [Zgx hO];by_cases h:x=j
 ·rw [if_pos h,decide_eq_true h];simp
 rw [if_neg h,decide_eq_false h];simp
theorem fl_set {ns:List Nd} {S:List Int} {O:List Bool} {j:Nat} (hO:j<O.length) (x:Nat):flZ ns S (O.set j true) x=(flZ ns S O x||decide (j∈ZeD ns x)):=by
 unfold flZ;rw [Bool.eq_iff_iff];simp only [List.any_eq_true,Bool.or_eq_true,decide_eq_true_eq,bad_set hO];constructor
 ·rintro ⟨y,h1,h2 | h2⟩
  ·exact .inr (h2 ▸ h1)
  exact .inl ⟨y,h1,h2⟩
 rintro (⟨y,h1,h2⟩ | h)
 ·exact ⟨y,h1,.inr h2⟩
 exact ⟨j,h,.inl rfl⟩
theorem inv_zero {ns:List Nd} {j:Nat} (hj:j<ns.length) (hj1:1≤j) (O:List Bool):ZiJ ns (j:Int)=0∧Zuw ns O (j:Int)=O.set j true:=by
 have hz:ZiJ ns (j:Int)=0:=by
  unfold ZiJ;rw [if_pos (inB_true.2 ⟨by omega,by omega⟩),if_neg (by omega)]
 exact ⟨hz,by unfold Zuw;rw [if_pos hz,zG]⟩
theorem inv_at {st:LL} {ia it im:Nat} {p:Zae} {ns:List Nd} {lp:List Int} {S:List Int} {O:List Bool} {j:Nat} (M:ZiO st ia it im p 100 ns lp S O) (hj:j<ns.length) (hO:O.length=600) :
  ZiO (F.gst st im it ns S (O.set j true)) ia it im p 100 ns lp S (O.set j true):=by
 have sm:=M.small;exact M.turned fun k hk=>⟨rfl,by rw [Zgx (by omega),if_neg (by omega)]⟩
theorem val_fail {ns:List Nd} {S:List Int} {O:List Bool} {k:Nat} (h:flZ ns S O k=true):vlZ ns S O k=false:=by unfold vlZ;rw [h];simp
theorem set_vl0 {ns:List Nd} {S:List Int} {O:List Bool} {j:Nat} (hj1:1≤j) (hO:j<O.length) (e0:ZeD ns 0 = [0]) (h0:vlZ ns S O 0=true):vlZ ns S (O.set j true) 0=true:=by
 unfold vlZ at h0 ⊢;simp only [zS,Bool.not_eq_true'] at h0 ⊢;refine ⟨h0.1,?_⟩;rw [fl_set hO,h0.2,e0];simp;omega
theorem ZtN {N:Nat} (hN:1000≤N) {st:LL} {ia it im ib ir ih:Nat} {p:Zae} {ns:List Nd} {lp:List Int} {S:List Int} {O:List Bool} (B:ZeY st ia it im ib ir ih p ns lp S O) {j:Nat} (hj:j<ns.length) (hj1:1≤j) :
  ∃st',loopN (Zav.p2 N (j:Int) ih (rOf p 100 ns)) N (0,F.gst st im it ns S (O.set j true))=some (true,st'):=by
 have sm:=B.R.small;have o6:=B.R.O6;have l1:=B.len1;have M1:=inv_at B.M hj o6;have R1:=B.R_gst S (O.set j true);have h1:=B.ih_gst S (O.set j true);have v0:vlZ ns S (O.set j true) 0=true:=set_vl0 hj1 (by omega) B.fl0 B.vl0;have d0:ldZ ns S (O.set j true) 0=true:=by unfold vlZ at v0;unfold ldZ;simp only [zS] at v0;exact v0.2
 have gg:F.gst (F.gst st im it ns S (O.set j true)) im it ns S (O.set j true)=F.gst st im it ns S (O.set j true):=Zjc;have hck : ∀{α:Type} (A:Option α),chk (eqO ((F.gst st im it ns S (O.set j true))[ih]?) (some [zQ (some it),zQ (some im),zQ (some ib),zQ (some ir)])=true) A=A:=fun A=>B.ck S (O.set j true) A;have hfl : ∀x,flZ ns S (O.set j true) x=(flZ ns S O x||decide (j∈ZeD ns x)):=fun x=>fl_set (by omega) x;generalize F.gst st im it ns S (O.set j true)=st1 at *;obtain ⟨b1,b2,_⟩:=Zpf (f:=vlZ ns S (O.set j true)) l1 v0;obtain ⟨c1,c2,_⟩:=Zpf (f:=ldZ ns S (O.set j true)) l1 d0;have nb:flZ ns S (O.set j true) (Zhz ns (vlZ ns S (O.set j true)))=false:=by
  generalize Zhz ns (vlZ ns S (O.set j true))=z at b2 ⊢;unfold vlZ at b2;simp only [zS] at b2;simpa using b2.2
 have nl:flZ ns S (O.set j true) (Zhz ns (ldZ ns S (O.set j true)))=false:=by
  generalize Zhz ns (ldZ ns S (O.set j true))=z at c2 ⊢;unfold ldZ at c2;simpa using c2
 have hl:=M1.T.len
 suffices h : ∃r,loopN (Zav.p2 N (j:Int) ih (rOf p 100 ns)) N (0,st1)=some r∧∃st',r=(true,st') by
  obtain ⟨r,e,st',rfl⟩:=h;exact ⟨st',e⟩
 refine ZiG (Q:=fun r:Bool×LL=>∃st',r=(true,st')) (fun m (s:Int×LL)=>∃i:Nat,i+m=ns.length∧s=((i:Int),st1)) ?_ N ns.length _ ⟨0,by omega,rfl⟩ (by omega);rintro G m _ ⟨i,him,rfl⟩ hG;unfold Zav.p2;dsimp only;rw [Ztc];by_cases hlt:i<ns.length
 ·have w1:w64 ((i:Int)+1)=((i+1:Nat):Int):=by rw [ZaJ (by omega) (by omega)];rfl
  have nxt : ∃r,G (w64 ((i:Int)+1),st1)=some r∧∃st',r=(true,st'):=by
   rw [w1];exact hG (m-1) _ (by omega) ⟨i+1,by omega,rfl⟩
  have key : ∀want:Bool,want=flZ ns S (O.set j true) i→∃r,Zav.p3 N G (j:Int) ih (i:Int) want (rOf p 100 ns) st1=some r∧∃st',r=(true,st'):=by
   rintro want e;unfold Zav.p3;rw [h1,Zar,Zfw,Ziw (by omega) M1,Zaa];dsimp only;rw [gg,Zme hlt,←e,if_neg (by simp)];cases want with
   | false=>rw [if_neg (by simp)];exact nxt
   | true=>
    rw [if_pos rfl,h1,Zar,Zfw,ZkX (by omega) M1,Zaa];dsimp only;rw [gg,Zme hlt,val_fail e.symm,if_neg (by simp)];exact nxt
  rw [if_pos (by simp<;>omega),h1,Zar,Zfw,ZrR (by omega) R1,Zaa];dsimp only;rw [Zme hlt];cases hf:flZ ns S O i
  ·rw [if_neg (by simp),h1,Zar,Zfw,Zaa,M1.T.t,Zar];unfold Zgi;rw [ZcU,Zaa,M1.T.a,Zar,ZbL,show (Zaz.mk (aOf p 100 ns) (Zed lp))=tOf p 100 ns lp from rfl,Zmf (by omega) M1.T.tr M1.T.lv (by omega),Zaa,ZpW hj hlt];exact key _ (by rw [hfl,hf];simp)
  rw [if_pos rfl];exact key _ (by rw [hfl,hf];simp)
 rw [if_neg (by simp<;>omega),h1,Zar,Zfw,Zlw (by omega) M1 l1 v0,Zaa];dsimp only;rw [gg,Ziw (by omega) M1,Zaa];dsimp only;rw [gg,Zme b1,nb,if_pos (by rfl),h1,Zar,Zfw,Zqo (by omega) M1 l1 d0,Zaa];dsimp only;rw [gg,Ziw (by omega) M1,Zaa];dsimp only;rw [gg,Zme c1,nl];rw [hck,show ∀A:Option (Bool×LL),chk (eqO (some (Zsq it im ib ir)) (some [zQ (some it),zQ (some im),zQ (some ib),zQ (some ir)])=true) A=A from fun A=>Zah (eqO_of rfl)];exact ⟨_,rfl,_,rfl⟩
theorem ZpS {p:Zae} (hp:WfP p) (l:List ZbA) (hl : ∀x∈l,WfA16 x) (hb:l.length≤maxLen) (a:Int) : ∃st,Zav (l.length+1000) p (ZiQ l) a []=some (true,st):=by
 unfold Zav;obtain ⟨st0,ea⟩:=alive16 (N:=l.length+1000) (by omega);rw [ea,Zaa];dsimp only;rw [if_neg (by simp)];obtain ⟨b,eg,hgr⟩:=Zsi (N:=l.length+1000) hp l (by omega) hb;rw [eg,Zaa];cases b with
 | true=>exact ⟨st0,by rw [if_pos rfl]⟩
 | false=>
  obtain ⟨hnow,h40,gs,cs,hg,hc,lg,lc,hgd⟩:=hgr rfl;rw [if_neg (by simp)];obtain ⟨ia,it,im,ib,ir,ih,st,es,B⟩:=start_eq (N:=l.length+1000) (by omega) hp hg hc lg lc hgd st0;rw [es,Zaa];dsimp only
  suffices h : ∃r,loopN (Zav.p1 (l.length+1000) a (some ih) (ZiQ l)) (l.length+1000) (0,st)=some r∧∃st',r=(true,st') by
   obtain ⟨r,e,st',rfl⟩:=h;exact ⟨st',e⟩
  refine ZiG (Q:=fun r:Bool×LL=>∃st',r=(true,st')) (fun m (s:Int×LL)=>∃(j:Nat) (st:LL) (ns:List Nd) (lp:List Int) (S:List Int) (O:List Bool),j+m=l.length∧s=((j:Int),st)∧ZeY st ia it im ib ir ih p ns lp S O∧ns.length≤j+1) ?_ (l.length+1000) l.length (0,st) ⟨0,st,[ZfI p],[-1],S0,O0,by omega,rfl,B,by simp⟩ (by omega);rintro G m _ ⟨j,st,ns,lp,S,O,hj,rfl,B,hn⟩ hG;unfold Zav.p1;dsimp only;rw [Zne];by_cases hlt:j<l.length
  ·have wx:=hl _ (yM hlt);have nx:=hnow _ (yM hlt);have rx:=wx.n;unfold Zob at rx;obtain ⟨st',ns',lp',S',O',ed,B',hn'⟩:=does_eq (N:=l.length+1000) (by omega) hp hg hc lg lc B (by omega) l[j] wx.h ⟨nx,by omega⟩;rw [if_pos (by simp<;>omega),Zah (by omega),zG,ZmO hlt,Zar,ZfC,ed,Zaa];dsimp only;rw [ZaJ (by omega) (by omega)];exact hG (m-1) _ (by omega) ⟨j+1,_,ns',lp',S',O',by omega,rfl,B',by omega⟩
  have hN:1000≤l.length+1000:=by omega
  generalize l.length+1000=N at hN ⊢;rw [if_neg (by simp<;>omega),Zaa,B.h,Zar,Zfw,ZhH (by omega) B.M B.R.O6,Zaa];dsimp only;by_cases hz:ZiJ ns a=0
  ·obtain ⟨z,rfl,hz1,hz2⟩:=ZgA hz;obtain ⟨_,hO⟩:=inv_zero hz1 hz2 O;rw [hz,hO,if_neg (by simp),B.ih_gst,Zar,Zfw,Zaa,(B.R_gst S (O.set z true)).b,Zar,ZbX];obtain ⟨st',e⟩:=ZtN hN B hz1 hz2;exact ⟨_,e,st',rfl⟩
  rw [if_pos (by simpa using hz)];exact ⟨_,rfl,_,rfl⟩
theorem MarkFails_true {ls:List L} (xs:LL) (a:Int) (h0:ZhG tysP ls) (h1 : ∀x∈xs,ZhG tysAct x) (l1:xs.length≤maxLen) (w2:(Lit.int .i64 a).wf=true) :
  ∃st,Snd Tryz.prog 8 [.agg ls,.one (.sl 72 xs),.one (.int .i64 a)] [] [.one (.bool true)] st:=by
 obtain ⟨p,rfl,hp⟩:=open_P h0;obtain ⟨l,rfl,hl⟩:=open_A16 h1;obtain ⟨st,h⟩:=ZpS hp l hl (by rw [Znz] at l1;exact l1) a;exact ⟨st,Zav.snd h⟩
end Go.Dn.F
