import Derived.Test.YtbijmojagnjgcaaGreatDoorNum
import Derived.Test.YtbijmojagnjgcaaGreatDoorRul
set_option linter.all false
open Bool renaming true_and→xF,and_eq_true→zT,false_or→uI,true_or→rS,false_and→tV,not_eq_true→vF
open Go.Dn.L renaming arr→zI,ptr→zQ,own→yD
open Int renaming toNat_natCast→zG
open List renaming replicate→zC,foldl_append→vQ,length_map→wC,length_append→zU,length_singleton→yX,set_set→yW,ext_getElem?→xL,getElem?_eq_some_iff→yE,getElem?_set_self→zO,getElem?_set_ne→zP,getElem_mem→yM,drop_zero→vJ,drop_eq_getElem_cons→yQ,getElem_map→vY,length_pos_iff→uF,mem_singleton→xM,mem_append→wB,getElem_append_left→tH,getElem_append_right→rE,getElem?_eq_getElem→zR,getElem?_append_left→zW,getElem?_append_right→yG,take_of_length_le→zY,mem_iff_getElem?→qD,mem_of_getElem?→vA,getElem?_eq_none→zM,range→vO,dropLast_concat→tB,take_succ_eq_append_getElem→yJ,getElem?_take_of_lt→tI,set→zN,map_set→tC,getD_eq_getElem?_getD→yB,any_cons→vZ,map_congr_left→vR,all_cons→yR,all_nil→sX,drop_eq_nil_of_le→wM,getElem?_take_eq_none→rD,getElem?_replicate→wY
open Nat renaming zero_add→yI,add_sub_cancel→uU,strongRecOn→uE,lt_or_ge→zV
set_option maxRecDepth 40000
namespace Go.Dn.F
open Go.Dn Go.Proofs
variable {N:Nat}
structure Nd where
 ch:List Zak
 ah:Int
 wk:Int
def h0:Zak:=⟨0,zC 32 0,zC 32 0,0,0,0⟩
def Nd.hd (n:Nd):Zak:=n.ch.getLast?.getD h0
def Nd.id (n:Nd):List Int:=hid n.hd
noncomputable def Nd.en (n:Nd):Zcy:=⟨n.hd,n.id,n.ah,(n.ch.length:Int)-1,nw n.wk⟩
noncomputable def Zie (ns:List Nd):LL:=ns.map fun n=>n.en.ls
noncomputable def rowS (p:Zae) (ns:List Nd):LL:=ns.map fun n=>(Zdv p n.ch).ls
def ZjP:Nat→List (List Int)→LM
 | _,[]=>[]
 | i,x::l=>(zI .u8 32 x,L.int .i64 (i:Int))::ZjP (i+1) l
def ids (ns:List Nd):List (List Int):=ns.map Nd.id
def Zfb:Nat→List (List Int)→List Int→Option Nat
 | _,[],_=>none
 | i,y::l,x=>if x=y then some i else Zfb (i+1) l x
theorem Zli : ∀(l:List (List Int)) (i:Nat) (x:List Int),Zix (ZjP i l) (zI .u8 32 x)=some ((Zfb i l x).map fun k=>(k-i,L.int .i64 (k:Int)))
 | [],i,x=>rfl
 | y::l,i,x=>by
  rw [ZjP,Zix];simp only [Zor,and_self,if_true];unfold Zfb;by_cases h:x=y
  ·subst h;simp
  rw [show (x==y)=false by simpa using h,aE h,Zli l (i+1) x];cases e:Zfb (i+1) l x with
  | none=>rfl
  | some k=>
   have : ∀(l:List (List Int)) (i k:Nat),Zfb i l x=some k→i≤k:=by
    intro l
    induction l with
    | nil=>intro i k h;cases h
    | cons z l ih=>
     intro i k h;unfold Zfb at h;split at h
     ·cases h;omega
     have:=ih _ _ h;omega
   have:=this l (i+1) k e;simp only [Option.map_some];rw [show k-(i+1)+1=k-i by omega]
theorem ZkR : ∀(l:List (List Int)) (i:Nat) (x:List Int),ZjP i (l ++ [x])=ZjP i l ++ [(zI .u8 32 x,L.int .i64 ((i+l.length:Nat):Int))]
 | [],i,x=>rfl
 | y::l,i,x=>by rw [List.cons_append,ZjP,ZkR l (i+1) x,ZjP,List.length_cons,show i+1+l.length=i+(l.length+1) by omega];rfl
theorem ZgN : ∀{l:List (List Int)} {i k:Nat} {x:List Int},Zfb i l x=some k→i≤k∧∃h:k-i<l.length,l[k-i]=x
 | y::l,i,k,x,h=>by
  unfold Zfb at h;split at h
  ·rename_i e;cases h;exact ⟨by omega,by simp,by simp [e]⟩
  obtain ⟨h1,h2,h3⟩:=ZgN h;refine ⟨by omega,by simp;omega,?_⟩;have:k-i=(k-(i+1))+1:=by omega
  simp only [this,List.getElem_cons_succ];exact h3
theorem Zno : ∀{l:List (List Int)} {i:Nat} {x:List Int},Zfb i l x=none→x∉l
 | [],_,_,_=>by simp
 | y::l,i,x,h=>by
  unfold Zfb at h;split at h
  ·cases h
  rename_i e;simp [e,Zno h]
noncomputable def aOf (p:Zae) (room:Int) (ns:List Nd):ZaE:=⟨p,Zie ns,rowS p ns,ZjP 0 (ids ns),room⟩
theorem Zle {ns:List Nd} {i:Nat} (h:i<ns.length):(Zie ns)[i]? = some ns[i].en.ls:=by simp [Zie,h]
theorem rowS_get {p:Zae} {ns:List Nd} {i:Nat} (h:i<ns.length):(rowS p ns)[i]? = some (Zdv p ns[i].ch).ls:=by simp [rowS,h]
@[simp] theorem Zhk (ns:List Nd):len (Zie ns)=(ns.length:Int):=by simp [len,Zie]
@[simp] theorem len_rowS (p:Zae) (ns:List Nd):len (rowS p ns)=(ns.length:Int):=by simp [len,rowS]
structure Zhq (ns:List Nd):Prop where
 small:ns.length≤512
 ch : ∀n∈ns,n.ch ≠ []∧n.ch.length≤ns.length
 wf : ∀n∈ns,∀x∈n.ch,WfH x
 wk : ∀n∈ns,isN n.wk
 ah : ∀(i:Nat) (h:i<ns.length),(i=0∧ns[i].ah = -1∧ns[i].ch.length=1)∨∃(k:Nat) (hk:k<i),ns[i].ah=(k:Int)∧ns[i].ch=ns[k].ch ++ [ns[i].hd]
 one:(ids ns).Nodup
theorem Nd.hd_snoc {n:Nd} {c:List Zak} {h:Zak} (e:n.ch=c ++ [h]):n.hd=h:=by unfold Nd.hd;rw [e];simp
theorem Zna (p:Zae) (c:List Zak) (h:Zak):(Zdv p (c ++ [h])).Prev=hid h:=by
 unfold Zdv;rw [vQ];rfl
theorem ZtV {st:LL} {i:Nat} {p:Zae} {room:Int} {ns:List Nd} (hst:st[i]? = some (aOf p room ns).lo) (hl:ns.length≤512) (nd:Nd) (hid':Zfb 0 (ids ns) nd.id=none) :
  Zbr.p1 N (some i) (Zdv p nd.ch) nd.en st=some ((ns.length:Int),st.set i (aOf p room (ns ++ [nd])).lo):=by
 unfold Zbr.p1;have e1:(aOf p room ns).list ++ [nd.en.ls]=Zie (ns ++ [nd]):=by show Zie ns++_=_;simp [Zie]
 have e2:(aOf p room ns).spots ++ [(Zdv p nd.ch).ls]=rowS p (ns ++ [nd]):=by show rowS p ns++_=_;simp [rowS]
 have e3:(aOf p room ns).places ++ [(zI .u8 32 nd.en.Id,L.int .i64 (ns.length:Int))]=ZjP 0 (ids (ns ++ [nd])):=by
  show ZjP 0 (ids ns)++_=_;unfold ids;rw [List.map_append];show _=ZjP 0 (List.map Nd.id ns ++ [nd.id]);rw [ZkR,wC,yI];rfl
 have l1:(Zie (ns ++ [nd])).length=ns.length+1:=by simp [Zie]
 have l2:(rowS p (ns ++ [nd])).length=ns.length+1:=by simp [rowS]
 rw [Zaa,hst,Zam,ZbP,e1,e2,Zaf (by rw [l1];omega),Zaf (by rw [l2];omega),show Zix (aOf p room ns).places (zI .u8 32 nd.en.Id)=some none by
  show Zix (ZjP 0 (ids ns)) (zI .u8 32 nd.id)=_;rw [Zli,hid'];rfl]
 show some _=_;rw [Zhk,zU,yX,ZaL (by omega) (by omega),show ((ns.length+1:Nat):Int)-1=(ns.length:Int) by omega,e3];simp only [yW];rfl
theorem keep_eq (hN:300≤N) {st:LL} {i:Nat} {p:Zae} {room:Int} {ns:List Nd} (hst:st[i]? = some (aOf p room ns).lo) (hl:ns.length≤512) {k:Nat} (hk:k<ns.length) (hw:isN ns[k].wk) (hlen:ns[k].ch.length≤600)
  {h:Zak} (nd:Nd) (hch:nd.ch=ns[k].ch ++ [h]) (hah:nd.ah=(k:Int)) (hwk:nd.wk=ZmC ns[k].wk (Zhg h.Bits)) (hid':Zfb 0 (ids ns) (hid h)=none) :
  Zbr N (some i) h (k:Int) (Zdv p nd.ch) st=some ((ns.length:Int),st.set i (aOf p room (ns ++ [nd])).lo):=by
 have hd:=nd.hd_snoc hch;unfold Zbr;rw [Zjc hN,Zaa,aD (by simp<;>omega),Zaa,hst,Zam,ZbP,show (aOf p room ns).list=Zie ns from rfl,Zhk,Zaf (by omega),Zaf (by omega),zG,yI,Zle hk,Zam,Zfr,show (ns[k].en).Work=nw ns[k].wk from rfl,Zqi (by omega) hw (ZiM _),Zaa,show (ns[k].en).Height=(ns[k].ch.length:Int)-1 from rfl,ZaL (by omega) (by omega)];have e:Zcy.mk h (Zdv p nd.ch).Prev (k:Int) ((ns[k].ch.length:Int)-1+1) (nw (ZmC ns[k].wk (Zhg h.Bits)))=nd.en:=by
  unfold Nd.en Nd.id;rw [hd,hch,Zna,hah,hwk,zU,yX]
  congr 1;omega
 rw [e];refine ZtV hst hl nd ?_;unfold Nd.id;rw [hd];exact hid'
theorem keep0_eq (hN:300≤N) {st:LL} {i:Nat} {p:Zae} {room:Int} (hst:st[i]? = some (aOf p room []).lo) {h:Zak} (nd:Nd) (hch:nd.ch = [h]) (hah:nd.ah = -1) (hwk:nd.wk=Zhg h.Bits) :
  Zbr N (some i) h (-1) (Zdv p nd.ch) st=some (0,st.set i (aOf p room [nd]).lo):=by
 have hd:nd.hd=h:=nd.hd_snoc (c:=[]) hch;unfold Zbr;rw [Zjc hN,Zaa,aE (by simp)];have e:Zcy.mk h (Zdv p nd.ch).Prev (-1) 0 (nw (Zhg h.Bits))=nd.en:=by
  unfold Nd.en Nd.id;rw [hd,hch,show (Zdv p [h]).Prev=hid h from Zna p [] h,hah,hwk];rfl
 rw [e];exact ZtV (ns:=[]) hst (by simp) nd rfl
def chAt (ns:List Nd) (k:Nat):List Zak:=(ns[k]?.map Nd.ch).getD []
def wkAt (ns:List Nd) (k:Nat):Int:=(ns[k]?.map Nd.wk).getD 0
theorem ZkA {ns:List Nd} {k:Nat} (h:k<ns.length):chAt ns k=ns[k].ch:=by simp [chAt,h]
theorem Zqj {ns:List Nd} {k:Nat} (h:k<ns.length):wkAt ns k=ns[k].wk:=by simp [wkAt,h]
def Zej (ns:List Nd) (k:Nat) (h:Zak):Nd:=⟨chAt ns k ++ [h],(k:Int),ZmC (wkAt ns k) (Zhg h.Bits)⟩
def Zju (p:Zae) (gs:List ZcY) (cs:List Zcw) (room:Int) (ns:List Nd) (h:Zak) (now:Int):Int×Int×Int×List Nd:=
 if ZgG h=false then (-1,1,8,ns) else
 match Zfb 0 (ids ns) (hid h) with
 | some k=>((k:Int),0,0,ns)
 | none=>match Zfb 0 (ids ns) h.Prev with
  | none=>(-1,2,5,ns)
  | some k=>if ZfM p gs cs (Zdv p (chAt ns k)) h now≠0 then (-1,ZfM p gs cs (Zdv p (chAt ns k)) h now,8,ns)
   else if room≤(ns.length:Int) then (-1,0,6,ns) else ((ns.length:Int),0,0,ns ++ [Zej ns k h])
theorem ZiO {st:LL} {i:Nat} {x:List L} (h:st[i]? = some x):st.set i x=st:=by
 apply xL;intro j;by_cases e:i=j
 ·subst e;obtain ⟨hi,e⟩:=yE.1 h;rw [zO hi,h]
 rw [zP e]
theorem Ztc (p:Zae) (c:List Zak):wfS (Zdv p c)=true:=by
 have h : ∀l:List Zak,∃ts:List Int,(Zdv p l).Times=Zei ts∧ts.length≤11:=by
  refine ZnS ⟨[],rfl,by simp⟩ (fun l h ih=>?_);unfold Zdv at *;rw [vQ];exact ⟨_,rfl,by simp;omega⟩
 obtain ⟨ts,h1,h2⟩:=h c;simp only [wfS,h1,isI_row,xF,decide_eq_true_eq,ZdT];omega
theorem Add_eq (hN:500≤N) {st:LL} {i:Nat} {p:Zae} {gs:List ZcY} {cs:List Zcw} (hg:p.Gates=ZmG gs) (hc:p.Checks=Zke cs) (lg:gs.length≤400) (lc:cs.length≤400) {room:Int} (hroom:room≤512) {ns:List Nd} (ht:Zhq ns) (hst:st[i]? = some (aOf p room ns).lo)
  {h:Zak} (hh:WfH h) (now:Int) (hnow : -1152921504606846976≤now∧now≤9223372036854775807) :
  ZaR N (some i) h now st=some ((Zju p gs cs room ns h now).1,(Zju p gs cs room ns h now).2.1,(Zju p gs cs room ns h now).2.2.1,st.set i (aOf p room (Zju p gs cs room ns h now).2.2.2).lo):=by
 have ss:=ZiO hst;unfold ZaR Zju;rw [aE (c:=Option.isNone (some i)=true) (by simp),Zfl,Zaa];cases hgd:ZgG h with
 | false=>rw [aD (by rfl),aD (c:=false=false) rfl];dsimp only;rw [ss]
 | true=>
  rw [aE (c:=(!true)=true) (by simp),aE (c:=true=false) (by simp),Zaa,hst,Zam,ZbP,ZgH hN hh.w,Zaa,show (aOf p room ns).places=ZjP 0 (ids ns) from rfl,Zli];cases e1:Zfb 0 (ids ns) (hid h) with
  | some k=>
   show ZaR.p1 N i now (k:Int) true h st=_;unfold ZaR.p1;rw [aD rfl];dsimp only;rw [ss]
  | none=>
   show ZaR.p1 N i now 0 false h st=_;unfold ZaR.p1;rw [aE (by simp),hst,Zam,ZbP,show (aOf p room ns).places=ZjP 0 (ids ns) from rfl,Zli];cases e2:Zfb 0 (ids ns) h.Prev with
   | none=>
    show ZaR.p2 N i now 0 false h st=_;unfold ZaR.p2;rw [aD (by rfl)];dsimp only;rw [ss]
   | some k=>
    show ZaR.p2 N i now (k:Int) true h st=_;obtain ⟨_,hk,_⟩:=ZgN e2;have hk':k<ns.length:=by simpa [ids] using hk
    have sw:=Ztc p ns[k].ch;have isT:isI (Zdv p ns[k].ch).Times=true:=by simp only [wfS,zT] at sw;exact sw.1
    unfold ZaR.p2;dsimp only;rw [aE (c:=(!true)=true) (by simp),hst,Zam,ZbP,show (aOf p room ns).spots=rowS p ns from rfl,len_rowS,Zaf (by omega),Zaf (by omega),zG,yI,rowS_get hk',Zam,Zla,show (aOf p room ns).rules=p from rfl,ZnL hN hg hc lg lc hh.w isT now hnow,Zaa,ZkA hk'];by_cases h4:ZfM p gs cs (Zdv p ns[k].ch) h now=0
    ·rw [aE (c:=(ZfM p gs cs (Zdv p ns[k].ch) h now != 0)=true) (by simp [h4]),aE (c:=ZfM p gs cs (Zdv p ns[k].ch) h now≠0) (by simp [h4]),show (aOf p room ns).list=Zie ns from rfl,Zhk,show (aOf p room ns).room=room from rfl];by_cases h5:room≤(ns.length:Int)
     ·rw [aD (by simpa using h5),aD h5];dsimp only;rw [ss]
     rw [aE (by simpa using h5),aE h5,Zin hN hh.w sw,Zaa];have be:ZfZ p (Zdv p ns[k].ch) h=Zdv p (Zej ns k h).ch:=by
      unfold Zej Zdv;rw [ZkA hk',vQ];rfl
     have hm:=yM hk';have sm:=ht.small;have cl:=(ht.ch _ hm).2;rw [be,keep_eq (by omega) hst ht.small hk' (ht.wk _ hm) (by omega) (Zej ns k h) (by unfold Zej;rw [ZkA hk']) rfl (by unfold Zej;rw [Zqj hk']) e1,Zaa]
    rw [aD (c:=(ZfM p gs cs (Zdv p ns[k].ch) h now != 0)=true) (by simpa using h4),aD (c:=ZfM p gs cs (Zdv p ns[k].ch) h now≠0) h4];dsimp only;rw [ss]
noncomputable def Zia (l:List (List Int)):LL:=l.map fun x=>[zI .u8 32 x]
noncomputable def Ztq (l:List Int):LL:=l.map fun x=>[zI .u64 4 (nw x)]
noncomputable def rOf (p:Zae) (room:Int) (ns:List Nd):Zab:=⟨p,Zkm (ns.map Nd.hd),Zia (ids ns),Zei (ns.map Nd.ah),Ztq (ns.map Nd.wk),room⟩
theorem Zsf {l:List (List Int)} {i:Nat} (h:i<l.length):(Zia l)[i]? = some [zI .u8 32 l[i]]:=by simp [Zia,h]
theorem ZnP {l:List Int} {i:Nat} (h:i<l.length):(Ztq l)[i]? = some [zI .u64 4 (nw l[i])]:=by simp [Ztq,h]
@[simp] theorem Zsw (l:List (List Int)):len (Zia l)=(l.length:Int):=by simp [len,Zia]
@[simp] theorem Zrx (l:List Int):len (Ztq l)=(l.length:Int):=by simp [len,Ztq]
@[simp] theorem Zom (l:List Zak):len (Zkm l)=(l.length:Int):=by simp [len]
theorem Zsm (i:Nat) (y:List Int) (l:List (List Int)) (x:List Int):Zfb i (y::l) x=if x=y then some i else Zfb (i+1) l x:=rfl
def Zpv (o:Option Nat):Int:=match o with
 | some k=>(k:Int)
 | none=>-1
theorem ZjG {st:LL} {i:Nat} {p:Zae} {room:Int} {ns:List Nd} (hN:ns.length<N) (hl:ns.length≤512) (hst:st[i]? = some (rOf p room ns).lo) (x:List Int) :
  Zbs N (some i) x st=some (Zpv (Zfb 0 (ids ns) x),st):=by
 unfold Zbs;rw [Zaa,hst,Zam,Zbd];have li:(ids ns).length=ns.length:=by simp [ids]
 refine ZbZ (fun m (v:Int)=>∃k:Nat,k+m=ns.length∧v=(k:Int)∧Zfb 0 (ids ns) x=Zfb k ((ids ns).drop k) x) ?_ N ns.length 0 ⟨0,by omega,rfl,by rw [vJ]⟩ hN;rintro G m _ ⟨k,hk,rfl,hp⟩ hG;unfold Zbs.p1;rw [show (rOf p room ns).Ids=Zia (ids ns) from rfl,Zsw,li];by_cases hlt:k<ns.length
 ·have hk':k<(ids ns).length:=by omega
  rw [yQ hk'] at hp;rw [Zsm] at hp;rw [aD (by simp<;>omega),Zaf (by omega),hst,Zam,Zbd,show (rOf p room ns).Ids=Zia (ids ns) from rfl,zG,yI,Zsf hk',Zam,ZkT,ZaL (by omega) (by omega)];by_cases he:x=(ids ns)[k]
  ·rw [aD he] at hp;rw [aD (by simp [he]),hp];rfl
  rw [aE he] at hp;rw [aE (by simpa using fun e=>he e.symm)];exact hG (m-1) _ (by omega) ⟨k+1,by omega,by omega,hp⟩
 rw [aE (by simp<;>omega),hp,List.drop_of_length_le (by omega)];rfl
theorem ZmI {p:Zae} {room:Int} {ns:List Nd} (ht:Zhq ns) (hN:ns.length+2≤N) {k:Nat} (hk:k<ns.length):Zbf N (rOf p room ns) (k:Int)=some (Zkm (chAt ns k)):=by
 have sm:=ht.small;unfold Zbf;rw [ZkA hk];refine ZbZ (fun m (x:LL×Int)=>∃out:List Zak,x=(Zkm out,(m:Int)-1)∧m≤ns.length∧((m=0∧out=ns[k].ch)∨∃h:0<m∧m-1<ns.length,ns[m-1].ch++out=ns[k].ch)) ?_ N (k+1) _ ⟨[],by simp;rfl,by omega,.inr ⟨⟨by omega,by omega⟩,by simp⟩⟩ (by omega);rintro G m _ ⟨out,rfl,hm,ho⟩ hG;unfold Zbf.p1;dsimp only;rcases ho with ⟨rfl,rfl⟩ | ⟨⟨h0,h1⟩,ho⟩
 ·rw [aE (by simp)]
 obtain ⟨j,rfl⟩ : ∃j,m=j+1:=⟨m-1,by omega⟩
 simp only [uU] at ho h1;have hj:j<(ns.map Nd.hd).length:=by simp;omega
 have hj2:j<(ns.map Nd.ah).length:=by simp;omega
 have cl:=congrArg List.length ho;rw [zU] at cl;have cb:=(ht.ch _ (yM hk)).2;rw [show (rOf p room ns).List_=Zkm (ns.map Nd.hd) from rfl,show (rOf p room ns).Ahead=Zei (ns.map Nd.ah) from rfl,show ((j+1:Nat):Int)-1=(j:Int) by omega,aD (by simp),Zom,ZeP,Zaf (by omega),Zaf (by omega),zG,ZjC hj,Zam,ZeV,Zaf (by rw [zU,ZlE];simp;omega),Zaf (by omega),ZjB hj2,Zam,Zek,vY,vY];have e : [ns[j].hd.ls]++Zkm out=Zkm (ns[j].hd::out):=rfl;rw [e];have nl:=ht.ch _ (yM h1);rcases ht.ah j h1 with ⟨z,a,c⟩ | ⟨q,hq,a,c⟩
 ·have c1:ns[j].ch = [ns[j].hd]:=by
   unfold Nd.hd
   match hch:ns[j].ch,c with
   | [x],_=>rfl
  rw [a];rw [c1] at ho;exact hG 0 _ (by omega) ⟨_,rfl,by omega,.inl ⟨rfl,ho⟩⟩
 rw [a];rw [c,List.append_assoc] at ho;exact hG (q+1) _ (by omega) ⟨_,by rw [show ((q+1:Nat):Int)-1=(q:Int) by omega],by omega,.inr ⟨⟨by omega,by omega⟩,by simpa using ho⟩⟩
theorem Zur (p:Zae) (gs:List ZcY) (cs:List Zcw) (s:Zbc) (h:Zak) (now:Int):0≤ZfM p gs cs s h now:=by
 unfold ZfM;repeat' split
 all_goals omega
theorem Zpo (hN:900≤N) {st:LL} {i:Nat} {p:Zae} {gs:List ZcY} {cs:List Zcw} (hg:p.Gates=ZmG gs) (hc:p.Checks=Zke cs) (lg:gs.length≤400) (lc:cs.length≤400) {room:Int} (hroom:room≤512) {ns:List Nd} (ht:Zhq ns) (hlen:ns.length≤200) (hst:st[i]? = some (rOf p room ns).lo)
  {h:Zak} (hh:WfH h) (now:Int) (hnow:0≤now∧now≤9223372036854775807) :
  Zdq N (some i) h now st=some ((Zju p gs cs room ns h now).1,(Zju p gs cs room ns h now).2.1,(Zju p gs cs room ns h now).2.2.1,st.set i (rOf p room (Zju p gs cs room ns h now).2.2.2).lo):=by
 have ss:=ZiO hst;unfold Zdq Zju;rw [ZiP,Zaa];cases hgd:ZgG h with
 | false=>rw [aD (by rfl),aD (c:=false=false) rfl];dsimp only;rw [ss]
 | true=>
  rw [aE (c:=(!true)=true) (by simp),aE (c:=true=false) (by simp),ZjF (by omega) h hh.w,Zaa,ZjG (by omega) ht.small hst,Zaa];dsimp only;cases e1:Zfb 0 (ids ns) (hid h) with
  | some k=>
   rw [show Zpv (some k)=(k:Int) from rfl,aD (by simp)];dsimp only;rw [ss]
  | none=>
   rw [show Zpv none = -1 from rfl,aE (by simp),ZjG (by omega) ht.small hst,Zaa];dsimp only;cases e2:Zfb 0 (ids ns) h.Prev with
   | none=>
    rw [show Zpv none = -1 from rfl,aD (by simp)];dsimp only;rw [ss]
   | some k=>
    obtain ⟨_,hk,_⟩:=ZgN e2;have hk':k<ns.length:=by simpa [ids] using hk
    have hm:=yM hk';have cl:=ht.ch _ hm;have c0:0<ns[k].ch.length:=uF.2 cl.1;dsimp only;rw [show Zpv (some k)=(k:Int) from rfl,aE (by simp<;>omega),Zaa,hst,Zam,Zbd,ZmI ht (by omega) hk',Zaa,ZkA hk',Zaf (by simp [ZeD,Zkm,Zak.ls,L.plain]),show (rOf p room ns).Rules=p from rfl,ZmJ hN hg lg hc lc ns[k].ch c0 (by omega) (fun x hx=>(ht.wf _ hm x hx).w) hh.w now hnow,Zaa];have nn:=Zur p gs cs (Zdv p ns[k].ch) h now;by_cases h4:ZfM p gs cs (Zdv p ns[k].ch) h now=0
    ·rw [aE (c:=decide (ZfM p gs cs (Zdv p ns[k].ch) h now>0)=true) (by simp<;>omega),aE (c:=ZfM p gs cs (Zdv p ns[k].ch) h now≠0) (by simp [h4]),show (rOf p room ns).List_=Zkm (ns.map Nd.hd) from rfl,Zom,wC,show (rOf p room ns).Room=room from rfl];by_cases h5:room≤(ns.length:Int)
     ·rw [aD (by simpa using h5),aD h5];dsimp only;rw [ss]
     have hd:=(Zej ns k h).hd_snoc rfl;have i1:Zkm (ns.map Nd.hd) ++ [h.ls]=Zkm ((ns ++ [Zej ns k h]).map Nd.hd):=by simp [Zkm,hd]
     have i2:Zia (ids ns) ++ [[zI .u8 32 (hid h)]]=Zia (ids (ns ++ [Zej ns k h])):=by simp [Zia,ids,Nd.id,hd]
     have i3:Ztq (ns.map Nd.wk) ++ [[zI .u64 4 (nw (ZmC ns[k].wk (Zhg h.Bits)))]]=Ztq ((ns ++ [Zej ns k h]).map Nd.wk):=by simp [Ztq,Zej,Zqj hk']
     have i4:Zei (ns.map Nd.ah) ++ [[L.int .i64 (k:Int)]]=Zei ((ns ++ [Zej ns k h]).map Nd.ah):=by simp [Zei,Zej]
     have kw:k<(ns.map Nd.wk).length:=by simp;omega
     have sm:=ht.small;rw [aE (by simpa using h5),aE h5,show (rOf p room ns).Ids=Zia (ids ns) from rfl,show (rOf p room ns).Works=Ztq (ns.map Nd.wk) from rfl,show (rOf p room ns).Ahead=Zei (ns.map Nd.ah) from rfl,i1,i2,i4,Zaf (by rw [ZlE,wC,zU,yX];omega),Zaf (by simp [Zia,ids];omega),Zaf (by omega),Zrx,Zaf (by rw [wC];omega),zG,yI,ZnP kw,Zam,vY,ZpX,Zir (by omega),Zaa,Zpp (by omega) (ht.wk _ hm) (ZiM _),Zaa,i3,Zaf (by simp [Ztq];omega),Zaf (by rw [ZdT,wC,zU,yX];omega),Zom,wC,zU,yX,ZaL (by omega) (by omega)];simp only [yW];rw [show ((ns.length+1:Nat):Int)-1=(ns.length:Int) by omega];rfl
    rw [aD (c:=decide (ZfM p gs cs (Zdv p ns[k].ch) h now>0)=true) (by simp<;>omega),aD (c:=ZfM p gs cs (Zdv p ns[k].ch) h now≠0) h4];dsimp only;rw [ss]
theorem Zhq.one_node {g:Zak} (hg:WfH g):Zhq [⟨[g],-1,Zhg g.Bits⟩] where
 small:=by simp
 ch:=fun n hn=>by cases xM.1 hn;simp
 wf:=fun n hn x hx=>by cases xM.1 hn;cases xM.1 hx;exact hg
 wk:=fun n hn=>by cases xM.1 hn;exact ZiM _
 ah:=fun i h=>.inl ⟨by simpa using h,by simp at h;subst h;rfl,by simp at h;subst h;rfl⟩
 one:=by simp [ids]
theorem Zhq.grow {ns:List Nd} (ht:Zhq ns) {k:Nat} (hk:k<ns.length) {h:Zak} (hh:WfH h) (hs:ns.length<512) (hid':Zfb 0 (ids ns) (hid h)=none):Zhq (ns ++ [Zej ns k h]):=by
 have hm:=yM hk;have cl:=ht.ch _ hm;have hc:(Zej ns k h).ch=ns[k].ch ++ [h]:=by unfold Zej;rw [ZkA hk]
 have hd:=(Zej ns k h).hd_snoc rfl;refine ⟨by simp;omega,?_,?_,?_,?_,?_⟩
 ·intro n hn;rcases wB.1 hn with hn | hn
  ·have:=ht.ch n hn;exact ⟨this.1,by simp;omega⟩
  cases xM.1 hn;rw [hc];exact ⟨by simp,by simp;omega⟩
 ·intro n hn x hx;rcases wB.1 hn with hn | hn
  ·exact ht.wf n hn x hx
  cases xM.1 hn;rw [hc] at hx;rcases wB.1 hx with hx | hx
  ·exact ht.wf _ hm x hx
  cases xM.1 hx;exact hh
 ·intro n hn;rcases wB.1 hn with hn | hn
  ·exact ht.wk n hn
  cases xM.1 hn;unfold Zej;rw [Zqj hk];exact ZsU (ht.wk _ hm) (ZiM _)
 ·intro i hi;by_cases hlt:i<ns.length
  ·rw [tH hlt];rcases ht.ah i hlt with a | ⟨q,hq,a,b⟩
   ·exact .inl a
   exact .inr ⟨q,hq,a,by rw [tH (by omega)];exact b⟩
  have:i=ns.length:=by simp at hi;omega
  subst this;refine .inr ⟨k,hk,?_,?_⟩
  ·rw [rE (by omega)];simp [Zej]
  rw [rE (by omega),tH hk];simp only [Nat.sub_self,List.getElem_singleton];rw [hc,hd]
 have np:=Zno hid';unfold ids at *;rw [List.map_append,List.nodup_append];refine ⟨ht.one,by simp,?_⟩;intro a ha b hb;simp only [List.map_cons,List.map_nil,xM] at hb;subst hb;intro e;unfold Nd.id at e;rw [hd] at e;exact np (by rw [←e];exact ha)
theorem ZkD (p:Zae) (gs:List ZcY) (cs:List Zcw) (room:Int) (ns:List Nd) (h:Zak) (now:Int) :
  (Zju p gs cs room ns h now).2.2.2=ns∨∃k:Nat,k<ns.length∧ZgG h=true∧Zfb 0 (ids ns) (hid h)=none∧ZfM p gs cs (Zdv p (chAt ns k)) h now=0∧(ns.length:Int)<room ∧
   Zju p gs cs room ns h now=((ns.length:Int),0,0,ns ++ [Zej ns k h]):=by
 unfold Zju;by_cases hg:ZgG h=false
 ·rw [aD hg];exact .inl rfl
 rw [aE hg];cases e1:Zfb 0 (ids ns) (hid h) with
 | some k=>exact .inl rfl
 | none=>
  dsimp only;cases e2:Zfb 0 (ids ns) h.Prev with
  | none=>exact .inl rfl
  | some k=>
   dsimp only;obtain ⟨_,hk,_⟩:=ZgN e2;have hk':k<ns.length:=by simpa [ids] using hk
   by_cases h1:ZfM p gs cs (Zdv p (chAt ns k)) h now=0
   ·rw [aE (by simp [h1])];by_cases h2:room≤(ns.length:Int)
    ·rw [aD h2];exact .inl rfl
    rw [aE h2];exact .inr ⟨k,hk',by simpa using hg,rfl,h1,by omega,rfl⟩
   rw [aD h1];exact .inl rfl
theorem ZuL {p:Zae} {gs:List ZcY} {cs:List Zcw} {room:Int} (hr:room≤512) {ns:List Nd} (ht:Zhq ns) {h:Zak} (hh:WfH h) (now:Int):Zhq (Zju p gs cs room ns h now).2.2.2:=by
 rcases ZkD p gs cs room ns h now with e | ⟨k,hk,_,hi,_,hl,e⟩
 ·rw [e];exact ht
 rw [e];exact ht.grow hk hh (by omega) hi
theorem addT_len (p:Zae) (gs:List ZcY) (cs:List Zcw) (room:Int) (ns:List Nd) (h:Zak) (now:Int):ns.length≤(Zju p gs cs room ns h now).2.2.2.length∧(Zju p gs cs room ns h now).2.2.2.length≤ns.length+1:=by
 rcases ZkD p gs cs room ns h now with e | ⟨k,hk,_,hi,_,hl,e⟩
 ·rw [e];omega
 rw [e];simp
def ZkN (room:Int):Int:=if (512:Int)<(if (1:Int)>room then 1 else room) then 512 else (if (1:Int)>room then 1 else room)
def ZfT (p:Zae):Nd:=⟨[p.Genesis],-1,Zhg p.Genesis.Bits⟩
theorem set_last (st:LL) (a b:List L):(st ++ [a]).set st.length b=st ++ [b]:=by simp
theorem New_eq (hN:500≤N) {p:Zae} {gs:List ZcY} {cs:List Zcw} (hg:p.Gates=ZmG gs) (hc:p.Checks=Zke cs) (lg:gs.length≤400) (lc:cs.length≤400) (hp:WfP p) (room:Int) (st:LL) :
  Zfh N p room st=if ZmH p gs cs=true then some (some st.length,0,st ++ [(aOf p (ZkN room) [ZfT p]).lo]) else some (none,1,st):=by
 unfold Zfh;rw [Zpe hN hg lg hc lc,Zaa];cases hgd:ZmH p gs cs with
 | false=>rfl
 | true=>
  have pp:({p with Gates:=[]++p.Gates,Checks:=[]++p.Checks}:Zae)=p:=rfl;rw [aE (c:=(!true)=true) (by simp),pp,Zaf (by rw [hg,List.nil_append,Zqv];omega),Zaf (by rw [hc,List.nil_append,Zqw];omega),ZmF hN hp.h.w,Zaa];have hst:(st ++ [(aOf p (ZkN room) []).lo])[st.length]? = some (aOf p (ZkN room) []).lo:=by simp
  have k:=keep0_eq (N:=N) (by omega) hst (h:=p.Genesis) (ZfT p) rfl rfl rfl;rw [set_last] at k;rw [aD (c:=true=true) rfl];show Zbj (Zbr N (some st.length) p.Genesis (-1) (Zdv p (ZfT p).ch) (st ++ [(aOf p (ZkN room) []).lo])) _=_;rw [k,Zaa]
theorem Zpn (hN:900≤N) {p:Zae} (hp:WfP p) (room:Int) (st:LL):ZeX N p room st=some (some st.length,st ++ [(rOf p (ZkN room) [ZfT p]).lo]):=by
 unfold ZeX;rw [ZjF (by omega) _ hp.h.w,Zaa,Zir (by omega),Zaa];rfl
theorem Len_v_eq (p:Zae) (room:Int) (ns:List Nd):Zdm N (aOf p room ns)=some (ns.length:Int):=by
 unfold Zdm;rw [show (aOf p room ns).list=Zie ns from rfl,Zhk]
theorem ZuT (p:Zae) (room:Int) {ns:List Nd} {k:Nat} (hk:k<ns.length):Zcv N (aOf p room ns) (k:Int)=some (ns[k].en,true):=by
 unfold Zcv Zca;rw [show (aOf p room ns).list=Zie ns from rfl,Zhk,aD (by simp),Zaa,aE (by simp<;>omega),Zaf (by omega),Zaf (by omega),zG,Zle hk,Zam,Zfr]
theorem ZuS (p:Zae) (room:Int) {ns:List Nd} {k:Int} (hk:k<0∨(ns.length:Int)≤k):Zcv N (aOf p room ns) k=some (Zcy.mk (Zak.mk 0 (zC 32 0) (zC 32 0) 0 0 0) (zC 32 0) (-1) 0 (zC 4 0),false):=by
 unfold Zcv Zca;rw [show (aOf p room ns).list=Zie ns from rfl,Zhk];by_cases h:k≥0
 ·rw [aD (by simpa using h),Zaa,aD (by simp<;>omega)]
 rw [aE (by simpa using h),Zaa,aD (by rfl)]
end Go.Dn.F
set_option maxRecDepth 100000
namespace Go.Dn.F
open Go.Dn Go.Proofs
variable {N:Nat}
def pA:Zae:=⟨545259519,4,10,0,false,[],[],zC 4 0,zC 4 0,h0⟩
theorem h0_wf:WfH h0:=⟨by unfold Zou h0;simp,by unfold wfH h0;decide,by unfold Zou h0;simp,by unfold Zou h0;simp,by unfold Zou h0;simp⟩
theorem pA_wf:WfP pA where
 l:=by unfold Zou pA;simp
 i:=by unfold Zou pA;simp
 s:=by unfold Zou pA;simp
 f:=by unfold Zou pA;simp
 g:=by unfold pA;simp
 gl:=by unfold pA;simp
 c:=by unfold pA;simp
 cl:=by unfold pA;simp
 m:=by unfold pA;exact ⟨rfl,fun x hx=>by obtain ⟨_,rfl⟩:=List.mem_replicate.1 hx;decide⟩
 r:=by unfold pA;exact ⟨rfl,fun x hx=>by obtain ⟨_,rfl⟩:=List.mem_replicate.1 hx;decide⟩
 h:=h0_wf
end Go.Dn.F
set_option maxRecDepth 40000
namespace Go.Dn.F
open Go.Dn Go.Proofs
variable {N:Nat}
def ZsO (ns:List Nd):Nat→Nat→List Nat
 | 0,k=>[k]
 | f+1,k=>match ns[k]? with
  | some n=>if n.ah<0 then [k] else ZsO ns f n.ah.toNat ++ [k]
  | none=>[k]
def ZeE (ns:List Nd) (k:Nat):List Nat:=ZsO ns k k
theorem Ztv {ns:List Nd} (ht:Zhq ns) : ∀(k f g:Nat),k<ns.length→k≤f→k≤g→ZsO ns f k=ZsO ns g k:=by
 intro k
 induction k using uE with
 | ind k ih=>
  intro f g hk hf hg;rcases ht.ah k hk with ⟨z,a,c⟩ | ⟨q,hq,a,c⟩
  ·have e : ∀f,ZsO ns f k = [k]:=fun f=>by
    cases f with
    | zero=>rfl
    | succ f=>unfold ZsO;rw [zR hk];dsimp only;rw [a,aD (by omega)]
   rw [e,e]
  obtain ⟨f,rfl⟩ : ∃x,f=x+1:=⟨f-1,by omega⟩
  obtain ⟨g,rfl⟩ : ∃x,g=x+1:=⟨g-1,by omega⟩
  unfold ZsO;rw [zR hk];dsimp only;rw [a,aE (by omega),aE (by omega),zG,ih q hq f g (by omega) (by omega) (by omega)]
theorem Zts {ns:List Nd} {k:Nat} (hk:k<ns.length) (a:ns[k].ah = -1):ZeE ns k = [k]:=by
 unfold ZeE;cases k with
 | zero=>rfl
 | succ f=>unfold ZsO;rw [zR hk];dsimp only;rw [a,aD (by omega)]
theorem Zph {ns:List Nd} (ht:Zhq ns) {k q:Nat} (hk:k<ns.length) (hq:q<k) (a:ns[k].ah=(q:Int)):ZeE ns k=ZeE ns q ++ [k]:=by
 obtain ⟨f,rfl⟩ : ∃x,k=x+1:=⟨k-1,by omega⟩
 unfold ZeE;rw [ZsO,zR hk];dsimp only;rw [a,aE (by omega),zG,Ztv ht q f q (by omega) (by omega) (by omega)]
theorem Zeh {ns:List Nd} (ht:Zhq ns) {k:Nat} (hk:k<ns.length) :
  (k=0∧ns[k].ah = -1∧ZeE ns k = [k]∧ns[k].ch.length=1)∨∃q,q<k∧ns[k].ah=(q:Int)∧ZeE ns k=ZeE ns q ++ [k]∧∃hq:q<ns.length,ns[k].ch=ns[q].ch ++ [ns[k].hd]:=by
 rcases ht.ah k hk with ⟨z,a,c⟩ | ⟨q,hq,a,c⟩
 ·exact .inl ⟨z,a,Zts hk a,c⟩
 exact .inr ⟨q,hq,a,Zph ht hk hq a,by omega,c⟩
theorem ZhJ {ns:List Nd} (ht:Zhq ns) : ∀{k:Nat} (hk:k<ns.length),(ZeE ns k).length=ns[k].ch.length:=by
 intro k
 induction k using uE with
 | ind k ih=>
  intro hk;rcases Zeh ht hk with ⟨z,a,e,c⟩ | ⟨q,hq,a,e,hq',c⟩
  ·rw [e,c];rfl
  rw [e,c,zU,zU,ih q hq hq'];rfl
theorem Zpi {ns:List Nd} (ht:Zhq ns) {k:Nat} (hk:k<ns.length):(ZeE ns k)[(ZeE ns k).length-1]? = some k:=by
 rcases Zeh ht hk with ⟨z,a,e,c⟩ | ⟨q,hq,a,e,hq',c⟩
 ·rw [e];rfl
 rw [e];simp
theorem Zkl {ns:List Nd} (ht:Zhq ns) : ∀{k:Nat},k<ns.length→∀x∈ZeE ns k,x≤k:=by
 intro k
 induction k using uE with
 | ind k ih=>
  intro hk x hx;rcases Zeh ht hk with ⟨z,a,e,c⟩ | ⟨q,hq,a,e,hq',c⟩
  ·rw [e] at hx;simp at hx;omega
  rw [e] at hx;rcases wB.1 hx with hx | hx
  ·have:=ih q hq hq' x hx;omega
  simp at hx;omega
theorem Zrm {ns:List Nd} (ht:Zhq ns) : ∀{k:Nat},k<ns.length→∀{h x:Nat},(ZeE ns k)[h]? = some x→x<ns.length∧ZeE ns x=(ZeE ns k).take (h+1):=by
 intro k
 induction k using uE with
 | ind k ih=>
  intro hk h x hx;rcases Zeh ht hk with ⟨z,a,e,c⟩ | ⟨q,hq,a,e,hq',c⟩
  ·rw [e] at hx ⊢;cases h with
   | zero=>cases hx;exact ⟨hk,by rw [e];rfl⟩
   | succ h=>cases hx
  rw [e] at hx ⊢;by_cases hlt:h<(ZeE ns q).length
  ·rw [zW hlt] at hx;obtain ⟨h1,h2⟩:=ih q hq hq' hx;exact ⟨h1,by rw [h2,List.take_append_of_le_length (by omega)]⟩
  rw [yG (by omega)] at hx;have e0:h-(ZeE ns q).length=0:=by
   cases e1:h-(ZeE ns q).length with
   | zero=>rfl
   | succ n=>rw [e1] at hx;cases hx
  rw [e0] at hx;cases hx;exact ⟨hk,by rw [e,zY (by simp;omega)]⟩
theorem rowP_at {ns:List Nd} (ht:Zhq ns) {k h x:Nat} (hk:k<ns.length) (hx:(ZeE ns k)[h]? = some x) : ∃h':x<ns.length,ns[x].ch.length=h+1:=by
 obtain ⟨h1,h2⟩:=Zrm ht hk hx;refine ⟨h1,?_⟩;have hl:h<(ZeE ns k).length:=(yE.1 hx).1;rw [←ZhJ ht h1,h2,List.length_take];omega
theorem ZnQ {ns:List Nd} (ht:Zhq ns) {k x:Nat} (hk:k<ns.length) (hx:x∈ZeE ns k) : ∃h':x<ns.length,(ZeE ns k)[ns[x].ch.length-1]? = some x:=by
 obtain ⟨h,hx⟩:=qD.1 hx;obtain ⟨h1,h2⟩:=rowP_at ht hk hx;exact ⟨h1,by rw [h2];exact hx⟩
theorem Ztu (ns:List Nd) (nd:Nd) (ht:Zhq ns) : ∀(k f:Nat),k<ns.length→ZsO (ns ++ [nd]) f k=ZsO ns f k:=by
 intro k
 induction k using uE with
 | ind k ih=>
  intro f hk;cases f with
  | zero=>rfl
  | succ f=>
   unfold ZsO;rw [zW hk,zR hk];dsimp only;rcases ht.ah k hk with ⟨z,a,c⟩ | ⟨q,hq,a,c⟩
   ·rw [a,aD (by omega),aD (by omega)]
   rw [a,aE (by omega),aE (by omega),zG,ih q hq f (by omega)]
theorem Zip {ns:List Nd} (nd:Nd) (ht:Zhq ns) {k:Nat} (hk:k<ns.length):ZeE (ns ++ [nd]) k=ZeE ns k:=Ztu ns nd ht k k hk
def ZuU (l:List Nat):List Int:=l.map (fun x:Nat=>(x:Int))
theorem ZgW {p:Zae} {room:Int} {ns:List Nd} (ht:Zhq ns) (hN:ns.length+2≤N) {k:Nat} (hk:k<ns.length):ZaN N (rOf p room ns) (k:Int)=some (Zei (ZuU (ZeE ns k))):=by
 have sm:=ht.small;unfold ZaN;have lk:=ZhJ ht hk;have cb:=(ht.ch _ (yM hk)).2;have key:loopN (ZaN.p1 N (rOf p room ns)) N ([],(k:Int))=some (Zei (ZuU (ZeE ns k))):=by
  refine ZbZ (fun m (s:LL×Int)=>∃(q:Nat) (c:List Nat),q=m∧s=(Zei (ZuU c),(q:Int)-1)∧((q=0∧c=ZeE ns k)∨∃h:0<q∧q-1<ns.length,ZeE ns (q-1)++c=ZeE ns k)) ?_ N (k+1) _ ⟨k+1,[],rfl,by rw [show ((k+1:Nat):Int)-1=(k:Int) by omega];rfl,.inr ⟨⟨by omega,by omega⟩,by simp⟩⟩ (by omega);rintro G m _ ⟨q,c,rfl,rfl,ho⟩ hG;unfold ZaN.p1;dsimp only;rcases ho with ⟨rfl,rfl⟩ | ⟨⟨h0,h1⟩,ho⟩
  ·rw [aE (by simp)]
  obtain ⟨j,rfl⟩ : ∃j,q=j+1:=⟨q-1,by omega⟩
  simp only [uU] at ho h1;have hj2:j<(ns.map Nd.ah).length:=by simp;omega
  have lo:=congrArg List.length ho;rw [zU,lk] at lo;have e1 : [(j:Int)]++ZuU c=ZuU (j::c):=rfl;rw [show (rOf p room ns).Ahead=Zei (ns.map Nd.ah) from rfl,show ((j+1:Nat):Int)-1=(j:Int) by omega,aD (by simp),Zld,ZhK,e1,Zaf (by rw [ZdT];simp [ZuU];omega),Zaf (by omega),ZeP,Zaf (by omega),zG,ZjB hj2,Zam,Zek,vY];rcases Zeh ht h1 with ⟨z,a,e,cl⟩ | ⟨q,hq,a,e,hq',cl⟩
  ·rw [a];exact hG 0 _ (by omega) ⟨0,_,rfl,rfl,.inl ⟨rfl,by rw [←ho,e];rfl⟩⟩
  rw [a];exact hG (q+1) _ (by omega) ⟨q+1,_,rfl,by rw [show ((q+1:Nat):Int)-1=(q:Int) by omega],.inr ⟨⟨by omega,by simp;omega⟩,by simp only [uU];rw [←ho,e];simp⟩⟩
 exact key
noncomputable def tOf (p:Zae) (room:Int) (ns:List Nd) (lp:List Int):Zav:=⟨aOf p room ns,Zei lp⟩
structure ZqX (ns:List Nd) (lp:List Int):Prop where
 len:lp.length≤ns.length
 ok : ∀(i:Nat) (v:Int),lp[i]? = some v→v = -1∨∃x:Nat,v=(x:Int)∧x≠i∧x∈ZeE ns i
def hZ (ns:List Nd) (k:Int):Int:=if 0≤k∧k<(ns.length:Int) then ((ns[k.toNat]?.map Nd.ch).getD []).length-1 else -1
theorem ZsB {ns:List Nd} {k:Nat} (hk:k<ns.length):hZ ns (k:Int)=(ns[k].ch.length:Int)-1:=by
 unfold hZ;rw [aD (by omega),zG,zR hk];rfl
theorem ZqO {ns:List Nd} {k:Int} (hk:k<0∨(ns.length:Int)≤k):hZ ns k = -1:=by
 unfold hZ;rw [aE (by omega)]
theorem Zlx (p:Zae) (room:Int) {ns:List Nd} (lp:List Int) {k:Nat} (hk:k<ns.length):ZbX N (tOf p room ns lp) (k:Int)=some (ns[k].en,true):=by
 unfold ZbX;rw [show (tOf p room ns lp).store=aOf p room ns from rfl,ZuT p room hk,Zaa]
theorem Zte (p:Zae) (room:Int) {ns:List Nd} (lp:List Int) {k:Int} (hk:k<0∨(ns.length:Int)≤k) : ∃e,ZbX N (tOf p room ns lp) k=some (e,false):=by
 unfold ZbX;rw [show (tOf p room ns lp).store=aOf p room ns from rfl,ZuS p room hk,Zaa];exact ⟨_,rfl⟩
theorem ZiB (p:Zae) (room:Int) (ns:List Nd) (lp:List Int) (k:Int):Zbq N (tOf p room ns lp) k=some (hZ ns k):=by
 unfold Zbq;by_cases h:0≤k∧k<(ns.length:Int)
 ·obtain ⟨j,rfl⟩ : ∃j:Nat,k=(j:Int):=⟨k.toNat,by omega⟩
  have hj:j<ns.length:=by omega
  rw [Zlx p room lp hj,Zaa];dsimp only;rw [aE (by simp),ZsB hj];rfl
 obtain ⟨e,h1⟩:=Zte (N:=N) p room (ns:=ns) lp (k:=k) (by omega);rw [h1,Zaa];dsimp only;rw [aD (by rfl),ZqO (by omega)]
def ancZ (ns:List Nd) (k h:Int):Int:=if 0≤k∧k<(ns.length:Int)∧0≤h then ((ZeE ns k.toNat)[h.toNat]?.map fun (x:Nat)=>(x:Int)).getD (-1) else -1
theorem ancZ_at {ns:List Nd} {k h x:Nat} (hk:k<ns.length) (hx:(ZeE ns k)[h]? = some x):ancZ ns (k:Int) (h:Int)=(x:Int):=by
 unfold ancZ;rw [aD (by omega),zG,zG,hx];rfl
theorem Zpf {ns:List Nd} (ht:Zhq ns) {k x y:Nat} (hk:k<ns.length) (hx:x∈ZeE ns k) (hy:y∈ZeE ns x):y∈ZeE ns k:=by
 obtain ⟨h,hx⟩:=qD.1 hx;obtain ⟨_,e⟩:=Zrm ht hk hx;rw [e] at hy;exact List.mem_of_mem_take hy
theorem row_lt {ns:List Nd} (ht:Zhq ns) {x y:Nat} (hx:x<ns.length) (hy:y∈ZeE ns x) (hne:y≠x) : ∃h:y<ns.length,ns[y].ch.length<ns[x].ch.length:=by
 obtain ⟨h,e⟩:=ZnQ ht hx hy;refine ⟨h,?_⟩;have hl:=(yE.1 e).1;have ll:=Zpi ht hx;have e2:=ZhJ ht hx;have p1:=uF.2 (ht.ch _ (yM h)).1;rcases zV ns[y].ch.length ns[x].ch.length with h3 | h3
 ·exact h3
 rw [show ns[y].ch.length-1=(ZeE ns x).length-1 by omega,ll] at e;cases e;exact absurd rfl hne
theorem ZnO {ns:List Nd} (ht:Zhq ns) {k:Nat} (hk:k<ns.length):k∈ZeE ns k:=vA (Zpi ht hk)
theorem Ztp {ns:List Nd} (ht:Zhq ns) {k q:Nat} (hk:k<ns.length) (hq:q<k) (e:ZeE ns k=ZeE ns q ++ [k]):q∈ZeE ns k:=by
 rw [e];exact wB.2 (.inl (ZnO ht (by omega)))
theorem Zmy (hN:600≤N) {p:Zae} {room:Int} {ns:List Nd} {lp:List Int} (ht:Zhq ns) (hl:ZqX ns lp) (k h:Int) (hb:k<(lp.length:Int)∨ns.length≤lp.length):Zaw N (tOf p room ns lp) k h=some (ancZ ns k h):=by
 have sm:=ht.small;unfold Zaw;rw [ZiB,Zaa];by_cases h0:h<0
 ·rw [aD (by simpa using h0)];unfold ancZ;rw [aE (by omega)]
 rw [aE (by simpa using h0)];by_cases hk0:k<0∨(ns.length:Int)≤k
 ·rw [ZqO (by omega),aD (by simp;omega)];unfold ancZ;rw [aE (by omega)]
 obtain ⟨k,rfl⟩ : ∃j:Nat,k=(j:Int):=⟨k.toNat,by omega⟩
 obtain ⟨h,rfl⟩ : ∃j:Nat,h=(j:Int):=⟨h.toNat,by omega⟩
 have hk:k<ns.length:=by omega
 have lk:=ZhJ ht hk;have lb:=(ht.ch _ (yM hk)).2;rw [ZsB hk];by_cases h1:(h:Int)>(ns[k].ch.length:Int)-1
 ·rw [aD (by simpa using h1)];unfold ancZ;rw [aD (by omega),zG,zG,zM (by omega)];rfl
 rw [aE (by simpa using h1)];have hh:h<(ZeE ns k).length:=by omega
 obtain ⟨t,et⟩ : ∃t,(ZeE ns k)[h]? = some t:=⟨_,zR hh⟩
 rw [ancZ_at hk et];refine ZbZ (fun m (s:Int×Int)=>∃(x:Nat) (hx:x<ns.length),m=ns[x].ch.length∧s=((x:Int),(ns[x].ch.length:Int)-1)∧x∈ZeE ns k∧h+1≤ns[x].ch.length) ?_ N ns[k].ch.length _ ⟨k,hk,rfl,rfl,ZnO ht hk,by omega⟩ (by omega);rintro G m _ ⟨x,hx,rfl,rfl,hm,hle⟩ hG;unfold Zaw.p1 Zaw.p2;dsimp only;by_cases hgt:(ns[x].ch.length:Int)-1>(h:Int)
 ·have hx2:x<lp.length:=by
   have:=Zkl ht hk x hm;omega
  rw [aD (by simpa using hgt),Zlx p room lp hx,Zaa];dsimp only;rw [show (tOf p room ns lp).leaps=Zei lp from rfl,Zaf (by omega),ZeP,Zaf (by omega),zG,ZjB hx2,Zam,Zek,show (ns[x].en).Ahead=ns[x].ah from rfl];rcases Zeh ht hx with ⟨z,a,e,c⟩ | ⟨q,hq,a,e,hq',c⟩
  ·omega
  have cl:=congrArg List.length c;rw [zU,yX] at cl;have toq:G ((q:Int),(ns[q].ch.length:Int)-1)=some (t:Int):=hG ns[q].ch.length _ (by omega) ⟨q,hq',rfl,rfl,Zpf ht hk hm (Ztp ht hx hq e),by omega⟩;rcases hl.ok x lp[x] (zR hx2) with v | ⟨y,v,hne,hy⟩
  ·rw [v,aE (by simp),a,ZiB,Zaa,ZsB hq'];exact toq
  obtain ⟨hy',hyl⟩:=row_lt ht hx hy hne;rw [v,aD (by simp<;>omega),ZiB,Zaa,ZsB hy'];by_cases h3:(ns[y].ch.length:Int)-1≥(h:Int)
  ·rw [aD (by simpa using h3),Zaa];exact hG ns[y].ch.length _ hyl ⟨y,hy',rfl,rfl,Zpf ht hk hm hy,by omega⟩
  rw [aE (by simpa using h3),a,ZiB,Zaa,ZsB hq'];exact toq
 obtain ⟨h3,e3⟩:=ZnQ ht hk hm;rw [show ns[x].ch.length-1=h by omega,et] at e3;cases e3;rw [aE (by simpa using hgt)]
def ZfO (ns:List Nd) (k o:Int):Bool:=decide (0≤k∧k<(ns.length:Int)∧0≤o∧o<(ns.length:Int)∧k.toNat∈ZeE ns o.toNat)
theorem ZiI (hN:600≤N) {p:Zae} {room:Int} {ns:List Nd} {lp:List Int} (ht:Zhq ns) (hl:ZqX ns lp) (hb:ns.length≤lp.length) (k o:Int):ZbJ N (tOf p room ns lp) k o=some (ZfO ns k o):=by
 unfold ZbJ;rw [ZiB,Zaa];by_cases hk0:k<0∨(ns.length:Int)≤k
 ·rw [ZqO (by omega),aE (by simp)];unfold ZfO;rw [decide_eq_false (by omega)]
 obtain ⟨k,rfl⟩ : ∃j:Nat,k=(j:Int):=⟨k.toNat,by omega⟩
 have hk:k<ns.length:=by omega
 have pk:=uF.2 (ht.ch _ (yM hk)).1;rw [ZsB hk,aD (by simp;omega),Zmy hN ht hl _ _ (.inr hb),Zaa]
 congr 1
 unfold ZfO ancZ;by_cases ho:o<0∨(ns.length:Int)≤o
 ·rw [aE (by omega),decide_eq_false (by omega)];simp<;>omega
 obtain ⟨o,rfl⟩ : ∃j:Nat,o=(j:Int):=⟨o.toNat,by omega⟩
 have ho':o<ns.length:=by omega
 rw [aD (by omega),zG,zG,show ((ns[k].ch.length:Int)-1).toNat=ns[k].ch.length-1 by omega];by_cases hm:k∈ZeE ns o
 ·obtain ⟨h1,h2⟩:=ZnQ ht ho' hm;rw [h2,decide_eq_true ⟨by omega,by omega,by omega,by omega,hm⟩];simp
 rw [decide_eq_false (fun h=>hm h.2.2.2.2)];cases e:(ZeE ns o)[ns[k].ch.length-1]? with
 | none=>simp<;>omega
 | some y=>
  have:y≠k:=fun h=>hm (by rw [←h];exact vA e);simp<;>omega
end Go.Dn.F
set_option maxRecDepth 100000
namespace Go.Dn.F
open Go.Dn Go.Proofs
variable {N:Nat}
end Go.Dn.F
set_option maxRecDepth 40000
namespace Go.Dn.F
open Go.Dn Go.Proofs
variable {N:Nat}
noncomputable def Zgo (ia:Nat) (lp:List Int):List L:=[zQ (some ia),yD true 1 (Zei lp)]
structure ZhH (st:LL) (ia it:Nat) (p:Zae) (room:Int) (ns:List Nd) (lp:List Int):Prop where
 a:st[ia]? = some (aOf p room ns).lo
 t:st[it]? = some (Zgo ia lp)
 ne:ia≠it
 lv:ZqX ns lp
 len:lp.length=ns.length
 tr:Zhq ns
theorem skH_eq (h:Int) : ∃x,Zey N h=some x:=by
 unfold Zey Zeg;by_cases h1:h<2
 ·rw [aD (by simpa using h1)];exact ⟨_,rfl⟩
 rw [aE (by simpa using h1)];by_cases h2:ZaH .and .i64 h 1=0
 ·rw [aD (by simpa using h2)];exact ⟨_,rfl⟩
 rw [aE (by simpa using h2)];exact ⟨_,rfl⟩
theorem ZsM (p:Zae) (gs:List ZcY) (cs:List Zcw) (room:Int) (ns:List Nd) (h:Zak) (now:Int) :
  ((Zju p gs cs room ns h now).2.2.2=ns∧((Zju p gs cs room ns h now).2.2.1≠0∨∃k:Nat,k<ns.length∧(Zju p gs cs room ns h now).1=(k:Int)))∨∃k:Nat,k<ns.length∧Zfb 0 (ids ns) (hid h)=none∧(ns.length:Int)<room ∧
   Zju p gs cs room ns h now=((ns.length:Int),0,0,ns ++ [Zej ns k h]):=by
 unfold Zju;by_cases hg:ZgG h=false
 ·rw [aD hg];exact .inl ⟨rfl,.inl (by simp)⟩
 rw [aE hg];cases e1:Zfb 0 (ids ns) (hid h) with
 | some k=>
  obtain ⟨_,hk,_⟩:=ZgN e1;have hk':k<ns.length:=by simpa [ids] using hk
  exact .inl ⟨rfl,.inr ⟨k,hk',rfl⟩⟩
 | none=>
  dsimp only;cases e2:Zfb 0 (ids ns) h.Prev with
  | none=>exact .inl ⟨rfl,.inl (by simp)⟩
  | some k=>
   dsimp only;obtain ⟨_,hk,_⟩:=ZgN e2;have hk':k<ns.length:=by simpa [ids] using hk
   by_cases h1:ZfM p gs cs (Zdv p (chAt ns k)) h now=0
   ·rw [aE (by simp [h1])];by_cases h2:room≤(ns.length:Int)
    ·rw [aD h2];exact .inl ⟨rfl,.inl (by simp)⟩
    rw [aE h2];exact .inr ⟨k,hk',rfl,by omega,rfl⟩
   rw [aD h1];exact .inl ⟨rfl,.inl (by simp)⟩
theorem ZqX.grow {ns:List Nd} {lp:List Int} (ht:Zhq ns) (hl:ZqX ns lp) (hlen:lp.length=ns.length) {nd:Nd} (ht':Zhq (ns ++ [nd])) {k:Nat} (hk:k<ns.length) (ha:nd.ah=(k:Int)) (h:Int):ZqX (ns ++ [nd]) (lp ++ [ancZ (ns ++ [nd]) (k:Int) h]) where
 len:=by simp [hlen]
 ok:=fun i v hv=>by
  by_cases hi:i<lp.length
  ·rw [zW hi] at hv;rcases hl.ok i v hv with h1 | ⟨x,h1,h2,h3⟩
   ·exact .inl h1
   exact .inr ⟨x,h1,h2,by rw [Zip nd ht (by omega)];exact h3⟩
  have e0:i=ns.length:=by
   have:=(yE.1 hv).1;simp at this;omega
  subst e0;rw [yG (by omega),hlen,Nat.sub_self] at hv;cases hv;have hn:ns.length<(ns ++ [nd]).length:=by simp
  have ea:(ns ++ [nd])[ns.length].ah=(k:Int):=by simpa using ha
  rw [Zph ht' hn hk ea,Zip nd ht hk];unfold ancZ;by_cases hc:0≤(k:Int)∧(k:Int)<((ns ++ [nd]).length:Int)∧0≤h
  ·rw [aD hc,zG,Zip nd ht hk];cases e:(ZeE ns k)[h.toNat]? with
   | none=>exact .inl rfl
   | some y=>
    have hy:=vA e;have:=Zkl ht hk y hy;exact .inr ⟨y,rfl,by omega,wB.2 (.inl hy)⟩
  rw [aE hc];exact .inl rfl
theorem skAdd_eq (hN:600≤N) {st:LL} {ia it:Nat} {p:Zae} {gs:List ZcY} {cs:List Zcw} (hg:p.Gates=ZmG gs) (hc:p.Checks=Zke cs) (lg:gs.length≤400) (lc:cs.length≤400) {room:Int} (hroom:room≤512) {ns:List Nd} {lp:List Int} (T:ZhH st ia it p room ns lp)
  {h:Zak} (hh:WfH h) (now:Int) (hnow : -1152921504606846976≤now∧now≤9223372036854775807) :
  ∃lp' st',Zcq N (some it) h now st=some ((Zju p gs cs room ns h now).1,(Zju p gs cs room ns h now).2.1,(Zju p gs cs room ns h now).2.2.1,st')∧ZhH st' ia it p room (Zju p gs cs room ns h now).2.2.2 lp'∧(∀j,j≠ia→j≠it→st'[j]? = st[j]?):=by
 have ht':=ZuL (p:=p) (gs:=gs) (cs:=cs) hroom T.tr hh now;unfold Zcq Zcq.p1;rw [aE (c:=Option.isNone (some it)=true) (by simp),Zaa,T.t,Zam];unfold Zgo;rw [ZcX,Add_eq (by omega) hg hc lg lc hroom T.tr T.a hh now hnow,Zaa];dsimp only;rcases ZsM p gs cs room ns h now with ⟨e,e1⟩ | ⟨k,hk,hpl,hlr,e⟩
 ·rw [e,ZiO T.a];refine ⟨lp,st,?_,T,fun j _ _=>rfl⟩;by_cases h6:(Zju p gs cs room ns h now).2.2.1=0
  ·rcases e1 with e1 | ⟨k,hk,e1⟩
   ·exact absurd h6 e1
   rw [aD (by simpa using h6),T.t,Zam];unfold Zgo;rw [ZcX,aE (by rw [e1,ZeP,T.len];simp;omega)]
  rw [aE (by simpa using h6)]
 rw [e] at ht' ⊢;dsimp only at ht' ⊢;have t2:(st.set ia (aOf p room (ns ++ [Zej ns k h])).lo)[it]? = some (Zgo ia lp):=by
  rw [zP T.ne];exact T.t
 have a2:(st.set ia (aOf p room (ns ++ [Zej ns k h])).lo)[ia]? = some (aOf p room (ns ++ [Zej ns k h])).lo:=zO (yE.1 T.a).1;have hit:=(yE.1 t2).1;have hn:ns.length<(ns ++ [Zej ns k h]).length:=by simp
 have en:(ns ++ [Zej ns k h])[ns.length]=Zej ns k h:=by simp
 obtain ⟨hx,eh⟩:=skH_eq (N:=N) ((ns ++ [Zej ns k h])[ns.length].en).Height;have lv:ZqX (ns ++ [Zej ns k h]) lp:=⟨by rw [T.len];simp,fun i v hv=>by
  have hi:=(yE.1 hv).1;rcases T.lv.ok i v hv with h1 | ⟨x,h1,h2,h3⟩
  ·exact .inl h1
  exact .inr ⟨x,h1,h2,by rw [Zip _ T.tr (by rw [←T.len];exact hi)];exact h3⟩⟩
 have sm:=T.tr.small;rw [aD (by rfl),t2,Zam];unfold Zgo;rw [ZcX,aD (by rw [ZeP,T.len];simp),Zaa,a2,Zam,ZbP,ZuT p room hn,Zaa];dsimp only;rw [eh,Zaa,show ((ns ++ [Zej ns k h])[ns.length].en).Ahead=(ns ++ [Zej ns k h])[ns.length].ah from rfl,en,show (Zej ns k h).ah=(k:Int) from rfl,show (Zav.mk (aOf p room (ns ++ [Zej ns k h])) (Zei lp))=tOf p room (ns ++ [Zej ns k h]) lp from rfl,Zmy hN ht' lv _ _ (.inl (by rw [T.len];omega)),Zaa,Zld,ZhK,Zaf (by rw [ZdT,zU,yX,T.len];omega),yW];refine ⟨_,_,rfl,⟨?_,?_,T.ne,T.lv.grow T.tr T.len ht' hk rfl hx,by simp [T.len],ht'⟩,fun j h1 h2=>?_⟩
 ·rw [zP (Ne.symm T.ne)];exact a2
 ·exact zO hit
 rw [zP (Ne.symm h2),zP (Ne.symm h1)]
theorem Zri (hN:500≤N) {p:Zae} {gs:List ZcY} {cs:List Zcw} (hg:p.Gates=ZmG gs) (hc:p.Checks=Zke cs) (lg:gs.length≤400) (lc:cs.length≤400) (hp:WfP p) (room:Int) (st:LL) :
  ZfB N p room st=if ZmH p gs cs=true then some (some (st.length+1),0,(st ++ [(aOf p (ZkN room) [ZfT p]).lo]) ++ [Zgo st.length [-1]]) else some (none,1,st):=by
 unfold ZfB;rw [New_eq hN hg hc lg lc hp];cases ZmH p gs cs with
 | false=>rfl
 | true=>
  rw [aD rfl,Zaa,aD (c:=true=true) rfl];dsimp only;rw [aE (by simp),zU,yX];rfl
theorem Zrj {p:Zae} (hp:WfP p) (room:Int) (st:LL):ZhH ((st ++ [(aOf p room [ZfT p]).lo]) ++ [Zgo st.length [-1]]) st.length (st.length+1) p room [ZfT p] [-1] where
 a:=by rw [zW (by simp)];simp
 t:=by rw [yG (by simp)];simp
 ne:=by omega
 lv:=⟨by simp,fun i v hv=>by
  cases i with
  | zero=>cases hv;exact .inl rfl
  | succ i=>cases hv⟩
 len:=rfl
 tr:=Zhq.one_node hp.h
theorem ZhH.app {st:LL} {ia it:Nat} {p:Zae} {room:Int} {ns:List Nd} {lp:List Int} (T:ZhH st ia it p room ns lp) (x:LL):ZhH (st++x) ia it p room ns lp where
 a:=by rw [zW (yE.1 T.a).1];exact T.a
 t:=by rw [zW (yE.1 T.t).1];exact T.t
 ne:=T.ne
 lv:=T.lv
 len:=T.len
 tr:=T.tr
end Go.Dn.F
set_option maxRecDepth 100000
namespace Go.Dn.F
open Go.Dn Go.Proofs
variable {N:Nat}
def ZiZ (S:List Int) (O:List Bool) (k:Nat):Bool:=O.getD k false||S.getD k 0==2
def chZ (ns:List Nd) (S:List Int) (O:List Bool) (k:Nat):Bool:=(ZeE ns k).dropLast.any (ZiZ S O)
def flZ (ns:List Nd) (S:List Int) (O:List Bool) (k:Nat):Bool:=(ZeE ns k).any (ZiZ S O)
def stZ (ns:List Nd) (S:List Int) (O:List Bool) (k:Nat):ZaV:=⟨S.getD k 0,O.getD k false,chZ ns S O k⟩
def Zfc (ns:List Nd) (S:List Int) (O:List Bool):List ZaV:=(vO ns.length).map (stZ ns S O)
noncomputable def rowM (l:List ZaV):LL:=l.map ZaV.ls
noncomputable def mk2 (it:Nat) (l:List ZaV):List L:=[zQ (some it),yD true 3 (rowM l)]
theorem Zrn {ns:List Nd} (ht:Zhq ns) {k:Nat} (hk:k<ns.length) : ∃l,ZeE ns k=l ++ [k]:=by
 rcases Zeh ht hk with ⟨_,_,e,_⟩ | ⟨q,_,_,e,_⟩
 ·exact ⟨[],e⟩
 exact ⟨_,e⟩
theorem ZrH {ns:List Nd} (ht:Zhq ns) {k:Nat} (hk:k<ns.length) (S:List Int) (O:List Bool):flZ ns S O k=(chZ ns S O k||ZiZ S O k):=by
 obtain ⟨l,e⟩:=Zrn ht hk;unfold flZ chZ;rw [e,tB,List.any_append];simp
theorem ZoF {ns:List Nd} (ht:Zhq ns) {k:Nat} (e:ZeE ns k = [k]) (S:List Int) (O:List Bool):chZ ns S O k=false:=by
 unfold chZ;rw [e];rfl
theorem ZrO {ns:List Nd} {k q:Nat} (e:ZeE ns k=ZeE ns q ++ [k]) (S:List Int) (O:List Bool):chZ ns S O k=flZ ns S O q:=by
 unfold chZ flZ;rw [e,tB]
theorem Zml (x:ZaV):ZcC N x=some (x.out||x.verdict==2):=by
 unfold ZcC;cases h:x.out
 ·rw [aE (by simp)];simp
 rw [aD rfl];simp
@[simp] theorem Zgr (ns:List Nd) (S:List Int) (O:List Bool):(Zfc ns S O).length=ns.length:=by simp [Zfc]
theorem Zgs {ns:List Nd} {S:List Int} {O:List Bool} {k:Nat} (hk:k<ns.length):(Zfc ns S O)[k]? = some (stZ ns S O k):=by simp [Zfc,hk]
@[simp] theorem rowM_length (l:List ZaV):(rowM l).length=l.length:=by simp [rowM]
@[simp] theorem ZhS (l:List ZaV):len (rowM l)=(l.length:Int):=by simp [len,rowM]
theorem ZjA {l:List ZaV} {k:Nat} {x:ZaV} (h:l[k]? = some x):(rowM l)[0+k]? = some x.ls:=by simp [rowM,h]
theorem ZgV {ns:List Nd} {S:List Int} {O:List Bool} {k:Nat} (hk:k<ns.length):(rowM (Zfc ns S O))[0+k]? = some (stZ ns S O k).ls:=ZjA (Zgs hk)
theorem Zuh {ns:List Nd} {S:List Int} {O:List Bool} {j:Nat} (hj:j<ns.length):(Zfc ns S O).take (j+1)=(Zfc ns S O).take j ++ [stZ ns S O j]:=by
 rw [yJ (by simpa using hj)]
 congr 2
 have:=Zgs (S:=S) (O:=O) hj;rw [zR (by simpa using hj)] at this;exact Option.some.inj this
theorem ZeO {α:Type} (it:Nat) (l:List ZaV) (k:Option Nat→LL→Option α):Zcb (mk2 it l) k=k (some it) (rowM l):=rfl
theorem Zuf {c1:(Int×LL)→Option LL} {im it:Nat} {st:LL} {l:List ZaV} {s:ZaV} (hm:im<st.length) (hl:l.length≤1000) (j:Int) :
  ZaQ.p2 N c1 im j s (st.set im (mk2 it l))=c1 (w64 (j+1),st.set im (mk2 it (l ++ [s]))):=by
 unfold ZaQ.p2;rw [zO hm,Zam,ZeO,Zaf (by simp;omega),yW,yW];simp [mk2,rowM]
theorem ZhH.setIm {st:LL} {ia it im:Nat} {p:Zae} {room:Int} {ns:List Nd} {lp:List Int} {x:List L} (T:ZhH st ia it p room ns lp) (na:im≠ia) (nt:im≠it):ZhH (st.set im x) ia it p room ns lp:=
 ⟨by rw [zP na];exact T.a,by rw [zP nt];exact T.t,T.ne,T.lv,T.len,T.tr⟩
theorem Len_eq {st:LL} {ia it:Nat} {p:Zae} {room:Int} {ns:List Nd} {lp:List Int} (T:ZhH st ia it p room ns lp):ZdM N (some it) st=some ((ns.length:Int),st):=by
 unfold ZdM;rw [aE (by simp),Zaa,T.t,Zam];unfold Zgo;rw [ZcX,Zaa,T.a,Zam,ZbP,Len_v_eq,Zaa]
theorem grow_eq (hN:600≤N) {st:LL} {ia it im:Nat} {p:Zae} {room:Int} {ns:List Nd} {lp:List Int} {S:List Int} {O:List Bool} {k:Nat} (T:ZhH st ia it p room ns lp) (h1:im≠ia) (h2:im≠it)
  (hm:st[im]? = some (mk2 it ((Zfc ns S O).take k))) (hk:k≤ns.length) (hnew : ∀i,k≤i→i<ns.length→S.getD i 0=(if i=0 then 1 else 0)∧O.getD i false=false) (small:ns.length≤500) :
  ZaQ N (some im) st=some (st.set im (mk2 it (Zfc ns S O))):=by
 unfold ZaQ;have him:im<st.length:=(yE.1 hm).1;have e0:len (rowM ((Zfc ns S O).take k))=(k:Int):=by simp;omega
 rw [Zaa,hm,Zam,ZeO,e0]
 conv=>lhs;rw [←ZiO hm]
 refine ZbZ (fun m (s:Int×LL)=>∃j,k≤j∧j+m=ns.length∧s=((j:Int),st.set im (mk2 it ((Zfc ns S O).take j)))) ?_ N (ns.length-k) _ ⟨k,by omega,by omega,rfl⟩ (by omega);rintro G m _ ⟨j,hj,hjm,rfl⟩ hG;unfold ZaQ.p1;dsimp only;rw [zO him,Zam,ZeO,Len_eq (T.setIm h1 h2),Zaa];dsimp only;by_cases hlt:j<ns.length
 ·rw [aD (by simp;omega),zO him,Zam,ZeO,Zaa,zP h2,T.t,Zam];unfold Zgo;rw [ZcX,Zaa,zP h1,T.a,Zam,ZbP,show (Zav.mk (aOf p room ns) (Zei lp))=tOf p room ns lp from rfl,Zlx p room lp hlt,Zaa];dsimp only;have hn:=hnew j hj hlt;have el:((Zfc ns S O).take j).length=j:=by simp;omega
  have fin : ∀s,s=stZ ns S O j→ZaQ.p2 N G im (j:Int) s (st.set im (mk2 it ((Zfc ns S O).take j)))=some (st.set im (mk2 it (Zfc ns S O))):=by
   rintro s rfl;rw [Zuf him (by omega),←Zuh hlt,ZaL (by omega) (by omega)];exact hG (m-1) _ (by omega) ⟨j+1,by omega,by omega,by rw [Int.natCast_add];rfl⟩
  rw [show (ns[j].en).Ahead=ns[j].ah from rfl];rcases Zeh T.tr hlt with ⟨z,a,e,_⟩ | ⟨q,hq,a,e,hq',_⟩
  ·rw [a,aE (by simp)];refine fin _ ?_;subst z;unfold stZ;rw [ZoF T.tr e,hn.1,hn.2,aD rfl]
  have ec:=ZrO e S O;rw [ZrH T.tr hq'] at ec;have eq:(rowM ((Zfc ns S O).take j))[0+q]? = some (stZ ns S O q).ls:=ZjA (by rw [tI hq];exact Zgs hq');rw [a,aD (by simp<;>omega),Zaf (by omega),Zaf (by rw [ZhS,el];omega),zG,eq,Zam,ZcW,show (stZ ns S O q).child=chZ ns S O q from rfl,Zml,show ((stZ ns S O q).out||(stZ ns S O q).verdict==2)=ZiZ S O q from rfl,Zaa];have hj0:j≠0:=by omega
  cases hc:chZ ns S O q
  ·rw [aE (by simp)];refine fin _ ?_;unfold stZ;rw [ec,hc,hn.1,hn.2,aE hj0,uI]
  rw [aD rfl];refine fin _ ?_;unfold stZ;rw [ec,hc,hn.1,hn.2,aE hj0,rS]
 rw [aE (by simp;omega),zY (by simp;omega)]
structure ZiK (st:LL) (ia it im:Nat) (p:Zae) (room:Int) (ns:List Nd) (lp:List Int) (S:List Int) (O:List Bool):Prop where
 T:ZhH st ia it p room ns lp
 na:im≠ia
 nt:im≠it
 k : ∃k,k≤ns.length∧st[im]? = some (mk2 it ((Zfc ns S O).take k))∧∀i,k≤i→S.getD i 0=(if i=0 then 1 else 0)∧O.getD i false=false
 small:ns.length≤500
noncomputable def gst (st:LL) (im it:Nat) (ns:List Nd) (S:List Int) (O:List Bool):LL:=st.set im (mk2 it (Zfc ns S O))
def inB (ns:List Nd) (k:Int):Bool:=decide (0≤k)&&decide (k<(ns.length:Int))
theorem inB_true {ns:List Nd} {k:Int}:inB ns k=true↔0≤k∧k<(ns.length:Int):=by simp [inB]
theorem Zmg {ns:List Nd} {k:Int} (h:inB ns k=true) : ∃j:Nat,k=(j:Int)∧j<ns.length:=by
 rw [inB_true] at h;exact ⟨k.toNat,by omega,by omega⟩
section
variable {st:LL} {ia it im:Nat} {p:Zae} {room:Int} {ns:List Nd} {lp:List Int} {S:List Int} {O:List Bool}
theorem ZiK.im_lt (M:ZiK st ia it im p room ns lp S O):im<st.length:=by
 obtain ⟨k,_,h,_⟩:=M.k;exact (yE.1 h).1
theorem ZiK.gm (M:ZiK st ia it im p room ns lp S O):(gst st im it ns S O)[im]? = some (mk2 it (Zfc ns S O)):=zO M.im_lt
theorem ZiK.gst_len (M:ZiK st ia it im p room ns lp S O) : ∀i,ns.length≤i→S.getD i 0=(if i=0 then 1 else 0)∧O.getD i false=false:=by
 obtain ⟨k,hk,_,h⟩:=M.k;exact fun i hi=>h i (by omega)
theorem ZiK.gst (M:ZiK st ia it im p room ns lp S O):ZiK (gst st im it ns S O) ia it im p room ns lp S O:=
 ⟨M.T.setIm M.na M.nt,M.na,M.nt,⟨ns.length,Nat.le_refl _,by rw [M.gm,zY (by simp)],M.gst_len⟩,M.small⟩
theorem Zhp:F.gst (F.gst st im it ns S O) im it ns S O=F.gst st im it ns S O:=by unfold F.gst;rw [yW]
theorem ZqN (hN:600≤N) (M:ZiK st ia it im p room ns lp S O) (k:Int):ZbU N (some im) k st=some (inB ns k,gst st im it ns S O):=by
 unfold ZbU;obtain ⟨j,hj,hm,hn⟩:=M.k;rw [aE (by simp),grow_eq hN M.T M.na M.nt hm hj (fun i h1 _=>hn i h1) M.small,Zaa,show st.set im (mk2 it (Zfc ns S O))=gst st im it ns S O from rfl];by_cases h:0≤k
 ·rw [aD (by simpa using h),Zaa,M.gm,Zam,ZeO];simp [inB,h]
 rw [aE (by simpa using h)];simp [inB,h]
def atZ (ns:List Nd) (f:Nat→Bool) (k:Int):Bool:=inB ns k&&f k.toNat
theorem Zkd (hN:600≤N) (M:ZiK st ia it im p room ns lp S O) (k:Int):Zco N (some im) k st=some (atZ ns (flZ ns S O) k,gst st im it ns S O):=by
 unfold Zco;rw [ZqN hN M,Zaa];dsimp only;unfold atZ;cases h:inB ns k
 ·rw [aE (by simp)];rfl
 obtain ⟨j,rfl,hj⟩:=Zmg h;rw [aD rfl,Zaa,M.gm,Zam,ZeO,Zaf (by omega),Zaf (by simp<;>omega),zG,ZgV hj,Zam,ZcW,Zml,Zaa,ZrH M.T.tr hj];show (if chZ ns S O j=true then _ else _)=_;cases chZ ns S O j<;>rfl
theorem Child_eq (hN:600≤N) (M:ZiK st ia it im p room ns lp S O) (k:Int):Zdp N (some im) k st=some (atZ ns (chZ ns S O) k,gst st im it ns S O):=by
 unfold Zdp;rw [ZqN hN M,Zaa];dsimp only;unfold atZ;cases h:inB ns k
 ·rw [aE (by simp)];rfl
 obtain ⟨j,rfl,hj⟩:=Zmg h;rw [aD rfl,Zaa,M.gm,Zam,ZeO,Zaf (by omega),Zaf (by simp<;>omega),zG,ZgV hj,Zam,ZcW];rfl
theorem Said_eq (hN:600≤N) (M:ZiK st ia it im p room ns lp S O) (k:Int):Zdw N (some im) k st=some (if inB ns k=true then S.getD k.toNat 0 else 0,if inB ns k=true then O.getD k.toNat false else false,gst st im it ns S O):=by
 unfold Zdw;rw [ZqN hN M,Zaa];dsimp only;cases h:inB ns k
 ·rw [aD (by rfl),aE (by simp),aE (by simp)]
 obtain ⟨j,rfl,hj⟩:=Zmg h;rw [aE (by simp),Zaa,M.gm,Zam,ZeO,Zaf (by omega),Zaf (by simp<;>omega),zG,ZgV hj,Zam,ZcW,aD rfl,aD rfl]
 try rfl
def Zig (ns:List Nd) (k:Int):Int:=if inB ns k=true then (if k=0 then 1 else 0) else 5
theorem Zmt (hN:600≤N) (M:ZiK st ia it im p room ns lp S O) (k:Int):Zcn N (some im) k st=some (Zig ns k,gst st im it ns S O):=by
 unfold Zcn Zig;rw [aE (by simp),ZqN hN M,Zaa];dsimp only;cases h:inB ns k
 ·rw [aD (by rfl),aE (by simp)]
 rw [aE (by simp),aD rfl];by_cases h0:k=0
 ·rw [aD (by simpa using h0),aD h0]
 rw [aE (by simpa using h0),aE h0]
theorem full_ext {l:List ZaV} (hl:l.length=ns.length) (h : ∀i,i<ns.length→l[i]? = some (stZ ns S O i)):l=Zfc ns S O:=by
 refine xL fun i=>?_;rcases zV i ns.length with hi | hi
 ·rw [h i hi,Zgs hi]
 rw [zM (by omega),zM (by simp;omega)]
theorem Zpb (hN:600≤N) (T:ZhH st ia it p room ns lp) (na:im≠ia) (nt:im≠it) {l:List ZaV} (hm:st[im]? = some (mk2 it l)) (hl:l.length=ns.length)
  (h1 : ∀i,i<ns.length→∃c,l[i]? = some ⟨S.getD i 0,O.getD i false,c⟩) {fr:Int} {f:Nat} (hf:(if (1:Int)>fr then 1 else fr)=(f:Int)) (hfp:1≤f) (h0 : ∀i,i<ns.length→i<f→l[i]? = some (stZ ns S O i)) (small:ns.length≤500) :
  Zbl N (some im) fr st=some (st.set im (mk2 it (Zfc ns S O))):=by
 unfold Zbl;have him:im<st.length:=(yE.1 hm).1;rw [hf]
 conv=>lhs;rw [←ZiO hm]
 refine ZbZ (fun m (s:(Option Nat)×Int×LL)=>∃(j:Nat) (l:List ZaV),1≤j∧ns.length≤j+m∧s=(some im,(j:Int),st.set im (mk2 it l))∧l.length=ns.length∧(∀i,i<ns.length→∃c,l[i]? = some ⟨S.getD i 0,O.getD i false,c⟩)∧(∀i,i<ns.length→i<j→l[i]? = some (stZ ns S O i))) ?_ N ns.length _ ⟨f,l,hfp,by omega,rfl,hl,h1,h0⟩ (by omega);rintro G m _ ⟨j,l,hj,hjm,rfl,hl,h1,h0⟩ hG;unfold Zbl.p1;dsimp only;rw [Zaa,zO him,Zam,ZeO,ZhS,hl];by_cases hlt:j<ns.length
 ·rw [aD (by simp<;>omega),Zaa,zP nt,T.t,Zam];unfold Zgo;rw [ZcX,Zaa,zP na,T.a,Zam,ZbP,show (Zav.mk (aOf p room ns) (Zei lp))=tOf p room ns lp from rfl,Zlx p room lp hlt,Zaa];dsimp only;rw [show (ns[j].en).Ahead=ns[j].ah from rfl];obtain ⟨q,hq,a,e,hq',_⟩ : ∃q,q<j∧ns[j].ah=(q:Int)∧ZeE ns j=ZeE ns q ++ [j]∧∃hq:q<ns.length,True:=by
   rcases Zeh T.tr hlt with ⟨z,_,_,_⟩ | ⟨q,hq,a,e,hq',_⟩
   ·omega
   exact ⟨q,hq,a,e,hq',trivial⟩
  obtain ⟨c,hc⟩:=h1 j hlt;have ec:=ZrO e S O;rw [ZrH T.tr hq'] at ec;have gq:=ZjA (h0 q hq' hq);have gj:=ZjA hc;have fin : ∀x,x=chZ ns S O j→G (some im,w64 ((j:Int)+1),zN (st.set im (mk2 it l)) im [zQ (some it),yD true 3 (zN (rowM l) (0+j) (ZaV.ls ⟨S.getD j 0,O.getD j false,x⟩))])=some (st.set im (mk2 it (Zfc ns S O))):=by
   rintro x rfl;rw [ZaL (by omega) (by omega),yW];refine hG (m-1) _ (by omega) ⟨j+1,l.set j (stZ ns S O j),by omega,by omega,?_,by simpa using hl,fun i hi=>?_,fun i hi hij=>?_⟩
   ·simp only [mk2,rowM,tC,yI];rfl
   ·by_cases hij:i=j
    ·subst hij;exact ⟨_,zO (by omega)⟩
    rw [zP (by omega)];exact h1 i hi
   by_cases hij':i=j
   ·subst hij';exact zO (by omega)
   rw [zP (by omega)];exact h0 i hi (by omega)
  rw [a,Zaf (by omega),Zaf (by omega),zG,gq,Zam,ZcW,Zml,Zaa,zG,gj,Zam,ZcW,Zaf (by omega),Zam,ZcW];show (if chZ ns S O q=true then _ else _)=_;cases hc:chZ ns S O q
  ·rw [aE (by simp)];refine fin (ZiZ S O q) ?_;rw [ec,hc,uI]
  rw [aD rfl];refine fin true ?_;rw [ec,hc,rS]
 rw [aE (by simp<;>omega),full_ext hl fun i hi=>h0 i hi (by omega)]
end
end Go.Dn.F
namespace Go.Dn.F
open Go.Dn Go.Proofs
variable {N:Nat}
theorem Zgm {α:Type} {l:List α} {k:Nat} (hk:k<l.length) (v d:α) (i:Nat):(l.set k v).getD i d=if i=k then v else l.getD i d:=by
 rw [yB,yB];by_cases h:i=k
 ·subst h;rw [zO hk,aD rfl];rfl
 rw [zP (fun e=>h e.symm),aE h]
theorem ZsH {ns:List Nd} (ht:Zhq ns) {S S':List Int} {O O':List Bool} {k:Nat} (h : ∀x,x<k→ZiZ S' O' x=ZiZ S O x) {i:Nat} (hi:i<ns.length) (hik:i≤k):chZ ns S' O' i=chZ ns S O i:=by
 unfold chZ;rcases Zeh ht hi with ⟨_,_,e,_⟩ | ⟨q,hq,_,e,hq',_⟩
 ·rw [e];rfl
 rw [e,tB];have key : ∀l:List Nat,(∀x∈l,x<k)→l.any (ZiZ S' O')=l.any (ZiZ S O):=by
  intro l
  induction l with
  | nil=>intro _;rfl
  | cons y l ih=>intro hy;rw [vZ,vZ,h y (hy y (by simp)),ih fun x hx=>hy x (by simp [hx])]
 exact key _ fun x hx=>by have:=Zkl ht hq' x hx;omega
section
variable {st:LL} {ia it im:Nat} {p:Zae} {room:Int} {ns:List Nd} {lp:List Int} {S:List Int} {O:List Bool}
theorem Zhm {ns:List Nd} {k:Int} (h:Zig ns k=0) : ∃j:Nat,k=(j:Int)∧j<ns.length∧1≤j:=by
 unfold Zig at h;cases hb:inB ns k
 ·rw [hb,aE (by simp)] at h;cases h
 obtain ⟨j,rfl,hj⟩:=Zmg hb;rw [hb,aD rfl] at h;refine ⟨j,rfl,hj,?_⟩;by_cases h0:(j:Int)=0
 ·rw [aD h0] at h;cases h
 omega
theorem ZsX (hN:600≤N) (M:ZiK st ia it im p room ns lp S O) {S':List Int} {O':List Bool} {j:Nat} (hj:j<ns.length) (hj1:1≤j) (hS : ∀i,i≠j→S'.getD i 0=S.getD i 0) (hO : ∀i,i≠j→O'.getD i false=O.getD i false) {x:ZaV} (hx:x=⟨S'.getD j 0,O'.getD j false,chZ ns S O j⟩) :
  Zbl N (some im) (j:Int) (zN (gst st im it ns S O) im [zQ (some it),yD true 3 (zN (rowM (Zfc ns S O)) (0+j) x.ls)])=some (gst st im it ns S' O'):=by
 subst hx;have hb : ∀i,i<j→ZiZ S' O' i=ZiZ S O i:=fun i hi=>by unfold ZiZ;rw [hS i (by omega),hO i (by omega)]
 have e : [zQ (some it),yD true 3 (zN (rowM (Zfc ns S O)) (0+j) (ZaV.ls ⟨S'.getD j 0,O'.getD j false,chZ ns S O j⟩))]=mk2 it ((Zfc ns S O).set j ⟨S'.getD j 0,O'.getD j false,chZ ns S O j⟩):=by
  simp only [mk2,rowM,tC,yI]
 rw [e];unfold gst;rw [yW];have hlj:j<(Zfc ns S O).length:=by simpa using hj
 rw [Zpb (S:=S') (O:=O') (l:=(Zfc ns S O).set j ⟨S'.getD j 0,O'.getD j false,chZ ns S O j⟩) (f:=j) hN (M.T.setIm M.na M.nt) M.na M.nt (zO M.im_lt) (by simp) (fun i hi=>?_) (by rw [aE (by omega)]) hj1 (fun i hi hij=>?_) M.small,yW]
 ·by_cases h:i=j
  ·subst h;exact ⟨_,zO hlj⟩
  rw [zP (fun e=>h e.symm),Zgs hi,hS i h,hO i h];exact ⟨_,rfl⟩
 rw [zP (by omega),Zgs hi];unfold stZ;rw [ZsH M.T.tr hb hi (by omega),hS i (by omega),hO i (by omega)]
def ZsQ (ns:List Nd) (O:List Bool) (k:Int):List Bool:=if Zig ns k=0 then O.set k.toNat true else O
theorem ZgK (hN:600≤N) (M:ZiK st ia it im p room ns lp S O) (hO:O.length=600) (k:Int):Zbt N (some im) k st=some (Zig ns k,gst st im it ns S (ZsQ ns O k)):=by
 unfold Zbt ZsQ;rw [Zmt hN M,Zaa];dsimp only;by_cases h:Zig ns k=0
 ·rw [aE (by simpa using h),aD h];obtain ⟨j,rfl,hj,hj1⟩:=Zhm h;have sm:=M.small;rw [Zaa,M.gm,Zam,ZeO,Zaf (by omega),Zaf (by simp<;>omega),zG,ZgV hj,Zam,ZcW,ZsX (S':=S) (O':=O.set j true) hN M hj hj1 (fun _ _=>rfl) (fun i hi=>by rw [Zgm (by omega),aE hi]) (by unfold stZ;rw [Zgm (by omega),aD rfl]),Zaa,h]
 rw [aD (by simpa using h),aE h]
def Zqk (right:Bool):Int:=if right=true then 1 else 2
def vrdE (ns:List Nd) (S:List Int) (k:Int) (right:Bool):Int:=if Zig ns k=0 then (if S.getD k.toNat 0≠0∧S.getD k.toNat 0≠Zqk right then 1 else 0) else Zig ns k
def vrdS (ns:List Nd) (S:List Int) (k:Int) (right:Bool):List Int:=if vrdE ns S k right=0 then S.set k.toNat (Zqk right) else S
theorem Zqe (hN:600≤N) (M:ZiK st ia it im p room ns lp S O) (hS:S.length=600) {j:Nat} (hj:j<ns.length) (hj1:1≤j) (w:Int):ZaK.p2 N im (j:Int) w (gst st im it ns S O)=some (0,gst st im it ns (S.set j w) O):=by
 unfold ZaK.p2;have sm:=M.small;rw [M.gm,Zam,ZeO,zG,ZgV hj,Zam,ZcW,ZsX (S':=S.set j w) (O':=O) hN M hj hj1 (fun i hi=>by rw [Zgm (by omega),aE hi]) (fun _ _=>rfl) (by unfold stZ;rw [Zgm (by omega),aD rfl]),Zaa]
theorem ZsN (hN:600≤N) (M:ZiK st ia it im p room ns lp S O) (hS:S.length=600) (k:Int) (right:Bool):ZaK N (some im) k right st=some (vrdE ns S k right,gst st im it ns (vrdS ns S k right) O):=by
 unfold ZaK;rw [Zmt hN M,Zaa];dsimp only;unfold vrdS vrdE;by_cases h:Zig ns k=0
 ·rw [aE (by simpa using h),aD h];obtain ⟨j,rfl,hj,hj1⟩:=Zhm h;have p1 : ∀w,ZaK.p1 N (some im) (j:Int) w (gst st im it ns S O)=if S.getD j 0≠0∧S.getD j 0≠w then some (1,gst st im it ns S O) else some (0,gst st im it ns (S.set j w) O):=by
   intro w;unfold ZaK.p1;rw [Zaa,M.gm,Zam,ZeO,Zaf (by omega),Zaf (by simp<;>omega),zG,ZgV hj,Zam,ZcW,show (stZ ns S O j).verdict=S.getD j 0 from rfl,Zqe hN M hS hj hj1];by_cases h1:S.getD j 0=0
   ·rw [aE (by simpa using h1),aE (fun e=>e.1 h1)]
   rw [aD (by simpa using h1)];by_cases h2:S.getD j 0=w
   ·rw [aE (by simpa using h2),aE (fun e=>e.2 h2)]
   rw [aD (by simpa using h2),aD ⟨h1,h2⟩]
  rw [p1,p1,zG];cases right
  ·rw [aE (by simp),show Zqk false=2 from rfl];split<;>simp_all
  rw [aD rfl,show Zqk true=1 from rfl];split<;>simp_all
 rw [aD (by simpa using h),aE h,aE h]
def ZjU (ns:List Nd) (a:Int) (i:Nat):Bool:=ZfO ns (i:Int) a||ZfO ns a (i:Int)
def rsF (ns:List Nd) (a:Int) (S:List Int) (j i:Nat):Int:=if decide (i<j)&&ZjU ns a i&&S.getD i 0==2 then 0 else S.getD i 0
def roF (ns:List Nd) (a:Int) (O:List Bool) (j i:Nat):Bool:=if decide (i<j)&&ZjU ns a i then false else O.getD i false
def Ztx (ns:List Nd) (a:Int) (S:List Int):List Int:=(vO S.length).map (rsF ns a S ns.length)
def Ztz (ns:List Nd) (a:Int) (O:List Bool):List Bool:=(vO O.length).map (roF ns a O ns.length)
theorem Zoc (ns:List Nd) (a:Int) (S:List Int) (i:Nat):(Ztx ns a S).getD i 0=rsF ns a S ns.length i:=by
 unfold Ztx;rw [yB];rcases zV i S.length with h | h
 ·simp [h]
 rw [zM (by simpa using h)];unfold rsF;rw [yB,zM h];simp
theorem Zod (ns:List Nd) (a:Int) (O:List Bool) (i:Nat):(Ztz ns a O).getD i false=roF ns a O ns.length i:=by
 unfold Ztz;rw [yB];rcases zV i O.length with h | h
 ·simp [h]
 rw [zM (by simpa using h)];unfold roF;rw [yB,zM h];simp
def ZlL (ns:List Nd) (a:Int) (S:List Int) (O:List Bool) (j:Nat):List ZaV:=(vO ns.length).map fun i=>⟨rsF ns a S j i,roF ns a O j i,chZ ns S O i⟩
theorem ZhN {ns:List Nd} {a:Int} {S:List Int} {O:List Bool} {j i:Nat} (hi:i<ns.length):(ZlL ns a S O j)[i]? = some ⟨rsF ns a S j i,roF ns a O j i,chZ ns S O i⟩:=by simp [ZlL,hi]
@[simp] theorem recL_length (ns:List Nd) (a:Int) (S:List Int) (O:List Bool) (j:Nat):(ZlL ns a S O j).length=ns.length:=by simp [ZlL]
theorem ZtA (ns:List Nd) (a:Int) (S:List Int) (O:List Bool):ZlL ns a S O 0=Zfc ns S O:=by
 unfold ZlL Zfc;refine vR fun i _=>?_;unfold rsF roF stZ;simp
theorem Zrq {ns:List Nd} {a:Int} {S:List Int} {O:List Bool} {j:Nat} (hj:j<ns.length) (hc:ZjU ns a j=true):ZlL ns a S O (j+1)=(ZlL ns a S O j).set j ⟨if S.getD j 0=2 then 0 else S.getD j 0,false,chZ ns S O j⟩:=by
 refine xL fun i=>?_;rcases zV i ns.length with hi | hi
 ·rw [ZhN hi];by_cases h:i=j
  ·subst h;rw [zO (by simpa using hj)];unfold rsF roF;simp [hc]
  rw [zP (fun e=>h e.symm),ZhN hi];unfold rsF roF;rw [show decide (i<j+1)=decide (i<j) from decide_eq_decide.2 (by omega)]
 rw [zM (by simpa using hi),zM (by simpa using hi)]
theorem recL_not {ns:List Nd} {a:Int} {S:List Int} {O:List Bool} {j:Nat} (hj:j<ns.length) (hc:ZjU ns a j=false):ZlL ns a S O (j+1)=ZlL ns a S O j:=by
 refine xL fun i=>?_;rcases zV i ns.length with hi | hi
 ·rw [ZhN hi,ZhN hi];unfold rsF roF;by_cases h:i=j
  ·subst h;simp [hc]
  rw [show decide (i<j+1)=decide (i<j) from decide_eq_decide.2 (by omega)]
 rw [zM (by simpa using hi),zM (by simpa using hi)]
def Zsk (ns:List Nd) (S:List Int) (k:Int):List Int:=if Zig ns k=0 then Ztx ns k S else S
def Zsl (ns:List Nd) (O:List Bool) (k:Int):List Bool:=if Zig ns k=0 then Ztz ns k O else O
theorem ZhV (hN:600≤N) (M:ZiK st ia it im p room ns lp S O) (k:Int):Zal N (some im) k st=some (Zig ns k,gst st im it ns (Zsk ns S k) (Zsl ns O k)):=by
 unfold Zal Zsk Zsl;rw [Zmt hN M,Zaa];dsimp only;by_cases h:Zig ns k=0
 ·rw [aE (by simpa using h),aD h,aD h,h];have sm:=M.small;have hl:=M.T.len;obtain ⟨z,hz,hz0,hz1⟩:=Zhm h;rw [Zaa,M.gm,Zam,ZeO];have e0:gst st im it ns S O=st.set im (mk2 it (ZlL ns k S O 0)):=by rw [ZtA];rfl
  rw [e0];refine ZbZ (fun m (s:Int×LL)=>∃j:Nat,j+m=ns.length∧s=((j:Int),st.set im (mk2 it (ZlL ns k S O j)))) ?_ N ns.length _ ⟨0,by omega,rfl⟩ (by omega);rintro G m _ ⟨j,hjm,rfl⟩ hG;unfold Zal.p1;dsimp only;rw [ZhS,Zgr];have him:=M.im_lt;by_cases hlt:j<ns.length
  ·have hg:=ZjA (ZhN (a:=k) (S:=S) (O:=O) (j:=j) hlt);rw [aD (by simp<;>omega),zO him,Zam,ZeO,Zaf (by omega),Zaf (by simp<;>omega),Zaa,zP M.nt,M.T.t,Zam];unfold Zgo;rw [ZcX,Zaa,zP M.na,M.T.a,Zam,ZbP,show (Zav.mk (aOf p room ns) (Zei lp))=tOf p room ns lp from rfl,ZiI hN M.T.tr M.T.lv (by omega),Zaa,ZiI hN M.T.tr M.T.lv (by omega),Zaa,zG,hg];have w1:w64 ((j:Int)+1)=((j+1:Nat):Int):=by rw [ZaL (by omega) (by omega)];rfl
   have nxt : ∀l,l=ZlL ns k S O (j+1)→Zal.p2 N G im k (rowM (Zfc ns S O)) (j:Int) (st.set im (mk2 it l))=some (0,gst st im it ns (Ztx ns k S) (Ztz ns k O)):=by
    rintro l rfl;unfold Zal.p2;rw [w1];exact hG (m-1) _ (by omega) ⟨j+1,by omega,rfl⟩
   have hrs:rsF ns k S j j=S.getD j 0:=by unfold rsF;simp
   have sw : ∀x:ZaV,[zQ (some it),yD true 3 (zN (rowM (ZlL ns k S O j)) (0+j) x.ls)]=mk2 it ((ZlL ns k S O j).set j x):=fun x=>by simp only [mk2,rowM,tC,yI]
   have sg : ∀x:ZaV,(zN (rowM (ZlL ns k S O j)) (0+j) x.ls)[0+j]? = some x.ls:=fun x=>zO (by simp;omega);have body:ZjU ns k j=true→(ZcS (some (ZaV.ls ⟨rsF ns k S j j,roF ns k O j j,chZ ns S O j⟩)) ZcA fun x31=>
     ZcS ((zN (rowM (ZlL ns k S O j)) (0+j) (ZaV.ls {x31 with out:=false}))[0+j]?) ZcA fun x32=>
     if (x32.verdict==2)=true then
      Zal.p2 N G im k (rowM (Zfc ns S O)) (j:Int) (zN (zN (st.set im (mk2 it (ZlL ns k S O j))) im [zQ (some it),yD true 3 (zN (rowM (ZlL ns k S O j)) (0+j) (ZaV.ls {x31 with out:=false}))]) im [zQ (some it),yD true 3 (zN (zN (rowM (ZlL ns k S O j)) (0+j) (ZaV.ls {x31 with out:=false})) (0+j) (ZaV.ls {x32 with verdict:=0}))])
     else Zal.p2 N G im k (rowM (Zfc ns S O)) (j:Int) (zN (st.set im (mk2 it (ZlL ns k S O j))) im [zQ (some it),yD true 3 (zN (rowM (ZlL ns k S O j)) (0+j) (ZaV.ls {x31 with out:=false}))]))=some (0,gst st im it ns (Ztx ns k S) (Ztz ns k O)):=by
    intro hc;rw [Zam,ZcW,sg,Zam,ZcW];dsimp only;rw [yW,yW,sw,yW,sw,hrs];by_cases h2:S.getD j 0=2
    ·rw [aD (by simpa using h2)];exact nxt _ (by rw [Zrq hlt hc,aD h2])
    rw [aE (by simpa using h2),yW];exact nxt _ (by rw [Zrq hlt hc,aE h2])
   cases hw:ZfO ns (j:Int) k
   ·rw [aE (by simp)];cases hw2:ZfO ns k (j:Int)
    ·rw [aE (by simp)];exact nxt _ (by rw [recL_not hlt (by unfold ZjU;rw [hw,hw2];rfl)])
    rw [aD rfl];exact body (by unfold ZjU;rw [hw,hw2];rfl)
   rw [aD rfl];exact body (by unfold ZjU;rw [hw];rfl)
  have hj:j=ns.length:=by omega
  subst hj;rw [aE (by simp<;>omega),Zpb (S:=Ztx ns k S) (O:=Ztz ns k O) (l:=ZlL ns k S O ns.length) (f:=1) hN (M.T.setIm M.na M.nt) M.na M.nt (zO M.im_lt) (by simp) (fun i hi=>?_) rfl (Nat.le_refl _) (fun i hi hi1=>?_) M.small,Zaa,yW]
  ·rfl
  ·rw [ZhN hi,Zoc,Zod];exact ⟨_,rfl⟩
  have h0:i=0:=by omega
  subst h0;have e:ZeE ns 0 = [0]:=by
   rcases Zeh M.T.tr hi with ⟨_,_,e,_⟩ | ⟨q,hq,_⟩
   ·exact e
   omega
  rw [ZhN hi];unfold stZ;rw [Zoc,Zod,ZoF M.T.tr e,ZoF M.T.tr e]
 rw [aD (by simpa using h),aE h,aE h]
end
end Go.Dn.F
namespace Go.Dn.F
open Go.Dn Go.Proofs
variable {N:Nat}
def hvZ (ns:List Nd) (x y:Nat):Bool:=
 match ns[x]?,ns[y]? with
 | some a,some b=>decide (b.wk<a.wk)||(a.wk==b.wk&&decide (x<y))
 | _,_=>false
theorem ZrC (p:Zae) (room:Int) (ns:List Nd) (k:Int):Zca N (aOf p room ns) k=some (decide (0≤k∧k<(ns.length:Int))):=by
 unfold Zca;rw [show (aOf p room ns).list=Zie ns from rfl,Zhk];by_cases h:k≥0
 ·rw [aD (by simpa using h)];congr 1;simp;omega
 rw [aE (by simpa using h),decide_eq_false (by omega)]
theorem Zud {ns:List Nd} {x y:Nat} (hx:x<ns.length) (hy:y<ns.length):hvZ ns x y=(decide (ns[y].wk<ns[x].wk)||(ns[x].wk==ns[y].wk&&decide (x<y))):=by
 unfold hvZ;rw [zR hx,zR hy]
theorem ZnE (hN:10≤N) (p:Zae) (room:Int) {ns:List Nd} (lp:List Int) (ht:Zhq ns) {a b:Nat} (ha:a<ns.length) (hb:b<ns.length):Zch N (tOf p room ns lp) (a:Int) (b:Int)=some (hvZ ns a b):=by
 unfold Zch ZcJ;rw [show (tOf p room ns lp).store=aOf p room ns from rfl,ZrC,Zaa];rw [aE (by simp;omega),ZrC,Zaa,aE (by simp;omega)];rw [show (aOf p room ns).list=Zie ns from rfl,Zhk,Zaf (by omega),Zaf (by omega),zG,Zle ha,Zam,Zfr,Zaf (by omega),Zaf (by omega),zG,Zle hb,Zam,Zfr,show (ns[a].en).Work=nw ns[a].wk from rfl,show (ns[b].en).Work=nw ns[b].wk from rfl,ZhX hN (ht.wk _ (yM ha)) (ht.wk _ (yM hb)),Zaa,Zud ha hb];unfold cmp;by_cases h1:ns[a].wk<ns[b].wk
 ·rw [aD h1,aE (by simp),aE (by simp)];have e1 : ¬ ns[b].wk<ns[a].wk:=by omega
  have e2:ns[a].wk≠ns[b].wk:=by omega
  simp [e1,e2]
 rw [aE h1];by_cases h2:ns[b].wk<ns[a].wk
 ·rw [aD h2,aD (by simp)];simp [h2]
 rw [aE h2,aE (by simp),aD (by simp)];have e2:ns[a].wk=ns[b].wk:=by omega
 simp [h2,e2]
theorem ZkW (hN:10≤N) (p:Zae) (room:Int) {ns:List Nd} (lp:List Int) {a:Nat} (ha:a<ns.length):Zch N (tOf p room ns lp) (a:Int) (-1)=some true:=by
 unfold Zch ZcJ;rw [show (tOf p room ns lp).store=aOf p room ns from rfl,ZrC,Zaa];rw [aE (by simp;omega),ZrC,Zaa,aD (by simp),Zaa];simp;omega
section
variable {st:LL} {ia it im:Nat} {p:Zae} {room:Int} {ns:List Nd} {lp:List Int} {S:List Int} {O:List Bool}
def allR (ns:List Nd) (S:List Int) (k:Nat):Bool:=(ZeE ns k).all fun x=>S.getD x 0==1
def vlZ (ns:List Nd) (S:List Int) (O:List Bool) (k:Nat):Bool:=allR ns S k && !flZ ns S O k
theorem ZoR (M:ZiK st ia it im p room ns lp S O) : ∀(k n:Nat),k<ns.length→k+2≤n→loopN (Zbo.p1 N im (gst st im it ns S O)) n (k:Int)=some (allR ns S k):=by
 intro k
 induction k using uE with
 | ind k ih=>
  intro n hk hn;obtain ⟨n,rfl⟩ : ∃m,n=m+1:=⟨n-1,by omega⟩
  have T:=M.gst.T;show Zbo.p1 N im (gst st im it ns S O) (loopN (Zbo.p1 N im (gst st im it ns S O)) n) (k:Int)=_;generalize hc:loopN (Zbo.p1 N im (gst st im it ns S O)) n=c;unfold Zbo.p1;rw [aD (by simp<;>omega),M.gm,Zam,ZeO,Zaf (by omega),Zaf (by simp<;>omega),zG,ZgV hk,Zam,ZcW,show (stZ ns S O k).verdict=S.getD k 0 from rfl];rw [Zaa,T.t,Zam];unfold Zgo;rw [ZcX,Zaa,T.a,Zam,ZbP,show (Zav.mk (aOf p room ns) (Zei lp))=tOf p room ns lp from rfl,Zlx p room lp hk,Zaa];dsimp only;rw [show (ns[k].en).Ahead=ns[k].ah from rfl];unfold allR;by_cases h:S.getD k 0=1
  ·have h':(S.getD k 0==1)=true:=by rw [h];rfl
   rw [aE (by rw [h];decide)];rcases Zeh M.T.tr hk with ⟨_,a,e,_⟩ | ⟨q,hq,a,e,hq',_⟩
   ·obtain ⟨n,rfl⟩ : ∃m,n=m+1:=⟨n-1,by omega⟩
    rw [a,e,←hc];show Zbo.p1 N im (gst st im it ns S O) _ (-1)=_;unfold Zbo.p1;rw [aE (by simp)];simp only [yR,sX,h',Bool.and_true]
   rw [a,←hc,ih q hq n hq' (by omega),e];unfold allR;simp only [List.all_append,yR,sX,h',Bool.and_true]
  rw [aD (by simpa using h)];have hm:=ZnO M.T.tr hk;symm;rw [Option.some.injEq,List.all_eq_false];exact ⟨k,hm,by simpa using h⟩
theorem Zkc (hN:600≤N) (M:ZiK st ia it im p room ns lp S O) (k:Int):Zbo N (some im) k st=some (atZ ns (vlZ ns S O) k,gst st im it ns S O):=by
 unfold Zbo;rw [ZqN hN M,Zaa];dsimp only;cases h:inB ns k
 ·rw [aD (by rfl)];unfold atZ;rw [h];rfl
 obtain ⟨j,rfl,hj⟩:=Zmg h;rw [aE (by simp),Zkd hN M.gst,Zaa,Zhp];dsimp only;have sm:=M.small;have e1:atZ ns (flZ ns S O) (j:Int)=flZ ns S O j:=by unfold atZ;rw [h];simp
 have e2:atZ ns (vlZ ns S O) (j:Int)=vlZ ns S O j:=by unfold atZ;rw [h];simp
 rw [e1,e2];unfold vlZ;cases hf:flZ ns S O j
 ·rw [aE (by simp),Zaa,ZoR M j N hj (by omega),Zaa];simp
 rw [aD rfl];simp
def Zis (ns:List Nd) (f:Nat→Bool):Nat→Nat→Nat→Nat
 | 0,_,out=>out
 | m+1,j,out=>Zis ns f m (j+1) (if f j&&hvZ ns j out then j else out)
def ZgY (ns:List Nd) (f:Nat→Bool):Nat:=Zis ns f ns.length 0 0
theorem ZiQ {ns:List Nd} (h:0<ns.length) (f:Nat→Bool):ZgY ns f=Zis ns f (ns.length-1) 1 0:=by
 unfold ZgY;obtain ⟨m,hm⟩ : ∃m,ns.length=m+1:=⟨ns.length-1,by omega⟩
 rw [hm];show Zis ns f m 1 (if f 0&&hvZ ns 0 0 then 0 else 0)=_;rw [show (if f 0&&hvZ ns 0 0 then 0 else 0)=0 by split<;>rfl];rfl
theorem Zjl (hN:600≤N) (M:ZiK st ia it im p room ns lp S O) (h0:0<ns.length) (hf:vlZ ns S O 0=true):ZcQ N (some im) st=some ((ZgY ns (vlZ ns S O):Int),gst st im it ns S O):=by
 unfold ZcQ Zah;rw [ZqN hN M,Zaa];dsimp only;have i0:inB ns 0=true:=inB_true.2 ⟨by omega,by omega⟩;have sm:=M.small;have T:=M.gst.T;rw [i0,aE (by simp),Zaa,M.gm,Zam,ZeO]
 suffices h:loopN (Zah.p1 N im (some im) (rowM (Zfc ns S O))) N (-1,0,gst st im it ns S O)=some ((ZgY ns (vlZ ns S O):Int),gst st im it ns S O) by rw [h,Zaa]
 refine ZbZ (fun m (s:Int×Int×LL)=>∃j:Nat,j+m=ns.length∧((j=0∧s=(-1,0,gst st im it ns S O))∨(1≤j∧∃out:Nat,out<ns.length∧s=((out:Int),(j:Int),gst st im it ns S O)∧Zis ns (vlZ ns S O) m j out=ZgY ns (vlZ ns S O)))) ?_ N ns.length _ ⟨0,by omega,.inl ⟨rfl,rfl⟩⟩ (by omega);rintro G m _ ⟨j,hjm,hs⟩ hG;unfold Zah.p1 Zah.p2;rcases hs with ⟨rfl,rfl⟩ | ⟨hj1,out,ho,rfl,hp⟩
 ·dsimp only;have e2:atZ ns (vlZ ns S O) 0=true:=by unfold atZ;rw [i0];exact hf
  rw [ZhS,Zgr,aD (by simp<;>omega),Zkc hN M.gst,Zaa,Zhp];dsimp only;rw [e2,aD rfl,M.gm,Zam,ZeO,Zaa,T.t,Zam];unfold Zgo;rw [ZcX,Zaa,T.a,Zam,ZbP,show (Zav.mk (aOf p room ns) (Zei lp))=tOf p room ns lp from rfl,show (0:Int)=((0:Nat):Int) from rfl,ZkW (by omega) p room lp h0,Zaa,aD rfl];exact hG (m-1) _ (by omega) ⟨1,by omega,.inr ⟨by omega,0,h0,rfl,by rw [ZiQ h0,show m-1=ns.length-1 by omega]⟩⟩
 dsimp only;rw [ZhS,Zgr];by_cases hlt:j<ns.length
 ·have ij:inB ns (j:Int)=true:=inB_true.2 ⟨by omega,by omega⟩;have e2:atZ ns (vlZ ns S O) (j:Int)=vlZ ns S O j:=by unfold atZ;rw [ij];simp
  have w1:w64 ((j:Int)+1)=((j+1:Nat):Int):=by rw [ZaL (by omega) (by omega)];rfl
  obtain ⟨m,rfl⟩ : ∃x,m=x+1:=⟨m-1,by omega⟩
  have hp':Zis ns (vlZ ns S O) m (j+1) (if vlZ ns S O j&&hvZ ns j out then j else out)=ZgY ns (vlZ ns S O):=hp;rw [aD (by simp<;>omega),Zkc hN M.gst,Zaa,Zhp];dsimp only;rw [e2,w1];cases hv:vlZ ns S O j
  ·rw [aE (by simp)];rw [hv,tV,aE (by simp)] at hp';exact hG m _ (by omega) ⟨j+1,by omega,.inr ⟨by omega,out,ho,rfl,hp'⟩⟩
  rw [aD rfl,M.gm,Zam,ZeO,Zaa,T.t,Zam];unfold Zgo;rw [ZcX,Zaa,T.a,Zam,ZbP,show (Zav.mk (aOf p room ns) (Zei lp))=tOf p room ns lp from rfl,ZnE (by omega) p room lp T.tr hlt ho,Zaa];rw [hv,xF] at hp';cases hh:hvZ ns j out
  ·rw [aE (by simp)];rw [hh,aE (by simp)] at hp';exact hG m _ (by omega) ⟨j+1,by omega,.inr ⟨by omega,out,ho,rfl,hp'⟩⟩
  rw [aD rfl];rw [hh,aD rfl] at hp';exact hG m _ (by omega) ⟨j+1,by omega,.inr ⟨by omega,j,hlt,rfl,hp'⟩⟩
 rw [aE (by simp<;>omega)];have:m=0:=by omega
 subst this;rw [←hp];rfl
def ldZ (ns:List Nd) (S:List Int) (O:List Bool) (k:Nat):Bool:=!flZ ns S O k
theorem ZrX (hN:600≤N) (M:ZiK st ia it im p room ns lp S O) {j:Nat} (hj:j<ns.length):Zdl N (j:Int) (some im) st=some (ldZ ns S O j,gst st im it ns S O):=by
 unfold Zdl;have ij:inB ns (j:Int)=true:=inB_true.2 ⟨by omega,by omega⟩;rw [Zkd hN M,Zaa];unfold atZ ldZ;rw [ij];simp
theorem ZqC (hN:600≤N) (M:ZiK st ia it im p room ns lp S O) (h0:0<ns.length) (hf:ldZ ns S O 0=true):Zdx N (some im) st=some ((ZgY ns (ldZ ns S O):Int),gst st im it ns S O):=by
 unfold Zdx Zag;rw [ZqN hN M,Zaa];dsimp only;have i0:inB ns 0=true:=inB_true.2 ⟨by omega,by omega⟩;have sm:=M.small;have T:=M.gst.T;rw [i0,aE (by simp),Zaa,M.gm,Zam,ZeO]
 suffices h:loopN (Zag.p1 N im (some im) (rowM (Zfc ns S O))) N (-1,0,gst st im it ns S O)=some ((ZgY ns (ldZ ns S O):Int),gst st im it ns S O) by rw [h,Zaa]
 refine ZbZ (fun m (s:Int×Int×LL)=>∃j:Nat,j+m=ns.length∧((j=0∧s=(-1,0,gst st im it ns S O))∨(1≤j∧∃out:Nat,out<ns.length∧s=((out:Int),(j:Int),gst st im it ns S O)∧Zis ns (ldZ ns S O) m j out=ZgY ns (ldZ ns S O)))) ?_ N ns.length _ ⟨0,by omega,.inl ⟨rfl,rfl⟩⟩ (by omega);rintro G m _ ⟨j,hjm,hs⟩ hG;unfold Zag.p1 Zag.p2;rcases hs with ⟨rfl,rfl⟩ | ⟨hj1,out,ho,rfl,hp⟩
 ·dsimp only;rw [ZhS,Zgr,aD (by simp<;>omega),show (0:Int)=((0:Nat):Int) from rfl,ZrX hN M.gst h0,Zaa,Zhp];dsimp only;rw [hf,aD rfl,M.gm,Zam,ZeO,Zaa,T.t,Zam];unfold Zgo;rw [ZcX,Zaa,T.a,Zam,ZbP,show (Zav.mk (aOf p room ns) (Zei lp))=tOf p room ns lp from rfl,ZkW (by omega) p room lp h0,Zaa,aD rfl];exact hG (m-1) _ (by omega) ⟨1,by omega,.inr ⟨by omega,0,h0,rfl,by rw [ZiQ h0,show m-1=ns.length-1 by omega]⟩⟩
 dsimp only;rw [ZhS,Zgr];by_cases hlt:j<ns.length
 ·have w1:w64 ((j:Int)+1)=((j+1:Nat):Int):=by rw [ZaL (by omega) (by omega)];rfl
  obtain ⟨m,rfl⟩ : ∃x,m=x+1:=⟨m-1,by omega⟩
  have hp':Zis ns (ldZ ns S O) m (j+1) (if ldZ ns S O j&&hvZ ns j out then j else out)=ZgY ns (ldZ ns S O):=hp;rw [aD (by simp<;>omega),ZrX hN M.gst hlt,Zaa,Zhp];dsimp only;rw [w1];cases hv:ldZ ns S O j
  ·rw [aE (by simp)];rw [hv,tV,aE (by simp)] at hp';exact hG m _ (by omega) ⟨j+1,by omega,.inr ⟨by omega,out,ho,rfl,hp'⟩⟩
  rw [aD rfl,M.gm,Zam,ZeO,Zaa,T.t,Zam];unfold Zgo;rw [ZcX,Zaa,T.a,Zam,ZbP,show (Zav.mk (aOf p room ns) (Zei lp))=tOf p room ns lp from rfl,ZnE (by omega) p room lp T.tr hlt ho,Zaa];rw [hv,xF] at hp';cases hh:hvZ ns j out
  ·rw [aE (by simp)];rw [hh,aE (by simp)] at hp';exact hG m _ (by omega) ⟨j+1,by omega,.inr ⟨by omega,out,ho,rfl,hp'⟩⟩
  rw [aD rfl];rw [hh,aD rfl] at hp';exact hG m _ (by omega) ⟨j+1,by omega,.inr ⟨by omega,j,hlt,rfl,hp'⟩⟩
 rw [aE (by simp<;>omega)];have:m=0:=by omega
 subst this;rw [←hp];rfl
end
end Go.Dn.F
namespace Go.Dn.F
open Go.Dn Go.Proofs
variable {N:Nat}
noncomputable def rm2 (S:List Int) (O:List Bool):List L:=[zI .i64 600 S,L.brr 600 O]
theorem Zky {α:Type} (S:List Int) (O:List Bool) (k:ZaG→Option α):Zcp (rm2 S O) k=k ⟨S,O⟩:=rfl
noncomputable def rst (st:LL) (ir:Nat) (S:List Int) (O:List Bool):LL:=st.set ir (rm2 S O)
structure ZmQ (st:LL) (ib ir:Nat) (p:Zae) (room:Int) (ns:List Nd) (S:List Int) (O:List Bool):Prop where
 b:st[ib]? = some (rOf p room ns).lo
 r:st[ir]? = some (rm2 S O)
 ne:ir≠ib
 tr:Zhq ns
 small:ns.length≤500
 S6:S.length=600
 O6:O.length=600
 pos : ∀i,0≤S.getD i 0
theorem ZlW {l:List Nat} {i:Nat} (h:i<l.length):(Zei (ZuU l))[0+i]? = some [L.int .i64 ((l[i]:Nat):Int)]:=by simp [Zei,ZuU,h]
theorem Zon (l:List Nat):len (Zei (ZuU l))=(l.length:Int):=by simp [len,Zei,ZuU]
theorem Zks (l:List Int):ZeD (Zei l)=true:=by
 unfold ZeD Zei;simp [L.plain]
theorem Zjq {α:Type} (x:Int) (k:Int→Option α):ZdX [L.int .i64 x] k=k x:=rfl
section
variable {st:LL} {ib ir:Nat} {p:Zae} {room:Int} {ns:List Nd} {S:List Int} {O:List Bool}
theorem ZmQ.same (R:ZmQ st ib ir p room ns S O):rst st ir S O=st:=ZiO R.r
theorem ZmQ.put (R:ZmQ st ib ir p room ns S O) {S':List Int} {O':List Bool} (h1:S'.length=600) (h2:O'.length=600) (h3 : ∀i,0≤S'.getD i 0):ZmQ (rst st ir S' O') ib ir p room ns S' O':=
 ⟨by unfold rst;rw [zP R.ne];exact R.b,zO (yE.1 R.r).1,R.ne,R.tr,R.small,h1,h2,h3⟩
theorem Zkq (p:Zae) (room:Int) (ns:List Nd):len (rOf p room ns).List_=(ns.length:Int):=by
 rw [show (rOf p room ns).List_=Zkm (ns.map Nd.hd) from rfl];simp
theorem Zkp (R:ZmQ st ib ir p room ns S O) (k:Int):Zdh N (some ib) k st=some (Zig ns k,st):=by
 unfold Zdh Zig;by_cases h1:k<0
 ·rw [aD (by simpa using h1),aE (by rw [inB_true];omega)]
 rw [aE (by simpa using h1),Zaa,R.b,Zam,Zbd,Zkq];by_cases h2:k≥(ns.length:Int)
 ·rw [aD (by simpa using h2),aE (by rw [inB_true];omega)]
 rw [aE (by simpa using h2),aD (c:=inB ns k=true) (by rw [inB_true];omega)];by_cases h3:k=0
 ·rw [aD (by simpa using h3),aD h3]
 rw [aE (by simpa using h3),aE h3]
theorem ZmL (R:ZmQ st ib ir p room ns S O) (k:Int):ZaU N (some ir) (some ib) k st=some (Zig ns k,rst st ir S (ZsQ ns O k)):=by
 unfold ZaU ZaU.p1 ZsQ;rw [Zkp R,Zaa];dsimp only;by_cases h:Zig ns k=0
 ·rw [aD (by simpa using h),aD h];obtain ⟨j,rfl,hj,hj1⟩:=Zhm h;have sm:=R.small;rw [Zaa,Zaf (by omega),Zaf (by omega),R.r,Zam,Zky,zG];rfl
 rw [aE (by simpa using h),aE h,R.same]
theorem ZqA (R:ZmQ st ib ir p room ns S O) (k:Int) (right:Bool):Zbe N (some ir) (some ib) k right st=some (vrdE ns S k right,rst st ir (vrdS ns S k right) O):=by
 unfold Zbe;rw [Zkp R,Zaa];dsimp only;unfold vrdS vrdE;by_cases h:Zig ns k=0
 ·rw [aE (by rw [h];simp),aD h];obtain ⟨j,rfl,hj,hj1⟩:=Zhm h;have sm:=R.small;have p1 : ∀w,Zbe.p1 N (some ir) (j:Int) w st=if S.getD j 0≠0∧S.getD j 0≠w then some (1,rst st ir S O) else some (0,rst st ir (S.set j w) O):=by
   intro w;unfold Zbe.p1;rw [Zaa,Zaf (by omega),Zaf (by omega),R.r,Zam,Zky,zG];dsimp only;have pz:=R.pos j;by_cases h1:S.getD j 0=0
   ·rw [aE (by rw [h1];simp),aE (fun e=>e.1 h1)];rfl
   rw [aD (decide_eq_true (by omega))];by_cases h2:S.getD j 0=w
   ·rw [aE (by rw [h2];simp),aE (fun e=>e.2 h2)];rfl
   rw [aD (by rw [bne_iff_ne];exact h2),aD ⟨h1,h2⟩,R.same]
  rw [p1,p1,zG];cases right
  ·rw [aE (by simp),show Zqk false=2 from rfl];by_cases hc:S.getD j 0≠0∧S.getD j 0≠2
   ·rw [aD hc,aD hc,aE (by decide)]
   rw [aE hc,aE hc,aD rfl]
  rw [aD rfl,show Zqk true=1 from rfl];by_cases hc:S.getD j 0≠0∧S.getD j 0≠1
  ·rw [aD hc,aD hc,aE (by decide)]
  rw [aE hc,aE hc,aD rfl]
 have hp:Zig ns k>0:=by
  unfold Zig at h ⊢;split
  ·split
   ·omega
   rename_i h1 h2;rw [aD h1,aE h2] at h;exact absurd rfl h
  omega
 rw [aD (by simpa using hp),aE h,aE h,R.same]
theorem on_eq (ht:Zhq ns) (hN:600≤N) {y:Nat} (hy:y<ns.length) (x:Int):ZcE N (rOf p room ns) x (y:Int)=some ((ZeE ns y).any fun z=>(z:Int)==x):=by
 unfold ZcE;have sm:=ht.small;rw [ZgW ht (by omega) hy,Zaa,Zaf (Zks _)];have hl:(ZeE ns y).length≤ns.length:=by rw [ZhJ ht hy];exact (ht.ch _ (yM hy)).2
 refine ZbZ (fun m (v:Int)=>∃j:Nat,j+m=(ZeE ns y).length∧v=(j:Int)∧(ZeE ns y).any (fun z=>(z:Int)==x)=((ZeE ns y).drop j).any (fun z=>(z:Int)==x)) ?_ N (ZeE ns y).length 0 ⟨0,by omega,rfl,by rw [vJ]⟩ (by omega);rintro G m _ ⟨j,hj,rfl,hp⟩ hG;unfold ZcE.p1;rw [Zon];by_cases hlt:j<(ZeE ns y).length
 ·rw [aD (decide_eq_true (by omega)),Zaf (by omega),zG,ZlW hlt,Zam,Zjq,ZaL (by omega) (by omega)];rw [yQ hlt,vZ] at hp;by_cases he:(((ZeE ns y)[j]:Nat):Int)=x
  ·rw [aD (by simpa using he),hp];simp [he]
  rw [aE (by simpa using he)];refine hG (m-1) _ (by omega) ⟨j+1,by omega,by omega,?_⟩;rw [hp,show ((((ZeE ns y)[j]:Nat):Int)==x)=false by simpa using he,uI]
 rw [aE (by simp<;>omega),hp,wM (by omega)];rfl
theorem Zpy {ns:List Nd} {x y:Nat} (hx:x<ns.length) (hy:y<ns.length):((ZeE ns y).any fun z=>(z:Int)==(x:Int))=ZfO ns (x:Int) (y:Int):=by
 unfold ZfO;rw [Bool.eq_iff_iff,List.any_eq_true,decide_eq_true_eq,zG,zG];constructor
 ·rintro ⟨z,hz,he⟩;have:(z:Int)=(x:Int):=by simpa using he
  have:z=x:=by omega
  subst this;exact ⟨by omega,by omega,by omega,by omega,hz⟩
 rintro ⟨_,_,_,_,hz⟩;exact ⟨x,hz,by simp⟩
theorem Zkr (R:ZmQ st ib ir p room ns S O) {j:Nat} (hj:j<600):Zci N (some ir) (j:Int) st=some (ZiZ S O j,st):=by
 unfold Zci ZiZ;rw [Zaa,Zaf (by omega),Zaf (by omega),R.r,Zam,Zky,zG];dsimp only;cases O.getD j false
 ·rw [aE (by simp),uI]
 rw [aD rfl,rS]
theorem Zps (hN:600≤N) (R:ZmQ st ib ir p room ns S O) (k:Int):Zbn N (some ir) (some ib) k st=some (atZ ns (chZ ns S O) k,st):=by
 unfold Zbn atZ;have ht:=R.tr;by_cases h1:k<0
 ·rw [aD (by simpa using h1),show inB ns k=false by rw [←vF,inB_true];omega];rfl
 rw [aE (by simpa using h1),Zaa,R.b,Zam,Zbd,Zkq];by_cases h2:k≥(ns.length:Int)
 ·rw [aD (by simpa using h2),show inB ns k=false by rw [←vF,inB_true];omega];rfl
 rw [aE (by simpa using h2),show inB ns k=true by rw [inB_true];omega];obtain ⟨k,rfl⟩ : ∃j:Nat,k=(j:Int):=⟨k.toNat,by omega⟩
 have hk:k<ns.length:=by omega
 have sm:=R.small;rw [ZgW ht (by omega) hk,Zaa,Zaf (Zks _),zG,xF];have hl:(ZeE ns k).length≤ns.length:=by rw [ZhJ ht hk];exact (ht.ch _ (yM hk)).2
 have hany:chZ ns S O k=(ZeE ns k).any fun x=>x != k&&ZiZ S O x:=by
  unfold chZ;rcases Zeh ht hk with ⟨_,_,e,_⟩ | ⟨q,hq,_,e,hq',_⟩
  ·rw [e];simp
  rw [e,tB,List.any_append];have : ∀l:List Nat,(∀x∈l,x<k)→l.any (ZiZ S O)=l.any (fun x=>x != k&&ZiZ S O x):=by
   intro l
   induction l with
   | nil=>intro _;rfl
   | cons z l ih=>
    intro hz;have h1:=hz z (by simp);rw [vZ,vZ,ih fun x hx=>hz x (by simp [hx]),show (z != k)=true by rw [bne_iff_ne];omega,xF]
  rw [this _ fun x hx=>by have:=Zkl ht hq' x hx;omega];simp
 rw [hany];refine ZbZ (fun m (s:Int×LL)=>∃j:Nat,j+m=(ZeE ns k).length∧s=((j:Int),st)∧(ZeE ns k).any (fun x=>x != k&&ZiZ S O x)=((ZeE ns k).drop j).any (fun x=>x != k&&ZiZ S O x)) ?_ N (ZeE ns k).length _ ⟨0,by omega,rfl,by rw [vJ]⟩ (by omega);rintro G m _ ⟨j,hj,rfl,hp⟩ hG;unfold Zbn.p1;dsimp only;rw [Zon];by_cases hlt:j<(ZeE ns k).length
 ·rw [aD (decide_eq_true (by omega)),Zaf (by omega),zG,ZlW hlt,Zam,Zjq,ZaL (by omega) (by omega)];have hz:=Zkl ht hk _ (yM hlt);rw [yQ hlt,vZ] at hp;generalize (ZeE ns k)[j]=z at hp hz ⊢;by_cases he:z=k
  ·subst he;rw [aE (by simp)];rw [show (z != z)=false by simp,tV,uI] at hp;exact hG (m-1) _ (by omega) ⟨j+1,by omega,rfl,hp⟩
  rw [aD (by rw [bne_iff_ne];omega),Zkr R (by omega),Zaa];dsimp only;rw [show (z != k)=true by rw [bne_iff_ne];exact he,xF] at hp;cases hb:ZiZ S O z
  ·rw [aE (by simp)];rw [hb,uI] at hp;exact hG (m-1) _ (by omega) ⟨j+1,by omega,rfl,hp⟩
  rw [aD rfl,hp,hb,rS]
 rw [aE (by simp<;>omega),hp,wM (by omega)];rfl
theorem Znn (hN:600≤N) (R:ZmQ st ib ir p room ns S O) (k:Int):ZcF N (some ir) (some ib) k st=some (atZ ns (flZ ns S O) k,st):=by
 unfold ZcF;have sm:=R.small;by_cases h1:0≤k
 ·rw [aD (by simpa using h1),Zaa,R.b,Zam,Zbd,Zkq];by_cases h2:k<(ns.length:Int)
  ·rw [aD (by simpa using h2)];obtain ⟨k,rfl⟩ : ∃j:Nat,k=(j:Int):=⟨k.toNat,by omega⟩
   have hk:k<ns.length:=by omega
   have hi:inB ns (k:Int)=true:=by rw [inB_true];omega
   rw [Zkr R (by omega),Zaa];dsimp only;unfold atZ;rw [hi,xF,zG,ZrH R.tr hk];cases hb:ZiZ S O k
   ·rw [aE (by simp),Zps hN R,Zaa];unfold atZ;rw [hi,xF,zG,Bool.or_false]
   rw [aD rfl,Bool.or_true]
  rw [aE (by simpa using h2)];unfold atZ;rw [show inB ns k=false by rw [←vF,inB_true];omega];rfl
 rw [aE (by simpa using h1)];unfold atZ;rw [show inB ns k=false by rw [←vF,inB_true];omega];rfl
theorem Zql (ns:List Nd) (S:List Int) (O:List Bool) (k:Nat):vlZ ns S O k=(ZeE ns k).all fun x=>S.getD x 0==1 && !O.getD x false:=by
 unfold vlZ allR flZ;generalize ZeE ns k=l
 induction l with
 | nil=>rfl
 | cons z l ih=>
  rw [yR,vZ,yR,←ih];unfold ZiZ;by_cases h:S.getD z 0=1
  ·rw [h];cases O.getD z false<;>simp
  rw [show (S.getD z 0==1)=false by simpa using h];simp
theorem Zpr (hN:600≤N) (R:ZmQ st ib ir p room ns S O) (k:Int):Zbm N (some ir) (some ib) k st=some (atZ ns (vlZ ns S O) k,st):=by
 unfold Zbm atZ;have ht:=R.tr;by_cases h1:k<0
 ·rw [aD (by simpa using h1),show inB ns k=false by rw [←vF,inB_true];omega];rfl
 rw [aE (by simpa using h1),Zaa,R.b,Zam,Zbd,Zkq];by_cases h2:k≥(ns.length:Int)
 ·rw [aD (by simpa using h2),show inB ns k=false by rw [←vF,inB_true];omega];rfl
 rw [aE (by simpa using h2),show inB ns k=true by rw [inB_true];omega];obtain ⟨k,rfl⟩ : ∃j:Nat,k=(j:Int):=⟨k.toNat,by omega⟩
 have hk:k<ns.length:=by omega
 have sm:=R.small;rw [ZgW ht (by omega) hk,Zaa,Zaf (Zks _),zG,xF,Zql];have hl:(ZeE ns k).length≤ns.length:=by rw [ZhJ ht hk];exact (ht.ch _ (yM hk)).2
 refine ZbZ (fun m (s:(Option Nat)×Int)=>∃j:Nat,j+m=(ZeE ns k).length∧s=(some ir,(j:Int))∧(ZeE ns k).all (fun x=>S.getD x 0==1 && !O.getD x false)=((ZeE ns k).drop j).all (fun x=>S.getD x 0==1 && !O.getD x false)) ?_ N (ZeE ns k).length _ ⟨0,by omega,rfl,by rw [vJ]⟩ (by omega);rintro G m _ ⟨j,hj,rfl,hp⟩ hG;unfold Zbm.p1;dsimp only;rw [Zon];by_cases hlt:j<(ZeE ns k).length
 ·have hz:=Zkl ht hk _ (yM hlt);rw [aD (decide_eq_true (by omega)),Zaf (by omega),zG,ZlW hlt,Zam,Zjq,Zaa,Zaf (by omega),Zaf (by omega),R.r,Zam,Zky,zG,ZaL (by omega) (by omega)];rw [yQ hlt,yR] at hp;dsimp only;generalize (ZeE ns k)[j]=z at hp hz ⊢;by_cases he:S.getD z 0=1
  ·rw [aE (by rw [he];decide)];rw [show (S.getD z 0==1)=true by rw [he];rfl,xF] at hp;cases ho:O.getD z false
   ·rw [aE (by simp)];rw [ho,Bool.not_false,xF] at hp;exact hG (m-1) _ (by omega) ⟨j+1,by omega,rfl,hp⟩
   rw [aD rfl,hp,ho];rfl
  rw [aD (by rw [bne_iff_ne];exact he),hp,show (S.getD z 0==1)=false by simpa using he];rfl
 rw [aE (by simp<;>omega),hp,wM (by omega)];rfl
theorem ZlM (hN:600≤N) (ht:Zhq ns) {a b:Nat} (ha:a<ns.length) (hb:b<ns.length):Zde N (rOf p room ns) (a:Int) (b:Int)=some (hvZ ns a b):=by
 unfold Zde ZcM;have wa:=ht.wk _ (yM ha);have wb:=ht.wk _ (yM hb);rw [show (rOf p room ns).Works=Ztq (ns.map Nd.wk) from rfl,Zrx,wC];rw [Zaf (by omega),Zaf (by omega),zG,ZnP (by simpa using ha),Zam,show ∀(x:List Int) (k:List Int→Option (List Int)),Zgt [zI .u64 4 x] k=k x from fun _ _=>rfl,Zaa,
  Zaf (by omega),Zaf (by omega),zG,ZnP (by simpa using hb),Zam,show ∀(x:List Int) (k:List Int→Option (List Int)),Zgt [zI .u64 4 x] k=k x from fun _ _=>rfl,Zaa,vY,vY,ZfP (by omega) wb wa,Zaa,Zud ha hb]
 by_cases h1:ns[b].wk<ns[a].wk
 ·rw [aD (decide_eq_true h1)];simp [h1]
 rw [aE (by simpa using h1)];by_cases h2:ns[a].wk=ns[b].wk
 ·rw [aD (by rw [h2];simp)];simp [h2]
 rw [aE (by intro e;exact h2 (Zrt wa wb (by simpa using e)))];simp [h1,h2]
end
end Go.Dn.F
namespace Go.Dn.F
open Go.Dn Go.Proofs
variable {N:Nat}
def ZgX (ns:List Nd) (a:Int) (S:List Int) (j:Nat):List Int:=(vO S.length).map (rsF ns a S j)
def Zho (ns:List Nd) (a:Int) (O:List Bool) (j:Nat):List Bool:=(vO O.length).map (roF ns a O j)
theorem ZjI? {ns:List Nd} {a:Int} {S:List Int} {j i:Nat} (hi:i<S.length):(ZgX ns a S j)[i]? = some (rsF ns a S j i):=by simp [ZgX,hi]
theorem ZlK? {ns:List Nd} {a:Int} {O:List Bool} {j i:Nat} (hi:i<O.length):(Zho ns a O j)[i]? = some (roF ns a O j i):=by simp [Zho,hi]
@[simp] theorem recSj_len (ns:List Nd) (a:Int) (S:List Int) (j:Nat):(ZgX ns a S j).length=S.length:=by simp [ZgX]
@[simp] theorem recOj_len (ns:List Nd) (a:Int) (O:List Bool) (j:Nat):(Zho ns a O j).length=O.length:=by simp [Zho]
theorem Zsg (ns:List Nd) (a:Int) (S:List Int):ZgX ns a S 0=S:=by
 refine xL fun i=>?_;rcases zV i S.length with h | h
 ·rw [ZjI? h];unfold rsF;rw [yB,zR h];simp
 rw [zM (by simpa using h),zM h]
theorem Zsh (ns:List Nd) (a:Int) (O:List Bool):Zho ns a O 0=O:=by
 refine xL fun i=>?_;rcases zV i O.length with h | h
 ·rw [ZlK? h];unfold roF;rw [yB,zR h];simp
 rw [zM (by simpa using h),zM h]
theorem Znm {ns:List Nd} {a:Int} {S:List Int} {j:Nat} (h:ZjU ns a j=false∨S.getD j 0≠2):ZgX ns a S (j+1)=ZgX ns a S j:=by
 unfold ZgX;refine vR fun i _=>?_;unfold rsF;by_cases e:i=j
 ·subst e;rcases h with h | h
  ·simp [h]
  rw [show (S.getD i 0==2)=false by simpa using h];simp
 rw [show decide (i<j+1)=decide (i<j) from decide_eq_decide.2 (by omega)]
theorem Ztw {ns:List Nd} {a:Int} {S:List Int} {j:Nat} (hj:j<S.length) (h:ZjU ns a j=true) (h2:S.getD j 0=2):ZgX ns a S (j+1)=(ZgX ns a S j).set j 0:=by
 refine xL fun i=>?_;rcases zV i S.length with hi | hi
 ·rw [ZjI? hi];by_cases e:i=j
  ·subst e;rw [zO (by simpa using hj)];unfold rsF;rw [h,h2];simp
  rw [zP (fun h=>e h.symm),ZjI? hi];unfold rsF;rw [show decide (i<j+1)=decide (i<j) from decide_eq_decide.2 (by omega)]
 rw [zM (by simpa using hi),zM (by simpa using hi)]
theorem Zsi {ns:List Nd} {a:Int} {O:List Bool} {j:Nat} (h:ZjU ns a j=false):Zho ns a O (j+1)=Zho ns a O j:=by
 unfold Zho;refine vR fun i _=>?_;unfold roF;by_cases e:i=j
 ·subst e;simp [h]
 rw [show decide (i<j+1)=decide (i<j) from decide_eq_decide.2 (by omega)]
theorem Zpq {ns:List Nd} {a:Int} {O:List Bool} {j:Nat} (hj:j<O.length) (h:ZjU ns a j=true):Zho ns a O (j+1)=(Zho ns a O j).set j false:=by
 refine xL fun i=>?_;rcases zV i O.length with hi | hi
 ·rw [ZlK? hi];by_cases e:i=j
  ·subst e;rw [zO (by simpa using hj)];unfold roF;rw [h];simp
  rw [zP (fun h=>e h.symm),ZlK? hi];unfold roF;rw [show decide (i<j+1)=decide (i<j) from decide_eq_decide.2 (by omega)]
 rw [zM (by simpa using hi),zM (by simpa using hi)]
section
variable {st:LL} {ib ir:Nat} {p:Zae} {room:Int} {ns:List Nd} {S:List Int} {O:List Bool}
theorem ZmK (hN:600≤N) (R:ZmQ st ib ir p room ns S O) (k:Int):Zap N (some ir) (some ib) k st=some (Zig ns k,rst st ir (Zsk ns S k) (Zsl ns O k)):=by
 unfold Zap Zsk Zsl;rw [Zkp R,Zaa];dsimp only;have hb:=R.b;have hne:=R.ne;have hir:ir<st.length:=(yE.1 R.r).1;by_cases h:Zig ns k=0
 ·rw [aE (by rw [h];simp),aD h,aD h,h];obtain ⟨z,rfl,hz0,hz1⟩:=Zhm h;have sm:=R.small;have s6:=R.S6;have o6:=R.O6;rw [Zaa,R.b,Zam,Zbd];have e0:st=rst st ir (ZgX ns (z:Int) S 0) (Zho ns (z:Int) O 0):=by rw [Zsg,Zsh,R.same]
  conv=>lhs;rw [e0]
  refine ZbZ (fun m (s:(Option Nat)×Int×LL)=>∃j:Nat,j+m=ns.length∧s=(some ir,(j:Int),rst st ir (ZgX ns (z:Int) S j) (Zho ns (z:Int) O j))) ?_ N ns.length _ ⟨0,by omega,rfl⟩ (by omega);rintro G m _ ⟨j,hjm,rfl⟩ hG;unfold Zap.p1 Zap.p2;dsimp only;rw [Zkq];by_cases hlt:j<ns.length
  ·have w1:w64 ((j:Int)+1)=((j+1:Nat):Int):=by rw [ZaL (by omega) (by omega)];rfl
   have gb:(rst st ir (ZgX ns (z:Int) S j) (Zho ns (z:Int) O j))[ib]? = some (rOf p room ns).lo:=by unfold rst;rw [zP hne];exact hb
   have gr:(rst st ir (ZgX ns (z:Int) S j) (Zho ns (z:Int) O j))[ir]? = some (rm2 (ZgX ns (z:Int) S j) (Zho ns (z:Int) O j)):=zO hir;have hS:(ZgX ns (z:Int) S j).getD j 0=S.getD j 0:=by
    rw [yB,ZjI? (by omega)];unfold rsF;simp
   have nxt : ∀S' O',S'=ZgX ns (z:Int) S (j+1)→O'=Zho ns (z:Int) O (j+1)→G (some ir,w64 ((j:Int)+1),rst st ir S' O')=some (0,rst st ir (Ztx ns (z:Int) S) (Ztz ns (z:Int) O)):=by
    rintro S' O' rfl rfl;rw [w1];exact hG (m-1) _ (by omega) ⟨j+1,by omega,rfl⟩
   have rr : ∀S1 O1 S2 O2,zN (rst st ir S1 O1) ir (rm2 S2 O2)=rst st ir S2 O2:=fun _ _ _ _=>by unfold rst;rw [yW]
   have body:ZjU ns (z:Int) j=true→(if ((ZgX ns (z:Int) S j).getD j 0==2)=true then
     G (some ir,w64 ((j:Int)+1),zN (zN (rst st ir (ZgX ns (z:Int) S j) (Zho ns (z:Int) O j)) ir (rm2 (ZgX ns (z:Int) S j) ((Zho ns (z:Int) O j).set j false))) ir (rm2 ((ZgX ns (z:Int) S j).set j 0) ((Zho ns (z:Int) O j).set j false)))
     else G (some ir,w64 ((j:Int)+1),zN (rst st ir (ZgX ns (z:Int) S j) (Zho ns (z:Int) O j)) ir (rm2 (ZgX ns (z:Int) S j) ((Zho ns (z:Int) O j).set j false))))=some (0,rst st ir (Ztx ns (z:Int) S) (Ztz ns (z:Int) O)):=by
    intro hc;rw [rr,rr,hS];by_cases h2:S.getD j 0=2
    ·rw [aD (by rw [h2];rfl)];exact nxt _ _ (Ztw (by omega) hc h2).symm (Zpq (by omega) hc).symm
    rw [aE (by simpa using h2)];exact nxt _ _ (Znm (.inr h2)).symm (Zpq (by omega) hc).symm
   rw [aD (decide_eq_true (by omega)),gb,Zam,Zbd,on_eq R.tr hN hz0,Zpy hlt hz0,Zaa,on_eq R.tr hN hlt,Zpy hz0 hlt,Zaa,Zaa,Zaf (by omega),Zaf (by omega),gr,Zam,Zky,zG];dsimp only;cases hw:ZfO ns (j:Int) (z:Int)
   ·rw [aE (by simp)];cases hw2:ZfO ns (z:Int) (j:Int)
    ·rw [aE (by simp)];have hc:ZjU ns (z:Int) j=false:=by unfold ZjU;rw [hw,hw2];rfl
     exact nxt _ _ (Znm (.inl hc)).symm (Zsi hc).symm
    rw [aD rfl];exact body (by unfold ZjU;rw [hw,hw2];rfl)
   rw [aD rfl];exact body (by unfold ZjU;rw [hw];rfl)
  have hj:j=ns.length:=by omega
  subst hj;rw [aE (by simp<;>omega)];rfl
 have hp:Zig ns k>0:=by
  unfold Zig at h ⊢;split
  ·split
   ·omega
   rename_i h1 h2;rw [aD h1,aE h2] at h;exact absurd rfl h
  omega
 rw [aD (by simpa using hp),aE h,aE h,R.same]
theorem rBest_eq (hN:600≤N) (R:ZmQ st ib ir p room ns S O) (h0:0<ns.length):ZaJ N (some ir) (some ib) st=some ((ZgY ns (vlZ ns S O):Int),st):=by
 unfold ZaJ;have sm:=R.small;rw [Zaa,R.b,Zam,Zbd];refine ZbZ (fun m (s:Int×Int×LL)=>∃j:Nat,j+m=ns.length∧∃out:Nat,out<ns.length∧s=((out:Int),(j:Int),st)∧Zis ns (vlZ ns S O) m j out=ZgY ns (vlZ ns S O)) ?_ N ns.length _ ⟨0,by omega,0,h0,rfl,rfl⟩ (by omega);rintro G m _ ⟨j,hjm,out,ho,rfl,hp⟩ hG;unfold ZaJ.p1 ZaJ.p2;dsimp only;rw [Zkq];by_cases hlt:j<ns.length
 ·have ij:inB ns (j:Int)=true:=inB_true.2 ⟨by omega,by omega⟩;have e2:atZ ns (vlZ ns S O) (j:Int)=vlZ ns S O j:=by unfold atZ;rw [ij];simp
  have w1:w64 ((j:Int)+1)=((j+1:Nat):Int):=by rw [ZaL (by omega) (by omega)];rfl
  obtain ⟨m,rfl⟩ : ∃x,m=x+1:=⟨m-1,by omega⟩
  have hp':Zis ns (vlZ ns S O) m (j+1) (if vlZ ns S O j&&hvZ ns j out then j else out)=ZgY ns (vlZ ns S O):=hp;rw [aD (decide_eq_true (by omega)),Zpr hN R,Zaa];dsimp only;rw [e2,w1];cases hv:vlZ ns S O j
  ·rw [aE (by simp)];rw [hv,tV,aE (by simp)] at hp';exact hG m _ (by omega) ⟨j+1,by omega,out,ho,rfl,hp'⟩
  rw [aD rfl,R.b,Zam,Zbd,ZlM hN R.tr hlt ho,Zaa];rw [hv,xF] at hp';cases hh:hvZ ns j out
  ·rw [aE (by simp)];rw [hh,aE (by simp)] at hp';exact hG m _ (by omega) ⟨j+1,by omega,out,ho,rfl,hp'⟩
  rw [aD rfl];rw [hh,aD rfl] at hp';exact hG m _ (by omega) ⟨j+1,by omega,j,hlt,rfl,hp'⟩
 rw [aE (by simp<;>omega)];have:m=0:=by omega
 subst this;rw [←hp];rfl
theorem rLead_eq (hN:600≤N) (R:ZmQ st ib ir p room ns S O) (h0:0<ns.length):ZaI N (some ir) (some ib) st=some ((ZgY ns (ldZ ns S O):Int),st):=by
 unfold ZaI;have sm:=R.small;rw [Zaa,R.b,Zam,Zbd];refine ZbZ (fun m (s:Int×Int×LL)=>∃j:Nat,j+m=ns.length∧∃out:Nat,out<ns.length∧s=((out:Int),(j:Int),st)∧Zis ns (ldZ ns S O) m j out=ZgY ns (ldZ ns S O)) ?_ N ns.length _ ⟨0,by omega,0,h0,rfl,rfl⟩ (by omega);rintro G m _ ⟨j,hjm,out,ho,rfl,hp⟩ hG;unfold ZaI.p1 ZaI.p2;dsimp only;rw [Zkq];by_cases hlt:j<ns.length
 ·have ij:inB ns (j:Int)=true:=inB_true.2 ⟨by omega,by omega⟩;have e2:(!atZ ns (flZ ns S O) (j:Int))=ldZ ns S O j:=by unfold atZ ldZ;rw [ij];simp
  have w1:w64 ((j:Int)+1)=((j+1:Nat):Int):=by rw [ZaL (by omega) (by omega)];rfl
  obtain ⟨m,rfl⟩ : ∃x,m=x+1:=⟨m-1,by omega⟩
  have hp':Zis ns (ldZ ns S O) m (j+1) (if ldZ ns S O j&&hvZ ns j out then j else out)=ZgY ns (ldZ ns S O):=hp;rw [aD (decide_eq_true (by omega)),Znn hN R,Zaa];dsimp only;rw [e2,w1];cases hv:ldZ ns S O j
  ·rw [aE (by simp)];rw [hv,tV,aE (by simp)] at hp';exact hG m _ (by omega) ⟨j+1,by omega,out,ho,rfl,hp'⟩
  rw [aD rfl,R.b,Zam,Zbd,ZlM hN R.tr hlt ho,Zaa];rw [hv,xF] at hp';cases hh:hvZ ns j out
  ·rw [aE (by simp)];rw [hh,aE (by simp)] at hp';exact hG m _ (by omega) ⟨j+1,by omega,out,ho,rfl,hp'⟩
  rw [aD rfl];rw [hh,aD rfl] at hp';exact hG m _ (by omega) ⟨j+1,by omega,j,hlt,rfl,hp'⟩
 rw [aE (by simp<;>omega)];have:m=0:=by omega
 subst this;rw [←hp];rfl
end
end Go.Dn.F
namespace Go.Dn.F
open Go.Dn Go.Proofs
variable {N:Nat}
def ZsK (it im ib ir:Nat):List L:=[zQ (some it),zQ (some im),zQ (some ib),zQ (some ir)]
structure Zeo (st:LL) (ia it im ib ir ih:Nat) (p:Zae) (ns:List Nd) (lp:List Int) (S:List Int) (O:List Bool):Prop where
 M:ZiK st ia it im p 100 ns lp S O
 R:ZmQ st ib ir p 100 ns S O
 h:st[ih]? = some (ZsK it im ib ir)
 nd : [ia,it,im,ib,ir,ih].Nodup
 gen:S.getD 0 0=1∧O.getD 0 false=false
 len1:1≤ns.length
theorem ZsD {ns:List Nd} (ht:Zhq ns) (x:Nd) (S:List Int) (O:List Bool) {k:Nat} (hk:k≤ns.length):(Zfc (ns ++ [x]) S O).take k=(Zfc ns S O).take k:=by
 refine xL fun i=>?_;rcases zV i k with h | h
 ·rw [tI h,tI h,Zgs (by simp;omega),Zgs (by omega)];unfold stZ chZ;rw [Zip x ht (by omega)]
 rw [rD h,rD h]
section
variable {st:LL} {ia it im ib ir ih:Nat} {p:Zae} {ns:List Nd} {lp:List Int} {S:List Int} {O:List Bool}
theorem Zeo.ne (B:Zeo st ia it im ib ir ih p ns lp S O):(im≠ib∧im≠ir∧im≠ih)∧(ir≠ia∧ir≠it∧ir≠im∧ir≠ih)∧(ib≠ia∧ib≠it∧ib≠im∧ib≠ir∧ib≠ih)∧(ih≠ia∧ih≠it):=by
 have:=B.nd;simp at this;omega
theorem ZiK.turned (M:ZiK st ia it im p 100 ns lp S O) {S':List Int} {O':List Bool} (h : ∀i,ns.length≤i→S'.getD i 0=S.getD i 0∧O'.getD i false=O.getD i false):ZiK (F.gst st im it ns S' O') ia it im p 100 ns lp S' O':=
 ⟨M.T.setIm M.na M.nt,M.na,M.nt,⟨ns.length,Nat.le_refl _,by rw [zY (by simp)];exact zO M.im_lt,fun i hi=>by rw [(h i hi).1,(h i hi).2];exact M.gst_len i hi⟩,M.small⟩
theorem ZiK.other (M:ZiK st ia it im p 100 ns lp S O) {j:Nat} {x:List L} (h1:j≠ia) (h2:j≠it) (h3:j≠im):ZiK (st.set j x) ia it im p 100 ns lp S O:=by
 obtain ⟨k,hk,hm,hn⟩:=M.k;exact ⟨M.T.setIm h1 h2,M.na,M.nt,⟨k,hk,by rw [zP h3];exact hm,hn⟩,M.small⟩
theorem ZmQ.other (R:ZmQ st ib ir p 100 ns S O) {j:Nat} {x:List L} (h1:j≠ib) (h2:j≠ir):ZmQ (st.set j x) ib ir p 100 ns S O:=
 ⟨by rw [zP h1];exact R.b,by rw [zP h2];exact R.r,R.ne,R.tr,R.small,R.S6,R.O6,R.pos⟩
theorem Zeo.turn (B:Zeo st ia it im ib ir ih p ns lp S O) {S':List Int} {O':List Bool} (h : ∀i,ns.length≤i→S'.getD i 0=S.getD i 0∧O'.getD i false=O.getD i false) (h1:S'.length=600) (h2:O'.length=600) (h3 : ∀i,0≤S'.getD i 0) (h4:S'.getD 0 0=1∧O'.getD 0 false=false) :
  Zeo (rst (F.gst st im it ns S' O') ir S' O') ia it im ib ir ih p ns lp S' O':=by
 obtain ⟨⟨n1,n2,n3⟩,⟨n4,n5,n6,n7⟩,⟨n8,n9,n10,n11,n12⟩,n13,n14⟩:=B.ne;have R1:ZmQ (F.gst st im it ns S' O') ib ir p 100 ns S O:=B.R.other n1 n2;exact ⟨(B.M.turned h).other n4 n5 n6,R1.put h1 h2 h3,by unfold rst gst;rw [zP n7,zP n3];exact B.h,B.nd,h4,B.len1⟩
theorem Zeo.gst (B:Zeo st ia it im ib ir ih p ns lp S O):Zeo (F.gst st im it ns S O) ia it im ib ir ih p ns lp S O:=by
 obtain ⟨⟨n1,n2,n3⟩,_⟩:=B.ne;exact ⟨B.M.gst,B.R.other n1 n2,by unfold F.gst;rw [zP n3];exact B.h,B.nd,B.gen,B.len1⟩
theorem Zeo.ih_gst (B:Zeo st ia it im ib ir ih p ns lp S O) (S':List Int) (O':List Bool):(F.gst st im it ns S' O')[ih]? = some (ZsK it im ib ir):=by
 obtain ⟨⟨n1,n2,n3⟩,_⟩:=B.ne;unfold F.gst;rw [zP n3];exact B.h
theorem Zeo.R_gst (B:Zeo st ia it im ib ir ih p ns lp S O) (S':List Int) (O':List Bool):ZmQ (F.gst st im it ns S' O') ib ir p 100 ns S O:=by
 obtain ⟨⟨n1,n2,n3⟩,_⟩:=B.ne;exact B.R.other n1 n2
theorem Zeo.fl0 (B:Zeo st ia it im ib ir ih p ns lp S O):ZeE ns 0 = [0]:=by
 rcases Zeh B.M.T.tr B.len1 with ⟨_,_,e,_⟩ | ⟨q,hq,_⟩
 ·exact e
 omega
theorem Zeo.ld0 (B:Zeo st ia it im ib ir ih p ns lp S O):ldZ ns S O 0=true:=by
 unfold ldZ flZ;rw [B.fl0];unfold ZiZ;simp only [vZ,List.any_nil];rw [B.gen.1,B.gen.2];rfl
theorem Zeo.vl0 (B:Zeo st ia it im ib ir ih p ns lp S O):vlZ ns S O 0=true:=by
 rw [Zql,B.fl0];simp only [yR,sX];rw [B.gen.1,B.gen.2];rfl
theorem ZdZ {α:Type} {it im ib ir:Nat} (k:Option Nat→Option Nat→Option Nat→Option Nat→Option α):ZaM (ZsK it im ib ir) k=k (some it) (some im) (some ib) (some ir):=rfl
theorem Zeo.ck {α:Type} (B:Zeo st ia it im ib ir ih p ns lp S O) (S':List Int) (O':List Bool) (A:Option α):chk (eqO ((F.gst st im it ns S' O')[ih]?) (some [zQ (some it),zQ (some im),zQ (some ib),zQ (some ir)])=true) A=A:=Zaf (Zum (B.ih_gst S' O'))
theorem does_eq (hN:1000≤N) (hp:WfP p) {gs:List ZcY} {cs:List Zcw} (hg:p.Gates=ZmG gs) (hc:p.Checks=Zke cs) (lg:gs.length≤400) (lc:cs.length≤400) (B:Zeo st ia it im ib ir ih p ns lp S O) (hsm:ns.length≤150) (x:ZbI) (wx:WfH x.Header) (nx:0≤x.Now∧x.Now≤9223372036854775807) :
  ∃st' ns' lp' S' O',ZbE N (some ih) x st=some (true,st')∧Zeo st' ia it im ib ir ih p ns' lp' S' O'∧ns'.length≤ns.length+1:=by
 obtain ⟨⟨n1,n2,n3⟩,⟨n4,n5,n6,n7⟩,⟨n8,n9,n10,n11,n12⟩,n13,n14⟩:=B.ne;have sm:=B.R.small;have gl:=B.M.gst_len;unfold ZbE ZbE.p1;by_cases k0:x.Kind=0
 ·rw [aD (by simpa using k0),Zaa,B.h,Zam,ZdZ];obtain ⟨lp',st',ea,T',keep⟩:=skAdd_eq (N:=N) (by omega) hg hc lg lc (by omega) B.M.T wx x.Now (by omega);have hib:st'[ib]? = some (rOf p 100 ns).lo:=by rw [keep _ n8 n9];exact B.R.b
  have l1:=addT_len p gs cs 100 ns x.Header x.Now;rw [ea,Zaa];dsimp only;rw [keep _ n13 n14,B.h,Zam,ZdZ,Zpo (by omega) hg hc lg lc (by omega) B.M.T.tr (by omega) hib wx _ nx,Zaa];dsimp only;refine ⟨_,(Zju p gs cs 100 ns x.Header x.Now).2.2.2,lp',S,O,rfl,?_,?_⟩
  ·obtain ⟨k,hk,hm,hn⟩:=B.M.k;have hrow:(Zfc (Zju p gs cs 100 ns x.Header x.Now).2.2.2 S O).take k=(Zfc ns S O).take k:=by
    rcases ZkD p gs cs 100 ns x.Header x.Now with e | ⟨q,_,_,_,_,_,e⟩
    ·rw [e]
    rw [e];exact ZsD B.M.T.tr _ S O hk
   have him:st'[im]? = some (mk2 it ((Zfc (Zju p gs cs 100 ns x.Header x.Now).2.2.2 S O).take k)):=by rw [keep _ B.M.na B.M.nt,hrow];exact hm
   have M':ZiK st' ia it im p 100 (Zju p gs cs 100 ns x.Header x.Now).2.2.2 lp' S O:=⟨T',B.M.na,B.M.nt,⟨k,by omega,him,hn⟩,by omega⟩
   refine ⟨M'.other n8 n9 n10,⟨zO (yE.1 hib).1,by rw [zP n11,keep _ n4 n5];exact B.R.r,B.R.ne,T'.tr,by omega,B.R.S6,B.R.O6,B.R.pos⟩,by rw [zP n12,keep _ n13 n14];exact B.h,B.nd,B.gen,by have:=B.len1;omega⟩
  omega
 rw [aE (by simpa using k0)];have fin : ∀(S':List Int) (O':List Bool),(∀i,ns.length≤i→S'.getD i 0=S.getD i 0∧O'.getD i false=O.getD i false)→S'.length=600→O'.length=600→(∀i,0≤S'.getD i 0)→(S'.getD 0 0=1∧O'.getD 0 false=false)→∀o:Option (Bool×LL),o=some (true,rst (F.gst st im it ns S' O') ir S' O') →
   ∃st' ns' lp' S' O',o=some (true,st')∧Zeo st' ia it im ib ir ih p ns' lp' S' O'∧ns'.length≤ns.length+1:=
  fun S' O' h h1 h2 h3 h4 o ho=>⟨_,ns,lp,S',O',ho,B.turn h h1 h2 h3 h4,by omega⟩
 have s6:=B.R.S6;have o6:=B.R.O6;by_cases k1:x.Kind=1
 ·rw [aD (by simpa using k1),Zaa,B.h,Zam,ZdZ,ZsN (by omega) B.M s6,Zaa];dsimp only;have hP : ∀i,(vrdS ns S x.N x.Right).getD i 0=S.getD i 0∨(1≤i∧i<ns.length∧0≤(vrdS ns S x.N x.Right).getD i 0):=by
   intro i;unfold vrdS;by_cases hv:vrdE ns S x.N x.Right=0
   ·rw [aD hv];have hz:Zig ns x.N=0:=by
     unfold vrdE at hv;by_cases hz:Zig ns x.N=0
     ·exact hz
     rw [aE hz] at hv;exact absurd hv hz
    obtain ⟨j,ej,hj,hj1⟩:=Zhm hz;rw [ej,zG,Zgm (by omega)];by_cases hij:i=j
    ·rw [aD hij];right;exact ⟨by omega,by omega,by unfold Zqk;split<;>omega⟩
    rw [aE hij];exact .inl rfl
   rw [aE hv];exact .inl rfl
  refine fin (vrdS ns S x.N x.Right) O (fun i hi=>?_) (by unfold vrdS;split<;>simp [s6]) o6 (fun i=>?_) ?_ _ ?_
  ·rcases hP i with h | ⟨_,h,_⟩
   ·exact ⟨h,rfl⟩
   omega
  ·rcases hP i with h | ⟨_,_,h⟩
   ·rw [h];exact B.R.pos i
   exact h
  ·rcases hP 0 with h | ⟨h,_⟩
   ·exact ⟨h.trans B.gen.1,B.gen.2⟩
   omega
  rw [B.ck,ZqA (B.R_gst _ _),Zaa];dsimp only;rw [beq_self_eq_true]
 rw [aE (by simpa using k1)];by_cases k2:x.Kind=2
 ·rw [aD (by simpa using k2),Zaa,B.h,Zam,ZdZ,ZgK (by omega) B.M o6,Zaa];dsimp only;have hP : ∀i,(ZsQ ns O x.N).getD i false=O.getD i false∨(1≤i∧i<ns.length):=by
   intro i;unfold ZsQ;by_cases hz:Zig ns x.N=0
   ·rw [aD hz];obtain ⟨j,ej,hj,hj1⟩:=Zhm hz;rw [ej,zG,Zgm (by omega)];by_cases hij:i=j
    ·right;exact ⟨by omega,by omega⟩
    rw [aE hij];exact .inl rfl
   rw [aE hz];exact .inl rfl
  refine fin S (ZsQ ns O x.N) (fun i hi=>?_) s6 (by unfold ZsQ;split<;>simp [o6]) B.R.pos ?_ _ ?_
  ·rcases hP i with h | ⟨_,h⟩
   ·exact ⟨rfl,h⟩
   omega
  ·rcases hP 0 with h | ⟨h,_⟩
   ·exact ⟨B.gen.1,h.trans B.gen.2⟩
   omega
  rw [B.ck,ZmL (B.R_gst _ _),Zaa];dsimp only;rw [beq_self_eq_true]
 rw [aE (by simpa using k2)];by_cases k3:x.Kind=3
 ·rw [aD (by simpa using k3),Zaa,B.h,Zam,ZdZ,ZhV (by omega) B.M,Zaa];dsimp only;have hS : ∀i,(Zsk ns S x.N).getD i 0=S.getD i 0∨(i<ns.length∧S.getD i 0=2∧(Zsk ns S x.N).getD i 0=0):=by
   intro i;unfold Zsk;by_cases hz:Zig ns x.N=0
   ·rw [aD hz,Zoc];unfold rsF;by_cases hq:(decide (i<ns.length)&&ZjU ns x.N i&&S.getD i 0==2)=true
    ·rw [aD hq];simp only [zT,decide_eq_true_eq,beq_iff_eq] at hq;exact .inr ⟨hq.1.1,hq.2,rfl⟩
    rw [aE hq];exact .inl rfl
   rw [aE hz];exact .inl rfl
  have hO : ∀i,(Zsl ns O x.N).getD i false=O.getD i false∨(i<ns.length∧(Zsl ns O x.N).getD i false=false):=by
   intro i;unfold Zsl;by_cases hz:Zig ns x.N=0
   ·rw [aD hz,Zod];unfold roF;by_cases hq:(decide (i<ns.length)&&ZjU ns x.N i)=true
    ·rw [aD hq];simp only [zT,decide_eq_true_eq] at hq;exact .inr ⟨hq.1,rfl⟩
    rw [aE hq];exact .inl rfl
   rw [aE hz];exact .inl rfl
  refine fin (Zsk ns S x.N) (Zsl ns O x.N) (fun i hi=>⟨?_,?_⟩) (by unfold Zsk;split<;>simp [Ztx,s6]) (by unfold Zsl;split<;>simp [Ztz,o6]) (fun i=>?_) ⟨?_,?_⟩ _ ?_
  ·rcases hS i with h | ⟨h,_⟩
   ·exact h
   omega
  ·rcases hO i with h | ⟨h,_⟩
   ·exact h
   omega
  ·rcases hS i with h | ⟨_,_,h⟩
   ·rw [h];exact B.R.pos i
   omega
  ·rcases hS 0 with h | ⟨_,h,_⟩
   ·exact h.trans B.gen.1
   rw [B.gen.1] at h;omega
  ·rcases hO 0 with h | ⟨_,h⟩
   ·exact h.trans B.gen.2
   exact h
  rw [B.ck,ZmK (by omega) (B.R_gst _ _),Zaa];dsimp only;rw [beq_self_eq_true]
 rw [aE (by simpa using k3)];exact ⟨st,ns,lp,S,O,rfl,B,by omega⟩
end
end Go.Dn.F
namespace Go.Dn.F
open Go.Dn Go.Proofs
variable {N:Nat}
section
variable {st:LL} {ia it im ib ir ih:Nat} {p:Zae} {ns:List Nd} {lp:List Int} {S:List Int} {O:List Bool}
theorem Zeo.ck' {α:Type} (B:Zeo st ia it im ib ir ih p ns lp S O) (A:Option α):chk (eqO (st[ih]?) (some [zQ (some it),zQ (some im),zQ (some ib),zQ (some ir)])=true) A=A:=Zaf (Zum B.h)
theorem Zrw (hN:1000≤N) (B:Zeo st ia it im ib ir ih p ns lp S O):ZaD N (some ih) st=some (true,F.gst st im it ns S O):=by
 unfold ZaD;have sm:=B.R.small;have l1:=B.len1;refine ZbZ (fun m (s:(Option Nat)×Int×LL)=>∃(i:Int) (st':LL),-1≤i∧i+m=(ns.length:Int)+1∧s=(some ih,i,st')∧Zeo st' ia it im ib ir ih p ns lp S O∧F.gst st' im it ns S O=F.gst st im it ns S O) ?_ N (ns.length+2) _ ⟨-1,st,by omega,by omega,rfl,B,rfl⟩ (by omega);rintro G m _ ⟨i,st',hi,him,rfl,B',he⟩ hG;unfold ZaD.p1;dsimp only;have B1:=B'.gst;have gg:F.gst (F.gst st' im it ns S O) im it ns S O=F.gst st' im it ns S O:=Zhp;rw [Zaa,B'.h,Zam,ZdZ,Zaa,B'.R.b,Zam,Zbd,Zkq];by_cases hle:i≤(ns.length:Int)
 ·rw [aD (by simpa using hle),Said_eq (by omega) B'.M,Zaa];dsimp only;have p2:ZaD.p2 N G ih i (if inB ns i=true then S.getD i.toNat 0 else 0) (if inB ns i=true then O.getD i.toNat false else false) (if inB ns i=true then S.getD i.toNat 0 else 0) (if inB ns i=true then O.getD i.toNat false else false) (F.gst st' im it ns S O)=some (true,F.gst st im it ns S O):=by
   unfold ZaD.p2;rw [aE (by simp),aE (by simp),B1.h,Zam,ZdZ,Zkd (by omega) B1.M,Zaa];dsimp only;rw [gg,B1.ck',Znn (by omega) B1.R,Zaa];dsimp only;rw [aE (by simp),B1.h,Zam,ZdZ,Child_eq (by omega) B1.M,Zaa];dsimp only;rw [gg,B1.ck',Zps (by omega) B1.R,Zaa];dsimp only;rw [aE (by simp),B1.h,Zam,ZdZ,Zkc (by omega) B1.M,Zaa];dsimp only;rw [gg,B1.ck',Zpr (by omega) B1.R,Zaa];dsimp only;rw [aE (by simp),ZaL (by omega) (by omega)];exact hG (m-1) _ (by omega) ⟨i+1,_,by omega,by omega,rfl,B1,by rw [gg,he]⟩
  by_cases h0:0≤i
  ·rw [aD (by simpa using h0),B1.h,Zam,ZdZ,Zaa,B1.R.b,Zam,Zbd,Zkq];by_cases hlt:i<(ns.length:Int)
   ·have hi:inB ns i=true:=inB_true.2 ⟨h0,hlt⟩;rw [aD (by simpa using hlt),Zaa,Zaf h0,Zaf (by omega),B1.R.r,Zam,Zky];dsimp only;rw [hi,aD rfl,aD rfl] at p2 ⊢;exact p2
   have hi:inB ns i=false:=by rw [←vF,inB_true];omega
   rw [aE (by simpa using hlt)];rw [hi,aE (by simp),aE (by simp)] at p2 ⊢;exact p2
  have hi:inB ns i=false:=by rw [←vF,inB_true];omega
  rw [aE (by simpa using h0)];rw [hi,aE (by simp),aE (by simp)] at p2 ⊢;exact p2
 rw [aE (by simpa using hle),Zjl (by omega) B'.M l1 B'.vl0,Zaa];dsimp only;rw [B'.ck,rBest_eq (by omega) B1.R l1,Zaa];dsimp only;rw [aD (by simp),B1.h,Zam,ZdZ,ZqC (by omega) B1.M l1 B1.ld0,Zaa];dsimp only;rw [gg,B1.ck',rLead_eq (by omega) B1.R l1,Zaa];dsimp only;rw [beq_self_eq_true,he]
end
def S0:List Int:=(zC 600 0).set 0 1
def O0:List Bool:=zC 600 false
theorem Zqg (i:Nat):S0.getD i 0=if i=0 then 1 else 0:=by
 unfold S0;rw [Zgm (by simp)];by_cases h:i=0
 ·rw [aD h,aD h]
 rw [aE h,aE h,yB,wY];split<;>rfl
theorem ZrW (i:Nat):O0.getD i false=false:=by
 unfold O0;rw [yB,wY];split<;>rfl
theorem ZsJ {p:Zae} (hp:WfP p) (st:LL):Zeo ((((((st ++ [(aOf p 100 [ZfT p]).lo]) ++ [Zgo st.length [-1]]) ++ [mk2 (st.length+1) []]) ++ [(rOf p 100 [ZfT p]).lo]) ++ [rm2 S0 O0]) ++ [ZsK (st.length+1) (st.length+2) (st.length+3) (st.length+4)])
  st.length (st.length+1) (st.length+2) (st.length+3) (st.length+4) (st.length+5) p [ZfT p] [-1] S0 O0:=by
 have T:=Zrj hp 100 st;have T5:=(((T.app [mk2 (st.length+1) []]).app [(rOf p 100 [ZfT p]).lo]).app [rm2 S0 O0]).app [ZsK (st.length+1) (st.length+2) (st.length+3) (st.length+4)];refine ⟨⟨T5,by omega,by omega,⟨0,by simp,?_,fun i _=>⟨Zqg i,ZrW i⟩⟩,by simp⟩,⟨?_,?_,by omega,T.tr,by simp,by simp [S0],by simp [O0],fun i=>by rw [Zqg];split<;>omega⟩,?_,?_,⟨Zqg 0,ZrW 0⟩,by simp⟩
 ·simp
 ·simp
 ·simp
 ·simp
 simp
theorem start_eq (hN:1000≤N) {p:Zae} (hp:WfP p) {gs:List ZcY} {cs:List Zcw} (hg:p.Gates=ZmG gs) (hc:p.Checks=Zke cs) (lg:gs.length≤400) (lc:cs.length≤400) (hgd:ZmH p gs cs=true) (st:LL) :
  ∃ia it im ib ir ih st',Zee N p st=some (some ih,st')∧Zeo st' ia it im ib ir ih p [ZfT p] [-1] S0 O0:=by
 unfold Zee;rw [Zri (by omega) hg hc lg lc hp,hgd,aD rfl,Zaa];dsimp only;unfold ZfE;rw [Zaa];dsimp only;rw [Zpn (by omega) hp,Zaa,show ZkN 100=100 from rfl];dsimp only;unfold Zfn;rw [Zaa];dsimp only;have e1 : ∀(l:LL) (x y:List L),(l ++ [x]).set l.length y=l ++ [y]:=fun l x y=>by simp
 rw [e1];have B:=ZsJ hp st;have l1:(st ++ [(aOf p 100 [ZfT p]).lo] ++ [Zgo st.length [-1]]:LL).length=st.length+2:=by simp
 have l2:(st ++ [(aOf p 100 [ZfT p]).lo] ++ [Zgo st.length [-1]] ++ [[zQ (some (st.length+1)),yD true 3 []]]:LL).length=st.length+3:=by simp
 have l3:(st ++ [(aOf p 100 [ZfT p]).lo] ++ [Zgo st.length [-1]] ++ [[zQ (some (st.length+1)),yD true 3 []]] ++ [(rOf p 100 [ZfT p]).lo]:LL).length=st.length+4:=by simp
 have l4 : ∀x:List L,(st ++ [(aOf p 100 [ZfT p]).lo] ++ [Zgo st.length [-1]] ++ [[zQ (some (st.length+1)),yD true 3 []]] ++ [(rOf p 100 [ZfT p]).lo] ++ [x]:LL).length=st.length+5:=by simp
 rw [l1,l2,l3,l4];exact ⟨_,_,_,_,_,_,_,rfl,B⟩
end Go.Dn.F
namespace Go.Dn.F
open Go.Dn Go.Proofs
variable {N:Nat}
structure WfA16 (c:ZbI):Prop where
 h:WfH c.Header
 n:Zou c.Now
abbrev tysAct:List Ty:=[.int .i64,.int .i64,.arr .u8 32,.arr .u8 32,.int .i64,.int .i64,.int .i64,.int .i64,.int .i64,.bool]
noncomputable def Zjd (l:List ZbI):LL:=l.map ZbI.ls
theorem Zng {l:List ZbI} {i:Nat} (h:i<l.length):(Zjd l)[i]? = some l[i].ls:=by simp [Zjd,h]
@[simp] theorem Znv (l:List ZbI):len (Zjd l)=(l.length:Int):=by simp [len,Zjd]
@[simp] theorem ZnR (l:List ZbI):(Zjd l).length=l.length:=by simp [Zjd]
theorem open_A16 {xs:LL} (h : ∀x∈xs,ZhW tysAct x) : ∃l,xs=Zjd l∧∀x∈l,WfA16 x:=
 ZrL fun x hx=>by
  obtain ⟨_,_,rfl,h0,h⟩:=(h x hx).cons_inv;obtain ⟨_,_,rfl,h1,h⟩:=h.cons_inv;obtain ⟨_,_,rfl,h2,h⟩:=h.cons_inv;obtain ⟨_,_,rfl,h3,h⟩:=h.cons_inv;obtain ⟨_,_,rfl,h4,h⟩:=h.cons_inv;obtain ⟨_,_,rfl,h5,h⟩:=h.cons_inv;obtain ⟨_,_,rfl,h6,h⟩:=h.cons_inv;obtain ⟨_,_,rfl,h7,h⟩:=h.cons_inv;obtain ⟨_,_,rfl,h8,h⟩:=h.cons_inv;obtain ⟨_,_,rfl,h9,h⟩:=h.cons_inv;cases h.nil_inv;obtain ⟨a0,rfl,w0⟩:=h0.int_inv;obtain ⟨a1,rfl,w1⟩:=h1.int_inv;obtain ⟨a2,rfl,k2,w2⟩:=h2.arr_inv;obtain ⟨a3,rfl,k3,w3⟩:=h3.arr_inv;obtain ⟨a4,rfl,w4⟩:=h4.int_inv;obtain ⟨a5,rfl,w5⟩:=h5.int_inv;obtain ⟨a6,rfl,w6⟩:=h6.int_inv;obtain ⟨a7,rfl,w7⟩:=h7.int_inv;obtain ⟨a8,rfl,w8⟩:=h8.int_inv;obtain ⟨a9,rfl⟩:=h9.bool_inv;refine ⟨⟨a0,⟨a1,a2,a3,a4,a5,a6⟩,a7,a8,a9⟩,rfl,⟨⟨Zgh w1,?_,Zgh w4,Zgh w5,Zgh w6⟩,Zgh w7⟩⟩;simp only [wfH,zT];exact ⟨Zrc k2 w2,Zrc k3 w3⟩
theorem ZsC {p:Zae} (hp:WfP p) (l:List ZbI) (hl:l.length+900≤N) (hb:l.length≤maxLen) :
  ∃b,Zcr N p (Zjd l)=some b∧(b=false→(∀x∈l,0≤x.Now)∧l.length≤40∧∃gs cs,p.Gates=ZmG gs∧p.Checks=Zke cs∧gs.length≤400∧cs.length≤400∧ZmH p gs cs=true):=by
 unfold Zcr;have hm:maxLen=9223372036854775807:=rfl;refine ZiU (fun m (v:Int)=>∃k:Nat,k+m=l.length∧v=(k:Int)∧∀x∈l.take k,0≤x.Now) ?_ N l.length 0 ⟨0,by omega,rfl,by simp⟩ (by omega);rintro G m _ ⟨k,hk,rfl,ha⟩ hG;unfold Zcr.p1;rw [Znv];by_cases hlt:k<l.length
 ·rw [aD (by simp<;>omega),Zaf (by omega),zG,Zng hlt,Zam,ZfL,ZaL (by omega) (by omega)];by_cases h:l[k].Now<0
  ·rw [aD (by simpa using h)];exact ⟨true,rfl,fun h=>by cases h⟩
  rw [aE (by simpa using h)];refine hG (m-1) _ (by omega) ⟨k+1,by omega,by omega,fun x hx=>?_⟩;rw [yJ hlt] at hx;rcases wB.1 hx with hx | hx
  ·exact ha x hx
  cases xM.1 hx;omega
 rw [aE (by simp<;>omega)];rw [zY (by omega)] at ha;by_cases h1:len p.Gates>20
 ·rw [aD (by simpa using h1)];exact ⟨true,rfl,fun h=>by cases h⟩
 rw [aE (by simpa using h1)];by_cases h2:len p.Checks>20
 ·rw [aD (by simpa using h2)];exact ⟨true,rfl,fun h=>by cases h⟩
 rw [aE (by simpa using h2)];by_cases h3:(l.length:Int)>40
 ·rw [aD (by simpa using h3)];exact ⟨true,rfl,fun h=>by cases h⟩
 rw [aE (by simpa using h3)];obtain ⟨gs,eg⟩:=open_G hp.g;obtain ⟨cs,ec⟩:=open_K hp.c;have lg:gs.length≤400:=by simp [len,eg] at h1;omega
 have lc:cs.length≤400:=by simp [len,ec] at h2;omega
 rw [ZnY (by omega) eg lg ec lc,Zaa];refine ⟨_,rfl,fun h=>⟨ha,by omega,gs,cs,eg,ec,lg,lc,by simpa using h⟩⟩
theorem mk_start {p:Zae} (hp:WfP p) (room:Int) (st:LL):ZiK (((st ++ [(aOf p room [ZfT p]).lo]) ++ [Zgo st.length [-1]]) ++ [mk2 (st.length+1) []]) st.length (st.length+1) (st.length+2) p room [ZfT p] [-1] S0 O0:=
 ⟨(Zrj hp room st).app [mk2 (st.length+1) []],by omega,by omega,⟨0,by simp,by simp,fun i _=>⟨Zqg i,ZrW i⟩⟩,by simp⟩
theorem alive16 (hN:1000≤N) : ∃st,Zef N []=some (true,st):=by
 unfold Zef;rw [show (Zae.mk 545259519 4 10 0 false [] [] (zC 4 0) (zC 4 0) (Zak.mk 0 (zC 32 0) (zC 32 0) 0 0 0))=pA from rfl,Zri (by omega) (p:=pA) (gs:=[]) (cs:=[]) rfl rfl (by simp) (by simp) pA_wf 5 [],aD (by kernel_rfl),Zaa,show ZkN 5=5 from rfl];dsimp only;rw [aE (by simp)];unfold ZfE;rw [Zaa];dsimp only;have M:=mk_start pA_wf 5 [];have e2:(([] ++ [(aOf pA 5 [ZfT pA]).lo]) ++ [Zgo ([]:LL).length [-1]]:LL).length=([]:LL).length+2:=by simp
 have e3 : [[zQ (some (([]:LL).length+1)),yD true 3 []]] = [mk2 (([]:LL).length+1) []]:=rfl;rw [e2,e3];generalize ((([] ++ [(aOf pA 5 [ZfT pA]).lo]) ++ [Zgo ([]:LL).length [-1]]) ++ [mk2 (([]:LL).length+1) []]:LL)=st at M ⊢;generalize ([]:LL).length=z at M ⊢;have hv:vlZ [ZfT pA] S0 O0 0=true:=by
  rw [Zql,show ZeE [ZfT pA] 0 = [0] from rfl];simp only [yR,sX];rw [Zqg,ZrW];rfl
 have ep:ZgY [ZfT pA] (vlZ [ZfT pA] S0 O0)=0:=by rw [ZiQ (by simp)];rfl
 rw [Zjl (by omega) M (by simp) hv,Zaa,ep];dsimp only;rw [aD (by rfl),Zkc (by omega) M.gst,Zaa,Zhp];dsimp only;rw [show atZ [ZfT pA] (vlZ [ZfT pA] S0 O0) 0=true from by unfold atZ;rw [show inB [ZfT pA] 0=true by decide,xF];exact hv,aD rfl,ZgK (by omega) M.gst (by simp [O0]),Zaa];exact ⟨_,rfl⟩
end Go.Dn.F
namespace Go.Dn.F
open Go.Dn Go.Proofs
theorem Zmh {ns:List Nd} {x y:Nat} (hx:x<ns.length) (hy:y<ns.length):hvZ ns x y=true↔ns[y].wk<ns[x].wk∨(ns[x].wk=ns[y].wk∧x<y):=by
 rw [Zud hx hy];simp
theorem Zub {ns:List Nd} {x y z:Nat} (hx:x<ns.length) (hy:y<ns.length) (hz:z<ns.length) (h1:hvZ ns x y=true) (h2:hvZ ns y z=true):hvZ ns x z=true:=by
 rw [Zmh hx hy] at h1;rw [Zmh hy hz] at h2;rw [Zmh hx hz];omega
theorem Zuc {ns:List Nd} {x y:Nat} (hx:x<ns.length) (hy:y<ns.length) (hne:x≠y) (h:hvZ ns x y=false):hvZ ns y x=true:=by
 have h1 : ¬ (hvZ ns x y=true):=by rw [h];simp
 rw [Zmh hx hy] at h1;rw [Zmh hy hx];omega
theorem ZlO {ns:List Nd} {f:Nat→Bool} : ∀(m j out:Nat),j+m=ns.length→out<j→f out=true→(∀i,i<j→f i=true→i=out∨hvZ ns out i=true) →
  Zis ns f m j out<ns.length∧f (Zis ns f m j out)=true∧∀i,i<ns.length→f i=true→i=Zis ns f m j out∨hvZ ns (Zis ns f m j out) i=true
 | 0,j,out,hj,ho,hf,hi=>⟨by show out<_;omega,hf,fun i h1 h2=>hi i (by omega) h2⟩
 | m+1,j,out,hj,ho,hf,hi=>by
  unfold Zis;by_cases h:(f j&&hvZ ns j out)=true
  ·rw [aD h];simp only [zT] at h;refine ZlO m (j+1) j (by omega) (by omega) h.1 fun i h1 h2=>?_;by_cases e:i=j
   ·exact .inl e
   right;rcases hi i (by omega) h2 with rfl | h3
   ·exact h.2
   exact Zub (by omega) (by omega) (by omega) h.2 h3
  rw [aE h];refine ZlO m (j+1) out (by omega) (by omega) hf fun i h1 h2=>?_;by_cases e:i=j
  ·subst e;right;rw [h2,xF] at h;exact Zuc (by omega) (by omega) (by omega) (by simpa using h)
  exact hi i (by omega) h2
theorem ZtD {ns:List Nd} {f:Nat→Bool} (h:0<ns.length) (h0:f 0=true):ZgY ns f<ns.length∧f (ZgY ns f)=true∧∀i,i<ns.length→f i=true→i=ZgY ns f∨hvZ ns (ZgY ns f) i=true:=by
 rw [ZiQ h];exact ZlO _ 1 0 (by omega) (by omega) h0 fun i h1 h2=>.inl (by omega)
theorem ZuG {ns:List Nd} {f:Nat→Bool} {j:Nat} (h:j<ns.length):atZ ns f (j:Int)=f j:=by
 unfold atZ;rw [show inB ns (j:Int)=true from inB_true.2 ⟨by omega,by omega⟩];simp
theorem gst_over {st:LL} {im it:Nat} {ns:List Nd} {S S':List Int} {O O':List Bool}:F.gst (F.gst st im it ns S' O') im it ns S O=F.gst st im it ns S O:=by unfold F.gst;rw [yW]
theorem Zlr {ns:List Nd} {x y:Nat} (hx:x<ns.length) (hy:y<ns.length):ZfO ns (x:Int) (y:Int)=decide (x∈ZeE ns y):=by
 unfold ZfO;simp only [zG];refine decide_eq_decide.2 ⟨fun h=>h.2.2.2.2,fun h=>⟨by omega,by omega,by omega,by omega,h⟩⟩
theorem Ztr {ns:List Nd} (ht:Zhq ns) {k:Nat} (hk:k<ns.length):k∈ZeE ns k:=by
 obtain ⟨l,e⟩:=Zrn ht hk;rw [e];simp
theorem recS_id {ns:List Nd} {a:Int} {S:List Int} {O:List Bool} (hc : ∀i,i<ns.length→ZjU ns a i=true→ZiZ S O i=false):Ztx ns a S=S:=by
 unfold Ztx;refine List.ext_getElem (by simp) fun i h1 h2=>?_;simp only [vY,List.getElem_range];unfold rsF;have e:S.getD i 0=S[i]:=by simp [yB,h2]
 rw [aE ?_,e];intro h;simp only [zT,decide_eq_true_eq] at h;have h3:=hc i h.1.1 h.1.2;unfold ZiZ at h3;rw [h.2] at h3;simp at h3
theorem Zty {ns:List Nd} {j:Nat} {S:List Int} {O:List Bool} (hj:j<ns.length) (hO:j<O.length) (cj:ZjU ns (j:Int) j=true) (hc : ∀i,i<ns.length→ZjU ns (j:Int) i=true→ZiZ S O i=false):Ztz ns (j:Int) (O.set j true)=O:=by
 unfold Ztz;refine List.ext_getElem (by simp) fun i h1 h2=>?_;simp only [vY,List.getElem_range];unfold roF;rw [Zgm hO];have e:O.getD i false=O[i]:=by simp [yB,h2]
 by_cases h:(decide (i<ns.length)&&ZjU ns (j:Int) i)=true
 ·rw [aD h];simp only [zT,decide_eq_true_eq] at h;have h3:=hc i h.1 h.2;unfold ZiZ at h3;simp only [Bool.or_eq_false_iff] at h3;rw [←e];exact h3.1.symm
 rw [aE h,aE (by rintro rfl;exact h (by simp [hj,cj])),e]
theorem bad_set {S:List Int} {O:List Bool} {j:Nat} (hO:j<O.length) (x:Nat):ZiZ S (O.set j true) x=(decide (x=j)||ZiZ S O x):=by
 unfold ZiZ;rw [Zgm hO];by_cases h:x=j
 ·rw [aD h,decide_eq_true h];simp
 rw [aE h,decide_eq_false h];simp
theorem Zui {ns:List Nd} {S:List Int} {O:List Bool} {j:Nat} (hO:j<O.length) (x:Nat):flZ ns S (O.set j true) x=(flZ ns S O x||decide (j∈ZeE ns x)):=by
 unfold flZ;rw [Bool.eq_iff_iff];simp only [List.any_eq_true,Bool.or_eq_true,decide_eq_true_eq,bad_set hO];constructor
 ·rintro ⟨y,h1,h2 | h2⟩
  ·exact .inr (h2 ▸ h1)
  exact .inl ⟨y,h1,h2⟩
 rintro (⟨y,h1,h2⟩ | h)
 ·exact ⟨y,h1,.inr h2⟩
 exact ⟨j,h,.inl rfl⟩
theorem inv_zero {ns:List Nd} {j:Nat} (hj:j<ns.length) (hj1:1≤j) (O:List Bool):Zig ns (j:Int)=0∧ZsQ ns O (j:Int)=O.set j true:=by
 have hz:Zig ns (j:Int)=0:=by
  unfold Zig;rw [aD (inB_true.2 ⟨by omega,by omega⟩),aE (by omega)]
 exact ⟨hz,by unfold ZsQ;rw [aD hz,zG]⟩
theorem inv_at {st:LL} {ia it im:Nat} {p:Zae} {ns:List Nd} {lp:List Int} {S:List Int} {O:List Bool} {j:Nat} (M:ZiK st ia it im p 100 ns lp S O) (hj:j<ns.length) (hO:O.length=600) :
  ZiK (F.gst st im it ns S (O.set j true)) ia it im p 100 ns lp S (O.set j true):=by
 have sm:=M.small;exact M.turned fun k hk=>⟨rfl,by rw [Zgm (by omega),aE (by omega)]⟩
theorem Zre {ns:List Nd} {S:List Int} {O:List Bool} {k:Nat} (h:flZ ns S O k=true):vlZ ns S O k=false:=by unfold vlZ;rw [h];simp
theorem set_vl0 {ns:List Nd} {S:List Int} {O:List Bool} {j:Nat} (hj1:1≤j) (hO:j<O.length) (e0:ZeE ns 0 = [0]) (h0:vlZ ns S O 0=true):vlZ ns S (O.set j true) 0=true:=by
 unfold vlZ at h0 ⊢;simp only [zT,Bool.not_eq_true'] at h0 ⊢;refine ⟨h0.1,?_⟩;rw [Zui hO,h0.2,e0];simp;omega
theorem ZuE {N:Nat} (hN:1000≤N) {st:LL} {ia it im ib ir ih:Nat} {p:Zae} {ns:List Nd} {lp:List Int} {S:List Int} {O:List Bool} (B:Zeo st ia it im ib ir ih p ns lp S O) {a:Int} (hz:Zig ns a≠0) :
  (Zbj (Zbt N (some im) a st) fun (x167,st168)=>
   if (x167 != 0)=true then
    ZcS (st168[ih]?) ZaM fun x169 x170 x171 x172=>
    Zbj (Zal N x170 a st168) fun (x173,st174)=>
    if (x173 != 0)=true then
     Zbj (ZaD N (some ih) st174) fun (x175,st176)=>some (x175,st176)
    else some (false,st174)
   else some (false,st168))=some (true,F.gst st im it ns S O):=by
 have hO:ZsQ ns O a=O:=by unfold ZsQ;rw [aE hz]
 have hS1:Zsk ns S a=S:=by unfold Zsk;rw [aE hz]
 have hO1:Zsl ns O a=O:=by unfold Zsl;rw [aE hz]
 rw [ZgK (by omega) B.M B.R.O6,Zaa,hO];dsimp only;rw [aD (by simpa using hz),B.ih_gst,Zam,ZdZ,ZhV (by omega) B.gst.M,Zaa,hS1,hO1,Zhp];dsimp only;rw [aD (by simpa using hz),Zrw hN B.gst,Zaa,Zhp]
theorem backTail {N:Nat} (hN:1000≤N) {st:LL} {ia it im ib ir ih:Nat} {p:Zae} {ns:List Nd} {lp:List Int} {S:List Int} {O:List Bool} (B:Zeo st ia it im ib ir ih p ns lp S O) {j:Nat} (hj:j<ns.length) (hj1:1≤j)
  (hc : ∀i,i<ns.length→ZjU ns (j:Int) i=true→ZiZ S O i=false) (G:Int×LL→Option (Bool×LL)) {v:Int} (hv : ¬ v<(ns.length:Int)) :
  ∃st',ZaS.p2 N (j:Int) ih (rOf p 100 ns) G (v,st)=some (true,st'):=by
 unfold ZaS.p2;dsimp only;have sm:=B.R.small;have o6:=B.R.O6;have l1:=B.len1;obtain ⟨hz,hO⟩:=inv_zero hj hj1 O;have M1:=inv_at B.M hj o6;have rj:=Ztr B.M.T.tr hj;have cj:ZjU ns (j:Int) j=true:=by unfold ZjU;rw [Zlr hj hj,decide_eq_true rj];rfl
 have hS2:Zsk ns S (j:Int)=S:=by unfold Zsk;rw [aD hz,recS_id hc]
 have hO2:Zsl ns (O.set j true) (j:Int)=O:=by unfold Zsl;rw [aD hz,Zty hj (by omega) cj hc]
 have f1:flZ ns S (O.set j true) j=true:=by rw [Zui (by omega),decide_eq_true rj];simp
 have v0:vlZ ns S (O.set j true) 0=true:=set_vl0 hj1 (by omega) B.fl0 B.vl0;obtain ⟨b1,b2,_⟩:=ZtD (f:=vlZ ns S (O.set j true)) l1 v0;have nb : ¬ j∈ZeE ns (ZgY ns (vlZ ns S (O.set j true))):=by
  intro h;have h2:flZ ns S (O.set j true) (ZgY ns (vlZ ns S (O.set j true)))=true:=by rw [Zui (by omega),decide_eq_true h];simp
  rw [Zre h2] at b2;cases b2
 have hl:=M1.T.len;have gg:F.gst (F.gst st im it ns S (O.set j true)) im it ns S (O.set j true)=F.gst st im it ns S (O.set j true):=Zhp;rw [Zkq,aE (by simpa using hv),B.h,Zam,ZdZ,ZgK (by omega) B.M o6,Zaa,hz,hO];dsimp only;rw [aE (by simp),B.ih_gst,Zam,ZdZ,Zkd (by omega) M1,Zaa];dsimp only;rw [gg,ZuG hj,f1,aE (by simp),B.ih_gst,Zam,ZdZ,Zkc (by omega) M1,Zaa];dsimp only;rw [gg,ZuG hj,Zre f1,aE (by simp),B.ih_gst,Zam,ZdZ,Zjl (by omega) M1 l1 v0,Zaa];dsimp only;rw [gg,Zaa,M1.T.t,Zam];unfold Zgo;rw [ZcX,Zaa,M1.T.a,Zam,ZbP,show (Zav.mk (aOf p 100 ns) (Zei lp))=tOf p 100 ns lp from rfl,ZiI (by omega) M1.T.tr M1.T.lv (by omega),Zaa,Zlr hj b1,decide_eq_false nb,aE (by simp),B.ih_gst,Zam,ZdZ,ZhV (by omega) M1,Zaa,hz,hS2,hO2,gst_over];rw [show ∀A:Option (Bool×LL),chk (eqO (some (ZsK it im ib ir)) (some [zQ (some it),zQ (some im),zQ (some ib),zQ (some ir)])=true) A=A from fun A=>Zaf (Zum rfl),Zaa];dsimp only;rw [aE (by simp),Zrw hN B.gst,Zaa];exact ⟨_,rfl⟩
theorem backLoop {N:Nat} (hN:1000≤N) {st:LL} {ia it im ib ir ih:Nat} {p:Zae} {ns:List Nd} {lp:List Int} {S:List Int} {O:List Bool} (B:Zeo st ia it im ib ir ih p ns lp S O) {j:Nat} (hj:j<ns.length) (hj1:1≤j) :
  ∃st',loopN (ZaS.p2 N (j:Int) ih (rOf p 100 ns)) N (0,st)=some (true,st'):=by
 suffices h : ∃r,loopN (ZaS.p2 N (j:Int) ih (rOf p 100 ns)) N (0,st)=some r∧∃st',r=(true,st') by
  obtain ⟨r,e,st',rfl⟩:=h;exact ⟨st',e⟩
 have sm:=B.R.small;have hl:=B.M.T.len;refine ZiU (Q:=fun r:Bool×LL=>∃st',r=(true,st')) (fun m (s:Int×LL)=>∃i:Nat,i+m=ns.length∧s=((i:Int),st)∧∀k,k<i→ZjU ns (j:Int) k=true→ZiZ S O k=false) ?_ N ns.length _ ⟨0,by omega,rfl,fun k hk=>by omega⟩ (by omega);rintro G m _ ⟨i,him,rfl,hc⟩ hG;by_cases hlt:i<ns.length
 ·unfold ZaS.p2;dsimp only;have w1:w64 ((i:Int)+1)=((i+1:Nat):Int):=by rw [ZaL (by omega) (by omega)];rfl
  rw [Zkq,aD (by simp<;>omega),B.h,Zam,ZdZ,Zkr B.R (by omega),Zaa];dsimp only;have nxt:(ZjU ns (j:Int) i=true→ZiZ S O i=false)→∃r,G (w64 ((i:Int)+1),st)=some r∧∃st',r=(true,st'):=fun h=>by
   rw [w1];refine hG (m-1) _ (by omega) ⟨i+1,by omega,rfl,fun k hk hk2=>?_⟩;by_cases e:k=i
   ·subst e;exact h hk2
   exact hc k (by omega) hk2
  cases hb:ZiZ S O i
  ·rw [aE (by simp)];exact nxt fun _=>hb
  rw [aD rfl,B.h,Zam,ZdZ,Zaa,B.M.T.t,Zam];unfold Zgo;rw [ZcX,Zaa,B.M.T.a,Zam,ZbP,show (Zav.mk (aOf p 100 ns) (Zei lp))=tOf p 100 ns lp from rfl,ZiI (by omega) B.M.T.tr B.M.T.lv (by omega),Zaa,ZiI (by omega) B.M.T.tr B.M.T.lv (by omega),Zaa];cases h1:ZfO ns (i:Int) (j:Int)
  ·rw [aE (by simp)];cases h2:ZfO ns (j:Int) (i:Int)
   ·rw [aE (by simp)];refine nxt fun h=>?_;unfold ZjU at h;rw [h1,h2] at h;cases h
   rw [aD rfl];exact ⟨_,rfl,_,rfl⟩
  rw [aD rfl];exact ⟨_,rfl,_,rfl⟩
 obtain ⟨st',e⟩:=backTail hN B hj hj1 (fun k hk=>hc k (by omega)) G (v:=(i:Int)) (by omega);exact ⟨_,e,st',rfl⟩
theorem ZqW {p:Zae} (hp:WfP p) (l:List ZbI) (hl : ∀x∈l,WfA16 x) (hb:l.length≤maxLen) (a:Int) : ∃st,ZaS (l.length+1000) p (Zjd l) a []=some (true,st):=by
 unfold ZaS;obtain ⟨st0,ea⟩:=alive16 (N:=l.length+1000) (by omega);rw [ea,Zaa];dsimp only;rw [aE (by simp)];obtain ⟨b,eg,hgr⟩:=ZsC (N:=l.length+1000) hp l (by omega) hb;rw [eg,Zaa];cases b with
 | true=>exact ⟨st0,by rw [aD rfl]⟩
 | false=>
  obtain ⟨hnow,h40,gs,cs,hg,hc,lg,lc,hgd⟩:=hgr rfl;rw [aE (by simp)];obtain ⟨ia,it,im,ib,ir,ih,st,es,B⟩:=start_eq (N:=l.length+1000) (by omega) hp hg hc lg lc hgd st0;rw [es,Zaa];dsimp only
  suffices h : ∃r,loopN (ZaS.p1 (l.length+1000) a (some ih) (Zjd l)) (l.length+1000) (0,st)=some r∧∃st',r=(true,st') by
   obtain ⟨r,e,st',rfl⟩:=h;exact ⟨st',e⟩
  refine ZiU (Q:=fun r:Bool×LL=>∃st',r=(true,st')) (fun m (s:Int×LL)=>∃(j:Nat) (st:LL) (ns:List Nd) (lp:List Int) (S:List Int) (O:List Bool),j+m=l.length∧s=((j:Int),st)∧Zeo st ia it im ib ir ih p ns lp S O∧ns.length≤j+1) ?_ (l.length+1000) l.length (0,st) ⟨0,st,[ZfT p],[-1],S0,O0,by omega,rfl,B,by simp⟩ (by omega);rintro G m _ ⟨j,st,ns,lp,S,O,hj,rfl,B,hn⟩ hG;unfold ZaS.p1;dsimp only;rw [Znv];by_cases hlt:j<l.length
  ·have wx:=hl _ (yM hlt);have nx:=hnow _ (yM hlt);have rx:=wx.n;unfold Zou at rx;obtain ⟨st',ns',lp',S',O',ed,B',hn'⟩:=does_eq (N:=l.length+1000) (by omega) hp hg hc lg lc B (by omega) l[j] wx.h ⟨nx,by omega⟩;rw [aD (by simp<;>omega),Zaf (by omega),zG,Zng hlt,Zam,ZfL,ed,Zaa];dsimp only;rw [ZaL (by omega) (by omega)];exact hG (m-1) _ (by omega) ⟨j+1,_,ns',lp',S',O',by omega,rfl,B',by omega⟩
  rw [aE (by simp<;>omega)];have hN:1000≤l.length+1000:=by omega
  generalize l.length+1000=N at hN ⊢;by_cases h1:a<1
  ·rw [aD (by simpa using h1),Zaa,B.h,Zam,ZdZ,ZuE hN B (by unfold Zig;split<;>(try split)<;>first | decide | (rename_i h2 _;rw [inB_true] at h2;omega))];exact ⟨_,rfl,_,rfl⟩
  rw [aE (by simpa using h1),Zaa,B.h,Zam,ZdZ,Zaa,B.R.b,Zam,Zbd];by_cases h2:a≥(ns.length:Int)
  ·rw [Zkq,aD (by simpa using h2),ZuE hN B (by unfold Zig;split<;>(try split)<;>first | decide | (rename_i h2 _;rw [inB_true] at h2;omega))];exact ⟨_,rfl,_,rfl⟩
  rw [Zkq,aE (by simpa using h2)];obtain ⟨z,rfl⟩ : ∃z:Nat,a=(z:Int):=⟨a.toNat,by omega⟩
  obtain ⟨st',e⟩:=backLoop hN B (j:=z) (by omega) (by omega);exact ⟨_,e,st',rfl⟩
theorem MarkBack_true {ls:List L} (xs:LL) (a:Int) (h0:ZhW tysP ls) (h1 : ∀x∈xs,ZhW tysAct x) (l1:xs.length≤maxLen) (w2:(Lit.int .i64 a).wf=true) :
  ∃st,Snd Tryz.prog 7 [.agg ls,.one (.sl 72 xs),.one (.int .i64 a)] [] [.one (.bool true)] st:=by
 obtain ⟨p,rfl,hp⟩:=open_P h0;obtain ⟨l,rfl,hl⟩:=open_A16 h1;obtain ⟨st,h⟩:=ZqW hp l hl (by rw [ZnR] at l1;exact l1) a;exact ⟨st,ZaS.snd h⟩
end Go.Dn.F
