import Derived.Test.YtbijmojagnjgcaaGreatDoorNum
import Derived.Test.YtbijmojagnjgcaaGreatDoorRul
set_option linter.all false
open Bool renaming true_and→xJ,and_eq_true→zT,false_or→uH,true_or→rR,false_and→tV,not_eq_true→vF
open Go.Dn.L renaming arr→zI,ptr→zQ,own→yC
open Int renaming toNat_natCast→zG
open List renaming replicate→zC,foldl_append→vQ,length_map→wC,length_append→zU,length_singleton→yW,set_set→yX,ext_getElem?→xK,getElem?_eq_some_iff→yD,getElem?_set_self→zO,getElem?_set_ne→zP,getElem_mem→yM,drop_zero→vH,drop_eq_getElem_cons→yQ,getElem_map→uS,length_pos_iff→uE,mem_singleton→xL,mem_append→wB,getElem_append_left→tH,getElem_append_right→rE,getElem?_eq_getElem→zR,getElem?_append_left→zW,getElem?_append_right→yE,take_of_length_le→zY,mem_iff_getElem?→qC,mem_of_getElem?→vA,getElem?_eq_none→zM,range→vM,dropLast_concat→tB,take_succ_eq_append_getElem→yJ,getElem?_take_of_lt→tI,set→zN,map_set→tC,getD_eq_getElem?_getD→yG,any_cons→vY,map_congr_left→vR,all_cons→yR,all_nil→sX,drop_eq_nil_of_le→wM,getElem?_take_eq_none→rD,getElem?_replicate→wX
open Nat renaming zero_add→yI,add_sub_cancel→uU,strongRecOn→uD,lt_or_ge→zV
set_option maxRecDepth 40000
namespace Go.Dn.F
open Go.Dn Go.Proofs
variable {N:Nat}
structure Nd where
 ch:List Zak
 ah:Int
 wk:Int
def h0:Zak:=⟨0,zC 32 0,zC 32 0,0,0,0⟩
def Nd.hd (n:Nd):Zak:=n.ch.getLast?.getD h0
def Nd.id (n:Nd):List Int:=hid n.hd
noncomputable def Nd.en (n:Nd):Zcx:=⟨n.hd,n.id,n.ah,(n.ch.length:Int)-1,nw n.wk⟩
noncomputable def ZhZ (ns:List Nd):LL:=ns.map fun n=>n.en.ls
noncomputable def rowS (p:Zae) (ns:List Nd):LL:=ns.map fun n=>(Zdw p n.ch).ls
def ZjG:Nat→List (List Int)→LM
 | _,[]=>[]
 | i,x::l=>(zI .u8 32 x,L.int .i64 (i:Int))::ZjG (i+1) l
def ids (ns:List Nd):List (List Int):=ns.map Nd.id
def Zfa:Nat→List (List Int)→List Int→Option Nat
 | _,[],_=>none
 | i,y::l,x=>if x=y then some i else Zfa (i+1) l x
theorem Zla : ∀(l:List (List Int)) (i:Nat) (x:List Int),Zis (ZjG i l) (zI .u8 32 x)=some ((Zfa i l x).map fun k=>(k-i,L.int .i64 (k:Int)))
 | [],i,x=>rfl
 | y::l,i,x=>by
  rw [ZjG,Zis];simp only [Zol,and_self,if_true];unfold Zfa;by_cases h:x=y
  ·subst h;simp
  rw [show (x==y)=false by simpa using h,aE h,Zla l (i+1) x];cases e:Zfa (i+1) l x with
  | none=>rfl
  | some k=>
   have : ∀(l:List (List Int)) (i k:Nat),Zfa i l x=some k→i≤k:=by
    intro l
    induction l with
    | nil=>intro i k h;cases h
    | cons z l ih=>
     intro i k h;unfold Zfa at h;split at h
     ·cases h;omega
     have:=ih _ _ h;omega
   have:=this l (i+1) k e;simp only [Option.map_some];rw [show k-(i+1)+1=k-i by omega]
theorem ZkI : ∀(l:List (List Int)) (i:Nat) (x:List Int),ZjG i (l ++ [x])=ZjG i l ++ [(zI .u8 32 x,L.int .i64 ((i+l.length:Nat):Int))]
 | [],i,x=>rfl
 | y::l,i,x=>by rw [List.cons_append,ZjG,ZkI l (i+1) x,ZjG,List.length_cons,show i+1+l.length=i+(l.length+1) by omega];rfl
theorem ZgJ : ∀{l:List (List Int)} {i k:Nat} {x:List Int},Zfa i l x=some k→i≤k∧∃h:k-i<l.length,l[k-i]=x
 | y::l,i,k,x,h=>by
  unfold Zfa at h;split at h
  ·rename_i e;cases h;exact ⟨by omega,by simp,by simp [e]⟩
  obtain ⟨h1,h2,h3⟩:=ZgJ h;refine ⟨by omega,by simp;omega,?_⟩;have:k-i=(k-(i+1))+1:=by omega
  simp only [this,List.getElem_cons_succ];exact h3
theorem Zni : ∀{l:List (List Int)} {i:Nat} {x:List Int},Zfa i l x=none→x∉l
 | [],_,_,_=>by simp
 | y::l,i,x,h=>by
  unfold Zfa at h;split at h
  ·cases h
  rename_i e;simp [e,Zni h]
noncomputable def aOf (p:Zae) (room:Int) (ns:List Nd):ZaH:=⟨p,ZhZ ns,rowS p ns,ZjG 0 (ids ns),room⟩
theorem ZkW {ns:List Nd} {i:Nat} (h:i<ns.length):(ZhZ ns)[i]? = some ns[i].en.ls:=by simp [ZhZ,h]
theorem rowS_get {p:Zae} {ns:List Nd} {i:Nat} (h:i<ns.length):(rowS p ns)[i]? = some (Zdw p ns[i].ch).ls:=by simp [rowS,h]
@[simp] theorem Zhg (ns:List Nd):len (ZhZ ns)=(ns.length:Int):=by simp [len,ZhZ]
@[simp] theorem len_rowS (p:Zae) (ns:List Nd):len (rowS p ns)=(ns.length:Int):=by simp [len,rowS]
structure ZhC (ns:List Nd):Prop where
 small:ns.length≤512
 ch : ∀n∈ns,n.ch ≠ []∧n.ch.length≤ns.length
 wf : ∀n∈ns,∀x∈n.ch,WfH x
 wk : ∀n∈ns,isN n.wk
 ah : ∀(i:Nat) (h:i<ns.length),(i=0∧ns[i].ah = -1∧ns[i].ch.length=1)∨∃(k:Nat) (hk:k<i),ns[i].ah=(k:Int)∧ns[i].ch=ns[k].ch ++ [ns[i].hd]
 one:(ids ns).Nodup
theorem Nd.hd_snoc {n:Nd} {c:List Zak} {h:Zak} (e:n.ch=c ++ [h]):n.hd=h:=by unfold Nd.hd;rw [e];simp
theorem ZmT (p:Zae) (c:List Zak) (h:Zak):(Zdw p (c ++ [h])).Prev=hid h:=by
 unfold Zdw;rw [vQ];rfl
theorem ZtH {st:LL} {i:Nat} {p:Zae} {room:Int} {ns:List Nd} (hst:st[i]? = some (aOf p room ns).lo) (hl:ns.length≤512) (nd:Nd) (hid':Zfa 0 (ids ns) nd.id=none) :
  Zbo.p1 N (some i) (Zdw p nd.ch) nd.en st=some ((ns.length:Int),st.set i (aOf p room (ns ++ [nd])).lo):=by
 unfold Zbo.p1;have e1:(aOf p room ns).list ++ [nd.en.ls]=ZhZ (ns ++ [nd]):=by show ZhZ ns++_=_;simp [ZhZ]
 have e2:(aOf p room ns).spots ++ [(Zdw p nd.ch).ls]=rowS p (ns ++ [nd]):=by show rowS p ns++_=_;simp [rowS]
 have e3:(aOf p room ns).places ++ [(zI .u8 32 nd.en.Id,L.int .i64 (ns.length:Int))]=ZjG 0 (ids (ns ++ [nd])):=by
  show ZjG 0 (ids ns)++_=_;unfold ids;rw [List.map_append];show _=ZjG 0 (List.map Nd.id ns ++ [nd.id]);rw [ZkI,wC,yI];rfl
 have l1:(ZhZ (ns ++ [nd])).length=ns.length+1:=by simp [ZhZ]
 have l2:(rowS p (ns ++ [nd])).length=ns.length+1:=by simp [rowS]
 rw [Zaa,hst,Zan,Zcc,e1,e2,Zah (by rw [l1];omega),Zah (by rw [l2];omega),show Zis (aOf p room ns).places (zI .u8 32 nd.en.Id)=some none by
  show Zis (ZjG 0 (ids ns)) (zI .u8 32 nd.id)=_;rw [Zla,hid'];rfl]
 show some _=_;rw [Zhg,zU,yW,ZaM (by omega) (by omega),show ((ns.length+1:Nat):Int)-1=(ns.length:Int) by omega,e3];simp only [yX];rfl
theorem keep_eq (hN:300≤N) {st:LL} {i:Nat} {p:Zae} {room:Int} {ns:List Nd} (hst:st[i]? = some (aOf p room ns).lo) (hl:ns.length≤512) {k:Nat} (hk:k<ns.length) (hw:isN ns[k].wk) (hlen:ns[k].ch.length≤600)
  {h:Zak} (nd:Nd) (hch:nd.ch=ns[k].ch ++ [h]) (hah:nd.ah=(k:Int)) (hwk:nd.wk=Zmv ns[k].wk (Zhc h.Bits)) (hid':Zfa 0 (ids ns) (hid h)=none) :
  Zbo N (some i) h (k:Int) (Zdw p nd.ch) st=some ((ns.length:Int),st.set i (aOf p room (ns ++ [nd])).lo):=by
 have hd:=nd.hd_snoc hch;unfold Zbo;rw [ZiT hN,Zaa,aD (by simp<;>omega),Zaa,hst,Zan,Zcc,show (aOf p room ns).list=ZhZ ns from rfl,Zhg,Zah (by omega),Zah (by omega),zG,yI,ZkW hk,Zan,Zfp,show (ns[k].en).Work=nw ns[k].wk from rfl,Zqf (by omega) hw (ZiF _),Zaa,show (ns[k].en).Height=(ns[k].ch.length:Int)-1 from rfl,ZaM (by omega) (by omega)];have e:Zcx.mk h (Zdw p nd.ch).Prev (k:Int) ((ns[k].ch.length:Int)-1+1) (nw (Zmv ns[k].wk (Zhc h.Bits)))=nd.en:=by
  unfold Nd.en Nd.id;rw [hd,hch,ZmT,hah,hwk,zU,yW]
  congr 1;omega
 rw [e];refine ZtH hst hl nd ?_;unfold Nd.id;rw [hd];exact hid'
theorem keep0_eq (hN:300≤N) {st:LL} {i:Nat} {p:Zae} {room:Int} (hst:st[i]? = some (aOf p room []).lo) {h:Zak} (nd:Nd) (hch:nd.ch = [h]) (hah:nd.ah = -1) (hwk:nd.wk=Zhc h.Bits) :
  Zbo N (some i) h (-1) (Zdw p nd.ch) st=some (0,st.set i (aOf p room [nd]).lo):=by
 have hd:nd.hd=h:=nd.hd_snoc (c:=[]) hch;unfold Zbo;rw [ZiT hN,Zaa,aE (by simp)];have e:Zcx.mk h (Zdw p nd.ch).Prev (-1) 0 (nw (Zhc h.Bits))=nd.en:=by
  unfold Nd.en Nd.id;rw [hd,hch,show (Zdw p [h]).Prev=hid h from ZmT p [] h,hah,hwk];rfl
 rw [e];exact ZtH (ns:=[]) hst (by simp) nd rfl
def chAt (ns:List Nd) (k:Nat):List Zak:=(ns[k]?.map Nd.ch).getD []
def wkAt (ns:List Nd) (k:Nat):Int:=(ns[k]?.map Nd.wk).getD 0
theorem Zkr {ns:List Nd} {k:Nat} (h:k<ns.length):chAt ns k=ns[k].ch:=by simp [chAt,h]
theorem Zqg {ns:List Nd} {k:Nat} (h:k<ns.length):wkAt ns k=ns[k].wk:=by simp [wkAt,h]
def Zeh (ns:List Nd) (k:Nat) (h:Zak):Nd:=⟨chAt ns k ++ [h],(k:Int),Zmv (wkAt ns k) (Zhc h.Bits)⟩
def Zjl (p:Zae) (gs:List ZcW) (cs:List Zcv) (room:Int) (ns:List Nd) (h:Zak) (now:Int):Int×Int×Int×List Nd:=
 if ZgD h=false then (-1,1,8,ns) else
 match Zfa 0 (ids ns) (hid h) with
 | some k=>((k:Int),0,0,ns)
 | none=>match Zfa 0 (ids ns) h.Prev with
  | none=>(-1,2,5,ns)
  | some k=>if ZfK p gs cs (Zdw p (chAt ns k)) h now≠0 then (-1,ZfK p gs cs (Zdw p (chAt ns k)) h now,8,ns)
   else if room≤(ns.length:Int) then (-1,0,6,ns) else ((ns.length:Int),0,0,ns ++ [Zeh ns k h])
theorem ZiH {st:LL} {i:Nat} {x:List L} (h:st[i]? = some x):st.set i x=st:=by
 apply xK;intro j;by_cases e:i=j
 ·subst e;obtain ⟨hi,e⟩:=yD.1 h;rw [zO hi,h]
 rw [zP e]
theorem ZsT (p:Zae) (c:List Zak):wfS (Zdw p c)=true:=by
 have h : ∀l:List Zak,∃ts:List Int,(Zdw p l).Times=Zel ts∧ts.length≤11:=by
  refine ZnM ⟨[],rfl,by simp⟩ (fun l h ih=>?_);unfold Zdw at *;rw [vQ];exact ⟨_,rfl,by simp;omega⟩
 obtain ⟨ts,h1,h2⟩:=h c;simp only [wfS,h1,isI_row,xJ,decide_eq_true_eq,ZdT];omega
theorem Add_eq (hN:500≤N) {st:LL} {i:Nat} {p:Zae} {gs:List ZcW} {cs:List Zcv} (hg:p.Gates=Zmz gs) (hc:p.Checks=ZjT cs) (lg:gs.length≤400) (lc:cs.length≤400) {room:Int} (hroom:room≤512) {ns:List Nd} (ht:ZhC ns) (hst:st[i]? = some (aOf p room ns).lo)
  {h:Zak} (hh:WfH h) (now:Int) (hnow : -1152921504606846976≤now∧now≤9223372036854775807) :
  ZaO N (some i) h now st=some ((Zjl p gs cs room ns h now).1,(Zjl p gs cs room ns h now).2.1,(Zjl p gs cs room ns h now).2.2.1,st.set i (aOf p room (Zjl p gs cs room ns h now).2.2.2).lo):=by
 have ss:=ZiH hst;unfold ZaO Zjl;rw [aE (c:=Option.isNone (some i)=true) (by simp),Zfj,Zaa];cases hgd:ZgD h with
 | false=>rw [aD (by rfl),aD (c:=false=false) rfl];dsimp only;rw [ss]
 | true=>
  rw [aE (c:=(!true)=true) (by simp),aE (c:=true=false) (by simp),Zaa,hst,Zan,Zcc,ZgE hN hh.w,Zaa,show (aOf p room ns).places=ZjG 0 (ids ns) from rfl,Zla];cases e1:Zfa 0 (ids ns) (hid h) with
  | some k=>
   show ZaO.p1 N i now (k:Int) true h st=_;unfold ZaO.p1;rw [aD rfl];dsimp only;rw [ss]
  | none=>
   show ZaO.p1 N i now 0 false h st=_;unfold ZaO.p1;rw [aE (by simp),hst,Zan,Zcc,show (aOf p room ns).places=ZjG 0 (ids ns) from rfl,Zla];cases e2:Zfa 0 (ids ns) h.Prev with
   | none=>
    show ZaO.p2 N i now 0 false h st=_;unfold ZaO.p2;rw [aD (by rfl)];dsimp only;rw [ss]
   | some k=>
    show ZaO.p2 N i now (k:Int) true h st=_;obtain ⟨_,hk,_⟩:=ZgJ e2;have hk':k<ns.length:=by simpa [ids] using hk
    have sw:=ZsT p ns[k].ch;have isT:isI (Zdw p ns[k].ch).Times=true:=by simp only [wfS,zT] at sw;exact sw.1
    unfold ZaO.p2;dsimp only;rw [aE (c:=(!true)=true) (by simp),hst,Zan,Zcc,show (aOf p room ns).spots=rowS p ns from rfl,len_rowS,Zah (by omega),Zah (by omega),zG,yI,rowS_get hk',Zan,ZkS,show (aOf p room ns).rules=p from rfl,ZnF hN hg hc lg lc hh.w isT now hnow,Zaa,Zkr hk'];by_cases h4:ZfK p gs cs (Zdw p ns[k].ch) h now=0
    ·rw [aE (c:=(ZfK p gs cs (Zdw p ns[k].ch) h now != 0)=true) (by simp [h4]),aE (c:=ZfK p gs cs (Zdw p ns[k].ch) h now≠0) (by simp [h4]),show (aOf p room ns).list=ZhZ ns from rfl,Zhg,show (aOf p room ns).room=room from rfl];by_cases h5:room≤(ns.length:Int)
     ·rw [aD (by simpa using h5),aD h5];dsimp only;rw [ss]
     rw [aE (by simpa using h5),aE h5,Zih hN hh.w sw,Zaa];have be:ZfX p (Zdw p ns[k].ch) h=Zdw p (Zeh ns k h).ch:=by
      unfold Zeh Zdw;rw [Zkr hk',vQ];rfl
     have hm:=yM hk';have sm:=ht.small;have cl:=(ht.ch _ hm).2;rw [be,keep_eq (by omega) hst ht.small hk' (ht.wk _ hm) (by omega) (Zeh ns k h) (by unfold Zeh;rw [Zkr hk']) rfl (by unfold Zeh;rw [Zqg hk']) e1,Zaa]
    rw [aD (c:=(ZfK p gs cs (Zdw p ns[k].ch) h now != 0)=true) (by simpa using h4),aD (c:=ZfK p gs cs (Zdw p ns[k].ch) h now≠0) h4];dsimp only;rw [ss]
noncomputable def ZhV (l:List (List Int)):LL:=l.map fun x=>[zI .u8 32 x]
noncomputable def Zth (l:List Int):LL:=l.map fun x=>[zI .u64 4 (nw x)]
noncomputable def rOf (p:Zae) (room:Int) (ns:List Nd):Zab:=⟨p,Zkb (ns.map Nd.hd),ZhV (ids ns),Zel (ns.map Nd.ah),Zth (ns.map Nd.wk),room⟩
theorem Zsa {l:List (List Int)} {i:Nat} (h:i<l.length):(ZhV l)[i]? = some [zI .u8 32 l[i]]:=by simp [ZhV,h]
theorem ZnJ {l:List Int} {i:Nat} (h:i<l.length):(Zth l)[i]? = some [zI .u64 4 (nw l[i])]:=by simp [Zth,h]
@[simp] theorem Zsp (l:List (List Int)):len (ZhV l)=(l.length:Int):=by simp [len,ZhV]
@[simp] theorem Zrr (l:List Int):len (Zth l)=(l.length:Int):=by simp [len,Zth]
@[simp] theorem Zoh (l:List Zak):len (Zkb l)=(l.length:Int):=by simp [len]
theorem Zsf (i:Nat) (y:List Int) (l:List (List Int)) (x:List Int):Zfa i (y::l) x=if x=y then some i else Zfa (i+1) l x:=rfl
def Zpr (o:Option Nat):Int:=match o with
 | some k=>(k:Int)
 | none=>-1
theorem Zjx {st:LL} {i:Nat} {p:Zae} {room:Int} {ns:List Nd} (hN:ns.length<N) (hl:ns.length≤512) (hst:st[i]? = some (rOf p room ns).lo) (x:List Int) :
  Zbp N (some i) x st=some (Zpr (Zfa 0 (ids ns) x),st):=by
 unfold Zbp;rw [Zaa,hst,Zan,Zbk];have li:(ids ns).length=ns.length:=by simp [ids]
 refine ZbY (fun m (v:Int)=>∃k:Nat,k+m=ns.length∧v=(k:Int)∧Zfa 0 (ids ns) x=Zfa k ((ids ns).drop k) x) ?_ N ns.length 0 ⟨0,by omega,rfl,by rw [vH]⟩ hN;rintro G m _ ⟨k,hk,rfl,hp⟩ hG;unfold Zbp.p1;rw [show (rOf p room ns).Ids=ZhV (ids ns) from rfl,Zsp,li];by_cases hlt:k<ns.length
 ·have hk':k<(ids ns).length:=by omega
  rw [yQ hk'] at hp;rw [Zsf] at hp;rw [aD (by simp<;>omega),Zah (by omega),hst,Zan,Zbk,show (rOf p room ns).Ids=ZhV (ids ns) from rfl,zG,yI,Zsa hk',Zan,ZkK,ZaM (by omega) (by omega)];by_cases he:x=(ids ns)[k]
  ·rw [aD he] at hp;rw [aD (by simp [he]),hp];rfl
  rw [aE he] at hp;rw [aE (by simpa using fun e=>he e.symm)];exact hG (m-1) _ (by omega) ⟨k+1,by omega,by omega,hp⟩
 rw [aE (by simp<;>omega),hp,List.drop_of_length_le (by omega)];rfl
theorem ZmB {p:Zae} {room:Int} {ns:List Nd} (ht:ZhC ns) (hN:ns.length+2≤N) {k:Nat} (hk:k<ns.length):Zba N (rOf p room ns) (k:Int)=some (Zkb (chAt ns k)):=by
 have sm:=ht.small;unfold Zba;rw [Zkr hk];refine ZbY (fun m (x:LL×Int)=>∃out:List Zak,x=(Zkb out,(m:Int)-1)∧m≤ns.length∧((m=0∧out=ns[k].ch)∨∃h:0<m∧m-1<ns.length,ns[m-1].ch++out=ns[k].ch)) ?_ N (k+1) _ ⟨[],by simp;rfl,by omega,.inr ⟨⟨by omega,by omega⟩,by simp⟩⟩ (by omega);rintro G m _ ⟨out,rfl,hm,ho⟩ hG;unfold Zba.p1;dsimp only;rcases ho with ⟨rfl,rfl⟩ | ⟨⟨h0,h1⟩,ho⟩
 ·rw [aE (by simp)]
 obtain ⟨j,rfl⟩ : ∃j,m=j+1:=⟨m-1,by omega⟩
 simp only [uU] at ho h1;have hj:j<(ns.map Nd.hd).length:=by simp;omega
 have hj2:j<(ns.map Nd.ah).length:=by simp;omega
 have cl:=congrArg List.length ho;rw [zU] at cl;have cb:=(ht.ch _ (yM hk)).2;rw [show (rOf p room ns).List_=Zkb (ns.map Nd.hd) from rfl,show (rOf p room ns).Ahead=Zel (ns.map Nd.ah) from rfl,show ((j+1:Nat):Int)-1=(j:Int) by omega,aD (by simp),Zoh,ZeO,Zah (by omega),Zah (by omega),zG,Zjt hj,Zan,ZeU,Zah (by rw [zU,Zlw];simp;omega),Zah (by omega),Zjs hj2,Zan,Zei,uS,uS];have e : [ns[j].hd.ls]++Zkb out=Zkb (ns[j].hd::out):=rfl;rw [e];have nl:=ht.ch _ (yM h1);rcases ht.ah j h1 with ⟨z,a,c⟩ | ⟨q,hq,a,c⟩
 ·have c1:ns[j].ch = [ns[j].hd]:=by
   unfold Nd.hd
   match hch:ns[j].ch,c with
   | [x],_=>rfl
  rw [a];rw [c1] at ho;exact hG 0 _ (by omega) ⟨_,rfl,by omega,.inl ⟨rfl,ho⟩⟩
 rw [a];rw [c,List.append_assoc] at ho;exact hG (q+1) _ (by omega) ⟨_,by rw [show ((q+1:Nat):Int)-1=(q:Int) by omega],by omega,.inr ⟨⟨by omega,by omega⟩,by simpa using ho⟩⟩
theorem ZtY (p:Zae) (gs:List ZcW) (cs:List Zcv) (s:ZaX) (h:Zak) (now:Int):0≤ZfK p gs cs s h now:=by
 unfold ZfK;repeat' split
 all_goals omega
theorem Zpk (hN:900≤N) {st:LL} {i:Nat} {p:Zae} {gs:List ZcW} {cs:List Zcv} (hg:p.Gates=Zmz gs) (hc:p.Checks=ZjT cs) (lg:gs.length≤400) (lc:cs.length≤400) {room:Int} (hroom:room≤512) {ns:List Nd} (ht:ZhC ns) (hlen:ns.length≤200) (hst:st[i]? = some (rOf p room ns).lo)
  {h:Zak} (hh:WfH h) (now:Int) (hnow:0≤now∧now≤9223372036854775807) :
  Zdr N (some i) h now st=some ((Zjl p gs cs room ns h now).1,(Zjl p gs cs room ns h now).2.1,(Zjl p gs cs room ns h now).2.2.1,st.set i (rOf p room (Zjl p gs cs room ns h now).2.2.2).lo):=by
 have ss:=ZiH hst;unfold Zdr Zjl;rw [ZiI,Zaa];cases hgd:ZgD h with
 | false=>rw [aD (by rfl),aD (c:=false=false) rfl];dsimp only;rw [ss]
 | true=>
  rw [aE (c:=(!true)=true) (by simp),aE (c:=true=false) (by simp),Zjw (by omega) h hh.w,Zaa,Zjx (by omega) ht.small hst,Zaa];dsimp only;cases e1:Zfa 0 (ids ns) (hid h) with
  | some k=>
   rw [show Zpr (some k)=(k:Int) from rfl,aD (by simp)];dsimp only;rw [ss]
  | none=>
   rw [show Zpr none = -1 from rfl,aE (by simp),Zjx (by omega) ht.small hst,Zaa];dsimp only;cases e2:Zfa 0 (ids ns) h.Prev with
   | none=>
    rw [show Zpr none = -1 from rfl,aD (by simp)];dsimp only;rw [ss]
   | some k=>
    obtain ⟨_,hk,_⟩:=ZgJ e2;have hk':k<ns.length:=by simpa [ids] using hk
    have hm:=yM hk';have cl:=ht.ch _ hm;have c0:0<ns[k].ch.length:=uE.2 cl.1;dsimp only;rw [show Zpr (some k)=(k:Int) from rfl,aE (by simp<;>omega),Zaa,hst,Zan,Zbk,ZmB ht (by omega) hk',Zaa,Zkr hk',Zah (by simp [ZeB,Zkb,Zak.ls,L.plain]),show (rOf p room ns).Rules=p from rfl,ZmC hN hg lg hc lc ns[k].ch c0 (by omega) (fun x hx=>(ht.wf _ hm x hx).w) hh.w now hnow,Zaa];have nn:=ZtY p gs cs (Zdw p ns[k].ch) h now;by_cases h4:ZfK p gs cs (Zdw p ns[k].ch) h now=0
    ·rw [aE (c:=decide (ZfK p gs cs (Zdw p ns[k].ch) h now>0)=true) (by simp<;>omega),aE (c:=ZfK p gs cs (Zdw p ns[k].ch) h now≠0) (by simp [h4]),show (rOf p room ns).List_=Zkb (ns.map Nd.hd) from rfl,Zoh,wC,show (rOf p room ns).Room=room from rfl];by_cases h5:room≤(ns.length:Int)
     ·rw [aD (by simpa using h5),aD h5];dsimp only;rw [ss]
     have hd:=(Zeh ns k h).hd_snoc rfl;have i1:Zkb (ns.map Nd.hd) ++ [h.ls]=Zkb ((ns ++ [Zeh ns k h]).map Nd.hd):=by simp [Zkb,hd]
     have i2:ZhV (ids ns) ++ [[zI .u8 32 (hid h)]]=ZhV (ids (ns ++ [Zeh ns k h])):=by simp [ZhV,ids,Nd.id,hd]
     have i3:Zth (ns.map Nd.wk) ++ [[zI .u64 4 (nw (Zmv ns[k].wk (Zhc h.Bits)))]]=Zth ((ns ++ [Zeh ns k h]).map Nd.wk):=by simp [Zth,Zeh,Zqg hk']
     have i4:Zel (ns.map Nd.ah) ++ [[L.int .i64 (k:Int)]]=Zel ((ns ++ [Zeh ns k h]).map Nd.ah):=by simp [Zel,Zeh]
     have kw:k<(ns.map Nd.wk).length:=by simp;omega
     have sm:=ht.small;rw [aE (by simpa using h5),aE h5,show (rOf p room ns).Ids=ZhV (ids ns) from rfl,show (rOf p room ns).Works=Zth (ns.map Nd.wk) from rfl,show (rOf p room ns).Ahead=Zel (ns.map Nd.ah) from rfl,i1,i2,i4,Zah (by rw [Zlw,wC,zU,yW];omega),Zah (by simp [ZhV,ids];omega),Zah (by omega),Zrr,Zah (by rw [wC];omega),zG,yI,ZnJ kw,Zan,uS,ZpT,Zim (by omega),Zaa,Zpl (by omega) (ht.wk _ hm) (ZiF _),Zaa,i3,Zah (by simp [Zth];omega),Zah (by rw [ZdT,wC,zU,yW];omega),Zoh,wC,zU,yW,ZaM (by omega) (by omega)];simp only [yX];rw [show ((ns.length+1:Nat):Int)-1=(ns.length:Int) by omega];rfl
    rw [aD (c:=decide (ZfK p gs cs (Zdw p ns[k].ch) h now>0)=true) (by simp<;>omega),aD (c:=ZfK p gs cs (Zdw p ns[k].ch) h now≠0) h4];dsimp only;rw [ss]
theorem ZhC.one_node {g:Zak} (hg:WfH g):ZhC [⟨[g],-1,Zhc g.Bits⟩] where
 small:=by simp
 ch:=fun n hn=>by cases xL.1 hn;simp
 wf:=fun n hn x hx=>by cases xL.1 hn;cases xL.1 hx;exact hg
 wk:=fun n hn=>by cases xL.1 hn;exact ZiF _
 ah:=fun i h=>.inl ⟨by simpa using h,by simp at h;subst h;rfl,by simp at h;subst h;rfl⟩
 one:=by simp [ids]
theorem ZhC.grow {ns:List Nd} (ht:ZhC ns) {k:Nat} (hk:k<ns.length) {h:Zak} (hh:WfH h) (hs:ns.length<512) (hid':Zfa 0 (ids ns) (hid h)=none):ZhC (ns ++ [Zeh ns k h]):=by
 have hm:=yM hk;have cl:=ht.ch _ hm;have hc:(Zeh ns k h).ch=ns[k].ch ++ [h]:=by unfold Zeh;rw [Zkr hk]
 have hd:=(Zeh ns k h).hd_snoc rfl;refine ⟨by simp;omega,?_,?_,?_,?_,?_⟩
 ·intro n hn;rcases wB.1 hn with hn | hn
  ·have:=ht.ch n hn;exact ⟨this.1,by simp;omega⟩
  cases xL.1 hn;rw [hc];exact ⟨by simp,by simp;omega⟩
 ·intro n hn x hx;rcases wB.1 hn with hn | hn
  ·exact ht.wf n hn x hx
  cases xL.1 hn;rw [hc] at hx;rcases wB.1 hx with hx | hx
  ·exact ht.wf _ hm x hx
  cases xL.1 hx;exact hh
 ·intro n hn;rcases wB.1 hn with hn | hn
  ·exact ht.wk n hn
  cases xL.1 hn;unfold Zeh;rw [Zqg hk];exact ZsL (ht.wk _ hm) (ZiF _)
 ·intro i hi;by_cases hlt:i<ns.length
  ·rw [tH hlt];rcases ht.ah i hlt with a | ⟨q,hq,a,b⟩
   ·exact .inl a
   exact .inr ⟨q,hq,a,by rw [tH (by omega)];exact b⟩
  have:i=ns.length:=by simp at hi;omega
  subst this;refine .inr ⟨k,hk,?_,?_⟩
  ·rw [rE (by omega)];simp [Zeh]
  rw [rE (by omega),tH hk];simp only [Nat.sub_self,List.getElem_singleton];rw [hc,hd]
 have np:=Zni hid';unfold ids at *;rw [List.map_append,List.nodup_append];refine ⟨ht.one,by simp,?_⟩;intro a ha b hb;simp only [List.map_cons,List.map_nil,xL] at hb;subst hb;intro e;unfold Nd.id at e;rw [hd] at e;exact np (by rw [←e];exact ha)
theorem Zku (p:Zae) (gs:List ZcW) (cs:List Zcv) (room:Int) (ns:List Nd) (h:Zak) (now:Int) :
  (Zjl p gs cs room ns h now).2.2.2=ns∨∃k:Nat,k<ns.length∧ZgD h=true∧Zfa 0 (ids ns) (hid h)=none∧ZfK p gs cs (Zdw p (chAt ns k)) h now=0∧(ns.length:Int)<room ∧
   Zjl p gs cs room ns h now=((ns.length:Int),0,0,ns ++ [Zeh ns k h]):=by
 unfold Zjl;by_cases hg:ZgD h=false
 ·rw [aD hg];exact .inl rfl
 rw [aE hg];cases e1:Zfa 0 (ids ns) (hid h) with
 | some k=>exact .inl rfl
 | none=>
  dsimp only;cases e2:Zfa 0 (ids ns) h.Prev with
  | none=>exact .inl rfl
  | some k=>
   dsimp only;obtain ⟨_,hk,_⟩:=ZgJ e2;have hk':k<ns.length:=by simpa [ids] using hk
   by_cases h1:ZfK p gs cs (Zdw p (chAt ns k)) h now=0
   ·rw [aE (by simp [h1])];by_cases h2:room≤(ns.length:Int)
    ·rw [aD h2];exact .inl rfl
    rw [aE h2];exact .inr ⟨k,hk',by simpa using hg,rfl,h1,by omega,rfl⟩
   rw [aD h1];exact .inl rfl
theorem Zur {p:Zae} {gs:List ZcW} {cs:List Zcv} {room:Int} (hr:room≤512) {ns:List Nd} (ht:ZhC ns) {h:Zak} (hh:WfH h) (now:Int):ZhC (Zjl p gs cs room ns h now).2.2.2:=by
 rcases Zku p gs cs room ns h now with e | ⟨k,hk,_,hi,_,hl,e⟩
 ·rw [e];exact ht
 rw [e];exact ht.grow hk hh (by omega) hi
theorem addT_len (p:Zae) (gs:List ZcW) (cs:List Zcv) (room:Int) (ns:List Nd) (h:Zak) (now:Int):ns.length≤(Zjl p gs cs room ns h now).2.2.2.length∧(Zjl p gs cs room ns h now).2.2.2.length≤ns.length+1:=by
 rcases Zku p gs cs room ns h now with e | ⟨k,hk,_,hi,_,hl,e⟩
 ·rw [e];omega
 rw [e];simp
def ZkE (room:Int):Int:=if (512:Int)<(if (1:Int)>room then 1 else room) then 512 else (if (1:Int)>room then 1 else room)
def ZfQ (p:Zae):Nd:=⟨[p.Genesis],-1,Zhc p.Genesis.Bits⟩
theorem set_last (st:LL) (a b:List L):(st ++ [a]).set st.length b=st ++ [b]:=by simp
theorem New_eq (hN:500≤N) {p:Zae} {gs:List ZcW} {cs:List Zcv} (hg:p.Gates=Zmz gs) (hc:p.Checks=ZjT cs) (lg:gs.length≤400) (lc:cs.length≤400) (hp:WfP p) (room:Int) (st:LL) :
  Zff N p room st=if ZmA p gs cs=true then some (some st.length,0,st ++ [(aOf p (ZkE room) [ZfQ p]).lo]) else some (none,1,st):=by
 unfold Zff;rw [Zpa hN hg lg hc lc,Zaa];cases hgd:ZmA p gs cs with
 | false=>rfl
 | true=>
  have pp:({p with Gates:=[]++p.Gates,Checks:=[]++p.Checks}:Zae)=p:=rfl;rw [aE (c:=(!true)=true) (by simp),pp,Zah (by rw [hg,List.nil_append,Zqs];omega),Zah (by rw [hc,List.nil_append,Zqt];omega),Zmy hN hp.h.w,Zaa];have hst:(st ++ [(aOf p (ZkE room) []).lo])[st.length]? = some (aOf p (ZkE room) []).lo:=by simp
  have k:=keep0_eq (N:=N) (by omega) hst (h:=p.Genesis) (ZfQ p) rfl rfl rfl;rw [set_last] at k;rw [aD (c:=true=true) rfl];show Zbm (Zbo N (some st.length) p.Genesis (-1) (Zdw p (ZfQ p).ch) (st ++ [(aOf p (ZkE room) []).lo])) _=_;rw [k,Zaa]
theorem Zpj (hN:900≤N) {p:Zae} (hp:WfP p) (room:Int) (st:LL):ZeW N p room st=some (some st.length,st ++ [(rOf p (ZkE room) [ZfQ p]).lo]):=by
 unfold ZeW;rw [Zjw (by omega) _ hp.h.w,Zaa,Zim (by omega),Zaa];rfl
theorem Len_v_eq (p:Zae) (room:Int) (ns:List Nd):Zdn N (aOf p room ns)=some (ns.length:Int):=by
 unfold Zdn;rw [show (aOf p room ns).list=ZhZ ns from rfl,Zhg]
theorem Zuz (p:Zae) (room:Int) {ns:List Nd} {k:Nat} (hk:k<ns.length):Zcu N (aOf p room ns) (k:Int)=some (ns[k].en,true):=by
 unfold Zcu Zcb;rw [show (aOf p room ns).list=ZhZ ns from rfl,Zhg,aD (by simp),Zaa,aE (by simp<;>omega),Zah (by omega),Zah (by omega),zG,ZkW hk,Zan,Zfp]
theorem Zuy (p:Zae) (room:Int) {ns:List Nd} {k:Int} (hk:k<0∨(ns.length:Int)≤k):Zcu N (aOf p room ns) k=some (Zcx.mk (Zak.mk 0 (zC 32 0) (zC 32 0) 0 0 0) (zC 32 0) (-1) 0 (zC 4 0),false):=by
 unfold Zcu Zcb;rw [show (aOf p room ns).list=ZhZ ns from rfl,Zhg];by_cases h:k≥0
 ·rw [aD (by simpa using h),Zaa,aD (by simp<;>omega)]
 rw [aE (by simpa using h),Zaa,aD (by rfl)]
end Go.Dn.F
set_option maxRecDepth 100000
namespace Go.Dn.F
open Go.Dn Go.Proofs
variable {N:Nat}
def pA:Zae:=⟨545259519,4,10,0,false,[],[],zC 4 0,zC 4 0,h0⟩
theorem h0_wf:WfH h0:=⟨by unfold Zoo h0;simp,by unfold wfH h0;decide,by unfold Zoo h0;simp,by unfold Zoo h0;simp,by unfold Zoo h0;simp⟩
theorem pA_wf:WfP pA where
 l:=by unfold Zoo pA;simp
 i:=by unfold Zoo pA;simp
 s:=by unfold Zoo pA;simp
 f:=by unfold Zoo pA;simp
 g:=by unfold pA;simp
 gl:=by unfold pA;simp
 c:=by unfold pA;simp
 cl:=by unfold pA;simp
 m:=by unfold pA;exact ⟨rfl,fun x hx=>by obtain ⟨_,rfl⟩:=List.mem_replicate.1 hx;decide⟩
 r:=by unfold pA;exact ⟨rfl,fun x hx=>by obtain ⟨_,rfl⟩:=List.mem_replicate.1 hx;decide⟩
 h:=h0_wf
end Go.Dn.F
set_option maxRecDepth 40000
namespace Go.Dn.F
open Go.Dn Go.Proofs
variable {N:Nat}
def ZsG (ns:List Nd):Nat→Nat→List Nat
 | 0,k=>[k]
 | f+1,k=>match ns[k]? with
  | some n=>if n.ah<0 then [k] else ZsG ns f n.ah.toNat ++ [k]
  | none=>[k]
def ZeL (ns:List Nd) (k:Nat):List Nat:=ZsG ns k k
theorem Ztl {ns:List Nd} (ht:ZhC ns) : ∀(k f g:Nat),k<ns.length→k≤f→k≤g→ZsG ns f k=ZsG ns g k:=by
 intro k
 induction k using uD with
 | ind k ih=>
  intro f g hk hf hg;rcases ht.ah k hk with ⟨z,a,c⟩ | ⟨q,hq,a,c⟩
  ·have e : ∀f,ZsG ns f k = [k]:=fun f=>by
    cases f with
    | zero=>rfl
    | succ f=>unfold ZsG;rw [zR hk];dsimp only;rw [a,aD (by omega)]
   rw [e,e]
  obtain ⟨f,rfl⟩ : ∃x,f=x+1:=⟨f-1,by omega⟩
  obtain ⟨g,rfl⟩ : ∃x,g=x+1:=⟨g-1,by omega⟩
  unfold ZsG;rw [zR hk];dsimp only;rw [a,aE (by omega),aE (by omega),zG,ih q hq f g (by omega) (by omega) (by omega)]
theorem Zti {ns:List Nd} {k:Nat} (hk:k<ns.length) (a:ns[k].ah = -1):ZeL ns k = [k]:=by
 unfold ZeL;cases k with
 | zero=>rfl
 | succ f=>unfold ZsG;rw [zR hk];dsimp only;rw [a,aD (by omega)]
theorem Zpd {ns:List Nd} (ht:ZhC ns) {k q:Nat} (hk:k<ns.length) (hq:q<k) (a:ns[k].ah=(q:Int)):ZeL ns k=ZeL ns q ++ [k]:=by
 obtain ⟨f,rfl⟩ : ∃x,k=x+1:=⟨k-1,by omega⟩
 unfold ZeL;rw [ZsG,zR hk];dsimp only;rw [a,aE (by omega),zG,Ztl ht q f q (by omega) (by omega) (by omega)]
theorem Zeg {ns:List Nd} (ht:ZhC ns) {k:Nat} (hk:k<ns.length) :
  (k=0∧ns[k].ah = -1∧ZeL ns k = [k]∧ns[k].ch.length=1)∨∃q,q<k∧ns[k].ah=(q:Int)∧ZeL ns k=ZeL ns q ++ [k]∧∃hq:q<ns.length,ns[k].ch=ns[q].ch ++ [ns[k].hd]:=by
 rcases ht.ah k hk with ⟨z,a,c⟩ | ⟨q,hq,a,c⟩
 ·exact .inl ⟨z,a,Zti hk a,c⟩
 exact .inr ⟨q,hq,a,Zpd ht hk hq a,by omega,c⟩
theorem ZhE {ns:List Nd} (ht:ZhC ns) : ∀{k:Nat} (hk:k<ns.length),(ZeL ns k).length=ns[k].ch.length:=by
 intro k
 induction k using uD with
 | ind k ih=>
  intro hk;rcases Zeg ht hk with ⟨z,a,e,c⟩ | ⟨q,hq,a,e,hq',c⟩
  ·rw [e,c];rfl
  rw [e,c,zU,zU,ih q hq hq'];rfl
theorem Zpe {ns:List Nd} (ht:ZhC ns) {k:Nat} (hk:k<ns.length):(ZeL ns k)[(ZeL ns k).length-1]? = some k:=by
 rcases Zeg ht hk with ⟨z,a,e,c⟩ | ⟨q,hq,a,e,hq',c⟩
 ·rw [e];rfl
 rw [e];simp
theorem Zka {ns:List Nd} (ht:ZhC ns) : ∀{k:Nat},k<ns.length→∀x∈ZeL ns k,x≤k:=by
 intro k
 induction k using uD with
 | ind k ih=>
  intro hk x hx;rcases Zeg ht hk with ⟨z,a,e,c⟩ | ⟨q,hq,a,e,hq',c⟩
  ·rw [e] at hx;simp at hx;omega
  rw [e] at hx;rcases wB.1 hx with hx | hx
  ·have:=ih q hq hq' x hx;omega
  simp at hx;omega
theorem Zri {ns:List Nd} (ht:ZhC ns) : ∀{k:Nat},k<ns.length→∀{h x:Nat},(ZeL ns k)[h]? = some x→x<ns.length∧ZeL ns x=(ZeL ns k).take (h+1):=by
 intro k
 induction k using uD with
 | ind k ih=>
  intro hk h x hx;rcases Zeg ht hk with ⟨z,a,e,c⟩ | ⟨q,hq,a,e,hq',c⟩
  ·rw [e] at hx ⊢;cases h with
   | zero=>cases hx;exact ⟨hk,by rw [e];rfl⟩
   | succ h=>cases hx
  rw [e] at hx ⊢;by_cases hlt:h<(ZeL ns q).length
  ·rw [zW hlt] at hx;obtain ⟨h1,h2⟩:=ih q hq hq' hx;exact ⟨h1,by rw [h2,List.take_append_of_le_length (by omega)]⟩
  rw [yE (by omega)] at hx;have e0:h-(ZeL ns q).length=0:=by
   cases e1:h-(ZeL ns q).length with
   | zero=>rfl
   | succ n=>rw [e1] at hx;cases hx
  rw [e0] at hx;cases hx;exact ⟨hk,by rw [e,zY (by simp;omega)]⟩
theorem rowP_at {ns:List Nd} (ht:ZhC ns) {k h x:Nat} (hk:k<ns.length) (hx:(ZeL ns k)[h]? = some x) : ∃h':x<ns.length,ns[x].ch.length=h+1:=by
 obtain ⟨h1,h2⟩:=Zri ht hk hx;refine ⟨h1,?_⟩;have hl:h<(ZeL ns k).length:=(yD.1 hx).1;rw [←ZhE ht h1,h2,List.length_take];omega
theorem ZnK {ns:List Nd} (ht:ZhC ns) {k x:Nat} (hk:k<ns.length) (hx:x∈ZeL ns k) : ∃h':x<ns.length,(ZeL ns k)[ns[x].ch.length-1]? = some x:=by
 obtain ⟨h,hx⟩:=qC.1 hx;obtain ⟨h1,h2⟩:=rowP_at ht hk hx;exact ⟨h1,by rw [h2];exact hx⟩
theorem Ztk (ns:List Nd) (nd:Nd) (ht:ZhC ns) : ∀(k f:Nat),k<ns.length→ZsG (ns ++ [nd]) f k=ZsG ns f k:=by
 intro k
 induction k using uD with
 | ind k ih=>
  intro f hk;cases f with
  | zero=>rfl
  | succ f=>
   unfold ZsG;rw [zW hk,zR hk];dsimp only;rcases ht.ah k hk with ⟨z,a,c⟩ | ⟨q,hq,a,c⟩
   ·rw [a,aD (by omega),aD (by omega)]
   rw [a,aE (by omega),aE (by omega),zG,ih q hq f (by omega)]
theorem Zij {ns:List Nd} (nd:Nd) (ht:ZhC ns) {k:Nat} (hk:k<ns.length):ZeL (ns ++ [nd]) k=ZeL ns k:=Ztk ns nd ht k k hk
def ZuA (l:List Nat):List Int:=l.map (fun x:Nat=>(x:Int))
theorem ZgT {p:Zae} {room:Int} {ns:List Nd} (ht:ZhC ns) (hN:ns.length+2≤N) {k:Nat} (hk:k<ns.length):ZaN N (rOf p room ns) (k:Int)=some (Zel (ZuA (ZeL ns k))):=by
 have sm:=ht.small;unfold ZaN;have lk:=ZhE ht hk;have cb:=(ht.ch _ (yM hk)).2;have key:loopN (ZaN.p1 N (rOf p room ns)) N ([],(k:Int))=some (Zel (ZuA (ZeL ns k))):=by
  refine ZbY (fun m (s:LL×Int)=>∃(q:Nat) (c:List Nat),q=m∧s=(Zel (ZuA c),(q:Int)-1)∧((q=0∧c=ZeL ns k)∨∃h:0<q∧q-1<ns.length,ZeL ns (q-1)++c=ZeL ns k)) ?_ N (k+1) _ ⟨k+1,[],rfl,by rw [show ((k+1:Nat):Int)-1=(k:Int) by omega];rfl,.inr ⟨⟨by omega,by omega⟩,by simp⟩⟩ (by omega);rintro G m _ ⟨q,c,rfl,rfl,ho⟩ hG;unfold ZaN.p1;dsimp only;rcases ho with ⟨rfl,rfl⟩ | ⟨⟨h0,h1⟩,ho⟩
  ·rw [aE (by simp)]
  obtain ⟨j,rfl⟩ : ∃j,q=j+1:=⟨q-1,by omega⟩
  simp only [uU] at ho h1;have hj2:j<(ns.map Nd.ah).length:=by simp;omega
  have lo:=congrArg List.length ho;rw [zU,lk] at lo;have e1 : [(j:Int)]++ZuA c=ZuA (j::c):=rfl;rw [show (rOf p room ns).Ahead=Zel (ns.map Nd.ah) from rfl,show ((j+1:Nat):Int)-1=(j:Int) by omega,aD (by simp),ZkV,ZhF,e1,Zah (by rw [ZdT];simp [ZuA];omega),Zah (by omega),ZeO,Zah (by omega),zG,Zjs hj2,Zan,Zei,uS];rcases Zeg ht h1 with ⟨z,a,e,cl⟩ | ⟨q,hq,a,e,hq',cl⟩
  ·rw [a];exact hG 0 _ (by omega) ⟨0,_,rfl,rfl,.inl ⟨rfl,by rw [←ho,e];rfl⟩⟩
  rw [a];exact hG (q+1) _ (by omega) ⟨q+1,_,rfl,by rw [show ((q+1:Nat):Int)-1=(q:Int) by omega],.inr ⟨⟨by omega,by simp;omega⟩,by simp only [uU];rw [←ho,e];simp⟩⟩
 exact key
noncomputable def tOf (p:Zae) (room:Int) (ns:List Nd) (lp:List Int):ZaD:=⟨aOf p room ns,Zel lp⟩
structure ZqU (ns:List Nd) (lp:List Int):Prop where
 len:lp.length≤ns.length
 ok : ∀(i:Nat) (v:Int),lp[i]? = some v→v = -1∨∃x:Nat,v=(x:Int)∧x≠i∧x∈ZeL ns i
def hZ (ns:List Nd) (k:Int):Int:=if 0≤k∧k<(ns.length:Int) then ((ns[k.toNat]?.map Nd.ch).getD []).length-1 else -1
theorem Zsu {ns:List Nd} {k:Nat} (hk:k<ns.length):hZ ns (k:Int)=(ns[k].ch.length:Int)-1:=by
 unfold hZ;rw [aD (by omega),zG,zR hk];rfl
theorem ZqL {ns:List Nd} {k:Int} (hk:k<0∨(ns.length:Int)≤k):hZ ns k = -1:=by
 unfold hZ;rw [aE (by omega)]
theorem Zlp (p:Zae) (room:Int) {ns:List Nd} (lp:List Int) {k:Nat} (hk:k<ns.length):ZbU N (tOf p room ns lp) (k:Int)=some (ns[k].en,true):=by
 unfold ZbU;rw [show (tOf p room ns lp).store=aOf p room ns from rfl,Zuz p room hk,Zaa]
theorem ZsV (p:Zae) (room:Int) {ns:List Nd} (lp:List Int) {k:Int} (hk:k<0∨(ns.length:Int)≤k) : ∃e,ZbU N (tOf p room ns lp) k=some (e,false):=by
 unfold ZbU;rw [show (tOf p room ns lp).store=aOf p room ns from rfl,Zuy p room hk,Zaa];exact ⟨_,rfl⟩
theorem Ziw (p:Zae) (room:Int) (ns:List Nd) (lp:List Int) (k:Int):Zbn N (tOf p room ns lp) k=some (hZ ns k):=by
 unfold Zbn;by_cases h:0≤k∧k<(ns.length:Int)
 ·obtain ⟨j,rfl⟩ : ∃j:Nat,k=(j:Int):=⟨k.toNat,by omega⟩
  have hj:j<ns.length:=by omega
  rw [Zlp p room lp hj,Zaa];dsimp only;rw [aE (by simp),Zsu hj];rfl
 obtain ⟨e,h1⟩:=ZsV (N:=N) p room (ns:=ns) lp (k:=k) (by omega);rw [h1,Zaa];dsimp only;rw [aD (by rfl),ZqL (by omega)]
def ancZ (ns:List Nd) (k h:Int):Int:=if 0≤k∧k<(ns.length:Int)∧0≤h then ((ZeL ns k.toNat)[h.toNat]?.map fun (x:Nat)=>(x:Int)).getD (-1) else -1
theorem ancZ_at {ns:List Nd} {k h x:Nat} (hk:k<ns.length) (hx:(ZeL ns k)[h]? = some x):ancZ ns (k:Int) (h:Int)=(x:Int):=by
 unfold ancZ;rw [aD (by omega),zG,zG,hx];rfl
theorem Zpb {ns:List Nd} (ht:ZhC ns) {k x y:Nat} (hk:k<ns.length) (hx:x∈ZeL ns k) (hy:y∈ZeL ns x):y∈ZeL ns k:=by
 obtain ⟨h,hx⟩:=qC.1 hx;obtain ⟨_,e⟩:=Zri ht hk hx;rw [e] at hy;exact List.mem_of_mem_take hy
theorem row_lt {ns:List Nd} (ht:ZhC ns) {x y:Nat} (hx:x<ns.length) (hy:y∈ZeL ns x) (hne:y≠x) : ∃h:y<ns.length,ns[y].ch.length<ns[x].ch.length:=by
 obtain ⟨h,e⟩:=ZnK ht hx hy;refine ⟨h,?_⟩;have hl:=(yD.1 e).1;have ll:=Zpe ht hx;have e2:=ZhE ht hx;have p1:=uE.2 (ht.ch _ (yM h)).1;rcases zV ns[y].ch.length ns[x].ch.length with h3 | h3
 ·exact h3
 rw [show ns[y].ch.length-1=(ZeL ns x).length-1 by omega,ll] at e;cases e;exact absurd rfl hne
theorem ZnI {ns:List Nd} (ht:ZhC ns) {k:Nat} (hk:k<ns.length):k∈ZeL ns k:=vA (Zpe ht hk)
theorem Ztg {ns:List Nd} (ht:ZhC ns) {k q:Nat} (hk:k<ns.length) (hq:q<k) (e:ZeL ns k=ZeL ns q ++ [k]):q∈ZeL ns k:=by
 rw [e];exact wB.2 (.inl (ZnI ht (by omega)))
theorem Zmr (hN:600≤N) {p:Zae} {room:Int} {ns:List Nd} {lp:List Int} (ht:ZhC ns) (hl:ZqU ns lp) (k h:Int) (hb:k<(lp.length:Int)∨ns.length≤lp.length):Zav N (tOf p room ns lp) k h=some (ancZ ns k h):=by
 have sm:=ht.small;unfold Zav;rw [Ziw,Zaa];by_cases h0:h<0
 ·rw [aD (by simpa using h0)];unfold ancZ;rw [aE (by omega)]
 rw [aE (by simpa using h0)];by_cases hk0:k<0∨(ns.length:Int)≤k
 ·rw [ZqL (by omega),aD (by simp;omega)];unfold ancZ;rw [aE (by omega)]
 obtain ⟨k,rfl⟩ : ∃j:Nat,k=(j:Int):=⟨k.toNat,by omega⟩
 obtain ⟨h,rfl⟩ : ∃j:Nat,h=(j:Int):=⟨h.toNat,by omega⟩
 have hk:k<ns.length:=by omega
 have lk:=ZhE ht hk;have lb:=(ht.ch _ (yM hk)).2;rw [Zsu hk];by_cases h1:(h:Int)>(ns[k].ch.length:Int)-1
 ·rw [aD (by simpa using h1)];unfold ancZ;rw [aD (by omega),zG,zG,zM (by omega)];rfl
 rw [aE (by simpa using h1)];have hh:h<(ZeL ns k).length:=by omega
 obtain ⟨t,et⟩ : ∃t,(ZeL ns k)[h]? = some t:=⟨_,zR hh⟩
 rw [ancZ_at hk et];refine ZbY (fun m (s:Int×Int)=>∃(x:Nat) (hx:x<ns.length),m=ns[x].ch.length∧s=((x:Int),(ns[x].ch.length:Int)-1)∧x∈ZeL ns k∧h+1≤ns[x].ch.length) ?_ N ns[k].ch.length _ ⟨k,hk,rfl,rfl,ZnI ht hk,by omega⟩ (by omega);rintro G m _ ⟨x,hx,rfl,rfl,hm,hle⟩ hG;unfold Zav.p1 Zav.p2;dsimp only;by_cases hgt:(ns[x].ch.length:Int)-1>(h:Int)
 ·have hx2:x<lp.length:=by
   have:=Zka ht hk x hm;omega
  rw [aD (by simpa using hgt),Zlp p room lp hx,Zaa];dsimp only;rw [show (tOf p room ns lp).leaps=Zel lp from rfl,Zah (by omega),ZeO,Zah (by omega),zG,Zjs hx2,Zan,Zei,show (ns[x].en).Ahead=ns[x].ah from rfl];rcases Zeg ht hx with ⟨z,a,e,c⟩ | ⟨q,hq,a,e,hq',c⟩
  ·omega
  have cl:=congrArg List.length c;rw [zU,yW] at cl;have toq:G ((q:Int),(ns[q].ch.length:Int)-1)=some (t:Int):=hG ns[q].ch.length _ (by omega) ⟨q,hq',rfl,rfl,Zpb ht hk hm (Ztg ht hx hq e),by omega⟩;rcases hl.ok x lp[x] (zR hx2) with v | ⟨y,v,hne,hy⟩
  ·rw [v,aE (by simp),a,Ziw,Zaa,Zsu hq'];exact toq
  obtain ⟨hy',hyl⟩:=row_lt ht hx hy hne;rw [v,aD (by simp<;>omega),Ziw,Zaa,Zsu hy'];by_cases h3:(ns[y].ch.length:Int)-1≥(h:Int)
  ·rw [aD (by simpa using h3),Zaa];exact hG ns[y].ch.length _ hyl ⟨y,hy',rfl,rfl,Zpb ht hk hm hy,by omega⟩
  rw [aE (by simpa using h3),a,Ziw,Zaa,Zsu hq'];exact toq
 obtain ⟨h3,e3⟩:=ZnK ht hk hm;rw [show ns[x].ch.length-1=h by omega,et] at e3;cases e3;rw [aE (by simpa using hgt)]
def ZgN (ns:List Nd) (k o:Int):Bool:=decide (0≤k∧k<(ns.length:Int)∧0≤o∧o<(ns.length:Int)∧k.toNat∈ZeL ns o.toNat)
theorem Zqa (hN:600≤N) {p:Zae} {room:Int} {ns:List Nd} {lp:List Int} (ht:ZhC ns) (hl:ZqU ns lp) (hb:ns.length≤lp.length) (k o:Int):ZcK N (tOf p room ns lp) k o=some (ZgN ns k o):=by
 unfold ZcK;rw [Ziw,Zaa];by_cases hk0:k<0∨(ns.length:Int)≤k
 ·rw [ZqL (by omega),aE (by simp)];unfold ZgN;rw [decide_eq_false (by omega)]
 obtain ⟨k,rfl⟩ : ∃j:Nat,k=(j:Int):=⟨k.toNat,by omega⟩
 have hk:k<ns.length:=by omega
 have pk:=uE.2 (ht.ch _ (yM hk)).1;rw [Zsu hk,aD (by simp;omega),Zmr hN ht hl _ _ (.inr hb),Zaa]
 congr 1
 unfold ZgN ancZ;by_cases ho:o<0∨(ns.length:Int)≤o
 ·rw [aE (by omega),decide_eq_false (by omega)];simp<;>omega
 obtain ⟨o,rfl⟩ : ∃j:Nat,o=(j:Int):=⟨o.toNat,by omega⟩
 have ho':o<ns.length:=by omega
 rw [aD (by omega),zG,zG,show ((ns[k].ch.length:Int)-1).toNat=ns[k].ch.length-1 by omega];by_cases hm:k∈ZeL ns o
 ·obtain ⟨h1,h2⟩:=ZnK ht ho' hm;rw [h2,decide_eq_true ⟨by omega,by omega,by omega,by omega,hm⟩];simp
 rw [decide_eq_false (fun h=>hm h.2.2.2.2)];cases e:(ZeL ns o)[ns[k].ch.length-1]? with
 | none=>simp<;>omega
 | some y=>
  have:y≠k:=fun h=>hm (by rw [←h];exact vA e);simp<;>omega
end Go.Dn.F
set_option maxRecDepth 100000
namespace Go.Dn.F
open Go.Dn Go.Proofs
variable {N:Nat}
end Go.Dn.F
set_option maxRecDepth 40000
namespace Go.Dn.F
open Go.Dn Go.Proofs
variable {N:Nat}
noncomputable def Zgy (ia:Nat) (lp:List Int):List L:=[zQ (some ia),yC true 1 (Zel lp)]
structure ZhB (st:LL) (ia it:Nat) (p:Zae) (room:Int) (ns:List Nd) (lp:List Int):Prop where
 a:st[ia]? = some (aOf p room ns).lo
 t:st[it]? = some (Zgy ia lp)
 ne:ia≠it
 lv:ZqU ns lp
 len:lp.length=ns.length
 tr:ZhC ns
theorem skH_eq (h:Int) : ∃x,Zev N h=some x:=by
 unfold Zev Zef;by_cases h1:h<2
 ·rw [aD (by simpa using h1)];exact ⟨_,rfl⟩
 rw [aE (by simpa using h1)];by_cases h2:ZaG .and .i64 h 1=0
 ·rw [aD (by simpa using h2)];exact ⟨_,rfl⟩
 rw [aE (by simpa using h2)];exact ⟨_,rfl⟩
theorem ZsE (p:Zae) (gs:List ZcW) (cs:List Zcv) (room:Int) (ns:List Nd) (h:Zak) (now:Int) :
  ((Zjl p gs cs room ns h now).2.2.2=ns∧((Zjl p gs cs room ns h now).2.2.1≠0∨∃k:Nat,k<ns.length∧(Zjl p gs cs room ns h now).1=(k:Int)))∨∃k:Nat,k<ns.length∧Zfa 0 (ids ns) (hid h)=none∧(ns.length:Int)<room ∧
   Zjl p gs cs room ns h now=((ns.length:Int),0,0,ns ++ [Zeh ns k h]):=by
 unfold Zjl;by_cases hg:ZgD h=false
 ·rw [aD hg];exact .inl ⟨rfl,.inl (by simp)⟩
 rw [aE hg];cases e1:Zfa 0 (ids ns) (hid h) with
 | some k=>
  obtain ⟨_,hk,_⟩:=ZgJ e1;have hk':k<ns.length:=by simpa [ids] using hk
  exact .inl ⟨rfl,.inr ⟨k,hk',rfl⟩⟩
 | none=>
  dsimp only;cases e2:Zfa 0 (ids ns) h.Prev with
  | none=>exact .inl ⟨rfl,.inl (by simp)⟩
  | some k=>
   dsimp only;obtain ⟨_,hk,_⟩:=ZgJ e2;have hk':k<ns.length:=by simpa [ids] using hk
   by_cases h1:ZfK p gs cs (Zdw p (chAt ns k)) h now=0
   ·rw [aE (by simp [h1])];by_cases h2:room≤(ns.length:Int)
    ·rw [aD h2];exact .inl ⟨rfl,.inl (by simp)⟩
    rw [aE h2];exact .inr ⟨k,hk',rfl,by omega,rfl⟩
   rw [aD h1];exact .inl ⟨rfl,.inl (by simp)⟩
theorem ZqU.grow {ns:List Nd} {lp:List Int} (ht:ZhC ns) (hl:ZqU ns lp) (hlen:lp.length=ns.length) {nd:Nd} (ht':ZhC (ns ++ [nd])) {k:Nat} (hk:k<ns.length) (ha:nd.ah=(k:Int)) (h:Int):ZqU (ns ++ [nd]) (lp ++ [ancZ (ns ++ [nd]) (k:Int) h]) where
 len:=by simp [hlen]
 ok:=fun i v hv=>by
  by_cases hi:i<lp.length
  ·rw [zW hi] at hv;rcases hl.ok i v hv with h1 | ⟨x,h1,h2,h3⟩
   ·exact .inl h1
   exact .inr ⟨x,h1,h2,by rw [Zij nd ht (by omega)];exact h3⟩
  have e0:i=ns.length:=by
   have:=(yD.1 hv).1;simp at this;omega
  subst e0;rw [yE (by omega),hlen,Nat.sub_self] at hv;cases hv;have hn:ns.length<(ns ++ [nd]).length:=by simp
  have ea:(ns ++ [nd])[ns.length].ah=(k:Int):=by simpa using ha
  rw [Zpd ht' hn hk ea,Zij nd ht hk];unfold ancZ;by_cases hc:0≤(k:Int)∧(k:Int)<((ns ++ [nd]).length:Int)∧0≤h
  ·rw [aD hc,zG,Zij nd ht hk];cases e:(ZeL ns k)[h.toNat]? with
   | none=>exact .inl rfl
   | some y=>
    have hy:=vA e;have:=Zka ht hk y hy;exact .inr ⟨y,rfl,by omega,wB.2 (.inl hy)⟩
  rw [aE hc];exact .inl rfl
theorem skAdd_eq (hN:600≤N) {st:LL} {ia it:Nat} {p:Zae} {gs:List ZcW} {cs:List Zcv} (hg:p.Gates=Zmz gs) (hc:p.Checks=ZjT cs) (lg:gs.length≤400) (lc:cs.length≤400) {room:Int} (hroom:room≤512) {ns:List Nd} {lp:List Int} (T:ZhB st ia it p room ns lp)
  {h:Zak} (hh:WfH h) (now:Int) (hnow : -1152921504606846976≤now∧now≤9223372036854775807) :
  ∃lp' st',Zcp N (some it) h now st=some ((Zjl p gs cs room ns h now).1,(Zjl p gs cs room ns h now).2.1,(Zjl p gs cs room ns h now).2.2.1,st')∧ZhB st' ia it p room (Zjl p gs cs room ns h now).2.2.2 lp'∧(∀j,j≠ia→j≠it→st'[j]? = st[j]?):=by
 have ht':=Zur (p:=p) (gs:=gs) (cs:=cs) hroom T.tr hh now;unfold Zcp Zcp.p1;rw [aE (c:=Option.isNone (some it)=true) (by simp),Zaa,T.t,Zan];unfold Zgy;rw [Zdj,Add_eq (by omega) hg hc lg lc hroom T.tr T.a hh now hnow,Zaa];dsimp only;rcases ZsE p gs cs room ns h now with ⟨e,e1⟩ | ⟨k,hk,hpl,hlr,e⟩
 ·rw [e,ZiH T.a];refine ⟨lp,st,?_,T,fun j _ _=>rfl⟩;by_cases h6:(Zjl p gs cs room ns h now).2.2.1=0
  ·rcases e1 with e1 | ⟨k,hk,e1⟩
   ·exact absurd h6 e1
   rw [aD (by simpa using h6),T.t,Zan];unfold Zgy;rw [Zdj,aE (by rw [e1,ZeO,T.len];simp;omega)]
  rw [aE (by simpa using h6)]
 rw [e] at ht' ⊢;dsimp only at ht' ⊢;have t2:(st.set ia (aOf p room (ns ++ [Zeh ns k h])).lo)[it]? = some (Zgy ia lp):=by
  rw [zP T.ne];exact T.t
 have a2:(st.set ia (aOf p room (ns ++ [Zeh ns k h])).lo)[ia]? = some (aOf p room (ns ++ [Zeh ns k h])).lo:=zO (yD.1 T.a).1;have hit:=(yD.1 t2).1;have hn:ns.length<(ns ++ [Zeh ns k h]).length:=by simp
 have en:(ns ++ [Zeh ns k h])[ns.length]=Zeh ns k h:=by simp
 obtain ⟨hx,eh⟩:=skH_eq (N:=N) ((ns ++ [Zeh ns k h])[ns.length].en).Height;have lv:ZqU (ns ++ [Zeh ns k h]) lp:=⟨by rw [T.len];simp,fun i v hv=>by
  have hi:=(yD.1 hv).1;rcases T.lv.ok i v hv with h1 | ⟨x,h1,h2,h3⟩
  ·exact .inl h1
  exact .inr ⟨x,h1,h2,by rw [Zij _ T.tr (by rw [←T.len];exact hi)];exact h3⟩⟩
 have sm:=T.tr.small;rw [aD (by rfl),t2,Zan];unfold Zgy;rw [Zdj,aD (by rw [ZeO,T.len];simp),Zaa,a2,Zan,Zcc,Zuz p room hn,Zaa];dsimp only;rw [eh,Zaa,show ((ns ++ [Zeh ns k h])[ns.length].en).Ahead=(ns ++ [Zeh ns k h])[ns.length].ah from rfl,en,show (Zeh ns k h).ah=(k:Int) from rfl,show (ZaD.mk (aOf p room (ns ++ [Zeh ns k h])) (Zel lp))=tOf p room (ns ++ [Zeh ns k h]) lp from rfl,Zmr hN ht' lv _ _ (.inl (by rw [T.len];omega)),Zaa,ZkV,ZhF,Zah (by rw [ZdT,zU,yW,T.len];omega),yX];refine ⟨_,_,rfl,⟨?_,?_,T.ne,T.lv.grow T.tr T.len ht' hk rfl hx,by simp [T.len],ht'⟩,fun j h1 h2=>?_⟩
 ·rw [zP (Ne.symm T.ne)];exact a2
 ·exact zO hit
 rw [zP (Ne.symm h2),zP (Ne.symm h1)]
theorem Zre (hN:500≤N) {p:Zae} {gs:List ZcW} {cs:List Zcv} (hg:p.Gates=Zmz gs) (hc:p.Checks=ZjT cs) (lg:gs.length≤400) (lc:cs.length≤400) (hp:WfP p) (room:Int) (st:LL) :
  Zfz N p room st=if ZmA p gs cs=true then some (some (st.length+1),0,(st ++ [(aOf p (ZkE room) [ZfQ p]).lo]) ++ [Zgy st.length [-1]]) else some (none,1,st):=by
 unfold Zfz;rw [New_eq hN hg hc lg lc hp];cases ZmA p gs cs with
 | false=>rfl
 | true=>
  rw [aD rfl,Zaa,aD (c:=true=true) rfl];dsimp only;rw [aE (by simp),zU,yW];rfl
theorem Zrf {p:Zae} (hp:WfP p) (room:Int) (st:LL):ZhB ((st ++ [(aOf p room [ZfQ p]).lo]) ++ [Zgy st.length [-1]]) st.length (st.length+1) p room [ZfQ p] [-1] where
 a:=by rw [zW (by simp)];simp
 t:=by rw [yE (by simp)];simp
 ne:=by omega
 lv:=⟨by simp,fun i v hv=>by
  cases i with
  | zero=>cases hv;exact .inl rfl
  | succ i=>cases hv⟩
 len:=rfl
 tr:=ZhC.one_node hp.h
theorem ZhB.app {st:LL} {ia it:Nat} {p:Zae} {room:Int} {ns:List Nd} {lp:List Int} (T:ZhB st ia it p room ns lp) (x:LL):ZhB (st++x) ia it p room ns lp where
 a:=by rw [zW (yD.1 T.a).1];exact T.a
 t:=by rw [zW (yD.1 T.t).1];exact T.t
 ne:=T.ne
 lv:=T.lv
 len:=T.len
 tr:=T.tr
end Go.Dn.F
set_option maxRecDepth 100000
namespace Go.Dn.F
open Go.Dn Go.Proofs
variable {N:Nat}
def Zmn (S:List Int) (O:List Bool) (k:Nat):Bool:=O.getD k false||S.getD k 0==2
def chZ (ns:List Nd) (S:List Int) (O:List Bool) (k:Nat):Bool:=(ZeL ns k).dropLast.any (Zmn S O)
def flZ (ns:List Nd) (S:List Int) (O:List Bool) (k:Nat):Bool:=(ZeL ns k).any (Zmn S O)
def stZ (ns:List Nd) (S:List Int) (O:List Bool) (k:Nat):ZaS:=⟨S.getD k 0,O.getD k false,chZ ns S O k⟩
def Zfb (ns:List Nd) (S:List Int) (O:List Bool):List ZaS:=(vM ns.length).map (stZ ns S O)
noncomputable def rowM (l:List ZaS):LL:=l.map ZaS.ls
noncomputable def mk2 (it:Nat) (l:List ZaS):List L:=[zQ (some it),yC true 3 (rowM l)]
theorem rowP_cat {ns:List Nd} (ht:ZhC ns) {k:Nat} (hk:k<ns.length) : ∃l,ZeL ns k=l ++ [k]:=by
 rcases Zeg ht hk with ⟨_,_,e,_⟩ | ⟨q,_,_,e,_⟩
 ·exact ⟨[],e⟩
 exact ⟨_,e⟩
theorem ZrC {ns:List Nd} (ht:ZhC ns) {k:Nat} (hk:k<ns.length) (S:List Int) (O:List Bool):flZ ns S O k=(chZ ns S O k||Zmn S O k):=by
 obtain ⟨l,e⟩:=rowP_cat ht hk;unfold flZ chZ;rw [e,tB,List.any_append];simp
theorem ZoA {ns:List Nd} (ht:ZhC ns) {k:Nat} (e:ZeL ns k = [k]) (S:List Int) (O:List Bool):chZ ns S O k=false:=by
 unfold chZ;rw [e];rfl
theorem ZrJ {ns:List Nd} {k q:Nat} (e:ZeL ns k=ZeL ns q ++ [k]) (S:List Int) (O:List Bool):chZ ns S O k=flZ ns S O q:=by
 unfold chZ flZ;rw [e,tB]
theorem Zmc (x:ZaS):ZcB N x=some (x.out||x.verdict==2):=by
 unfold ZcB;cases h:x.out
 ·rw [aE (by simp)];simp
 rw [aD rfl];simp
@[simp] theorem Zgn (ns:List Nd) (S:List Int) (O:List Bool):(Zfb ns S O).length=ns.length:=by simp [Zfb]
theorem Zgo {ns:List Nd} {S:List Int} {O:List Bool} {k:Nat} (hk:k<ns.length):(Zfb ns S O)[k]? = some (stZ ns S O k):=by simp [Zfb,hk]
@[simp] theorem rowM_length (l:List ZaS):(rowM l).length=l.length:=by simp [rowM]
@[simp] theorem ZhN (l:List ZaS):len (rowM l)=(l.length:Int):=by simp [len,rowM]
theorem Zjr {l:List ZaS} {k:Nat} {x:ZaS} (h:l[k]? = some x):(rowM l)[0+k]? = some x.ls:=by simp [rowM,h]
theorem ZgS {ns:List Nd} {S:List Int} {O:List Bool} {k:Nat} (hk:k<ns.length):(rowM (Zfb ns S O))[0+k]? = some (stZ ns S O k).ls:=Zjr (Zgo hk)
theorem ZtQ {ns:List Nd} {S:List Int} {O:List Bool} {j:Nat} (hj:j<ns.length):(Zfb ns S O).take (j+1)=(Zfb ns S O).take j ++ [stZ ns S O j]:=by
 rw [yJ (by simpa using hj)]
 congr 2
 have:=Zgo (S:=S) (O:=O) hj;rw [zR (by simpa using hj)] at this;exact Option.some.inj this
theorem ZeM {α:Type} (it:Nat) (l:List ZaS) (k:Option Nat→LL→Option α):Zca (mk2 it l) k=k (some it) (rowM l):=rfl
theorem ZtO {c1:(Int×LL)→Option LL} {im it:Nat} {st:LL} {l:List ZaS} {s:ZaS} (hm:im<st.length) (hl:l.length≤1000) (j:Int) :
  ZaL.p2 N c1 im j s (st.set im (mk2 it l))=c1 (w64 (j+1),st.set im (mk2 it (l ++ [s]))):=by
 unfold ZaL.p2;rw [zO hm,Zan,ZeM,Zah (by simp;omega),yX,yX];simp [mk2,rowM]
theorem ZhB.setIm {st:LL} {ia it im:Nat} {p:Zae} {room:Int} {ns:List Nd} {lp:List Int} {x:List L} (T:ZhB st ia it p room ns lp) (na:im≠ia) (nt:im≠it):ZhB (st.set im x) ia it p room ns lp:=
 ⟨by rw [zP na];exact T.a,by rw [zP nt];exact T.t,T.ne,T.lv,T.len,T.tr⟩
theorem Len_eq {st:LL} {ia it:Nat} {p:Zae} {room:Int} {ns:List Nd} {lp:List Int} (T:ZhB st ia it p room ns lp):ZdG N (some it) st=some ((ns.length:Int),st):=by
 unfold ZdG;rw [aE (by simp),Zaa,T.t,Zan];unfold Zgy;rw [Zdj,Zaa,T.a,Zan,Zcc,Len_v_eq,Zaa]
theorem grow_eq (hN:600≤N) {st:LL} {ia it im:Nat} {p:Zae} {room:Int} {ns:List Nd} {lp:List Int} {S:List Int} {O:List Bool} {k:Nat} (T:ZhB st ia it p room ns lp) (h1:im≠ia) (h2:im≠it)
  (hm:st[im]? = some (mk2 it ((Zfb ns S O).take k))) (hk:k≤ns.length) (hnew : ∀i,k≤i→i<ns.length→S.getD i 0=(if i=0 then 1 else 0)∧O.getD i false=false) (small:ns.length≤500) :
  ZaL N (some im) st=some (st.set im (mk2 it (Zfb ns S O))):=by
 unfold ZaL;have him:im<st.length:=(yD.1 hm).1;have e0:len (rowM ((Zfb ns S O).take k))=(k:Int):=by simp;omega
 rw [Zaa,hm,Zan,ZeM,e0]
 conv=>lhs;rw [←ZiH hm]
 refine ZbY (fun m (s:Int×LL)=>∃j,k≤j∧j+m=ns.length∧s=((j:Int),st.set im (mk2 it ((Zfb ns S O).take j)))) ?_ N (ns.length-k) _ ⟨k,by omega,by omega,rfl⟩ (by omega);rintro G m _ ⟨j,hj,hjm,rfl⟩ hG;unfold ZaL.p1;dsimp only;rw [zO him,Zan,ZeM,Len_eq (T.setIm h1 h2),Zaa];dsimp only;by_cases hlt:j<ns.length
 ·rw [aD (by simp;omega),zO him,Zan,ZeM,Zaa,zP h2,T.t,Zan];unfold Zgy;rw [Zdj,Zaa,zP h1,T.a,Zan,Zcc,show (ZaD.mk (aOf p room ns) (Zel lp))=tOf p room ns lp from rfl,Zlp p room lp hlt,Zaa];dsimp only;have hn:=hnew j hj hlt;have el:((Zfb ns S O).take j).length=j:=by simp;omega
  have fin : ∀s,s=stZ ns S O j→ZaL.p2 N G im (j:Int) s (st.set im (mk2 it ((Zfb ns S O).take j)))=some (st.set im (mk2 it (Zfb ns S O))):=by
   rintro s rfl;rw [ZtO him (by omega),←ZtQ hlt,ZaM (by omega) (by omega)];exact hG (m-1) _ (by omega) ⟨j+1,by omega,by omega,by rw [Int.natCast_add];rfl⟩
  rw [show (ns[j].en).Ahead=ns[j].ah from rfl];rcases Zeg T.tr hlt with ⟨z,a,e,_⟩ | ⟨q,hq,a,e,hq',_⟩
  ·rw [a,aE (by simp)];refine fin _ ?_;subst z;unfold stZ;rw [ZoA T.tr e,hn.1,hn.2,aD rfl]
  have ec:=ZrJ e S O;rw [ZrC T.tr hq'] at ec;have eq:(rowM ((Zfb ns S O).take j))[0+q]? = some (stZ ns S O q).ls:=Zjr (by rw [tI hq];exact Zgo hq');rw [a,aD (by simp<;>omega),Zah (by omega),Zah (by rw [ZhN,el];omega),zG,eq,Zan,ZcV,show (stZ ns S O q).child=chZ ns S O q from rfl,Zmc,show ((stZ ns S O q).out||(stZ ns S O q).verdict==2)=Zmn S O q from rfl,Zaa];have hj0:j≠0:=by omega
  cases hc:chZ ns S O q
  ·rw [aE (by simp)];refine fin _ ?_;unfold stZ;rw [ec,hc,hn.1,hn.2,aE hj0,uH]
  rw [aD rfl];refine fin _ ?_;unfold stZ;rw [ec,hc,hn.1,hn.2,aE hj0,rR]
 rw [aE (by simp;omega),zY (by simp;omega)]
structure ZiS (st:LL) (ia it im:Nat) (p:Zae) (room:Int) (ns:List Nd) (lp:List Int) (S:List Int) (O:List Bool):Prop where
 T:ZhB st ia it p room ns lp
 na:im≠ia
 nt:im≠it
 k : ∃k,k≤ns.length∧st[im]? = some (mk2 it ((Zfb ns S O).take k))∧∀i,k≤i→S.getD i 0=(if i=0 then 1 else 0)∧O.getD i false=false
 small:ns.length≤500
noncomputable def gst (st:LL) (im it:Nat) (ns:List Nd) (S:List Int) (O:List Bool):LL:=st.set im (mk2 it (Zfb ns S O))
def inB (ns:List Nd) (k:Int):Bool:=decide (0≤k)&&decide (k<(ns.length:Int))
theorem inB_true {ns:List Nd} {k:Int}:inB ns k=true↔0≤k∧k<(ns.length:Int):=by simp [inB]
theorem ZlY {ns:List Nd} {k:Int} (h:inB ns k=true) : ∃j:Nat,k=(j:Int)∧j<ns.length:=by
 rw [inB_true] at h;exact ⟨k.toNat,by omega,by omega⟩
section
variable {st:LL} {ia it im:Nat} {p:Zae} {room:Int} {ns:List Nd} {lp:List Int} {S:List Int} {O:List Bool}
theorem ZiS.im_lt (M:ZiS st ia it im p room ns lp S O):im<st.length:=by
 obtain ⟨k,_,h,_⟩:=M.k;exact (yD.1 h).1
theorem ZiS.gm (M:ZiS st ia it im p room ns lp S O):(gst st im it ns S O)[im]? = some (mk2 it (Zfb ns S O)):=zO M.im_lt
theorem ZiS.gst_len (M:ZiS st ia it im p room ns lp S O) : ∀i,ns.length≤i→S.getD i 0=(if i=0 then 1 else 0)∧O.getD i false=false:=by
 obtain ⟨k,hk,_,h⟩:=M.k;exact fun i hi=>h i (by omega)
theorem ZiS.gst (M:ZiS st ia it im p room ns lp S O):ZiS (gst st im it ns S O) ia it im p room ns lp S O:=
 ⟨M.T.setIm M.na M.nt,M.na,M.nt,⟨ns.length,Nat.le_refl _,by rw [M.gm,zY (by simp)],M.gst_len⟩,M.small⟩
theorem Zjf:F.gst (F.gst st im it ns S O) im it ns S O=F.gst st im it ns S O:=by unfold F.gst;rw [yX]
theorem ZqK (hN:600≤N) (M:ZiS st ia it im p room ns lp S O) (k:Int):ZbA N (some im) k st=some (inB ns k,gst st im it ns S O):=by
 unfold ZbA;obtain ⟨j,hj,hm,hn⟩:=M.k;rw [aE (by simp),grow_eq hN M.T M.na M.nt hm hj (fun i h1 _=>hn i h1) M.small,Zaa,show st.set im (mk2 it (Zfb ns S O))=gst st im it ns S O from rfl];by_cases h:0≤k
 ·rw [aD (by simpa using h),Zaa,M.gm,Zan,ZeM];simp [inB,h]
 rw [aE (by simpa using h)];simp [inB,h]
def atZ (ns:List Nd) (f:Nat→Bool) (k:Int):Bool:=inB ns k&&f k.toNat
theorem Zmq (hN:600≤N) (M:ZiS st ia it im p room ns lp S O) (k:Int):ZbX N (some im) k st=some (atZ ns (flZ ns S O) k,gst st im it ns S O):=by
 unfold ZbX;rw [ZqK hN M,Zaa];dsimp only;unfold atZ;cases h:inB ns k
 ·rw [aE (by simp)];rfl
 obtain ⟨j,rfl,hj⟩:=ZlY h;rw [aD rfl,Zaa,M.gm,Zan,ZeM,Zah (by omega),Zah (by simp<;>omega),zG,ZgS hj,Zan,ZcV,Zmc,Zaa,ZrC M.T.tr hj];show (if chZ ns S O j=true then _ else _)=_;cases chZ ns S O j<;>rfl
theorem Child_eq (hN:600≤N) (M:ZiS st ia it im p room ns lp S O) (k:Int):ZcM N (some im) k st=some (atZ ns (chZ ns S O) k,gst st im it ns S O):=by
 unfold ZcM;rw [ZqK hN M,Zaa];dsimp only;unfold atZ;cases h:inB ns k
 ·rw [aE (by simp)];rfl
 obtain ⟨j,rfl,hj⟩:=ZlY h;rw [aD rfl,Zaa,M.gm,Zan,ZeM,Zah (by omega),Zah (by simp<;>omega),zG,ZgS hj,Zan,ZcV];rfl
theorem Said_eq (hN:600≤N) (M:ZiS st ia it im p room ns lp S O) (k:Int):ZcZ N (some im) k st=some (if inB ns k=true then S.getD k.toNat 0 else 0,if inB ns k=true then O.getD k.toNat false else false,gst st im it ns S O):=by
 unfold ZcZ;rw [ZqK hN M,Zaa];dsimp only;cases h:inB ns k
 ·rw [aD (by rfl),aE (by simp),aE (by simp)]
 obtain ⟨j,rfl,hj⟩:=ZlY h;rw [aE (by simp),Zaa,M.gm,Zan,ZeM,Zah (by omega),Zah (by simp<;>omega),zG,ZgS hj,Zan,ZcV,aD rfl,aD rfl]
 try rfl
def Zjk (ns:List Nd) (k:Int):Int:=if inB ns k=true then (if k=0 then 1 else 0) else 5
theorem Zmk (hN:600≤N) (M:ZiS st ia it im p room ns lp S O) (k:Int):ZbW N (some im) k st=some (Zjk ns k,gst st im it ns S O):=by
 unfold ZbW Zjk;rw [aE (by simp),ZqK hN M,Zaa];dsimp only;cases h:inB ns k
 ·rw [aD (by rfl),aE (by simp)]
 rw [aE (by simp),aD rfl];by_cases h0:k=0
 ·rw [aD (by simpa using h0),aD h0]
 rw [aE (by simpa using h0),aE h0]
theorem full_ext {l:List ZaS} (hl:l.length=ns.length) (h : ∀i,i<ns.length→l[i]? = some (stZ ns S O i)):l=Zfb ns S O:=by
 refine xK fun i=>?_;rcases zV i ns.length with hi | hi
 ·rw [h i hi,Zgo hi]
 rw [zM (by omega),zM (by simp;omega)]
theorem ZoX (hN:600≤N) (T:ZhB st ia it p room ns lp) (na:im≠ia) (nt:im≠it) {l:List ZaS} (hm:st[im]? = some (mk2 it l)) (hl:l.length=ns.length)
  (h1 : ∀i,i<ns.length→∃c,l[i]? = some ⟨S.getD i 0,O.getD i false,c⟩) {fr:Int} {f:Nat} (hf:(if (1:Int)>fr then 1 else fr)=(f:Int)) (hfp:1≤f) (h0 : ∀i,i<ns.length→i<f→l[i]? = some (stZ ns S O i)) (small:ns.length≤500) :
  Zbh N (some im) fr st=some (st.set im (mk2 it (Zfb ns S O))):=by
 unfold Zbh;have him:im<st.length:=(yD.1 hm).1;rw [hf]
 conv=>lhs;rw [←ZiH hm]
 refine ZbY (fun m (s:(Option Nat)×Int×LL)=>∃(j:Nat) (l:List ZaS),1≤j∧ns.length≤j+m∧s=(some im,(j:Int),st.set im (mk2 it l))∧l.length=ns.length∧(∀i,i<ns.length→∃c,l[i]? = some ⟨S.getD i 0,O.getD i false,c⟩)∧(∀i,i<ns.length→i<j→l[i]? = some (stZ ns S O i))) ?_ N ns.length _ ⟨f,l,hfp,by omega,rfl,hl,h1,h0⟩ (by omega);rintro G m _ ⟨j,l,hj,hjm,rfl,hl,h1,h0⟩ hG;unfold Zbh.p1;dsimp only;rw [Zaa,zO him,Zan,ZeM,ZhN,hl];by_cases hlt:j<ns.length
 ·rw [aD (by simp<;>omega),Zaa,zP nt,T.t,Zan];unfold Zgy;rw [Zdj,Zaa,zP na,T.a,Zan,Zcc,show (ZaD.mk (aOf p room ns) (Zel lp))=tOf p room ns lp from rfl,Zlp p room lp hlt,Zaa];dsimp only;rw [show (ns[j].en).Ahead=ns[j].ah from rfl];obtain ⟨q,hq,a,e,hq',_⟩ : ∃q,q<j∧ns[j].ah=(q:Int)∧ZeL ns j=ZeL ns q ++ [j]∧∃hq:q<ns.length,True:=by
   rcases Zeg T.tr hlt with ⟨z,_,_,_⟩ | ⟨q,hq,a,e,hq',_⟩
   ·omega
   exact ⟨q,hq,a,e,hq',trivial⟩
  obtain ⟨c,hc⟩:=h1 j hlt;have ec:=ZrJ e S O;rw [ZrC T.tr hq'] at ec;have gq:=Zjr (h0 q hq' hq);have gj:=Zjr hc;have fin : ∀x,x=chZ ns S O j→G (some im,w64 ((j:Int)+1),zN (st.set im (mk2 it l)) im [zQ (some it),yC true 3 (zN (rowM l) (0+j) (ZaS.ls ⟨S.getD j 0,O.getD j false,x⟩))])=some (st.set im (mk2 it (Zfb ns S O))):=by
   rintro x rfl;rw [ZaM (by omega) (by omega),yX];refine hG (m-1) _ (by omega) ⟨j+1,l.set j (stZ ns S O j),by omega,by omega,?_,by simpa using hl,fun i hi=>?_,fun i hi hij=>?_⟩
   ·simp only [mk2,rowM,tC,yI];rfl
   ·by_cases hij:i=j
    ·subst hij;exact ⟨_,zO (by omega)⟩
    rw [zP (by omega)];exact h1 i hi
   by_cases hij':i=j
   ·subst hij';exact zO (by omega)
   rw [zP (by omega)];exact h0 i hi (by omega)
  rw [a,Zah (by omega),Zah (by omega),zG,gq,Zan,ZcV,Zmc,Zaa,zG,gj,Zan,ZcV,Zah (by omega),Zan,ZcV];show (if chZ ns S O q=true then _ else _)=_;cases hc:chZ ns S O q
  ·rw [aE (by simp)];refine fin (Zmn S O q) ?_;rw [ec,hc,uH]
  rw [aD rfl];refine fin true ?_;rw [ec,hc,rR]
 rw [aE (by simp<;>omega),full_ext hl fun i hi=>h0 i hi (by omega)]
end
end Go.Dn.F
namespace Go.Dn.F
open Go.Dn Go.Proofs
variable {N:Nat}
theorem ZhO {α:Type} {l:List α} {k:Nat} (hk:k<l.length) (v d:α) (i:Nat):(l.set k v).getD i d=if i=k then v else l.getD i d:=by
 rw [yG,yG];by_cases h:i=k
 ·subst h;rw [zO hk,aD rfl];rfl
 rw [zP (fun e=>h e.symm),aE h]
theorem ZsA {ns:List Nd} (ht:ZhC ns) {S S':List Int} {O O':List Bool} {k:Nat} (h : ∀x,x<k→Zmn S' O' x=Zmn S O x) {i:Nat} (hi:i<ns.length) (hik:i≤k):chZ ns S' O' i=chZ ns S O i:=by
 unfold chZ;rcases Zeg ht hi with ⟨_,_,e,_⟩ | ⟨q,hq,_,e,hq',_⟩
 ·rw [e];rfl
 rw [e,tB];have key : ∀l:List Nat,(∀x∈l,x<k)→l.any (Zmn S' O')=l.any (Zmn S O):=by
  intro l
  induction l with
  | nil=>intro _;rfl
  | cons y l ih=>intro hy;rw [vY,vY,h y (hy y (by simp)),ih fun x hx=>hy x (by simp [hx])]
 exact key _ fun x hx=>by have:=Zka ht hq' x hx;omega
section
variable {st:LL} {ia it im:Nat} {p:Zae} {room:Int} {ns:List Nd} {lp:List Int} {S:List Int} {O:List Bool}
theorem Zhi {ns:List Nd} {k:Int} (h:Zjk ns k=0) : ∃j:Nat,k=(j:Int)∧j<ns.length∧1≤j:=by
 unfold Zjk at h;cases hb:inB ns k
 ·rw [hb,aE (by simp)] at h;cases h
 obtain ⟨j,rfl,hj⟩:=ZlY hb;rw [hb,aD rfl] at h;refine ⟨j,rfl,hj,?_⟩;by_cases h0:(j:Int)=0
 ·rw [aD h0] at h;cases h
 omega
theorem ZsO (hN:600≤N) (M:ZiS st ia it im p room ns lp S O) {S':List Int} {O':List Bool} {j:Nat} (hj:j<ns.length) (hj1:1≤j) (hS : ∀i,i≠j→S'.getD i 0=S.getD i 0) (hO : ∀i,i≠j→O'.getD i false=O.getD i false) {x:ZaS} (hx:x=⟨S'.getD j 0,O'.getD j false,chZ ns S O j⟩) :
  Zbh N (some im) (j:Int) (zN (gst st im it ns S O) im [zQ (some it),yC true 3 (zN (rowM (Zfb ns S O)) (0+j) x.ls)])=some (gst st im it ns S' O'):=by
 subst hx;have hb : ∀i,i<j→Zmn S' O' i=Zmn S O i:=fun i hi=>by unfold Zmn;rw [hS i (by omega),hO i (by omega)]
 have e : [zQ (some it),yC true 3 (zN (rowM (Zfb ns S O)) (0+j) (ZaS.ls ⟨S'.getD j 0,O'.getD j false,chZ ns S O j⟩))]=mk2 it ((Zfb ns S O).set j ⟨S'.getD j 0,O'.getD j false,chZ ns S O j⟩):=by
  simp only [mk2,rowM,tC,yI]
 rw [e];unfold gst;rw [yX];have hlj:j<(Zfb ns S O).length:=by simpa using hj
 rw [ZoX (S:=S') (O:=O') (l:=(Zfb ns S O).set j ⟨S'.getD j 0,O'.getD j false,chZ ns S O j⟩) (f:=j) hN (M.T.setIm M.na M.nt) M.na M.nt (zO M.im_lt) (by simp) (fun i hi=>?_) (by rw [aE (by omega)]) hj1 (fun i hi hij=>?_) M.small,yX]
 ·by_cases h:i=j
  ·subst h;exact ⟨_,zO hlj⟩
  rw [zP (fun e=>h e.symm),Zgo hi,hS i h,hO i h];exact ⟨_,rfl⟩
 rw [zP (by omega),Zgo hi];unfold stZ;rw [ZsA M.T.tr hb hi (by omega),hS i (by omega),hO i (by omega)]
def invO (ns:List Nd) (O:List Bool) (k:Int):List Bool:=if Zjk ns k=0 then O.set k.toNat true else O
theorem ZjS (hN:600≤N) (M:ZiS st ia it im p room ns lp S O) (hO:O.length=600) (k:Int):ZbE N (some im) k st=some (Zjk ns k,gst st im it ns S (invO ns O k)):=by
 unfold ZbE invO;rw [Zmk hN M,Zaa];dsimp only;by_cases h:Zjk ns k=0
 ·rw [aE (by simpa using h),aD h];obtain ⟨j,rfl,hj,hj1⟩:=Zhi h;have sm:=M.small;rw [Zaa,M.gm,Zan,ZeM,Zah (by omega),Zah (by simp<;>omega),zG,ZgS hj,Zan,ZcV,ZsO (S':=S) (O':=O.set j true) hN M hj hj1 (fun _ _=>rfl) (fun i hi=>by rw [ZhO (by omega),aE hi]) (by unfold stZ;rw [ZhO (by omega),aD rfl]),Zaa,h]
 rw [aD (by simpa using h),aE h]
def Zqh (right:Bool):Int:=if right=true then 1 else 2
def vrdE (ns:List Nd) (S:List Int) (k:Int) (right:Bool):Int:=if Zjk ns k=0 then (if S.getD k.toNat 0≠0∧S.getD k.toNat 0≠Zqh right then 1 else 0) else Zjk ns k
def vrdS (ns:List Nd) (S:List Int) (k:Int) (right:Bool):List Int:=if vrdE ns S k right=0 then S.set k.toNat (Zqh right) else S
theorem Zqb (hN:600≤N) (M:ZiS st ia it im p room ns lp S O) (hS:S.length=600) {j:Nat} (hj:j<ns.length) (hj1:1≤j) (w:Int):ZaB.p2 N im (j:Int) w (gst st im it ns S O)=some (0,gst st im it ns (S.set j w) O):=by
 unfold ZaB.p2;have sm:=M.small;rw [M.gm,Zan,ZeM,zG,ZgS hj,Zan,ZcV,ZsO (S':=S.set j w) (O':=O) hN M hj hj1 (fun i hi=>by rw [ZhO (by omega),aE hi]) (fun _ _=>rfl) (by unfold stZ;rw [ZhO (by omega),aD rfl]),Zaa]
theorem ZsF (hN:600≤N) (M:ZiS st ia it im p room ns lp S O) (hS:S.length=600) (k:Int) (right:Bool):ZaB N (some im) k right st=some (vrdE ns S k right,gst st im it ns (vrdS ns S k right) O):=by
 unfold ZaB;rw [Zmk hN M,Zaa];dsimp only;unfold vrdS vrdE;by_cases h:Zjk ns k=0
 ·rw [aE (by simpa using h),aD h];obtain ⟨j,rfl,hj,hj1⟩:=Zhi h;have p1 : ∀w,ZaB.p1 N (some im) (j:Int) w (gst st im it ns S O)=if S.getD j 0≠0∧S.getD j 0≠w then some (1,gst st im it ns S O) else some (0,gst st im it ns (S.set j w) O):=by
   intro w;unfold ZaB.p1;rw [Zaa,M.gm,Zan,ZeM,Zah (by omega),Zah (by simp<;>omega),zG,ZgS hj,Zan,ZcV,show (stZ ns S O j).verdict=S.getD j 0 from rfl,Zqb hN M hS hj hj1];by_cases h1:S.getD j 0=0
   ·rw [aE (by simpa using h1),aE (fun e=>e.1 h1)]
   rw [aD (by simpa using h1)];by_cases h2:S.getD j 0=w
   ·rw [aE (by simpa using h2),aE (fun e=>e.2 h2)]
   rw [aD (by simpa using h2),aD ⟨h1,h2⟩]
  rw [p1,p1,zG];cases right
  ·rw [aE (by simp),show Zqh false=2 from rfl];split<;>simp_all
  rw [aD rfl,show Zqh true=1 from rfl];split<;>simp_all
 rw [aD (by simpa using h),aE h,aE h]
def Zox (ns:List Nd) (a:Int) (i:Nat):Bool:=ZgN ns (i:Int) a||ZgN ns a (i:Int)
def rsF (ns:List Nd) (a:Int) (S:List Int) (j i:Nat):Int:=if decide (i<j)&&Zox ns a i&&S.getD i 0==2 then 0 else S.getD i 0
def roF (ns:List Nd) (a:Int) (O:List Bool) (j i:Nat):Bool:=if decide (i<j)&&Zox ns a i then false else O.getD i false
def recS (ns:List Nd) (a:Int) (S:List Int):List Int:=(vM S.length).map (rsF ns a S ns.length)
def recO (ns:List Nd) (a:Int) (O:List Bool):List Bool:=(vM O.length).map (roF ns a O ns.length)
theorem ZnW (ns:List Nd) (a:Int) (S:List Int) (i:Nat):(recS ns a S).getD i 0=rsF ns a S ns.length i:=by
 unfold recS;rw [yG];rcases zV i S.length with h | h
 ·simp [h]
 rw [zM (by simpa using h)];unfold rsF;rw [yG,zM h];simp
theorem ZnX (ns:List Nd) (a:Int) (O:List Bool) (i:Nat):(recO ns a O).getD i false=roF ns a O ns.length i:=by
 unfold recO;rw [yG];rcases zV i O.length with h | h
 ·simp [h]
 rw [zM (by simpa using h)];unfold roF;rw [yG,zM h];simp
def ZlD (ns:List Nd) (a:Int) (S:List Int) (O:List Bool) (j:Nat):List ZaS:=(vM ns.length).map fun i=>⟨rsF ns a S j i,roF ns a O j i,chZ ns S O i⟩
theorem ZhI {ns:List Nd} {a:Int} {S:List Int} {O:List Bool} {j i:Nat} (hi:i<ns.length):(ZlD ns a S O j)[i]? = some ⟨rsF ns a S j i,roF ns a O j i,chZ ns S O i⟩:=by simp [ZlD,hi]
@[simp] theorem recL_length (ns:List Nd) (a:Int) (S:List Int) (O:List Bool) (j:Nat):(ZlD ns a S O j).length=ns.length:=by simp [ZlD]
theorem Ztn (ns:List Nd) (a:Int) (S:List Int) (O:List Bool):ZlD ns a S O 0=Zfb ns S O:=by
 unfold ZlD Zfb;refine vR fun i _=>?_;unfold rsF roF stZ;simp
theorem Zrl {ns:List Nd} {a:Int} {S:List Int} {O:List Bool} {j:Nat} (hj:j<ns.length) (hc:Zox ns a j=true):ZlD ns a S O (j+1)=(ZlD ns a S O j).set j ⟨if S.getD j 0=2 then 0 else S.getD j 0,false,chZ ns S O j⟩:=by
 refine xK fun i=>?_;rcases zV i ns.length with hi | hi
 ·rw [ZhI hi];by_cases h:i=j
  ·subst h;rw [zO (by simpa using hj)];unfold rsF roF;simp [hc]
  rw [zP (fun e=>h e.symm),ZhI hi];unfold rsF roF;rw [show decide (i<j+1)=decide (i<j) from decide_eq_decide.2 (by omega)]
 rw [zM (by simpa using hi),zM (by simpa using hi)]
theorem recL_not {ns:List Nd} {a:Int} {S:List Int} {O:List Bool} {j:Nat} (hj:j<ns.length) (hc:Zox ns a j=false):ZlD ns a S O (j+1)=ZlD ns a S O j:=by
 refine xK fun i=>?_;rcases zV i ns.length with hi | hi
 ·rw [ZhI hi,ZhI hi];unfold rsF roF;by_cases h:i=j
  ·subst h;simp [hc]
  rw [show decide (i<j+1)=decide (i<j) from decide_eq_decide.2 (by omega)]
 rw [zM (by simpa using hi),zM (by simpa using hi)]
def rcnS (ns:List Nd) (S:List Int) (k:Int):List Int:=if Zjk ns k=0 then recS ns k S else S
def rcnO (ns:List Nd) (O:List Bool) (k:Int):List Bool:=if Zjk ns k=0 then recO ns k O else O
theorem ZoG (hN:600≤N) (M:ZiS st ia it im p room ns lp S O) (k:Int):Zam N (some im) k st=some (Zjk ns k,gst st im it ns (rcnS ns S k) (rcnO ns O k)):=by
 unfold Zam rcnS rcnO;rw [Zmk hN M,Zaa];dsimp only;by_cases h:Zjk ns k=0
 ·rw [aE (by simpa using h),aD h,aD h,h];have sm:=M.small;have hl:=M.T.len;obtain ⟨z,hz,hz0,hz1⟩:=Zhi h;rw [Zaa,M.gm,Zan,ZeM];have e0:gst st im it ns S O=st.set im (mk2 it (ZlD ns k S O 0)):=by rw [Ztn];rfl
  rw [e0];refine ZbY (fun m (s:Int×LL)=>∃j:Nat,j+m=ns.length∧s=((j:Int),st.set im (mk2 it (ZlD ns k S O j)))) ?_ N ns.length _ ⟨0,by omega,rfl⟩ (by omega);rintro G m _ ⟨j,hjm,rfl⟩ hG;unfold Zam.p1;dsimp only;rw [ZhN,Zgn];have him:=M.im_lt;by_cases hlt:j<ns.length
  ·have hg:=Zjr (ZhI (a:=k) (S:=S) (O:=O) (j:=j) hlt);rw [aD (by simp<;>omega),zO him,Zan,ZeM,Zah (by omega),Zah (by simp<;>omega),Zaa,zP M.nt,M.T.t,Zan];unfold Zgy;rw [Zdj,Zaa,zP M.na,M.T.a,Zan,Zcc,show (ZaD.mk (aOf p room ns) (Zel lp))=tOf p room ns lp from rfl,Zqa hN M.T.tr M.T.lv (by omega),Zaa,Zqa hN M.T.tr M.T.lv (by omega),Zaa,zG,hg];have w1:w64 ((j:Int)+1)=((j+1:Nat):Int):=by rw [ZaM (by omega) (by omega)];rfl
   have nxt : ∀l,l=ZlD ns k S O (j+1)→Zam.p2 N G im k (rowM (Zfb ns S O)) (j:Int) (st.set im (mk2 it l))=some (0,gst st im it ns (recS ns k S) (recO ns k O)):=by
    rintro l rfl;unfold Zam.p2;rw [w1];exact hG (m-1) _ (by omega) ⟨j+1,by omega,rfl⟩
   have hrs:rsF ns k S j j=S.getD j 0:=by unfold rsF;simp
   have sw : ∀x:ZaS,[zQ (some it),yC true 3 (zN (rowM (ZlD ns k S O j)) (0+j) x.ls)]=mk2 it ((ZlD ns k S O j).set j x):=fun x=>by simp only [mk2,rowM,tC,yI]
   have sg : ∀x:ZaS,(zN (rowM (ZlD ns k S O j)) (0+j) x.ls)[0+j]? = some x.ls:=fun x=>zO (by simp;omega);have body:Zox ns k j=true→(Zde (some (ZaS.ls ⟨rsF ns k S j j,roF ns k O j j,chZ ns S O j⟩)) Zcz fun x31=>
     Zde ((zN (rowM (ZlD ns k S O j)) (0+j) (ZaS.ls {x31 with out:=false}))[0+j]?) Zcz fun x32=>
     if (x32.verdict==2)=true then
      Zam.p2 N G im k (rowM (Zfb ns S O)) (j:Int) (zN (zN (st.set im (mk2 it (ZlD ns k S O j))) im [zQ (some it),yC true 3 (zN (rowM (ZlD ns k S O j)) (0+j) (ZaS.ls {x31 with out:=false}))]) im [zQ (some it),yC true 3 (zN (zN (rowM (ZlD ns k S O j)) (0+j) (ZaS.ls {x31 with out:=false})) (0+j) (ZaS.ls {x32 with verdict:=0}))])
     else Zam.p2 N G im k (rowM (Zfb ns S O)) (j:Int) (zN (st.set im (mk2 it (ZlD ns k S O j))) im [zQ (some it),yC true 3 (zN (rowM (ZlD ns k S O j)) (0+j) (ZaS.ls {x31 with out:=false}))]))=some (0,gst st im it ns (recS ns k S) (recO ns k O)):=by
    intro hc;rw [Zan,ZcV,sg,Zan,ZcV];dsimp only;rw [yX,yX,sw,yX,sw,hrs];by_cases h2:S.getD j 0=2
    ·rw [aD (by simpa using h2)];exact nxt _ (by rw [Zrl hlt hc,aD h2])
    rw [aE (by simpa using h2),yX];exact nxt _ (by rw [Zrl hlt hc,aE h2])
   cases hw:ZgN ns (j:Int) k
   ·rw [aE (by simp)];cases hw2:ZgN ns k (j:Int)
    ·rw [aE (by simp)];exact nxt _ (by rw [recL_not hlt (by unfold Zox;rw [hw,hw2];rfl)])
    rw [aD rfl];exact body (by unfold Zox;rw [hw,hw2];rfl)
   rw [aD rfl];exact body (by unfold Zox;rw [hw];rfl)
  have hj:j=ns.length:=by omega
  subst hj;rw [aE (by simp<;>omega),ZoX (S:=recS ns k S) (O:=recO ns k O) (l:=ZlD ns k S O ns.length) (f:=1) hN (M.T.setIm M.na M.nt) M.na M.nt (zO M.im_lt) (by simp) (fun i hi=>?_) rfl (Nat.le_refl _) (fun i hi hi1=>?_) M.small,Zaa,yX]
  ·rfl
  ·rw [ZhI hi,ZnW,ZnX];exact ⟨_,rfl⟩
  have h0:i=0:=by omega
  subst h0;have e:ZeL ns 0 = [0]:=by
   rcases Zeg M.T.tr hi with ⟨_,_,e,_⟩ | ⟨q,hq,_⟩
   ·exact e
   omega
  rw [ZhI hi];unfold stZ;rw [ZnW,ZnX,ZoA M.T.tr e,ZoA M.T.tr e]
 rw [aD (by simpa using h),aE h,aE h]
end
end Go.Dn.F
namespace Go.Dn.F
open Go.Dn Go.Proofs
variable {N:Nat}
def hvZ (ns:List Nd) (x y:Nat):Bool:=
 match ns[x]?,ns[y]? with
 | some a,some b=>decide (b.wk<a.wk)||(a.wk==b.wk&&decide (x<y))
 | _,_=>false
theorem Zrx (p:Zae) (room:Int) (ns:List Nd) (k:Int):Zcb N (aOf p room ns) k=some (decide (0≤k∧k<(ns.length:Int))):=by
 unfold Zcb;rw [show (aOf p room ns).list=ZhZ ns from rfl,Zhg];by_cases h:k≥0
 ·rw [aD (by simpa using h)];congr 1;simp;omega
 rw [aE (by simpa using h),decide_eq_false (by omega)]
theorem hvZ_at {ns:List Nd} {x y:Nat} (hx:x<ns.length) (hy:y<ns.length):hvZ ns x y=(decide (ns[y].wk<ns[x].wk)||(ns[x].wk==ns[y].wk&&decide (x<y))):=by
 unfold hvZ;rw [zR hx,zR hy]
theorem Zny (hN:10≤N) (p:Zae) (room:Int) {ns:List Nd} (lp:List Int) (ht:ZhC ns) {a b:Nat} (ha:a<ns.length) (hb:b<ns.length):Zcj N (tOf p room ns lp) (a:Int) (b:Int)=some (hvZ ns a b):=by
 unfold Zcj ZcJ;rw [show (tOf p room ns lp).store=aOf p room ns from rfl,Zrx,Zaa];rw [aE (by simp;omega),Zrx,Zaa,aE (by simp;omega)];rw [show (aOf p room ns).list=ZhZ ns from rfl,Zhg,Zah (by omega),Zah (by omega),zG,ZkW ha,Zan,Zfp,Zah (by omega),Zah (by omega),zG,ZkW hb,Zan,Zfp,show (ns[a].en).Work=nw ns[a].wk from rfl,show (ns[b].en).Work=nw ns[b].wk from rfl,ZhS hN (ht.wk _ (yM ha)) (ht.wk _ (yM hb)),Zaa,hvZ_at ha hb];unfold cmp;by_cases h1:ns[a].wk<ns[b].wk
 ·rw [aD h1,aE (by simp),aE (by simp)];have e1 : ¬ ns[b].wk<ns[a].wk:=by omega
  have e2:ns[a].wk≠ns[b].wk:=by omega
  simp [e1,e2]
 rw [aE h1];by_cases h2:ns[b].wk<ns[a].wk
 ·rw [aD h2,aD (by simp)];simp [h2]
 rw [aE h2,aE (by simp),aD (by simp)];have e2:ns[a].wk=ns[b].wk:=by omega
 simp [h2,e2]
theorem ZkN (hN:10≤N) (p:Zae) (room:Int) {ns:List Nd} (lp:List Int) {a:Nat} (ha:a<ns.length):Zcj N (tOf p room ns lp) (a:Int) (-1)=some true:=by
 unfold Zcj ZcJ;rw [show (tOf p room ns lp).store=aOf p room ns from rfl,Zrx,Zaa];rw [aE (by simp;omega),Zrx,Zaa,aD (by simp),Zaa];simp;omega
section
variable {st:LL} {ia it im:Nat} {p:Zae} {room:Int} {ns:List Nd} {lp:List Int} {S:List Int} {O:List Bool}
def allR (ns:List Nd) (S:List Int) (k:Nat):Bool:=(ZeL ns k).all fun x=>S.getD x 0==1
def vlZ (ns:List Nd) (S:List Int) (O:List Bool) (k:Nat):Bool:=allR ns S k && !flZ ns S O k
theorem ZoN (M:ZiS st ia it im p room ns lp S O) : ∀(k n:Nat),k<ns.length→k+2≤n→loopN (ZaY.p1 N im (gst st im it ns S O)) n (k:Int)=some (allR ns S k):=by
 intro k
 induction k using uD with
 | ind k ih=>
  intro n hk hn;obtain ⟨n,rfl⟩ : ∃m,n=m+1:=⟨n-1,by omega⟩
  have T:=M.gst.T;show ZaY.p1 N im (gst st im it ns S O) (loopN (ZaY.p1 N im (gst st im it ns S O)) n) (k:Int)=_;generalize hc:loopN (ZaY.p1 N im (gst st im it ns S O)) n=c;unfold ZaY.p1;rw [aD (by simp<;>omega),M.gm,Zan,ZeM,Zah (by omega),Zah (by simp<;>omega),zG,ZgS hk,Zan,ZcV,show (stZ ns S O k).verdict=S.getD k 0 from rfl];rw [Zaa,T.t,Zan];unfold Zgy;rw [Zdj,Zaa,T.a,Zan,Zcc,show (ZaD.mk (aOf p room ns) (Zel lp))=tOf p room ns lp from rfl,Zlp p room lp hk,Zaa];dsimp only;rw [show (ns[k].en).Ahead=ns[k].ah from rfl];unfold allR;by_cases h:S.getD k 0=1
  ·have h':(S.getD k 0==1)=true:=by rw [h];rfl
   rw [aE (by rw [h];decide)];rcases Zeg M.T.tr hk with ⟨_,a,e,_⟩ | ⟨q,hq,a,e,hq',_⟩
   ·obtain ⟨n,rfl⟩ : ∃m,n=m+1:=⟨n-1,by omega⟩
    rw [a,e,←hc];show ZaY.p1 N im (gst st im it ns S O) _ (-1)=_;unfold ZaY.p1;rw [aE (by simp)];simp only [yR,sX,h',Bool.and_true]
   rw [a,←hc,ih q hq n hq' (by omega),e];unfold allR;simp only [List.all_append,yR,sX,h',Bool.and_true]
  rw [aD (by simpa using h)];have hm:=ZnI M.T.tr hk;symm;rw [Option.some.injEq,List.all_eq_false];exact ⟨k,hm,by simpa using h⟩
theorem Zli (hN:600≤N) (M:ZiS st ia it im p room ns lp S O) (k:Int):ZaY N (some im) k st=some (atZ ns (vlZ ns S O) k,gst st im it ns S O):=by
 unfold ZaY;rw [ZqK hN M,Zaa];dsimp only;cases h:inB ns k
 ·rw [aD (by rfl)];unfold atZ;rw [h];rfl
 obtain ⟨j,rfl,hj⟩:=ZlY h;rw [aE (by simp),Zmq hN M.gst,Zaa,Zjf];dsimp only;have sm:=M.small;have e1:atZ ns (flZ ns S O) (j:Int)=flZ ns S O j:=by unfold atZ;rw [h];simp
 have e2:atZ ns (vlZ ns S O) (j:Int)=vlZ ns S O j:=by unfold atZ;rw [h];simp
 rw [e1,e2];unfold vlZ;cases hf:flZ ns S O j
 ·rw [aE (by simp),Zaa,ZoN M j N hj (by omega),Zaa];simp
 rw [aD rfl];simp
def ZkO (ns:List Nd) (f:Nat→Bool):Nat→Nat→Nat→Nat
 | 0,_,out=>out
 | m+1,j,out=>ZkO ns f m (j+1) (if f j&&hvZ ns j out then j else out)
def Zin (ns:List Nd) (f:Nat→Bool):Nat:=ZkO ns f ns.length 0 0
theorem Zkg {ns:List Nd} (h:0<ns.length) (f:Nat→Bool):Zin ns f=ZkO ns f (ns.length-1) 1 0:=by
 unfold Zin;obtain ⟨m,hm⟩ : ∃m,ns.length=m+1:=⟨ns.length-1,by omega⟩
 rw [hm];show ZkO ns f m 1 (if f 0&&hvZ ns 0 0 then 0 else 0)=_;rw [show (if f 0&&hvZ ns 0 0 then 0 else 0)=0 by split<;>rfl];rfl
theorem ZlG (hN:600≤N) (M:ZiS st ia it im p room ns lp S O) (h0:0<ns.length) (hf:vlZ ns S O 0=true):Zcd N (some im) st=some ((Zin ns (vlZ ns S O):Int),gst st im it ns S O):=by
 unfold Zcd Zag;rw [ZqK hN M,Zaa];dsimp only;have i0:inB ns 0=true:=inB_true.2 ⟨by omega,by omega⟩;have sm:=M.small;have T:=M.gst.T;rw [i0,aE (by simp),Zaa,M.gm,Zan,ZeM]
 suffices h:loopN (Zag.p1 N im (some im) (rowM (Zfb ns S O))) N (-1,0,gst st im it ns S O)=some ((Zin ns (vlZ ns S O):Int),gst st im it ns S O) by rw [h,Zaa]
 refine ZbY (fun m (s:Int×Int×LL)=>∃j:Nat,j+m=ns.length∧((j=0∧s=(-1,0,gst st im it ns S O))∨(1≤j∧∃out:Nat,out<ns.length∧s=((out:Int),(j:Int),gst st im it ns S O)∧ZkO ns (vlZ ns S O) m j out=Zin ns (vlZ ns S O)))) ?_ N ns.length _ ⟨0,by omega,.inl ⟨rfl,rfl⟩⟩ (by omega);rintro G m _ ⟨j,hjm,hs⟩ hG;unfold Zag.p1 Zag.p2;rcases hs with ⟨rfl,rfl⟩ | ⟨hj1,out,ho,rfl,hp⟩
 ·dsimp only;have e2:atZ ns (vlZ ns S O) 0=true:=by unfold atZ;rw [i0];exact hf
  rw [ZhN,Zgn,aD (by simp<;>omega),Zli hN M.gst,Zaa,Zjf];dsimp only;rw [e2,aD rfl,M.gm,Zan,ZeM,Zaa,T.t,Zan];unfold Zgy;rw [Zdj,Zaa,T.a,Zan,Zcc,show (ZaD.mk (aOf p room ns) (Zel lp))=tOf p room ns lp from rfl,show (0:Int)=((0:Nat):Int) from rfl,ZkN (by omega) p room lp h0,Zaa,aD rfl];exact hG (m-1) _ (by omega) ⟨1,by omega,.inr ⟨by omega,0,h0,rfl,by rw [Zkg h0,show m-1=ns.length-1 by omega]⟩⟩
 dsimp only;rw [ZhN,Zgn];by_cases hlt:j<ns.length
 ·have ij:inB ns (j:Int)=true:=inB_true.2 ⟨by omega,by omega⟩;have e2:atZ ns (vlZ ns S O) (j:Int)=vlZ ns S O j:=by unfold atZ;rw [ij];simp
  have w1:w64 ((j:Int)+1)=((j+1:Nat):Int):=by rw [ZaM (by omega) (by omega)];rfl
  obtain ⟨m,rfl⟩ : ∃x,m=x+1:=⟨m-1,by omega⟩
  have hp':ZkO ns (vlZ ns S O) m (j+1) (if vlZ ns S O j&&hvZ ns j out then j else out)=Zin ns (vlZ ns S O):=hp;rw [aD (by simp<;>omega),Zli hN M.gst,Zaa,Zjf];dsimp only;rw [e2,w1];cases hv:vlZ ns S O j
  ·rw [aE (by simp)];rw [hv,tV,aE (by simp)] at hp';exact hG m _ (by omega) ⟨j+1,by omega,.inr ⟨by omega,out,ho,rfl,hp'⟩⟩
  rw [aD rfl,M.gm,Zan,ZeM,Zaa,T.t,Zan];unfold Zgy;rw [Zdj,Zaa,T.a,Zan,Zcc,show (ZaD.mk (aOf p room ns) (Zel lp))=tOf p room ns lp from rfl,Zny (by omega) p room lp T.tr hlt ho,Zaa];rw [hv,xJ] at hp';cases hh:hvZ ns j out
  ·rw [aE (by simp)];rw [hh,aE (by simp)] at hp';exact hG m _ (by omega) ⟨j+1,by omega,.inr ⟨by omega,out,ho,rfl,hp'⟩⟩
  rw [aD rfl];rw [hh,aD rfl] at hp';exact hG m _ (by omega) ⟨j+1,by omega,.inr ⟨by omega,j,hlt,rfl,hp'⟩⟩
 rw [aE (by simp<;>omega)];have:m=0:=by omega
 subst this;rw [←hp];rfl
def ldZ (ns:List Nd) (S:List Int) (O:List Bool) (k:Nat):Bool:=!flZ ns S O k
theorem ZrS (hN:600≤N) (M:ZiS st ia it im p room ns lp S O) {j:Nat} (hj:j<ns.length):Zdm N (j:Int) (some im) st=some (ldZ ns S O j,gst st im it ns S O):=by
 unfold Zdm;have ij:inB ns (j:Int)=true:=inB_true.2 ⟨by omega,by omega⟩;rw [Zmq hN M,Zaa];unfold atZ ldZ;rw [ij];simp
theorem Zqz (hN:600≤N) (M:ZiS st ia it im p room ns lp S O) (h0:0<ns.length) (hf:ldZ ns S O 0=true):Zda N (some im) st=some ((Zin ns (ldZ ns S O):Int),gst st im it ns S O):=by
 unfold Zda Zaf;rw [ZqK hN M,Zaa];dsimp only;have i0:inB ns 0=true:=inB_true.2 ⟨by omega,by omega⟩;have sm:=M.small;have T:=M.gst.T;rw [i0,aE (by simp),Zaa,M.gm,Zan,ZeM]
 suffices h:loopN (Zaf.p1 N im (some im) (rowM (Zfb ns S O))) N (-1,0,gst st im it ns S O)=some ((Zin ns (ldZ ns S O):Int),gst st im it ns S O) by rw [h,Zaa]
 refine ZbY (fun m (s:Int×Int×LL)=>∃j:Nat,j+m=ns.length∧((j=0∧s=(-1,0,gst st im it ns S O))∨(1≤j∧∃out:Nat,out<ns.length∧s=((out:Int),(j:Int),gst st im it ns S O)∧ZkO ns (ldZ ns S O) m j out=Zin ns (ldZ ns S O)))) ?_ N ns.length _ ⟨0,by omega,.inl ⟨rfl,rfl⟩⟩ (by omega);rintro G m _ ⟨j,hjm,hs⟩ hG;unfold Zaf.p1 Zaf.p2;rcases hs with ⟨rfl,rfl⟩ | ⟨hj1,out,ho,rfl,hp⟩
 ·dsimp only;rw [ZhN,Zgn,aD (by simp<;>omega),show (0:Int)=((0:Nat):Int) from rfl,ZrS hN M.gst h0,Zaa,Zjf];dsimp only;rw [hf,aD rfl,M.gm,Zan,ZeM,Zaa,T.t,Zan];unfold Zgy;rw [Zdj,Zaa,T.a,Zan,Zcc,show (ZaD.mk (aOf p room ns) (Zel lp))=tOf p room ns lp from rfl,ZkN (by omega) p room lp h0,Zaa,aD rfl];exact hG (m-1) _ (by omega) ⟨1,by omega,.inr ⟨by omega,0,h0,rfl,by rw [Zkg h0,show m-1=ns.length-1 by omega]⟩⟩
 dsimp only;rw [ZhN,Zgn];by_cases hlt:j<ns.length
 ·have w1:w64 ((j:Int)+1)=((j+1:Nat):Int):=by rw [ZaM (by omega) (by omega)];rfl
  obtain ⟨m,rfl⟩ : ∃x,m=x+1:=⟨m-1,by omega⟩
  have hp':ZkO ns (ldZ ns S O) m (j+1) (if ldZ ns S O j&&hvZ ns j out then j else out)=Zin ns (ldZ ns S O):=hp;rw [aD (by simp<;>omega),ZrS hN M.gst hlt,Zaa,Zjf];dsimp only;rw [w1];cases hv:ldZ ns S O j
  ·rw [aE (by simp)];rw [hv,tV,aE (by simp)] at hp';exact hG m _ (by omega) ⟨j+1,by omega,.inr ⟨by omega,out,ho,rfl,hp'⟩⟩
  rw [aD rfl,M.gm,Zan,ZeM,Zaa,T.t,Zan];unfold Zgy;rw [Zdj,Zaa,T.a,Zan,Zcc,show (ZaD.mk (aOf p room ns) (Zel lp))=tOf p room ns lp from rfl,Zny (by omega) p room lp T.tr hlt ho,Zaa];rw [hv,xJ] at hp';cases hh:hvZ ns j out
  ·rw [aE (by simp)];rw [hh,aE (by simp)] at hp';exact hG m _ (by omega) ⟨j+1,by omega,.inr ⟨by omega,out,ho,rfl,hp'⟩⟩
  rw [aD rfl];rw [hh,aD rfl] at hp';exact hG m _ (by omega) ⟨j+1,by omega,.inr ⟨by omega,j,hlt,rfl,hp'⟩⟩
 rw [aE (by simp<;>omega)];have:m=0:=by omega
 subst this;rw [←hp];rfl
end
end Go.Dn.F
namespace Go.Dn.F
open Go.Dn Go.Proofs
variable {N:Nat}
noncomputable def rm2 (S:List Int) (O:List Bool):List L:=[zI .i64 600 S,L.brr 600 O]
theorem Zko {α:Type} (S:List Int) (O:List Bool) (k:ZaF→Option α):Zco (rm2 S O) k=k ⟨S,O⟩:=rfl
noncomputable def rst (st:LL) (ir:Nat) (S:List Int) (O:List Bool):LL:=st.set ir (rm2 S O)
structure ZmJ (st:LL) (ib ir:Nat) (p:Zae) (room:Int) (ns:List Nd) (S:List Int) (O:List Bool):Prop where
 b:st[ib]? = some (rOf p room ns).lo
 r:st[ir]? = some (rm2 S O)
 ne:ir≠ib
 tr:ZhC ns
 small:ns.length≤500
 S6:S.length=600
 O6:O.length=600
 pos : ∀i,0≤S.getD i 0
theorem ZlO {l:List Nat} {i:Nat} (h:i<l.length):(Zel (ZuA l))[0+i]? = some [L.int .i64 ((l[i]:Nat):Int)]:=by simp [Zel,ZuA,h]
theorem Zoi (l:List Nat):len (Zel (ZuA l))=(l.length:Int):=by simp [len,Zel,ZuA]
theorem Zkf (l:List Int):ZeB (Zel l)=true:=by
 unfold ZeB Zel;simp [L.plain]
theorem Zjg {α:Type} (x:Int) (k:Int→Option α):ZdX [L.int .i64 x] k=k x:=rfl
section
variable {st:LL} {ib ir:Nat} {p:Zae} {room:Int} {ns:List Nd} {S:List Int} {O:List Bool}
theorem ZmJ.same (R:ZmJ st ib ir p room ns S O):rst st ir S O=st:=ZiH R.r
theorem ZmJ.put (R:ZmJ st ib ir p room ns S O) {S':List Int} {O':List Bool} (h1:S'.length=600) (h2:O'.length=600) (h3 : ∀i,0≤S'.getD i 0):ZmJ (rst st ir S' O') ib ir p room ns S' O':=
 ⟨by unfold rst;rw [zP R.ne];exact R.b,zO (yD.1 R.r).1,R.ne,R.tr,R.small,h1,h2,h3⟩
theorem ZnY (p:Zae) (room:Int) (ns:List Nd):len (rOf p room ns).List_=(ns.length:Int):=by
 rw [show (rOf p room ns).List_=Zkb (ns.map Nd.hd) from rfl];simp
theorem Zke (R:ZmJ st ib ir p room ns S O) (k:Int):Zdi N (some ib) k st=some (Zjk ns k,st):=by
 unfold Zdi Zjk;by_cases h1:k<0
 ·rw [aD (by simpa using h1),aE (by rw [inB_true];omega)]
 rw [aE (by simpa using h1),Zaa,R.b,Zan,Zbk,ZnY];by_cases h2:k≥(ns.length:Int)
 ·rw [aD (by simpa using h2),aE (by rw [inB_true];omega)]
 rw [aE (by simpa using h2),aD (c:=inB ns k=true) (by rw [inB_true];omega)];by_cases h3:k=0
 ·rw [aD (by simpa using h3),aD h3]
 rw [aE (by simpa using h3),aE h3]
theorem ZmE (R:ZmJ st ib ir p room ns S O) (k:Int):ZaR N (some ir) (some ib) k st=some (Zjk ns k,rst st ir S (invO ns O k)):=by
 unfold ZaR ZaR.p1 invO;rw [Zke R,Zaa];dsimp only;by_cases h:Zjk ns k=0
 ·rw [aD (by simpa using h),aD h];obtain ⟨j,rfl,hj,hj1⟩:=Zhi h;have sm:=R.small;rw [Zaa,Zah (by omega),Zah (by omega),R.r,Zan,Zko,zG];rfl
 rw [aE (by simpa using h),aE h,R.same]
theorem Zqx (R:ZmJ st ib ir p room ns S O) (k:Int) (right:Bool):ZaZ N (some ir) (some ib) k right st=some (vrdE ns S k right,rst st ir (vrdS ns S k right) O):=by
 unfold ZaZ;rw [Zke R,Zaa];dsimp only;unfold vrdS vrdE;by_cases h:Zjk ns k=0
 ·rw [aE (by rw [h];simp),aD h];obtain ⟨j,rfl,hj,hj1⟩:=Zhi h;have sm:=R.small;have p1 : ∀w,ZaZ.p1 N (some ir) (j:Int) w st=if S.getD j 0≠0∧S.getD j 0≠w then some (1,rst st ir S O) else some (0,rst st ir (S.set j w) O):=by
   intro w;unfold ZaZ.p1;rw [Zaa,Zah (by omega),Zah (by omega),R.r,Zan,Zko,zG];dsimp only;have pz:=R.pos j;by_cases h1:S.getD j 0=0
   ·rw [aE (by rw [h1];simp),aE (fun e=>e.1 h1)];rfl
   rw [aD (decide_eq_true (by omega))];by_cases h2:S.getD j 0=w
   ·rw [aE (by rw [h2];simp),aE (fun e=>e.2 h2)];rfl
   rw [aD (by rw [bne_iff_ne];exact h2),aD ⟨h1,h2⟩,R.same]
  rw [p1,p1,zG];cases right
  ·rw [aE (by simp),show Zqh false=2 from rfl];by_cases hc:S.getD j 0≠0∧S.getD j 0≠2
   ·rw [aD hc,aD hc,aE (by decide)]
   rw [aE hc,aE hc,aD rfl]
  rw [aD rfl,show Zqh true=1 from rfl];by_cases hc:S.getD j 0≠0∧S.getD j 0≠1
  ·rw [aD hc,aD hc,aE (by decide)]
  rw [aE hc,aE hc,aD rfl]
 have hp:Zjk ns k>0:=by
  unfold Zjk at h ⊢;split
  ·split
   ·omega
   rename_i h1 h2;rw [aD h1,aE h2] at h;exact absurd rfl h
  omega
 rw [aD (by simpa using hp),aE h,aE h,R.same]
theorem on_eq (ht:ZhC ns) (hN:600≤N) {y:Nat} (hy:y<ns.length) (x:Int):ZcD N (rOf p room ns) x (y:Int)=some ((ZeL ns y).any fun z=>(z:Int)==x):=by
 unfold ZcD;have sm:=ht.small;rw [ZgT ht (by omega) hy,Zaa,Zah (Zkf _)];have hl:(ZeL ns y).length≤ns.length:=by rw [ZhE ht hy];exact (ht.ch _ (yM hy)).2
 refine ZbY (fun m (v:Int)=>∃j:Nat,j+m=(ZeL ns y).length∧v=(j:Int)∧(ZeL ns y).any (fun z=>(z:Int)==x)=((ZeL ns y).drop j).any (fun z=>(z:Int)==x)) ?_ N (ZeL ns y).length 0 ⟨0,by omega,rfl,by rw [vH]⟩ (by omega);rintro G m _ ⟨j,hj,rfl,hp⟩ hG;unfold ZcD.p1;rw [Zoi];by_cases hlt:j<(ZeL ns y).length
 ·rw [aD (decide_eq_true (by omega)),Zah (by omega),zG,ZlO hlt,Zan,Zjg,ZaM (by omega) (by omega)];rw [yQ hlt,vY] at hp;by_cases he:(((ZeL ns y)[j]:Nat):Int)=x
  ·rw [aD (by simpa using he),hp];simp [he]
  rw [aE (by simpa using he)];refine hG (m-1) _ (by omega) ⟨j+1,by omega,by omega,?_⟩;rw [hp,show ((((ZeL ns y)[j]:Nat):Int)==x)=false by simpa using he,uH]
 rw [aE (by simp<;>omega),hp,wM (by omega)];rfl
theorem Zpu {ns:List Nd} {x y:Nat} (hx:x<ns.length) (hy:y<ns.length):((ZeL ns y).any fun z=>(z:Int)==(x:Int))=ZgN ns (x:Int) (y:Int):=by
 unfold ZgN;rw [Bool.eq_iff_iff,List.any_eq_true,decide_eq_true_eq,zG,zG];constructor
 ·rintro ⟨z,hz,he⟩;have:(z:Int)=(x:Int):=by simpa using he
  have:z=x:=by omega
  subst this;exact ⟨by omega,by omega,by omega,by omega,hz⟩
 rintro ⟨_,_,_,_,hz⟩;exact ⟨x,hz,by simp⟩
theorem Zng (R:ZmJ st ib ir p room ns S O) {j:Nat} (hj:j<600):ZcE N (some ir) (j:Int) st=some (Zmn S O j,st):=by
 unfold ZcE Zmn;rw [Zaa,Zah (by omega),Zah (by omega),R.r,Zan,Zko,zG];dsimp only;cases O.getD j false
 ·rw [aE (by simp),uH]
 rw [aD rfl,rR]
theorem Zpo (hN:600≤N) (R:ZmJ st ib ir p room ns S O) (k:Int):Zbj N (some ir) (some ib) k st=some (atZ ns (chZ ns S O) k,st):=by
 unfold Zbj atZ;have ht:=R.tr;by_cases h1:k<0
 ·rw [aD (by simpa using h1),show inB ns k=false by rw [←vF,inB_true];omega];rfl
 rw [aE (by simpa using h1),Zaa,R.b,Zan,Zbk,ZnY];by_cases h2:k≥(ns.length:Int)
 ·rw [aD (by simpa using h2),show inB ns k=false by rw [←vF,inB_true];omega];rfl
 rw [aE (by simpa using h2),show inB ns k=true by rw [inB_true];omega];obtain ⟨k,rfl⟩ : ∃j:Nat,k=(j:Int):=⟨k.toNat,by omega⟩
 have hk:k<ns.length:=by omega
 have sm:=R.small;rw [ZgT ht (by omega) hk,Zaa,Zah (Zkf _),zG,xJ];have hl:(ZeL ns k).length≤ns.length:=by rw [ZhE ht hk];exact (ht.ch _ (yM hk)).2
 have hany:chZ ns S O k=(ZeL ns k).any fun x=>x != k&&Zmn S O x:=by
  unfold chZ;rcases Zeg ht hk with ⟨_,_,e,_⟩ | ⟨q,hq,_,e,hq',_⟩
  ·rw [e];simp
  rw [e,tB,List.any_append];have : ∀l:List Nat,(∀x∈l,x<k)→l.any (Zmn S O)=l.any (fun x=>x != k&&Zmn S O x):=by
   intro l
   induction l with
   | nil=>intro _;rfl
   | cons z l ih=>
    intro hz;have h1:=hz z (by simp);rw [vY,vY,ih fun x hx=>hz x (by simp [hx]),show (z != k)=true by rw [bne_iff_ne];omega,xJ]
  rw [this _ fun x hx=>by have:=Zka ht hq' x hx;omega];simp
 rw [hany];refine ZbY (fun m (s:Int×LL)=>∃j:Nat,j+m=(ZeL ns k).length∧s=((j:Int),st)∧(ZeL ns k).any (fun x=>x != k&&Zmn S O x)=((ZeL ns k).drop j).any (fun x=>x != k&&Zmn S O x)) ?_ N (ZeL ns k).length _ ⟨0,by omega,rfl,by rw [vH]⟩ (by omega);rintro G m _ ⟨j,hj,rfl,hp⟩ hG;unfold Zbj.p1;dsimp only;rw [Zoi];by_cases hlt:j<(ZeL ns k).length
 ·rw [aD (decide_eq_true (by omega)),Zah (by omega),zG,ZlO hlt,Zan,Zjg,ZaM (by omega) (by omega)];have hz:=Zka ht hk _ (yM hlt);rw [yQ hlt,vY] at hp;generalize (ZeL ns k)[j]=z at hp hz ⊢;by_cases he:z=k
  ·subst he;rw [aE (by simp)];rw [show (z != z)=false by simp,tV,uH] at hp;exact hG (m-1) _ (by omega) ⟨j+1,by omega,rfl,hp⟩
  rw [aD (by rw [bne_iff_ne];omega),Zng R (by omega),Zaa];dsimp only;rw [show (z != k)=true by rw [bne_iff_ne];exact he,xJ] at hp;cases hb:Zmn S O z
  ·rw [aE (by simp)];rw [hb,uH] at hp;exact hG (m-1) _ (by omega) ⟨j+1,by omega,rfl,hp⟩
  rw [aD rfl,hp,hb,rR]
 rw [aE (by simp<;>omega),hp,wM (by omega)];rfl
theorem Znh (hN:600≤N) (R:ZmJ st ib ir p room ns S O) (k:Int):ZcF N (some ir) (some ib) k st=some (atZ ns (flZ ns S O) k,st):=by
 unfold ZcF;have sm:=R.small;by_cases h1:0≤k
 ·rw [aD (by simpa using h1),Zaa,R.b,Zan,Zbk,ZnY];by_cases h2:k<(ns.length:Int)
  ·rw [aD (by simpa using h2)];obtain ⟨k,rfl⟩ : ∃j:Nat,k=(j:Int):=⟨k.toNat,by omega⟩
   have hk:k<ns.length:=by omega
   have hi:inB ns (k:Int)=true:=by rw [inB_true];omega
   rw [Zng R (by omega),Zaa];dsimp only;unfold atZ;rw [hi,xJ,zG,ZrC R.tr hk];cases hb:Zmn S O k
   ·rw [aE (by simp),Zpo hN R,Zaa];unfold atZ;rw [hi,xJ,zG,Bool.or_false]
   rw [aD rfl,Bool.or_true]
  rw [aE (by simpa using h2)];unfold atZ;rw [show inB ns k=false by rw [←vF,inB_true];omega];rfl
 rw [aE (by simpa using h1)];unfold atZ;rw [show inB ns k=false by rw [←vF,inB_true];omega];rfl
theorem Zqi (ns:List Nd) (S:List Int) (O:List Bool) (k:Nat):vlZ ns S O k=(ZeL ns k).all fun x=>S.getD x 0==1 && !O.getD x false:=by
 unfold vlZ allR flZ;generalize ZeL ns k=l
 induction l with
 | nil=>rfl
 | cons z l ih=>
  rw [yR,vY,yR,←ih];unfold Zmn;by_cases h:S.getD z 0=1
  ·rw [h];cases O.getD z false<;>simp
  rw [show (S.getD z 0==1)=false by simpa using h];simp
theorem Zpn (hN:600≤N) (R:ZmJ st ib ir p room ns S O) (k:Int):Zbi N (some ir) (some ib) k st=some (atZ ns (vlZ ns S O) k,st):=by
 unfold Zbi atZ;have ht:=R.tr;by_cases h1:k<0
 ·rw [aD (by simpa using h1),show inB ns k=false by rw [←vF,inB_true];omega];rfl
 rw [aE (by simpa using h1),Zaa,R.b,Zan,Zbk,ZnY];by_cases h2:k≥(ns.length:Int)
 ·rw [aD (by simpa using h2),show inB ns k=false by rw [←vF,inB_true];omega];rfl
 rw [aE (by simpa using h2),show inB ns k=true by rw [inB_true];omega];obtain ⟨k,rfl⟩ : ∃j:Nat,k=(j:Int):=⟨k.toNat,by omega⟩
 have hk:k<ns.length:=by omega
 have sm:=R.small;rw [ZgT ht (by omega) hk,Zaa,Zah (Zkf _),zG,xJ,Zqi];have hl:(ZeL ns k).length≤ns.length:=by rw [ZhE ht hk];exact (ht.ch _ (yM hk)).2
 refine ZbY (fun m (s:(Option Nat)×Int)=>∃j:Nat,j+m=(ZeL ns k).length∧s=(some ir,(j:Int))∧(ZeL ns k).all (fun x=>S.getD x 0==1 && !O.getD x false)=((ZeL ns k).drop j).all (fun x=>S.getD x 0==1 && !O.getD x false)) ?_ N (ZeL ns k).length _ ⟨0,by omega,rfl,by rw [vH]⟩ (by omega);rintro G m _ ⟨j,hj,rfl,hp⟩ hG;unfold Zbi.p1;dsimp only;rw [Zoi];by_cases hlt:j<(ZeL ns k).length
 ·have hz:=Zka ht hk _ (yM hlt);rw [aD (decide_eq_true (by omega)),Zah (by omega),zG,ZlO hlt,Zan,Zjg,Zaa,Zah (by omega),Zah (by omega),R.r,Zan,Zko,zG,ZaM (by omega) (by omega)];rw [yQ hlt,yR] at hp;dsimp only;generalize (ZeL ns k)[j]=z at hp hz ⊢;by_cases he:S.getD z 0=1
  ·rw [aE (by rw [he];decide)];rw [show (S.getD z 0==1)=true by rw [he];rfl,xJ] at hp;cases ho:O.getD z false
   ·rw [aE (by simp)];rw [ho,Bool.not_false,xJ] at hp;exact hG (m-1) _ (by omega) ⟨j+1,by omega,rfl,hp⟩
   rw [aD rfl,hp,ho];rfl
  rw [aD (by rw [bne_iff_ne];exact he),hp,show (S.getD z 0==1)=false by simpa using he];rfl
 rw [aE (by simp<;>omega),hp,wM (by omega)];rfl
theorem ZlE (hN:600≤N) (ht:ZhC ns) {a b:Nat} (ha:a<ns.length) (hb:b<ns.length):Zdg N (rOf p room ns) (a:Int) (b:Int)=some (hvZ ns a b):=by
 unfold Zdg ZcN;have wa:=ht.wk _ (yM ha);have wb:=ht.wk _ (yM hb);rw [show (rOf p room ns).Works=Zth (ns.map Nd.wk) from rfl,Zrr,wC];rw [Zah (by omega),Zah (by omega),zG,ZnJ (by simpa using ha),Zan,show ∀(x:List Int) (k:List Int→Option (List Int)),Zgp [zI .u64 4 x] k=k x from fun _ _=>rfl,Zaa,
  Zah (by omega),Zah (by omega),zG,ZnJ (by simpa using hb),Zan,show ∀(x:List Int) (k:List Int→Option (List Int)),Zgp [zI .u64 4 x] k=k x from fun _ _=>rfl,Zaa,uS,uS,ZfM (by omega) wb wa,Zaa,hvZ_at ha hb]
 by_cases h1:ns[b].wk<ns[a].wk
 ·rw [aD (decide_eq_true h1)];simp [h1]
 rw [aE (by simpa using h1)];by_cases h2:ns[a].wk=ns[b].wk
 ·rw [aD (by rw [h2];simp)];simp [h2]
 rw [aE (by intro e;exact h2 (Zro wa wb (by simpa using e)))];simp [h1,h2]
end
end Go.Dn.F
namespace Go.Dn.F
open Go.Dn Go.Proofs
variable {N:Nat}
def ZgU (ns:List Nd) (a:Int) (S:List Int) (j:Nat):List Int:=(vM S.length).map (rsF ns a S j)
def Zhk (ns:List Nd) (a:Int) (O:List Bool) (j:Nat):List Bool:=(vM O.length).map (roF ns a O j)
theorem Zjz? {ns:List Nd} {a:Int} {S:List Int} {j i:Nat} (hi:i<S.length):(ZgU ns a S j)[i]? = some (rsF ns a S j i):=by simp [ZgU,hi]
theorem ZlC? {ns:List Nd} {a:Int} {O:List Bool} {j i:Nat} (hi:i<O.length):(Zhk ns a O j)[i]? = some (roF ns a O j i):=by simp [Zhk,hi]
@[simp] theorem recSj_len (ns:List Nd) (a:Int) (S:List Int) (j:Nat):(ZgU ns a S j).length=S.length:=by simp [ZgU]
@[simp] theorem recOj_len (ns:List Nd) (a:Int) (O:List Bool) (j:Nat):(Zhk ns a O j).length=O.length:=by simp [Zhk]
theorem Zsb (ns:List Nd) (a:Int) (S:List Int):ZgU ns a S 0=S:=by
 refine xK fun i=>?_;rcases zV i S.length with h | h
 ·rw [Zjz? h];unfold rsF;rw [yG,zR h];simp
 rw [zM (by simpa using h),zM h]
theorem Zsc (ns:List Nd) (a:Int) (O:List Bool):Zhk ns a O 0=O:=by
 refine xK fun i=>?_;rcases zV i O.length with h | h
 ·rw [ZlC? h];unfold roF;rw [yG,zR h];simp
 rw [zM (by simpa using h),zM h]
theorem Znf {ns:List Nd} {a:Int} {S:List Int} {j:Nat} (h:Zox ns a j=false∨S.getD j 0≠2):ZgU ns a S (j+1)=ZgU ns a S j:=by
 unfold ZgU;refine vR fun i _=>?_;unfold rsF;by_cases e:i=j
 ·subst e;rcases h with h | h
  ·simp [h]
  rw [show (S.getD i 0==2)=false by simpa using h];simp
 rw [show decide (i<j+1)=decide (i<j) from decide_eq_decide.2 (by omega)]
theorem Ztm {ns:List Nd} {a:Int} {S:List Int} {j:Nat} (hj:j<S.length) (h:Zox ns a j=true) (h2:S.getD j 0=2):ZgU ns a S (j+1)=(ZgU ns a S j).set j 0:=by
 refine xK fun i=>?_;rcases zV i S.length with hi | hi
 ·rw [Zjz? hi];by_cases e:i=j
  ·subst e;rw [zO (by simpa using hj)];unfold rsF;rw [h,h2];simp
  rw [zP (fun h=>e h.symm),Zjz? hi];unfold rsF;rw [show decide (i<j+1)=decide (i<j) from decide_eq_decide.2 (by omega)]
 rw [zM (by simpa using hi),zM (by simpa using hi)]
theorem Zsd {ns:List Nd} {a:Int} {O:List Bool} {j:Nat} (h:Zox ns a j=false):Zhk ns a O (j+1)=Zhk ns a O j:=by
 unfold Zhk;refine vR fun i _=>?_;unfold roF;by_cases e:i=j
 ·subst e;simp [h]
 rw [show decide (i<j+1)=decide (i<j) from decide_eq_decide.2 (by omega)]
theorem Zpm {ns:List Nd} {a:Int} {O:List Bool} {j:Nat} (hj:j<O.length) (h:Zox ns a j=true):Zhk ns a O (j+1)=(Zhk ns a O j).set j false:=by
 refine xK fun i=>?_;rcases zV i O.length with hi | hi
 ·rw [ZlC? hi];by_cases e:i=j
  ·subst e;rw [zO (by simpa using hj)];unfold roF;rw [h];simp
  rw [zP (fun h=>e h.symm),ZlC? hi];unfold roF;rw [show decide (i<j+1)=decide (i<j) from decide_eq_decide.2 (by omega)]
 rw [zM (by simpa using hi),zM (by simpa using hi)]
section
variable {st:LL} {ib ir:Nat} {p:Zae} {room:Int} {ns:List Nd} {S:List Int} {O:List Bool}
theorem ZmD (hN:600≤N) (R:ZmJ st ib ir p room ns S O) (k:Int):Zap N (some ir) (some ib) k st=some (Zjk ns k,rst st ir (rcnS ns S k) (rcnO ns O k)):=by
 unfold Zap rcnS rcnO;rw [Zke R,Zaa];dsimp only;have hb:=R.b;have hne:=R.ne;have hir:ir<st.length:=(yD.1 R.r).1;by_cases h:Zjk ns k=0
 ·rw [aE (by rw [h];simp),aD h,aD h,h];obtain ⟨z,rfl,hz0,hz1⟩:=Zhi h;have sm:=R.small;have s6:=R.S6;have o6:=R.O6;rw [Zaa,R.b,Zan,Zbk];have e0:st=rst st ir (ZgU ns (z:Int) S 0) (Zhk ns (z:Int) O 0):=by rw [Zsb,Zsc,R.same]
  conv=>lhs;rw [e0]
  refine ZbY (fun m (s:(Option Nat)×Int×LL)=>∃j:Nat,j+m=ns.length∧s=(some ir,(j:Int),rst st ir (ZgU ns (z:Int) S j) (Zhk ns (z:Int) O j))) ?_ N ns.length _ ⟨0,by omega,rfl⟩ (by omega);rintro G m _ ⟨j,hjm,rfl⟩ hG;unfold Zap.p1 Zap.p2;dsimp only;rw [ZnY];by_cases hlt:j<ns.length
  ·have w1:w64 ((j:Int)+1)=((j+1:Nat):Int):=by rw [ZaM (by omega) (by omega)];rfl
   have gb:(rst st ir (ZgU ns (z:Int) S j) (Zhk ns (z:Int) O j))[ib]? = some (rOf p room ns).lo:=by unfold rst;rw [zP hne];exact hb
   have gr:(rst st ir (ZgU ns (z:Int) S j) (Zhk ns (z:Int) O j))[ir]? = some (rm2 (ZgU ns (z:Int) S j) (Zhk ns (z:Int) O j)):=zO hir;have hS:(ZgU ns (z:Int) S j).getD j 0=S.getD j 0:=by
    rw [yG,Zjz? (by omega)];unfold rsF;simp
   have nxt : ∀S' O',S'=ZgU ns (z:Int) S (j+1)→O'=Zhk ns (z:Int) O (j+1)→G (some ir,w64 ((j:Int)+1),rst st ir S' O')=some (0,rst st ir (recS ns (z:Int) S) (recO ns (z:Int) O)):=by
    rintro S' O' rfl rfl;rw [w1];exact hG (m-1) _ (by omega) ⟨j+1,by omega,rfl⟩
   have rr : ∀S1 O1 S2 O2,zN (rst st ir S1 O1) ir (rm2 S2 O2)=rst st ir S2 O2:=fun _ _ _ _=>by unfold rst;rw [yX]
   have body:Zox ns (z:Int) j=true→(if ((ZgU ns (z:Int) S j).getD j 0==2)=true then
     G (some ir,w64 ((j:Int)+1),zN (zN (rst st ir (ZgU ns (z:Int) S j) (Zhk ns (z:Int) O j)) ir (rm2 (ZgU ns (z:Int) S j) ((Zhk ns (z:Int) O j).set j false))) ir (rm2 ((ZgU ns (z:Int) S j).set j 0) ((Zhk ns (z:Int) O j).set j false)))
     else G (some ir,w64 ((j:Int)+1),zN (rst st ir (ZgU ns (z:Int) S j) (Zhk ns (z:Int) O j)) ir (rm2 (ZgU ns (z:Int) S j) ((Zhk ns (z:Int) O j).set j false))))=some (0,rst st ir (recS ns (z:Int) S) (recO ns (z:Int) O)):=by
    intro hc;rw [rr,rr,hS];by_cases h2:S.getD j 0=2
    ·rw [aD (by rw [h2];rfl)];exact nxt _ _ (Ztm (by omega) hc h2).symm (Zpm (by omega) hc).symm
    rw [aE (by simpa using h2)];exact nxt _ _ (Znf (.inr h2)).symm (Zpm (by omega) hc).symm
   rw [aD (decide_eq_true (by omega)),gb,Zan,Zbk,on_eq R.tr hN hz0,Zpu hlt hz0,Zaa,on_eq R.tr hN hlt,Zpu hz0 hlt,Zaa,Zaa,Zah (by omega),Zah (by omega),gr,Zan,Zko,zG];dsimp only;cases hw:ZgN ns (j:Int) (z:Int)
   ·rw [aE (by simp)];cases hw2:ZgN ns (z:Int) (j:Int)
    ·rw [aE (by simp)];have hc:Zox ns (z:Int) j=false:=by unfold Zox;rw [hw,hw2];rfl
     exact nxt _ _ (Znf (.inl hc)).symm (Zsd hc).symm
    rw [aD rfl];exact body (by unfold Zox;rw [hw,hw2];rfl)
   rw [aD rfl];exact body (by unfold Zox;rw [hw];rfl)
  have hj:j=ns.length:=by omega
  subst hj;rw [aE (by simp<;>omega)];rfl
 have hp:Zjk ns k>0:=by
  unfold Zjk at h ⊢;split
  ·split
   ·omega
   rename_i h1 h2;rw [aD h1,aE h2] at h;exact absurd rfl h
  omega
 rw [aD (by simpa using hp),aE h,aE h,R.same]
theorem rBest_eq (hN:600≤N) (R:ZmJ st ib ir p room ns S O) (h0:0<ns.length):ZaJ N (some ir) (some ib) st=some ((Zin ns (vlZ ns S O):Int),st):=by
 unfold ZaJ;have sm:=R.small;rw [Zaa,R.b,Zan,Zbk];refine ZbY (fun m (s:Int×Int×LL)=>∃j:Nat,j+m=ns.length∧∃out:Nat,out<ns.length∧s=((out:Int),(j:Int),st)∧ZkO ns (vlZ ns S O) m j out=Zin ns (vlZ ns S O)) ?_ N ns.length _ ⟨0,by omega,0,h0,rfl,rfl⟩ (by omega);rintro G m _ ⟨j,hjm,out,ho,rfl,hp⟩ hG;unfold ZaJ.p1 ZaJ.p2;dsimp only;rw [ZnY];by_cases hlt:j<ns.length
 ·have ij:inB ns (j:Int)=true:=inB_true.2 ⟨by omega,by omega⟩;have e2:atZ ns (vlZ ns S O) (j:Int)=vlZ ns S O j:=by unfold atZ;rw [ij];simp
  have w1:w64 ((j:Int)+1)=((j+1:Nat):Int):=by rw [ZaM (by omega) (by omega)];rfl
  obtain ⟨m,rfl⟩ : ∃x,m=x+1:=⟨m-1,by omega⟩
  have hp':ZkO ns (vlZ ns S O) m (j+1) (if vlZ ns S O j&&hvZ ns j out then j else out)=Zin ns (vlZ ns S O):=hp;rw [aD (decide_eq_true (by omega)),Zpn hN R,Zaa];dsimp only;rw [e2,w1];cases hv:vlZ ns S O j
  ·rw [aE (by simp)];rw [hv,tV,aE (by simp)] at hp';exact hG m _ (by omega) ⟨j+1,by omega,out,ho,rfl,hp'⟩
  rw [aD rfl,R.b,Zan,Zbk,ZlE hN R.tr hlt ho,Zaa];rw [hv,xJ] at hp';cases hh:hvZ ns j out
  ·rw [aE (by simp)];rw [hh,aE (by simp)] at hp';exact hG m _ (by omega) ⟨j+1,by omega,out,ho,rfl,hp'⟩
  rw [aD rfl];rw [hh,aD rfl] at hp';exact hG m _ (by omega) ⟨j+1,by omega,j,hlt,rfl,hp'⟩
 rw [aE (by simp<;>omega)];have:m=0:=by omega
 subst this;rw [←hp];rfl
theorem rLead_eq (hN:600≤N) (R:ZmJ st ib ir p room ns S O) (h0:0<ns.length):ZaI N (some ir) (some ib) st=some ((Zin ns (ldZ ns S O):Int),st):=by
 unfold ZaI;have sm:=R.small;rw [Zaa,R.b,Zan,Zbk];refine ZbY (fun m (s:Int×Int×LL)=>∃j:Nat,j+m=ns.length∧∃out:Nat,out<ns.length∧s=((out:Int),(j:Int),st)∧ZkO ns (ldZ ns S O) m j out=Zin ns (ldZ ns S O)) ?_ N ns.length _ ⟨0,by omega,0,h0,rfl,rfl⟩ (by omega);rintro G m _ ⟨j,hjm,out,ho,rfl,hp⟩ hG;unfold ZaI.p1 ZaI.p2;dsimp only;rw [ZnY];by_cases hlt:j<ns.length
 ·have ij:inB ns (j:Int)=true:=inB_true.2 ⟨by omega,by omega⟩;have e2:(!atZ ns (flZ ns S O) (j:Int))=ldZ ns S O j:=by unfold atZ ldZ;rw [ij];simp
  have w1:w64 ((j:Int)+1)=((j+1:Nat):Int):=by rw [ZaM (by omega) (by omega)];rfl
  obtain ⟨m,rfl⟩ : ∃x,m=x+1:=⟨m-1,by omega⟩
  have hp':ZkO ns (ldZ ns S O) m (j+1) (if ldZ ns S O j&&hvZ ns j out then j else out)=Zin ns (ldZ ns S O):=hp;rw [aD (decide_eq_true (by omega)),Znh hN R,Zaa];dsimp only;rw [e2,w1];cases hv:ldZ ns S O j
  ·rw [aE (by simp)];rw [hv,tV,aE (by simp)] at hp';exact hG m _ (by omega) ⟨j+1,by omega,out,ho,rfl,hp'⟩
  rw [aD rfl,R.b,Zan,Zbk,ZlE hN R.tr hlt ho,Zaa];rw [hv,xJ] at hp';cases hh:hvZ ns j out
  ·rw [aE (by simp)];rw [hh,aE (by simp)] at hp';exact hG m _ (by omega) ⟨j+1,by omega,out,ho,rfl,hp'⟩
  rw [aD rfl];rw [hh,aD rfl] at hp';exact hG m _ (by omega) ⟨j+1,by omega,j,hlt,rfl,hp'⟩
 rw [aE (by simp<;>omega)];have:m=0:=by omega
 subst this;rw [←hp];rfl
end
end Go.Dn.F
namespace Go.Dn.F
open Go.Dn Go.Proofs
variable {N:Nat}
def Zuh (it im ib ir:Nat):List L:=[zQ (some it),zQ (some im),zQ (some ib),zQ (some ir)]
structure ZeA (st:LL) (ia it im ib ir ih:Nat) (p:Zae) (ns:List Nd) (lp:List Int) (S:List Int) (O:List Bool):Prop where
 M:ZiS st ia it im p 100 ns lp S O
 R:ZmJ st ib ir p 100 ns S O
 h:st[ih]? = some (Zuh it im ib ir)
 nd : [ia,it,im,ib,ir,ih].Nodup
 gen:S.getD 0 0=1∧O.getD 0 false=false
 len1:1≤ns.length
theorem Zsw {ns:List Nd} (ht:ZhC ns) (x:Nd) (S:List Int) (O:List Bool) {k:Nat} (hk:k≤ns.length):(Zfb (ns ++ [x]) S O).take k=(Zfb ns S O).take k:=by
 refine xK fun i=>?_;rcases zV i k with h | h
 ·rw [tI h,tI h,Zgo (by simp;omega),Zgo (by omega)];unfold stZ chZ;rw [Zij x ht (by omega)]
 rw [rD h,rD h]
section
variable {st:LL} {ia it im ib ir ih:Nat} {p:Zae} {ns:List Nd} {lp:List Int} {S:List Int} {O:List Bool}
theorem ZeA.ne (B:ZeA st ia it im ib ir ih p ns lp S O):(im≠ib∧im≠ir∧im≠ih)∧(ir≠ia∧ir≠it∧ir≠im∧ir≠ih)∧(ib≠ia∧ib≠it∧ib≠im∧ib≠ir∧ib≠ih)∧(ih≠ia∧ih≠it):=by
 have:=B.nd;simp at this;omega
theorem ZiS.turned (M:ZiS st ia it im p 100 ns lp S O) {S':List Int} {O':List Bool} (h : ∀i,ns.length≤i→S'.getD i 0=S.getD i 0∧O'.getD i false=O.getD i false):ZiS (F.gst st im it ns S' O') ia it im p 100 ns lp S' O':=
 ⟨M.T.setIm M.na M.nt,M.na,M.nt,⟨ns.length,Nat.le_refl _,by rw [zY (by simp)];exact zO M.im_lt,fun i hi=>by rw [(h i hi).1,(h i hi).2];exact M.gst_len i hi⟩,M.small⟩
theorem ZiS.other (M:ZiS st ia it im p 100 ns lp S O) {j:Nat} {x:List L} (h1:j≠ia) (h2:j≠it) (h3:j≠im):ZiS (st.set j x) ia it im p 100 ns lp S O:=by
 obtain ⟨k,hk,hm,hn⟩:=M.k;exact ⟨M.T.setIm h1 h2,M.na,M.nt,⟨k,hk,by rw [zP h3];exact hm,hn⟩,M.small⟩
theorem ZmJ.other (R:ZmJ st ib ir p 100 ns S O) {j:Nat} {x:List L} (h1:j≠ib) (h2:j≠ir):ZmJ (st.set j x) ib ir p 100 ns S O:=
 ⟨by rw [zP h1];exact R.b,by rw [zP h2];exact R.r,R.ne,R.tr,R.small,R.S6,R.O6,R.pos⟩
theorem ZeA.turn (B:ZeA st ia it im ib ir ih p ns lp S O) {S':List Int} {O':List Bool} (h : ∀i,ns.length≤i→S'.getD i 0=S.getD i 0∧O'.getD i false=O.getD i false) (h1:S'.length=600) (h2:O'.length=600) (h3 : ∀i,0≤S'.getD i 0) (h4:S'.getD 0 0=1∧O'.getD 0 false=false) :
  ZeA (rst (F.gst st im it ns S' O') ir S' O') ia it im ib ir ih p ns lp S' O':=by
 obtain ⟨⟨n1,n2,n3⟩,⟨n4,n5,n6,n7⟩,⟨n8,n9,n10,n11,n12⟩,n13,n14⟩:=B.ne;have R1:ZmJ (F.gst st im it ns S' O') ib ir p 100 ns S O:=B.R.other n1 n2;exact ⟨(B.M.turned h).other n4 n5 n6,R1.put h1 h2 h3,by unfold rst gst;rw [zP n7,zP n3];exact B.h,B.nd,h4,B.len1⟩
theorem ZeA.gst (B:ZeA st ia it im ib ir ih p ns lp S O):ZeA (F.gst st im it ns S O) ia it im ib ir ih p ns lp S O:=by
 obtain ⟨⟨n1,n2,n3⟩,_⟩:=B.ne;exact ⟨B.M.gst,B.R.other n1 n2,by unfold F.gst;rw [zP n3];exact B.h,B.nd,B.gen,B.len1⟩
theorem ZeA.ih_gst (B:ZeA st ia it im ib ir ih p ns lp S O) (S':List Int) (O':List Bool):(F.gst st im it ns S' O')[ih]? = some (Zuh it im ib ir):=by
 obtain ⟨⟨n1,n2,n3⟩,_⟩:=B.ne;unfold F.gst;rw [zP n3];exact B.h
theorem ZeA.R_gst (B:ZeA st ia it im ib ir ih p ns lp S O) (S':List Int) (O':List Bool):ZmJ (F.gst st im it ns S' O') ib ir p 100 ns S O:=by
 obtain ⟨⟨n1,n2,n3⟩,_⟩:=B.ne;exact B.R.other n1 n2
theorem ZeA.fl0 (B:ZeA st ia it im ib ir ih p ns lp S O):ZeL ns 0 = [0]:=by
 rcases Zeg B.M.T.tr B.len1 with ⟨_,_,e,_⟩ | ⟨q,hq,_⟩
 ·exact e
 omega
theorem ZeA.ld0 (B:ZeA st ia it im ib ir ih p ns lp S O):ldZ ns S O 0=true:=by
 unfold ldZ flZ;rw [B.fl0];unfold Zmn;simp only [vY,List.any_nil];rw [B.gen.1,B.gen.2];rfl
theorem ZeA.vl0 (B:ZeA st ia it im ib ir ih p ns lp S O):vlZ ns S O 0=true:=by
 rw [Zqi,B.fl0];simp only [yR,sX];rw [B.gen.1,B.gen.2];rfl
theorem ZfW {α:Type} {it im ib ir:Nat} (k:Option Nat→Option Nat→Option Nat→Option Nat→Option α):ZbG (Zuh it im ib ir) k=k (some it) (some im) (some ib) (some ir):=rfl
theorem ZeA.ck {α:Type} (B:ZeA st ia it im ib ir ih p ns lp S O) (S':List Int) (O':List Bool) (A:Option α):chk (eqO ((F.gst st im it ns S' O')[ih]?) (some [zQ (some it),zQ (some im),zQ (some ib),zQ (some ir)])=true) A=A:=Zah (eqO_of (B.ih_gst S' O'))
theorem does_eq (hN:1000≤N) (hp:WfP p) {gs:List ZcW} {cs:List Zcv} (hg:p.Gates=Zmz gs) (hc:p.Checks=ZjT cs) (lg:gs.length≤400) (lc:cs.length≤400) (B:ZeA st ia it im ib ir ih p ns lp S O) (hsm:ns.length≤150) (x:ZbJ) (wx:WfH x.Header) (nx:0≤x.Now∧x.Now≤9223372036854775807) :
  ∃st' ns' lp' S' O',ZbD N (some ih) x st=some (true,st')∧ZeA st' ia it im ib ir ih p ns' lp' S' O'∧ns'.length≤ns.length+1:=by
 obtain ⟨⟨n1,n2,n3⟩,⟨n4,n5,n6,n7⟩,⟨n8,n9,n10,n11,n12⟩,n13,n14⟩:=B.ne;have sm:=B.R.small;have gl:=B.M.gst_len;unfold ZbD ZbD.p1;by_cases k0:x.Kind=0
 ·rw [aD (by simpa using k0),Zaa,B.h,Zan,ZfW];obtain ⟨lp',st',ea,T',keep⟩:=skAdd_eq (N:=N) (by omega) hg hc lg lc (by omega) B.M.T wx x.Now (by omega);have hib:st'[ib]? = some (rOf p 100 ns).lo:=by rw [keep _ n8 n9];exact B.R.b
  have l1:=addT_len p gs cs 100 ns x.Header x.Now;rw [ea,Zaa];dsimp only;rw [keep _ n13 n14,B.h,Zan,ZfW,Zpk (by omega) hg hc lg lc (by omega) B.M.T.tr (by omega) hib wx _ nx,Zaa];dsimp only;refine ⟨_,(Zjl p gs cs 100 ns x.Header x.Now).2.2.2,lp',S,O,rfl,?_,?_⟩
  ·obtain ⟨k,hk,hm,hn⟩:=B.M.k;have hrow:(Zfb (Zjl p gs cs 100 ns x.Header x.Now).2.2.2 S O).take k=(Zfb ns S O).take k:=by
    rcases Zku p gs cs 100 ns x.Header x.Now with e | ⟨q,_,_,_,_,_,e⟩
    ·rw [e]
    rw [e];exact Zsw B.M.T.tr _ S O hk
   have him:st'[im]? = some (mk2 it ((Zfb (Zjl p gs cs 100 ns x.Header x.Now).2.2.2 S O).take k)):=by rw [keep _ B.M.na B.M.nt,hrow];exact hm
   have M':ZiS st' ia it im p 100 (Zjl p gs cs 100 ns x.Header x.Now).2.2.2 lp' S O:=⟨T',B.M.na,B.M.nt,⟨k,by omega,him,hn⟩,by omega⟩
   refine ⟨M'.other n8 n9 n10,⟨zO (yD.1 hib).1,by rw [zP n11,keep _ n4 n5];exact B.R.r,B.R.ne,T'.tr,by omega,B.R.S6,B.R.O6,B.R.pos⟩,by rw [zP n12,keep _ n13 n14];exact B.h,B.nd,B.gen,by have:=B.len1;omega⟩
  omega
 rw [aE (by simpa using k0)];have fin : ∀(S':List Int) (O':List Bool),(∀i,ns.length≤i→S'.getD i 0=S.getD i 0∧O'.getD i false=O.getD i false)→S'.length=600→O'.length=600→(∀i,0≤S'.getD i 0)→(S'.getD 0 0=1∧O'.getD 0 false=false)→∀o:Option (Bool×LL),o=some (true,rst (F.gst st im it ns S' O') ir S' O') →
   ∃st' ns' lp' S' O',o=some (true,st')∧ZeA st' ia it im ib ir ih p ns' lp' S' O'∧ns'.length≤ns.length+1:=
  fun S' O' h h1 h2 h3 h4 o ho=>⟨_,ns,lp,S',O',ho,B.turn h h1 h2 h3 h4,by omega⟩
 have s6:=B.R.S6;have o6:=B.R.O6;by_cases k1:x.Kind=1
 ·rw [aD (by simpa using k1),Zaa,B.h,Zan,ZfW,ZsF (by omega) B.M s6,Zaa];dsimp only;have hP : ∀i,(vrdS ns S x.N x.Right).getD i 0=S.getD i 0∨(1≤i∧i<ns.length∧0≤(vrdS ns S x.N x.Right).getD i 0):=by
   intro i;unfold vrdS;by_cases hv:vrdE ns S x.N x.Right=0
   ·rw [aD hv];have hz:Zjk ns x.N=0:=by
     unfold vrdE at hv;by_cases hz:Zjk ns x.N=0
     ·exact hz
     rw [aE hz] at hv;exact absurd hv hz
    obtain ⟨j,ej,hj,hj1⟩:=Zhi hz;rw [ej,zG,ZhO (by omega)];by_cases hij:i=j
    ·rw [aD hij];right;exact ⟨by omega,by omega,by unfold Zqh;split<;>omega⟩
    rw [aE hij];exact .inl rfl
   rw [aE hv];exact .inl rfl
  refine fin (vrdS ns S x.N x.Right) O (fun i hi=>?_) (by unfold vrdS;split<;>simp [s6]) o6 (fun i=>?_) ?_ _ ?_
  ·rcases hP i with h | ⟨_,h,_⟩
   ·exact ⟨h,rfl⟩
   omega
  ·rcases hP i with h | ⟨_,_,h⟩
   ·rw [h];exact B.R.pos i
   exact h
  ·rcases hP 0 with h | ⟨h,_⟩
   ·exact ⟨h.trans B.gen.1,B.gen.2⟩
   omega
  rw [B.ck,Zqx (B.R_gst _ _),Zaa];dsimp only;rw [beq_self_eq_true]
 rw [aE (by simpa using k1)];by_cases k2:x.Kind=2
 ·rw [aD (by simpa using k2),Zaa,B.h,Zan,ZfW,ZjS (by omega) B.M o6,Zaa];dsimp only;have hP : ∀i,(invO ns O x.N).getD i false=O.getD i false∨(1≤i∧i<ns.length):=by
   intro i;unfold invO;by_cases hz:Zjk ns x.N=0
   ·rw [aD hz];obtain ⟨j,ej,hj,hj1⟩:=Zhi hz;rw [ej,zG,ZhO (by omega)];by_cases hij:i=j
    ·right;exact ⟨by omega,by omega⟩
    rw [aE hij];exact .inl rfl
   rw [aE hz];exact .inl rfl
  refine fin S (invO ns O x.N) (fun i hi=>?_) s6 (by unfold invO;split<;>simp [o6]) B.R.pos ?_ _ ?_
  ·rcases hP i with h | ⟨_,h⟩
   ·exact ⟨rfl,h⟩
   omega
  ·rcases hP 0 with h | ⟨h,_⟩
   ·exact ⟨B.gen.1,h.trans B.gen.2⟩
   omega
  rw [B.ck,ZmE (B.R_gst _ _),Zaa];dsimp only;rw [beq_self_eq_true]
 rw [aE (by simpa using k2)];by_cases k3:x.Kind=3
 ·rw [aD (by simpa using k3),Zaa,B.h,Zan,ZfW,ZoG (by omega) B.M,Zaa];dsimp only;have hS : ∀i,(rcnS ns S x.N).getD i 0=S.getD i 0∨(i<ns.length∧S.getD i 0=2∧(rcnS ns S x.N).getD i 0=0):=by
   intro i;unfold rcnS;by_cases hz:Zjk ns x.N=0
   ·rw [aD hz,ZnW];unfold rsF;by_cases hq:(decide (i<ns.length)&&Zox ns x.N i&&S.getD i 0==2)=true
    ·rw [aD hq];simp only [zT,decide_eq_true_eq,beq_iff_eq] at hq;exact .inr ⟨hq.1.1,hq.2,rfl⟩
    rw [aE hq];exact .inl rfl
   rw [aE hz];exact .inl rfl
  have hO : ∀i,(rcnO ns O x.N).getD i false=O.getD i false∨(i<ns.length∧(rcnO ns O x.N).getD i false=false):=by
   intro i;unfold rcnO;by_cases hz:Zjk ns x.N=0
   ·rw [aD hz,ZnX];unfold roF;by_cases hq:(decide (i<ns.length)&&Zox ns x.N i)=true
    ·rw [aD hq];simp only [zT,decide_eq_true_eq] at hq;exact .inr ⟨hq.1,rfl⟩
    rw [aE hq];exact .inl rfl
   rw [aE hz];exact .inl rfl
  refine fin (rcnS ns S x.N) (rcnO ns O x.N) (fun i hi=>⟨?_,?_⟩) (by unfold rcnS;split<;>simp [recS,s6]) (by unfold rcnO;split<;>simp [recO,o6]) (fun i=>?_) ⟨?_,?_⟩ _ ?_
  ·rcases hS i with h | ⟨h,_⟩
   ·exact h
   omega
  ·rcases hO i with h | ⟨h,_⟩
   ·exact h
   omega
  ·rcases hS i with h | ⟨_,_,h⟩
   ·rw [h];exact B.R.pos i
   omega
  ·rcases hS 0 with h | ⟨_,h,_⟩
   ·exact h.trans B.gen.1
   rw [B.gen.1] at h;omega
  ·rcases hO 0 with h | ⟨_,h⟩
   ·exact h.trans B.gen.2
   exact h
  rw [B.ck,ZmD (by omega) (B.R_gst _ _),Zaa];dsimp only;rw [beq_self_eq_true]
 rw [aE (by simpa using k3)];exact ⟨st,ns,lp,S,O,rfl,B,by omega⟩
end
end Go.Dn.F
namespace Go.Dn.F
open Go.Dn Go.Proofs
variable {N:Nat}
section
variable {st:LL} {ia it im ib ir ih:Nat} {p:Zae} {ns:List Nd} {lp:List Int} {S:List Int} {O:List Bool}
theorem ZeA.ck' {α:Type} (B:ZeA st ia it im ib ir ih p ns lp S O) (A:Option α):chk (eqO (st[ih]?) (some [zQ (some it),zQ (some im),zQ (some ib),zQ (some ir)])=true) A=A:=Zah (eqO_of B.h)
theorem mSame_eq (hN:1000≤N) (B:ZeA st ia it im ib ir ih p ns lp S O):ZaK N (some ih) st=some (true,F.gst st im it ns S O):=by
 unfold ZaK;have sm:=B.R.small;have l1:=B.len1;refine ZbY (fun m (s:(Option Nat)×Int×LL)=>∃(i:Int) (st':LL),-1≤i∧i+m=(ns.length:Int)+1∧s=(some ih,i,st')∧ZeA st' ia it im ib ir ih p ns lp S O∧F.gst st' im it ns S O=F.gst st im it ns S O) ?_ N (ns.length+2) _ ⟨-1,st,by omega,by omega,rfl,B,rfl⟩ (by omega);rintro G m _ ⟨i,st',hi,him,rfl,B',he⟩ hG;unfold ZaK.p1;dsimp only;have B1:=B'.gst;have gg:F.gst (F.gst st' im it ns S O) im it ns S O=F.gst st' im it ns S O:=Zjf;rw [Zaa,B'.h,Zan,ZfW,Zaa,B'.R.b,Zan,Zbk,ZnY];by_cases hle:i≤(ns.length:Int)
 ·rw [aD (by simpa using hle),Said_eq (by omega) B'.M,Zaa];dsimp only;have p2:ZaK.p2 N G ih i (if inB ns i=true then S.getD i.toNat 0 else 0) (if inB ns i=true then O.getD i.toNat false else false) (if inB ns i=true then S.getD i.toNat 0 else 0) (if inB ns i=true then O.getD i.toNat false else false) (F.gst st' im it ns S O)=some (true,F.gst st im it ns S O):=by
   unfold ZaK.p2;rw [aE (by simp),aE (by simp),B1.h,Zan,ZfW,Zmq (by omega) B1.M,Zaa];dsimp only;rw [gg,B1.ck',Znh (by omega) B1.R,Zaa];dsimp only;rw [aE (by simp),B1.h,Zan,ZfW,Child_eq (by omega) B1.M,Zaa];dsimp only;rw [gg,B1.ck',Zpo (by omega) B1.R,Zaa];dsimp only;rw [aE (by simp),B1.h,Zan,ZfW,Zli (by omega) B1.M,Zaa];dsimp only;rw [gg,B1.ck',Zpn (by omega) B1.R,Zaa];dsimp only;rw [aE (by simp),ZaM (by omega) (by omega)];exact hG (m-1) _ (by omega) ⟨i+1,_,by omega,by omega,rfl,B1,by rw [gg,he]⟩
  by_cases h0:0≤i
  ·rw [aD (by simpa using h0),B1.h,Zan,ZfW,Zaa,B1.R.b,Zan,Zbk,ZnY];by_cases hlt:i<(ns.length:Int)
   ·have hi:inB ns i=true:=inB_true.2 ⟨h0,hlt⟩;rw [aD (by simpa using hlt),Zaa,Zah h0,Zah (by omega),B1.R.r,Zan,Zko];dsimp only;rw [hi,aD rfl,aD rfl] at p2 ⊢;exact p2
   have hi:inB ns i=false:=by rw [←vF,inB_true];omega
   rw [aE (by simpa using hlt)];rw [hi,aE (by simp),aE (by simp)] at p2 ⊢;exact p2
  have hi:inB ns i=false:=by rw [←vF,inB_true];omega
  rw [aE (by simpa using h0)];rw [hi,aE (by simp),aE (by simp)] at p2 ⊢;exact p2
 rw [aE (by simpa using hle),ZlG (by omega) B'.M l1 B'.vl0,Zaa];dsimp only;rw [B'.ck,rBest_eq (by omega) B1.R l1,Zaa];dsimp only;rw [aD (by simp),B1.h,Zan,ZfW,Zqz (by omega) B1.M l1 B1.ld0,Zaa];dsimp only;rw [gg,B1.ck',rLead_eq (by omega) B1.R l1,Zaa];dsimp only;rw [beq_self_eq_true,he]
end
def S0:List Int:=(zC 600 0).set 0 1
def O0:List Bool:=zC 600 false
theorem Zqd (i:Nat):S0.getD i 0=if i=0 then 1 else 0:=by
 unfold S0;rw [ZhO (by simp)];by_cases h:i=0
 ·rw [aD h,aD h]
 rw [aE h,aE h,yG,wX];split<;>rfl
theorem ZrR (i:Nat):O0.getD i false=false:=by
 unfold O0;rw [yG,wX];split<;>rfl
theorem ZsC {p:Zae} (hp:WfP p) (st:LL):ZeA ((((((st ++ [(aOf p 100 [ZfQ p]).lo]) ++ [Zgy st.length [-1]]) ++ [mk2 (st.length+1) []]) ++ [(rOf p 100 [ZfQ p]).lo]) ++ [rm2 S0 O0]) ++ [Zuh (st.length+1) (st.length+2) (st.length+3) (st.length+4)])
  st.length (st.length+1) (st.length+2) (st.length+3) (st.length+4) (st.length+5) p [ZfQ p] [-1] S0 O0:=by
 have T:=Zrf hp 100 st;have T5:=(((T.app [mk2 (st.length+1) []]).app [(rOf p 100 [ZfQ p]).lo]).app [rm2 S0 O0]).app [Zuh (st.length+1) (st.length+2) (st.length+3) (st.length+4)];refine ⟨⟨T5,by omega,by omega,⟨0,by simp,?_,fun i _=>⟨Zqd i,ZrR i⟩⟩,by simp⟩,⟨?_,?_,by omega,T.tr,by simp,by simp [S0],by simp [O0],fun i=>by rw [Zqd];split<;>omega⟩,?_,?_,⟨Zqd 0,ZrR 0⟩,by simp⟩
 ·simp
 ·simp
 ·simp
 ·simp
 simp
theorem start_eq (hN:1000≤N) {p:Zae} (hp:WfP p) {gs:List ZcW} {cs:List Zcv} (hg:p.Gates=Zmz gs) (hc:p.Checks=ZjT cs) (lg:gs.length≤400) (lc:cs.length≤400) (hgd:ZmA p gs cs=true) (st:LL) :
  ∃ia it im ib ir ih st',Zed N p st=some (some ih,st')∧ZeA st' ia it im ib ir ih p [ZfQ p] [-1] S0 O0:=by
 unfold Zed;rw [Zre (by omega) hg hc lg lc hp,hgd,aD rfl,Zaa];dsimp only;unfold ZeN;rw [Zaa];dsimp only;rw [Zpj (by omega) hp,Zaa,show ZkE 100=100 from rfl];dsimp only;unfold Zfl;rw [Zaa];dsimp only;have e1 : ∀(l:LL) (x y:List L),(l ++ [x]).set l.length y=l ++ [y]:=fun l x y=>by simp
 rw [e1];have B:=ZsC hp st;have l1:(st ++ [(aOf p 100 [ZfQ p]).lo] ++ [Zgy st.length [-1]]:LL).length=st.length+2:=by simp
 have l2:(st ++ [(aOf p 100 [ZfQ p]).lo] ++ [Zgy st.length [-1]] ++ [[zQ (some (st.length+1)),yC true 3 []]]:LL).length=st.length+3:=by simp
 have l3:(st ++ [(aOf p 100 [ZfQ p]).lo] ++ [Zgy st.length [-1]] ++ [[zQ (some (st.length+1)),yC true 3 []]] ++ [(rOf p 100 [ZfQ p]).lo]:LL).length=st.length+4:=by simp
 have l4 : ∀x:List L,(st ++ [(aOf p 100 [ZfQ p]).lo] ++ [Zgy st.length [-1]] ++ [[zQ (some (st.length+1)),yC true 3 []]] ++ [(rOf p 100 [ZfQ p]).lo] ++ [x]:LL).length=st.length+5:=by simp
 rw [l1,l2,l3,l4];exact ⟨_,_,_,_,_,_,_,rfl,B⟩
end Go.Dn.F
namespace Go.Dn.F
open Go.Dn Go.Proofs
variable {N:Nat}
structure WfA16 (c:ZbJ):Prop where
 h:WfH c.Header
 n:Zoo c.Now
abbrev tysAct:List Ty:=[.int .i64,.int .i64,.arr .u8 32,.arr .u8 32,.int .i64,.int .i64,.int .i64,.int .i64,.int .i64,.bool]
noncomputable def Zik (l:List ZbJ):LL:=l.map ZbJ.ls
theorem ZmZ {l:List ZbJ} {i:Nat} (h:i<l.length):(Zik l)[i]? = some l[i].ls:=by simp [Zik,h]
@[simp] theorem Zkl (l:List ZbJ):len (Zik l)=(l.length:Int):=by simp [len,Zik]
@[simp] theorem ZnL (l:List ZbJ):(Zik l).length=l.length:=by simp [Zik]
theorem open_A16 {xs:LL} (h : ∀x∈xs,ZhR tysAct x) : ∃l,xs=Zik l∧∀x∈l,WfA16 x:=
 ZrG fun x hx=>by
  obtain ⟨_,_,rfl,h0,h⟩:=(h x hx).cons_inv;obtain ⟨_,_,rfl,h1,h⟩:=h.cons_inv;obtain ⟨_,_,rfl,h2,h⟩:=h.cons_inv;obtain ⟨_,_,rfl,h3,h⟩:=h.cons_inv;obtain ⟨_,_,rfl,h4,h⟩:=h.cons_inv;obtain ⟨_,_,rfl,h5,h⟩:=h.cons_inv;obtain ⟨_,_,rfl,h6,h⟩:=h.cons_inv;obtain ⟨_,_,rfl,h7,h⟩:=h.cons_inv;obtain ⟨_,_,rfl,h8,h⟩:=h.cons_inv;obtain ⟨_,_,rfl,h9,h⟩:=h.cons_inv;cases h.nil_inv;obtain ⟨a0,rfl,w0⟩:=h0.int_inv;obtain ⟨a1,rfl,w1⟩:=h1.int_inv;obtain ⟨a2,rfl,k2,w2⟩:=h2.arr_inv;obtain ⟨a3,rfl,k3,w3⟩:=h3.arr_inv;obtain ⟨a4,rfl,w4⟩:=h4.int_inv;obtain ⟨a5,rfl,w5⟩:=h5.int_inv;obtain ⟨a6,rfl,w6⟩:=h6.int_inv;obtain ⟨a7,rfl,w7⟩:=h7.int_inv;obtain ⟨a8,rfl,w8⟩:=h8.int_inv;obtain ⟨a9,rfl⟩:=h9.bool_inv;refine ⟨⟨a0,⟨a1,a2,a3,a4,a5,a6⟩,a7,a8,a9⟩,rfl,⟨⟨Zgf w1,?_,Zgf w4,Zgf w5,Zgf w6⟩,Zgf w7⟩⟩;simp only [wfH,zT];exact ⟨ZqZ k2 w2,ZqZ k3 w3⟩
theorem Zsv {p:Zae} (hp:WfP p) (l:List ZbJ) (hl:l.length+900≤N) (hb:l.length≤maxLen) :
  ∃b,Zcq N p (Zik l)=some b∧(b=false→(∀x∈l,0≤x.Now)∧l.length≤40∧∃gs cs,p.Gates=Zmz gs∧p.Checks=ZjT cs∧gs.length≤400∧cs.length≤400∧ZmA p gs cs=true):=by
 unfold Zcq;have hm:maxLen=9223372036854775807:=rfl;refine Zkk (fun m (v:Int)=>∃k:Nat,k+m=l.length∧v=(k:Int)∧∀x∈l.take k,0≤x.Now) ?_ N l.length 0 ⟨0,by omega,rfl,by simp⟩ (by omega);rintro G m _ ⟨k,hk,rfl,ha⟩ hG;unfold Zcq.p1;rw [Zkl];by_cases hlt:k<l.length
 ·rw [aD (by simp<;>omega),Zah (by omega),zG,ZmZ hlt,Zan,ZfJ,ZaM (by omega) (by omega)];by_cases h:l[k].Now<0
  ·rw [aD (by simpa using h)];exact ⟨true,rfl,fun h=>by cases h⟩
  rw [aE (by simpa using h)];refine hG (m-1) _ (by omega) ⟨k+1,by omega,by omega,fun x hx=>?_⟩;rw [yJ hlt] at hx;rcases wB.1 hx with hx | hx
  ·exact ha x hx
  cases xL.1 hx;omega
 rw [aE (by simp<;>omega)];rw [zY (by omega)] at ha;by_cases h1:len p.Gates>20
 ·rw [aD (by simpa using h1)];exact ⟨true,rfl,fun h=>by cases h⟩
 rw [aE (by simpa using h1)];by_cases h2:len p.Checks>20
 ·rw [aD (by simpa using h2)];exact ⟨true,rfl,fun h=>by cases h⟩
 rw [aE (by simpa using h2)];by_cases h3:(l.length:Int)>40
 ·rw [aD (by simpa using h3)];exact ⟨true,rfl,fun h=>by cases h⟩
 rw [aE (by simpa using h3)];obtain ⟨gs,eg⟩:=open_G hp.g;obtain ⟨cs,ec⟩:=open_K hp.c;have lg:gs.length≤400:=by simp [len,eg] at h1;omega
 have lc:cs.length≤400:=by simp [len,ec] at h2;omega
 rw [ZnS (by omega) eg lg ec lc,Zaa];refine ⟨_,rfl,fun h=>⟨ha,by omega,gs,cs,eg,ec,lg,lc,by simpa using h⟩⟩
theorem mk_start {p:Zae} (hp:WfP p) (room:Int) (st:LL):ZiS (((st ++ [(aOf p room [ZfQ p]).lo]) ++ [Zgy st.length [-1]]) ++ [mk2 (st.length+1) []]) st.length (st.length+1) (st.length+2) p room [ZfQ p] [-1] S0 O0:=
 ⟨(Zrf hp room st).app [mk2 (st.length+1) []],by omega,by omega,⟨0,by simp,by simp,fun i _=>⟨Zqd i,ZrR i⟩⟩,by simp⟩
theorem alive16 (hN:1000≤N) : ∃st,Zee N []=some (true,st):=by
 unfold Zee;rw [show (Zae.mk 545259519 4 10 0 false [] [] (zC 4 0) (zC 4 0) (Zak.mk 0 (zC 32 0) (zC 32 0) 0 0 0))=pA from rfl,Zre (by omega) (p:=pA) (gs:=[]) (cs:=[]) rfl rfl (by simp) (by simp) pA_wf 5 [],aD (by kernel_rfl),Zaa,show ZkE 5=5 from rfl];dsimp only;rw [aE (by simp)];unfold ZeN;rw [Zaa];dsimp only;have M:=mk_start pA_wf 5 [];have e2:(([] ++ [(aOf pA 5 [ZfQ pA]).lo]) ++ [Zgy ([]:LL).length [-1]]:LL).length=([]:LL).length+2:=by simp
 have e3 : [[zQ (some (([]:LL).length+1)),yC true 3 []]] = [mk2 (([]:LL).length+1) []]:=rfl;rw [e2,e3];generalize ((([] ++ [(aOf pA 5 [ZfQ pA]).lo]) ++ [Zgy ([]:LL).length [-1]]) ++ [mk2 (([]:LL).length+1) []]:LL)=st at M ⊢;generalize ([]:LL).length=z at M ⊢;have hv:vlZ [ZfQ pA] S0 O0 0=true:=by
  rw [Zqi,show ZeL [ZfQ pA] 0 = [0] from rfl];simp only [yR,sX];rw [Zqd,ZrR];rfl
 have ep:Zin [ZfQ pA] (vlZ [ZfQ pA] S0 O0)=0:=by rw [Zkg (by simp)];rfl
 rw [ZlG (by omega) M (by simp) hv,Zaa,ep];dsimp only;rw [aD (by rfl),Zli (by omega) M.gst,Zaa,Zjf];dsimp only;rw [show atZ [ZfQ pA] (vlZ [ZfQ pA] S0 O0) 0=true from by unfold atZ;rw [show inB [ZfQ pA] 0=true by decide,xJ];exact hv,aD rfl,ZjS (by omega) M.gst (by simp [O0]),Zaa];exact ⟨_,rfl⟩
theorem Znq (k:Int) (st:LL):ZbA N none k st=some (false,st):=by unfold ZbA;rfl
theorem Zkq (k:Int) (st:LL):ZbW N none k st=some (2,st):=by unfold ZbW;rfl
theorem bare_eq (hN:1000≤N) (st:LL):Zcd N (some st.length) (st ++ [[zQ none,yC true 3 []]])=some (-1,st ++ [[zQ none,yC true 3 []]]):=by
 have hg:(st ++ [[zQ none,yC true 3 []]]:LL)[st.length]? = some [zQ none,yC true 3 []]:=by simp
 have eo : ∀{α:Type} (k:Option Nat→LL→Option α),Zca [zQ none,yC true 3 []] k=k none []:=fun k=>rfl;generalize (st ++ [[zQ none,yC true 3 []]]:LL)=st1 at hg ⊢;have eg:ZaL N (some st.length) st1=some st1:=by
  unfold ZaL;rw [Zaa,hg,Zan,eo];refine ZbY (fun m (s:Int×LL)=>s=(0,st1)) ?_ N 0 _ rfl (by omega);rintro G m _ rfl hG;unfold ZaL.p1;dsimp only;rw [hg,Zan,eo];unfold ZdG;rw [aD (by rfl),Zaa];dsimp only;rw [aE (by simp)]
 have ei:ZbA N (some st.length) 0 st1=some (false,st1):=by
  unfold ZbA;rw [aE (by simp),eg,Zaa,aD (by simp),Zaa,hg,Zan,eo];rfl
 unfold Zcd Zag;rw [ei];rfl
theorem doesTail (hN:1000≤N) {st:LL} {ia it im ib ir ih:Nat} {p:Zae} {ns:List Nd} {lp:List Int} {S:List Int} {O:List Bool} (B:ZeA st ia it im ib ir ih p ns lp S O) (acts:LL) (G:Int×LL→Option (Bool×LL)) {j:Int} (hj : ¬ j<len acts) :
  ∃st',Zbz.p1 N (some ih) acts G (j,st)=some (true,st'):=by
 unfold Zbz.p1;dsimp only;have e1:ZcZ N none 0 st=some (0,false,st):=by unfold ZcZ;rw [Znq];rfl
 rw [aE (by simpa using hj),e1,Zaa];dsimp only;rw [mSame_eq hN B,Zaa];dsimp only;rw [aD rfl];generalize F.gst st im it ns S O=s;have e2:ZaB N none 1 true s=some (2,s):=by unfold ZaB;rw [Zkq];rfl
 have e3:ZbE N none 1 s=some (2,s):=by unfold ZbE;rw [Zkq];rfl
 have e4:Zam N none 1 s=some (2,s):=by unfold Zam;rw [Zkq];rfl
 have e5:ZbX N none 0 s=some (false,s):=by unfold ZbX;rw [Znq];rfl
 have e6:ZcM N none 0 s=some (false,s):=by unfold ZcM;rw [Znq];rfl
 have e7:ZaY N none 0 s=some (false,s):=by unfold ZaY;rw [Znq];rfl
 have e8:Zcd N none s=some (-1,s):=by unfold Zcd Zag;rw [Znq];rfl
 have e9:Zda N none s=some (-1,s):=by unfold Zda Zaf;rw [Znq];rfl
 rw [e2,Zaa];dsimp only;rw [aD (by rfl),e3,Zaa];dsimp only;rw [aD (by rfl),e4,Zaa];dsimp only;rw [aD (by rfl),aD (by rfl),aD (by rfl),e5,Zaa];dsimp only;rw [aD (by rfl),e6,Zaa];dsimp only;rw [aD (by rfl),e7,Zaa];dsimp only;rw [aD (by rfl),e8,Zaa];dsimp only;rw [aD (by rfl),e9,Zaa];dsimp only;rw [aD (by rfl)];unfold ZeN;rw [Zaa];dsimp only;rw [bare_eq hN,Zaa];exact ⟨_,rfl⟩
theorem ZqT {p:Zae} (hp:WfP p) (l:List ZbJ) (hl : ∀x∈l,WfA16 x) (hb:l.length≤maxLen) : ∃st,Zbz (l.length+1000) p (Zik l) []=some (true,st):=by
 unfold Zbz;obtain ⟨st0,ea⟩:=alive16 (N:=l.length+1000) (by omega);rw [ea,Zaa];dsimp only;rw [aE (by simp)];obtain ⟨b,eg,hgr⟩:=Zsv (N:=l.length+1000) hp l (by omega) hb;rw [eg,Zaa];cases b with
 | true=>exact ⟨st0,by rw [aD rfl]⟩
 | false=>
  obtain ⟨hnow,h40,gs,cs,hg,hc,lg,lc,hgd⟩:=hgr rfl;rw [aE (by simp)];obtain ⟨ia,it,im,ib,ir,ih,st,es,B⟩:=start_eq (N:=l.length+1000) (by omega) hp hg hc lg lc hgd st0;rw [es,Zaa];dsimp only
  suffices h : ∃r,loopN (Zbz.p1 (l.length+1000) (some ih) (Zik l)) (l.length+1000) (0,st)=some r∧∃st',r=(true,st') by
   obtain ⟨r,e,st',rfl⟩:=h;exact ⟨st',e⟩
  refine Zkk (Q:=fun r:Bool×LL=>∃st',r=(true,st')) (fun m (s:Int×LL)=>∃(j:Nat) (st:LL) (ns:List Nd) (lp:List Int) (S:List Int) (O:List Bool),j+m=l.length∧s=((j:Int),st)∧ZeA st ia it im ib ir ih p ns lp S O∧ns.length≤j+1) ?_ (l.length+1000) l.length (0,st) ⟨0,st,[ZfQ p],[-1],S0,O0,by omega,rfl,B,by simp⟩ (by omega);rintro G m _ ⟨j,st,ns,lp,S,O,hj,rfl,B,hn⟩ hG;by_cases hlt:j<l.length
  ·have wx:=hl _ (yM hlt);have nx:=hnow _ (yM hlt);have rx:=wx.n;unfold Zoo at rx;obtain ⟨st',ns',lp',S',O',ed,B',hn'⟩:=does_eq (N:=l.length+1000) (by omega) hp hg hc lg lc B (by omega) l[j] wx.h ⟨nx,by omega⟩;unfold Zbz.p1;dsimp only;rw [Zkl,aD (by simp<;>omega),Zah (by omega),zG,ZmZ hlt,Zan,ZfJ,ed,Zaa];dsimp only;rw [aE (by simp),ZaM (by omega) (by omega)];exact hG (m-1) _ (by omega) ⟨j+1,_,ns',lp',S',O',by omega,rfl,B',by omega⟩
  obtain ⟨st',e⟩:=doesTail (N:=l.length+1000) (by omega) B (Zik l) G (j:=(j:Int)) (by rw [Zkl];omega);exact ⟨_,e,st',rfl⟩
theorem MarkDoes_true {ls:List L} (xs:LL) (h0:ZhR tysP ls) (h1 : ∀x∈xs,ZhR tysAct x) (l1:xs.length≤maxLen) :
  ∃st,Snd Tryz.prog 5 [.agg ls,.one (.sl 72 xs)] [] [.one (.bool true)] st:=by
 obtain ⟨p,rfl,hp⟩:=open_P h0;obtain ⟨l,rfl,hl⟩:=open_A16 h1;obtain ⟨st,h⟩:=ZqT hp l hl (by rw [ZnL] at l1;exact l1);exact ⟨st,Zbz.snd h⟩
end Go.Dn.F
