import Derived.Test.YtbijmojagnjgcaaGreatDoorNum
import Derived.Test.YtbijmojagnjgcaaGreatDoorRul
set_option linter.all false
open Bool renaming true_and→xG,and_eq_true→zS,false_or→uA,true_or→rG,false_and→tO,not_eq_true→wX
open Go.Dn.L renaming arr→zH,ptr→zQ,own→yB
open Int renaming toNat_natCast→zG
open List renaming replicate→zC,foldl_append→vK,length_map→xW,length_append→zT,length_singleton→yS,set_set→yT,ext_getElem?→xH,getElem?_set_self→zN,getElem?_set_ne→zO,getElem_mem→yJ,drop_zero→wZ,drop_eq_getElem_cons→yN,getElem_map→uM,getElem_append_left→tA,getElem_append_right→sU,getElem?_eq_getElem→zP,getElem?_append_left→zV,getElem?_append_right→yA,take_of_length_le→zX,mem_of_getElem?→wU,getElem?_eq_none→zL,range→vG,dropLast_concat→uU,take_succ_eq_append_getElem→yG,getElem?_take_of_lt→tB,set→zM,map_set→uV,getD_eq_getElem?_getD→yC,any_cons→vR,map_congr_left→vL,all_cons→yO,all_nil→sN,drop_eq_nil_of_le→wE,getElem?_take_eq_none→sT,getElem?_replicate→wR
open Nat renaming zero_add→yE,add_sub_cancel→uN,strongRecOn→vX,lt_or_ge→zU
set_option maxRecDepth 40000
namespace Go.Dn.F
open Go.Dn Go.Proofs
variable {N:Nat}
structure Nd where
 ch:List Zak
 ah:Int
 wk:Int
def h0:Zak:=⟨0,zC 32 0,zC 32 0,0,0,0⟩
def Nd.hd (n:Nd):Zak:=n.ch.getLast?.getD h0
def Nd.id (n:Nd):List Int:=hid n.hd
noncomputable def Nd.en (n:Nd):Zcv:=⟨n.hd,n.id,n.ah,(n.ch.length:Int)-1,nw n.wk⟩
noncomputable def ZhZ (ns:List Nd):LL:=ns.map fun n=>n.en.ls
noncomputable def rowS (p:Zae) (ns:List Nd):LL:=ns.map fun n=>(Zdu p n.ch).ls
def ZjG:Nat→List (List Int)→LM
 | _,[]=>[]
 | i,x::l=>(zH .u8 32 x,L.int .i64 (i:Int))::ZjG (i+1) l
def ids (ns:List Nd):List (List Int):=ns.map Nd.id
def ZeZ:Nat→List (List Int)→List Int→Option Nat
 | _,[],_=>none
 | i,y::l,x=>if x=y then some i else ZeZ (i+1) l x
theorem ZkZ : ∀(l:List (List Int)) (i:Nat) (x:List Int),Zir (ZjG i l) (zH .u8 32 x)=some ((ZeZ i l x).map fun k=>(k-i,L.int .i64 (k:Int)))
 | [],i,x=>rfl
 | y::l,i,x=>by
  rw [ZjG,Zir];simp only [Zoj,and_self,if_true];unfold ZeZ;by_cases h:x=y
  ·subst h;simp
  rw [show (x==y)=false by simpa using h,if_neg h,ZkZ l (i+1) x];cases e:ZeZ (i+1) l x with
  | none=>rfl
  | some k=>
   have : ∀(l:List (List Int)) (i k:Nat),ZeZ i l x=some k→i≤k:=by
    intro l
    induction l with
    | nil=>intro i k h;cases h
    | cons z l ih=>
     intro i k h;unfold ZeZ at h;split at h
     ·cases h;omega
     have:=ih _ _ h;omega
   have:=this l (i+1) k e;simp only [Option.map_some];rw [show k-(i+1)+1=k-i by omega]
theorem ZkH : ∀(l:List (List Int)) (i:Nat) (x:List Int),ZjG i (l ++ [x])=ZjG i l ++ [(zH .u8 32 x,L.int .i64 ((i+l.length:Nat):Int))]
 | [],i,x=>rfl
 | y::l,i,x=>by rw [List.cons_append,ZjG,ZkH l (i+1) x,ZjG,List.length_cons,show i+1+l.length=i+(l.length+1) by omega];rfl
theorem ZgJ : ∀{l:List (List Int)} {i k:Nat} {x:List Int},ZeZ i l x=some k→i≤k∧∃h:k-i<l.length,l[k-i]=x
 | y::l,i,k,x,h=>by
  unfold ZeZ at h;split at h
  ·rename_i e;cases h;exact ⟨by omega,by simp,by simp [e]⟩
  obtain ⟨h1,h2,h3⟩:=ZgJ h;refine ⟨by omega,by simp;omega,?_⟩;have:k-i=(k-(i+1))+1:=by omega
  simp only [this,List.getElem_cons_succ];exact h3
theorem Znh : ∀{l:List (List Int)} {i:Nat} {x:List Int},ZeZ i l x=none→x∉l
 | [],_,_,_=>by simp
 | y::l,i,x,h=>by
  unfold ZeZ at h;split at h
  ·cases h
  rename_i e;simp [e,Znh h]
noncomputable def aOf (p:Zae) (room:Int) (ns:List Nd):ZaG:=⟨p,ZhZ ns,rowS p ns,ZjG 0 (ids ns),room⟩
theorem ZkV {ns:List Nd} {i:Nat} (h:i<ns.length):(ZhZ ns)[i]? = some ns[i].en.ls:=by simp [ZhZ,h]
theorem rowS_get {p:Zae} {ns:List Nd} {i:Nat} (h:i<ns.length):(rowS p ns)[i]? = some (Zdu p ns[i].ch).ls:=by simp [rowS,h]
@[simp] theorem Zhg (ns:List Nd):len (ZhZ ns)=(ns.length:Int):=by simp [len,ZhZ]
@[simp] theorem len_rowS (p:Zae) (ns:List Nd):len (rowS p ns)=(ns.length:Int):=by simp [len,rowS]
structure ZhC (ns:List Nd):Prop where
 small:ns.length≤512
 ch : ∀n∈ns,n.ch ≠ []∧n.ch.length≤ns.length
 wf : ∀n∈ns,∀x∈n.ch,WfH x
 wk : ∀n∈ns,isN n.wk
 ah : ∀(i:Nat) (h:i<ns.length),(i=0∧ns[i].ah = -1∧ns[i].ch.length=1)∨∃(k:Nat) (hk:k<i),ns[i].ah=(k:Int)∧ns[i].ch=ns[k].ch ++ [ns[i].hd]
 one:(ids ns).Nodup
theorem Nd.hd_snoc {n:Nd} {c:List Zak} {h:Zak} (e:n.ch=c ++ [h]):n.hd=h:=by unfold Nd.hd;rw [e];simp
theorem ZmS (p:Zae) (c:List Zak) (h:Zak):(Zdu p (c ++ [h])).Prev=hid h:=by
 unfold Zdu;rw [vK];rfl
theorem ZtF {st:LL} {i:Nat} {p:Zae} {room:Int} {ns:List Nd} (hst:st[i]? = some (aOf p room ns).lo) (hl:ns.length≤512) (nd:Nd) (hid':ZeZ 0 (ids ns) nd.id=none) :
  Zbm.p1 N (some i) (Zdu p nd.ch) nd.en st=some ((ns.length:Int),st.set i (aOf p room (ns ++ [nd])).lo):=by
 unfold Zbm.p1;have e1:(aOf p room ns).list ++ [nd.en.ls]=ZhZ (ns ++ [nd]):=by show ZhZ ns++_=_;simp [ZhZ]
 have e2:(aOf p room ns).spots ++ [(Zdu p nd.ch).ls]=rowS p (ns ++ [nd]):=by show rowS p ns++_=_;simp [rowS]
 have e3:(aOf p room ns).places ++ [(zH .u8 32 nd.en.Id,L.int .i64 (ns.length:Int))]=ZjG 0 (ids (ns ++ [nd])):=by
  show ZjG 0 (ids ns)++_=_;unfold ids;rw [List.map_append];show _=ZjG 0 (List.map Nd.id ns ++ [nd.id]);rw [ZkH,xW,yE];rfl
 have l1:(ZhZ (ns ++ [nd])).length=ns.length+1:=by simp [ZhZ]
 have l2:(rowS p (ns ++ [nd])).length=ns.length+1:=by simp [rowS]
 rw [Zaa,hst,Zan,ZbY,e1,e2,Zag (by rw [l1];omega),Zag (by rw [l2];omega),show Zir (aOf p room ns).places (zH .u8 32 nd.en.Id)=some none by
  show Zir (ZjG 0 (ids ns)) (zH .u8 32 nd.id)=_;rw [ZkZ,hid'];rfl]
 show some _=_;rw [Zhg,zT,yS,ZaL (by omega) (by omega),show ((ns.length+1:Nat):Int)-1=(ns.length:Int) by omega,e3];simp only [yT];rfl
theorem keep_eq (hN:300≤N) {st:LL} {i:Nat} {p:Zae} {room:Int} {ns:List Nd} (hst:st[i]? = some (aOf p room ns).lo) (hl:ns.length≤512) {k:Nat} (hk:k<ns.length) (hw:isN ns[k].wk) (hlen:ns[k].ch.length≤600)
  {h:Zak} (nd:Nd) (hch:nd.ch=ns[k].ch ++ [h]) (hah:nd.ah=(k:Int)) (hwk:nd.wk=Zmu ns[k].wk (Zhc h.Bits)) (hid':ZeZ 0 (ids ns) (hid h)=none) :
  Zbm N (some i) h (k:Int) (Zdu p nd.ch) st=some ((ns.length:Int),st.set i (aOf p room (ns ++ [nd])).lo):=by
 have hd:=nd.hd_snoc hch;unfold Zbm;rw [ZiS hN,Zaa,if_pos (by simp<;>omega),Zaa,hst,Zan,ZbY,show (aOf p room ns).list=ZhZ ns from rfl,Zhg,Zag (by omega),Zag (by omega),zG,yE,ZkV hk,Zan,Zfo,show (ns[k].en).Work=nw ns[k].wk from rfl,Zqe (by omega) hw (ZiE _),Zaa,show (ns[k].en).Height=(ns[k].ch.length:Int)-1 from rfl,ZaL (by omega) (by omega)];have e:Zcv.mk h (Zdu p nd.ch).Prev (k:Int) ((ns[k].ch.length:Int)-1+1) (nw (Zmu ns[k].wk (Zhc h.Bits)))=nd.en:=by
  unfold Nd.en Nd.id;rw [hd,hch,ZmS,hah,hwk,zT,yS]
  congr 1;omega
 rw [e];refine ZtF hst hl nd ?_;unfold Nd.id;rw [hd];exact hid'
theorem keep0_eq (hN:300≤N) {st:LL} {i:Nat} {p:Zae} {room:Int} (hst:st[i]? = some (aOf p room []).lo) {h:Zak} (nd:Nd) (hch:nd.ch = [h]) (hah:nd.ah = -1) (hwk:nd.wk=Zhc h.Bits) :
  Zbm N (some i) h (-1) (Zdu p nd.ch) st=some (0,st.set i (aOf p room [nd]).lo):=by
 have hd:nd.hd=h:=nd.hd_snoc (c:=[]) hch;unfold Zbm;rw [ZiS hN,Zaa,if_neg (by simp)];have e:Zcv.mk h (Zdu p nd.ch).Prev (-1) 0 (nw (Zhc h.Bits))=nd.en:=by
  unfold Nd.en Nd.id;rw [hd,hch,show (Zdu p [h]).Prev=hid h from ZmS p [] h,hah,hwk];rfl
 rw [e];exact ZtF (ns:=[]) hst (by simp) nd rfl
def chAt (ns:List Nd) (k:Nat):List Zak:=(ns[k]?.map Nd.ch).getD []
def wkAt (ns:List Nd) (k:Nat):Int:=(ns[k]?.map Nd.wk).getD 0
theorem Zkq {ns:List Nd} {k:Nat} (h:k<ns.length):chAt ns k=ns[k].ch:=by simp [chAt,h]
theorem Zqf {ns:List Nd} {k:Nat} (h:k<ns.length):wkAt ns k=ns[k].wk:=by simp [wkAt,h]
def Zeh (ns:List Nd) (k:Nat) (h:Zak):Nd:=⟨chAt ns k ++ [h],(k:Int),Zmu (wkAt ns k) (Zhc h.Bits)⟩
def Zjl (p:Zae) (gs:List ZcU) (cs:List Zcs) (room:Int) (ns:List Nd) (h:Zak) (now:Int):Int×Int×Int×List Nd:=
 if ZgD h=false then (-1,1,8,ns) else
 match ZeZ 0 (ids ns) (hid h) with
 | some k=>((k:Int),0,0,ns)
 | none=>match ZeZ 0 (ids ns) h.Prev with
  | none=>(-1,2,5,ns)
  | some k=>if ZfK p gs cs (Zdu p (chAt ns k)) h now≠0 then (-1,ZfK p gs cs (Zdu p (chAt ns k)) h now,8,ns)
   else if room≤(ns.length:Int) then (-1,0,6,ns) else ((ns.length:Int),0,0,ns ++ [Zeh ns k h])
theorem ZiG {st:LL} {i:Nat} {x:List L} (h:st[i]? = some x):st.set i x=st:=by
 apply xH;intro j;by_cases e:i=j
 ·subst e;obtain ⟨hi,e⟩:=List.getElem?_eq_some_iff.1 h;rw [zN hi,h]
 rw [zO e]
theorem ZsR (p:Zae) (c:List Zak):wfS (Zdu p c)=true:=by
 have h : ∀l:List Zak,∃ts:List Int,(Zdu p l).Times=Zel ts∧ts.length≤11:=by
  refine ZnK ⟨[],rfl,by simp⟩ (fun l h ih=>?_);unfold Zdu at *;rw [vK];exact ⟨_,rfl,by simp;omega⟩
 obtain ⟨ts,h1,h2⟩:=h c;simp only [wfS,h1,isI_row,xG,decide_eq_true_eq,ZdT];omega
theorem Add_eq (hN:500≤N) {st:LL} {i:Nat} {p:Zae} {gs:List ZcU} {cs:List Zcs} (hg:p.Gates=Zmy gs) (hc:p.Checks=ZjT cs) (lg:gs.length≤400) (lc:cs.length≤400) {room:Int} (hroom:room≤512) {ns:List Nd} (ht:ZhC ns) (hst:st[i]? = some (aOf p room ns).lo)
  {h:Zak} (hh:WfH h) (now:Int) (hnow : -1152921504606846976≤now∧now≤9223372036854775807) :
  ZaO N (some i) h now st=some ((Zjl p gs cs room ns h now).1,(Zjl p gs cs room ns h now).2.1,(Zjl p gs cs room ns h now).2.2.1,st.set i (aOf p room (Zjl p gs cs room ns h now).2.2.2).lo):=by
 have ss:=ZiG hst;unfold ZaO Zjl;rw [if_neg (c:=Option.isNone (some i)=true) (by simp),Zfi,Zaa];cases hgd:ZgD h with
 | false=>rw [if_pos (by rfl),if_pos (c:=false=false) rfl];dsimp only;rw [ss]
 | true=>
  rw [if_neg (c:=(!true)=true) (by simp),if_neg (c:=true=false) (by simp),Zaa,hst,Zan,ZbY,ZgE hN hh.w,Zaa,show (aOf p room ns).places=ZjG 0 (ids ns) from rfl,ZkZ];cases e1:ZeZ 0 (ids ns) (hid h) with
  | some k=>
   show ZaO.p1 N i now (k:Int) true h st=_;unfold ZaO.p1;rw [if_pos rfl];dsimp only;rw [ss]
  | none=>
   show ZaO.p1 N i now 0 false h st=_;unfold ZaO.p1;rw [if_neg (by simp),hst,Zan,ZbY,show (aOf p room ns).places=ZjG 0 (ids ns) from rfl,ZkZ];cases e2:ZeZ 0 (ids ns) h.Prev with
   | none=>
    show ZaO.p2 N i now 0 false h st=_;unfold ZaO.p2;rw [if_pos (by rfl)];dsimp only;rw [ss]
   | some k=>
    show ZaO.p2 N i now (k:Int) true h st=_;obtain ⟨_,hk,_⟩:=ZgJ e2;have hk':k<ns.length:=by simpa [ids] using hk
    have sw:=ZsR p ns[k].ch;have isT:isI (Zdu p ns[k].ch).Times=true:=by simp only [wfS,zS] at sw;exact sw.1
    unfold ZaO.p2;dsimp only;rw [if_neg (c:=(!true)=true) (by simp),hst,Zan,ZbY,show (aOf p room ns).spots=rowS p ns from rfl,len_rowS,Zag (by omega),Zag (by omega),zG,yE,rowS_get hk',Zan,ZkR,show (aOf p room ns).rules=p from rfl,ZnD hN hg hc lg lc hh.w isT now hnow,Zaa,Zkq hk'];by_cases h4:ZfK p gs cs (Zdu p ns[k].ch) h now=0
    ·rw [if_neg (c:=(ZfK p gs cs (Zdu p ns[k].ch) h now != 0)=true) (by simp [h4]),if_neg (c:=ZfK p gs cs (Zdu p ns[k].ch) h now≠0) (by simp [h4]),show (aOf p room ns).list=ZhZ ns from rfl,Zhg,show (aOf p room ns).room=room from rfl];by_cases h5:room≤(ns.length:Int)
     ·rw [if_pos (by simpa using h5),if_pos h5];dsimp only;rw [ss]
     rw [if_neg (by simpa using h5),if_neg h5,Zih hN hh.w sw,Zaa];have be:ZfX p (Zdu p ns[k].ch) h=Zdu p (Zeh ns k h).ch:=by
      unfold Zeh Zdu;rw [Zkq hk',vK];rfl
     have hm:=yJ hk';have sm:=ht.small;have cl:=(ht.ch _ hm).2;rw [be,keep_eq (by omega) hst ht.small hk' (ht.wk _ hm) (by omega) (Zeh ns k h) (by unfold Zeh;rw [Zkq hk']) rfl (by unfold Zeh;rw [Zqf hk']) e1,Zaa]
    rw [if_pos (c:=(ZfK p gs cs (Zdu p ns[k].ch) h now != 0)=true) (by simpa using h4),if_pos (c:=ZfK p gs cs (Zdu p ns[k].ch) h now≠0) h4];dsimp only;rw [ss]
noncomputable def ZhV (l:List (List Int)):LL:=l.map fun x=>[zH .u8 32 x]
noncomputable def Ztf (l:List Int):LL:=l.map fun x=>[zH .u64 4 (nw x)]
noncomputable def rOf (p:Zae) (room:Int) (ns:List Nd):Zab:=⟨p,Zkb (ns.map Nd.hd),ZhV (ids ns),Zel (ns.map Nd.ah),Ztf (ns.map Nd.wk),room⟩
theorem ZrY {l:List (List Int)} {i:Nat} (h:i<l.length):(ZhV l)[i]? = some [zH .u8 32 l[i]]:=by simp [ZhV,h]
theorem ZnH {l:List Int} {i:Nat} (h:i<l.length):(Ztf l)[i]? = some [zH .u64 4 (nw l[i])]:=by simp [Ztf,h]
@[simp] theorem Zsn (l:List (List Int)):len (ZhV l)=(l.length:Int):=by simp [len,ZhV]
@[simp] theorem Zrp (l:List Int):len (Ztf l)=(l.length:Int):=by simp [len,Ztf]
@[simp] theorem Zof (l:List Zak):len (Zkb l)=(l.length:Int):=by simp [len]
theorem Zsd (i:Nat) (y:List Int) (l:List (List Int)) (x:List Int):ZeZ i (y::l) x=if x=y then some i else ZeZ (i+1) l x:=rfl
def Zpp (o:Option Nat):Int:=match o with
 | some k=>(k:Int)
 | none=>-1
theorem Zjx {st:LL} {i:Nat} {p:Zae} {room:Int} {ns:List Nd} (hN:ns.length<N) (hl:ns.length≤512) (hst:st[i]? = some (rOf p room ns).lo) (x:List Int) :
  Zbo N (some i) x st=some (Zpp (ZeZ 0 (ids ns) x),st):=by
 unfold Zbo;rw [Zaa,hst,Zan,Zbj];have li:(ids ns).length=ns.length:=by simp [ids]
 refine ZbW (fun m (v:Int)=>∃k:Nat,k+m=ns.length∧v=(k:Int)∧ZeZ 0 (ids ns) x=ZeZ k ((ids ns).drop k) x) ?_ N ns.length 0 ⟨0,by omega,rfl,by rw [wZ]⟩ hN;rintro G m _ ⟨k,hk,rfl,hp⟩ hG;unfold Zbo.p1;rw [show (rOf p room ns).Ids=ZhV (ids ns) from rfl,Zsn,li];by_cases hlt:k<ns.length
 ·have hk':k<(ids ns).length:=by omega
  rw [yN hk'] at hp;rw [Zsd] at hp;rw [if_pos (by simp<;>omega),Zag (by omega),hst,Zan,Zbj,show (rOf p room ns).Ids=ZhV (ids ns) from rfl,zG,yE,ZrY hk',Zan,ZkJ,ZaL (by omega) (by omega)];by_cases he:x=(ids ns)[k]
  ·rw [if_pos he] at hp;rw [if_pos (by simp [he]),hp];rfl
  rw [if_neg he] at hp;rw [if_neg (by simpa using fun e=>he e.symm)];exact hG (m-1) _ (by omega) ⟨k+1,by omega,by omega,hp⟩
 rw [if_neg (by simp<;>omega),hp,List.drop_of_length_le (by omega)];rfl
theorem ZmA {p:Zae} {room:Int} {ns:List Nd} (ht:ZhC ns) (hN:ns.length+2≤N) {k:Nat} (hk:k<ns.length):ZaZ N (rOf p room ns) (k:Int)=some (Zkb (chAt ns k)):=by
 have sm:=ht.small;unfold ZaZ;rw [Zkq hk];refine ZbW (fun m (x:LL×Int)=>∃out:List Zak,x=(Zkb out,(m:Int)-1)∧m≤ns.length∧((m=0∧out=ns[k].ch)∨∃h:0<m∧m-1<ns.length,ns[m-1].ch++out=ns[k].ch)) ?_ N (k+1) _ ⟨[],by simp;rfl,by omega,.inr ⟨⟨by omega,by omega⟩,by simp⟩⟩ (by omega);rintro G m _ ⟨out,rfl,hm,ho⟩ hG;unfold ZaZ.p1;dsimp only;rcases ho with ⟨rfl,rfl⟩ | ⟨⟨h0,h1⟩,ho⟩
 ·rw [if_neg (by simp)]
 obtain ⟨j,rfl⟩ : ∃j,m=j+1:=⟨m-1,by omega⟩
 simp only [uN] at ho h1;have hj:j<(ns.map Nd.hd).length:=by simp;omega
 have hj2:j<(ns.map Nd.ah).length:=by simp;omega
 have cl:=congrArg List.length ho;rw [zT] at cl;have cb:=(ht.ch _ (yJ hk)).2;rw [show (rOf p room ns).List_=Zkb (ns.map Nd.hd) from rfl,show (rOf p room ns).Ahead=Zel (ns.map Nd.ah) from rfl,show ((j+1:Nat):Int)-1=(j:Int) by omega,if_pos (by simp),Zof,ZeN,Zag (by omega),Zag (by omega),zG,Zjt hj,Zan,ZeT,Zag (by rw [zT,Zlv];simp;omega),Zag (by omega),Zjs hj2,Zan,Zei,uM,uM];have e : [ns[j].hd.ls]++Zkb out=Zkb (ns[j].hd::out):=rfl;rw [e];have nl:=ht.ch _ (yJ h1);rcases ht.ah j h1 with ⟨z,a,c⟩ | ⟨q,hq,a,c⟩
 ·have c1:ns[j].ch = [ns[j].hd]:=by
   unfold Nd.hd
   match hch:ns[j].ch,c with
   | [x],_=>rfl
  rw [a];rw [c1] at ho;exact hG 0 _ (by omega) ⟨_,rfl,by omega,.inl ⟨rfl,ho⟩⟩
 rw [a];rw [c,List.append_assoc] at ho;exact hG (q+1) _ (by omega) ⟨_,by rw [show ((q+1:Nat):Int)-1=(q:Int) by omega],by omega,.inr ⟨⟨by omega,by omega⟩,by simpa using ho⟩⟩
theorem ZtW (p:Zae) (gs:List ZcU) (cs:List Zcs) (s:ZaX) (h:Zak) (now:Int):0≤ZfK p gs cs s h now:=by
 unfold ZfK;repeat' split
 all_goals omega
theorem Zpi (hN:900≤N) {st:LL} {i:Nat} {p:Zae} {gs:List ZcU} {cs:List Zcs} (hg:p.Gates=Zmy gs) (hc:p.Checks=ZjT cs) (lg:gs.length≤400) (lc:cs.length≤400) {room:Int} (hroom:room≤512) {ns:List Nd} (ht:ZhC ns) (hlen:ns.length≤200) (hst:st[i]? = some (rOf p room ns).lo)
  {h:Zak} (hh:WfH h) (now:Int) (hnow:0≤now∧now≤9223372036854775807) :
  Zdp N (some i) h now st=some ((Zjl p gs cs room ns h now).1,(Zjl p gs cs room ns h now).2.1,(Zjl p gs cs room ns h now).2.2.1,st.set i (rOf p room (Zjl p gs cs room ns h now).2.2.2).lo):=by
 have ss:=ZiG hst;unfold Zdp Zjl;rw [ZiH,Zaa];cases hgd:ZgD h with
 | false=>rw [if_pos (by rfl),if_pos (c:=false=false) rfl];dsimp only;rw [ss]
 | true=>
  rw [if_neg (c:=(!true)=true) (by simp),if_neg (c:=true=false) (by simp),Zjw (by omega) h hh.w,Zaa,Zjx (by omega) ht.small hst,Zaa];dsimp only;cases e1:ZeZ 0 (ids ns) (hid h) with
  | some k=>
   rw [show Zpp (some k)=(k:Int) from rfl,if_pos (by simp)];dsimp only;rw [ss]
  | none=>
   rw [show Zpp none = -1 from rfl,if_neg (by simp),Zjx (by omega) ht.small hst,Zaa];dsimp only;cases e2:ZeZ 0 (ids ns) h.Prev with
   | none=>
    rw [show Zpp none = -1 from rfl,if_pos (by simp)];dsimp only;rw [ss]
   | some k=>
    obtain ⟨_,hk,_⟩:=ZgJ e2;have hk':k<ns.length:=by simpa [ids] using hk
    have hm:=yJ hk';have cl:=ht.ch _ hm;have c0:0<ns[k].ch.length:=List.length_pos_iff.2 cl.1;dsimp only;rw [show Zpp (some k)=(k:Int) from rfl,if_neg (by simp<;>omega),Zaa,hst,Zan,Zbj,ZmA ht (by omega) hk',Zaa,Zkq hk',Zag (by simp [ZeA,Zkb,Zak.ls,L.plain]),show (rOf p room ns).Rules=p from rfl,ZmB hN hg lg hc lc ns[k].ch c0 (by omega) (fun x hx=>(ht.wf _ hm x hx).w) hh.w now hnow,Zaa];have nn:=ZtW p gs cs (Zdu p ns[k].ch) h now;by_cases h4:ZfK p gs cs (Zdu p ns[k].ch) h now=0
    ·rw [if_neg (c:=decide (ZfK p gs cs (Zdu p ns[k].ch) h now>0)=true) (by simp<;>omega),if_neg (c:=ZfK p gs cs (Zdu p ns[k].ch) h now≠0) (by simp [h4]),show (rOf p room ns).List_=Zkb (ns.map Nd.hd) from rfl,Zof,xW,show (rOf p room ns).Room=room from rfl];by_cases h5:room≤(ns.length:Int)
     ·rw [if_pos (by simpa using h5),if_pos h5];dsimp only;rw [ss]
     have hd:=(Zeh ns k h).hd_snoc rfl;have i1:Zkb (ns.map Nd.hd) ++ [h.ls]=Zkb ((ns ++ [Zeh ns k h]).map Nd.hd):=by simp [Zkb,hd]
     have i2:ZhV (ids ns) ++ [[zH .u8 32 (hid h)]]=ZhV (ids (ns ++ [Zeh ns k h])):=by simp [ZhV,ids,Nd.id,hd]
     have i3:Ztf (ns.map Nd.wk) ++ [[zH .u64 4 (nw (Zmu ns[k].wk (Zhc h.Bits)))]]=Ztf ((ns ++ [Zeh ns k h]).map Nd.wk):=by simp [Ztf,Zeh,Zqf hk']
     have i4:Zel (ns.map Nd.ah) ++ [[L.int .i64 (k:Int)]]=Zel ((ns ++ [Zeh ns k h]).map Nd.ah):=by simp [Zel,Zeh]
     have kw:k<(ns.map Nd.wk).length:=by simp;omega
     have sm:=ht.small;rw [if_neg (by simpa using h5),if_neg h5,show (rOf p room ns).Ids=ZhV (ids ns) from rfl,show (rOf p room ns).Works=Ztf (ns.map Nd.wk) from rfl,show (rOf p room ns).Ahead=Zel (ns.map Nd.ah) from rfl,i1,i2,i4,Zag (by rw [Zlv,xW,zT,yS];omega),Zag (by simp [ZhV,ids];omega),Zag (by omega),Zrp,Zag (by rw [xW];omega),zG,yE,ZnH kw,Zan,uM,ZpR,Zil (by omega),Zaa,Zpj (by omega) (ht.wk _ hm) (ZiE _),Zaa,i3,Zag (by simp [Ztf];omega),Zag (by rw [ZdT,xW,zT,yS];omega),Zof,xW,zT,yS,ZaL (by omega) (by omega)];simp only [yT];rw [show ((ns.length+1:Nat):Int)-1=(ns.length:Int) by omega];rfl
    rw [if_pos (c:=decide (ZfK p gs cs (Zdu p ns[k].ch) h now>0)=true) (by simp<;>omega),if_pos (c:=ZfK p gs cs (Zdu p ns[k].ch) h now≠0) h4];dsimp only;rw [ss]
theorem ZhC.one_node {g:Zak} (hg:WfH g):ZhC [⟨[g],-1,Zhc g.Bits⟩] where
 small:=by simp
 ch:=fun n hn=>by cases List.mem_singleton.1 hn;simp
 wf:=fun n hn x hx=>by cases List.mem_singleton.1 hn;cases List.mem_singleton.1 hx;exact hg
 wk:=fun n hn=>by cases List.mem_singleton.1 hn;exact ZiE _
 ah:=fun i h=>.inl ⟨by simpa using h,by simp at h;subst h;rfl,by simp at h;subst h;rfl⟩
 one:=by simp [ids]
theorem ZhC.grow {ns:List Nd} (ht:ZhC ns) {k:Nat} (hk:k<ns.length) {h:Zak} (hh:WfH h) (hs:ns.length<512) (hid':ZeZ 0 (ids ns) (hid h)=none):ZhC (ns ++ [Zeh ns k h]):=by
 have hm:=yJ hk;have cl:=ht.ch _ hm;have hc:(Zeh ns k h).ch=ns[k].ch ++ [h]:=by unfold Zeh;rw [Zkq hk]
 have hd:=(Zeh ns k h).hd_snoc rfl;refine ⟨by simp;omega,?_,?_,?_,?_,?_⟩
 ·intro n hn;rcases List.mem_append.1 hn with hn | hn
  ·have:=ht.ch n hn;exact ⟨this.1,by simp;omega⟩
  cases List.mem_singleton.1 hn;rw [hc];exact ⟨by simp,by simp;omega⟩
 ·intro n hn x hx;rcases List.mem_append.1 hn with hn | hn
  ·exact ht.wf n hn x hx
  cases List.mem_singleton.1 hn;rw [hc] at hx;rcases List.mem_append.1 hx with hx | hx
  ·exact ht.wf _ hm x hx
  cases List.mem_singleton.1 hx;exact hh
 ·intro n hn;rcases List.mem_append.1 hn with hn | hn
  ·exact ht.wk n hn
  cases List.mem_singleton.1 hn;unfold Zeh;rw [Zqf hk];exact ZsJ (ht.wk _ hm) (ZiE _)
 ·intro i hi;by_cases hlt:i<ns.length
  ·rw [tA hlt];rcases ht.ah i hlt with a | ⟨q,hq,a,b⟩
   ·exact .inl a
   exact .inr ⟨q,hq,a,by rw [tA (by omega)];exact b⟩
  have:i=ns.length:=by simp at hi;omega
  subst this;refine .inr ⟨k,hk,?_,?_⟩
  ·rw [sU (by omega)];simp [Zeh]
  rw [sU (by omega),tA hk];simp only [Nat.sub_self,List.getElem_singleton];rw [hc,hd]
 have np:=Znh hid';unfold ids at *;rw [List.map_append,List.nodup_append];refine ⟨ht.one,by simp,?_⟩;intro a ha b hb;simp only [List.map_cons,List.map_nil,List.mem_singleton] at hb;subst hb;intro e;unfold Nd.id at e;rw [hd] at e;exact np (by rw [←e];exact ha)
theorem Zkt (p:Zae) (gs:List ZcU) (cs:List Zcs) (room:Int) (ns:List Nd) (h:Zak) (now:Int) :
  (Zjl p gs cs room ns h now).2.2.2=ns∨∃k:Nat,k<ns.length∧ZgD h=true∧ZeZ 0 (ids ns) (hid h)=none∧ZfK p gs cs (Zdu p (chAt ns k)) h now=0∧(ns.length:Int)<room ∧
   Zjl p gs cs room ns h now=((ns.length:Int),0,0,ns ++ [Zeh ns k h]):=by
 unfold Zjl;by_cases hg:ZgD h=false
 ·rw [if_pos hg];exact .inl rfl
 rw [if_neg hg];cases e1:ZeZ 0 (ids ns) (hid h) with
 | some k=>exact .inl rfl
 | none=>
  dsimp only;cases e2:ZeZ 0 (ids ns) h.Prev with
  | none=>exact .inl rfl
  | some k=>
   dsimp only;obtain ⟨_,hk,_⟩:=ZgJ e2;have hk':k<ns.length:=by simpa [ids] using hk
   by_cases h1:ZfK p gs cs (Zdu p (chAt ns k)) h now=0
   ·rw [if_neg (by simp [h1])];by_cases h2:room≤(ns.length:Int)
    ·rw [if_pos h2];exact .inl rfl
    rw [if_neg h2];exact .inr ⟨k,hk',by simpa using hg,rfl,h1,by omega,rfl⟩
   rw [if_pos h1];exact .inl rfl
theorem Zup {p:Zae} {gs:List ZcU} {cs:List Zcs} {room:Int} (hr:room≤512) {ns:List Nd} (ht:ZhC ns) {h:Zak} (hh:WfH h) (now:Int):ZhC (Zjl p gs cs room ns h now).2.2.2:=by
 rcases Zkt p gs cs room ns h now with e | ⟨k,hk,_,hi,_,hl,e⟩
 ·rw [e];exact ht
 rw [e];exact ht.grow hk hh (by omega) hi
theorem addT_len (p:Zae) (gs:List ZcU) (cs:List Zcs) (room:Int) (ns:List Nd) (h:Zak) (now:Int):ns.length≤(Zjl p gs cs room ns h now).2.2.2.length∧(Zjl p gs cs room ns h now).2.2.2.length≤ns.length+1:=by
 rcases Zkt p gs cs room ns h now with e | ⟨k,hk,_,hi,_,hl,e⟩
 ·rw [e];omega
 rw [e];simp
def ZkD (room:Int):Int:=if (512:Int)<(if (1:Int)>room then 1 else room) then 512 else (if (1:Int)>room then 1 else room)
def ZfQ (p:Zae):Nd:=⟨[p.Genesis],-1,Zhc p.Genesis.Bits⟩
theorem set_last (st:LL) (a b:List L):(st ++ [a]).set st.length b=st ++ [b]:=by simp
theorem New_eq (hN:500≤N) {p:Zae} {gs:List ZcU} {cs:List Zcs} (hg:p.Gates=Zmy gs) (hc:p.Checks=ZjT cs) (lg:gs.length≤400) (lc:cs.length≤400) (hp:WfP p) (room:Int) (st:LL) :
  Zfe N p room st=if Zmz p gs cs=true then some (some st.length,0,st ++ [(aOf p (ZkD room) [ZfQ p]).lo]) else some (none,1,st):=by
 unfold Zfe;rw [ZoY hN hg lg hc lc,Zaa];cases hgd:Zmz p gs cs with
 | false=>rfl
 | true=>
  have pp:({p with Gates:=[]++p.Gates,Checks:=[]++p.Checks}:Zae)=p:=rfl;rw [if_neg (c:=(!true)=true) (by simp),pp,Zag (by rw [hg,List.nil_append,Zqr];omega),Zag (by rw [hc,List.nil_append,Zqs];omega),Zmx hN hp.h.w,Zaa];have hst:(st ++ [(aOf p (ZkD room) []).lo])[st.length]? = some (aOf p (ZkD room) []).lo:=by simp
  have k:=keep0_eq (N:=N) (by omega) hst (h:=p.Genesis) (ZfQ p) rfl rfl rfl;rw [set_last] at k;rw [if_pos (c:=true=true) rfl];show Zbn (Zbm N (some st.length) p.Genesis (-1) (Zdu p (ZfQ p).ch) (st ++ [(aOf p (ZkD room) []).lo])) _=_;rw [k,Zaa]
theorem Zph (hN:900≤N) {p:Zae} (hp:WfP p) (room:Int) (st:LL):ZeV N p room st=some (some st.length,st ++ [(rOf p (ZkD room) [ZfQ p]).lo]):=by
 unfold ZeV;rw [Zjw (by omega) _ hp.h.w,Zaa,Zil (by omega),Zaa];rfl
theorem Len_v_eq (p:Zae) (room:Int) (ns:List Nd):Zdk N (aOf p room ns)=some (ns.length:Int):=by
 unfold Zdk;rw [show (aOf p room ns).list=ZhZ ns from rfl,Zhg]
theorem Zux (p:Zae) (room:Int) {ns:List Nd} {k:Nat} (hk:k<ns.length):Zcr N (aOf p room ns) (k:Int)=some (ns[k].en,true):=by
 unfold Zcr ZbX;rw [show (aOf p room ns).list=ZhZ ns from rfl,Zhg,if_pos (by simp),Zaa,if_neg (by simp<;>omega),Zag (by omega),Zag (by omega),zG,ZkV hk,Zan,Zfo]
theorem Zuw (p:Zae) (room:Int) {ns:List Nd} {k:Int} (hk:k<0∨(ns.length:Int)≤k):Zcr N (aOf p room ns) k=some (Zcv.mk (Zak.mk 0 (zC 32 0) (zC 32 0) 0 0 0) (zC 32 0) (-1) 0 (zC 4 0),false):=by
 unfold Zcr ZbX;rw [show (aOf p room ns).list=ZhZ ns from rfl,Zhg];by_cases h:k≥0
 ·rw [if_pos (by simpa using h),Zaa,if_pos (by simp<;>omega)]
 rw [if_neg (by simpa using h),Zaa,if_pos (by rfl)]
end Go.Dn.F
set_option maxRecDepth 100000
namespace Go.Dn.F
open Go.Dn Go.Proofs
variable {N:Nat}
def pA:Zae:=⟨545259519,4,10,0,false,[],[],zC 4 0,zC 4 0,h0⟩
theorem h0_wf:WfH h0:=⟨by unfold Zom h0;simp,by unfold wfH h0;decide,by unfold Zom h0;simp,by unfold Zom h0;simp,by unfold Zom h0;simp⟩
theorem pA_wf:WfP pA where
 l:=by unfold Zom pA;simp
 i:=by unfold Zom pA;simp
 s:=by unfold Zom pA;simp
 f:=by unfold Zom pA;simp
 g:=by unfold pA;simp
 gl:=by unfold pA;simp
 c:=by unfold pA;simp
 cl:=by unfold pA;simp
 m:=by unfold pA;exact ⟨rfl,fun x hx=>by obtain ⟨_,rfl⟩:=List.mem_replicate.1 hx;decide⟩
 r:=by unfold pA;exact ⟨rfl,fun x hx=>by obtain ⟨_,rfl⟩:=List.mem_replicate.1 hx;decide⟩
 h:=h0_wf
end Go.Dn.F
set_option maxRecDepth 40000
namespace Go.Dn.F
open Go.Dn Go.Proofs
variable {N:Nat}
def ZsE (ns:List Nd):Nat→Nat→List Nat
 | 0,k=>[k]
 | f+1,k=>match ns[k]? with
  | some n=>if n.ah<0 then [k] else ZsE ns f n.ah.toNat ++ [k]
  | none=>[k]
def ZeL (ns:List Nd) (k:Nat):List Nat:=ZsE ns k k
theorem Ztj {ns:List Nd} (ht:ZhC ns) : ∀(k f g:Nat),k<ns.length→k≤f→k≤g→ZsE ns f k=ZsE ns g k:=by
 intro k
 induction k using vX with
 | ind k ih=>
  intro f g hk hf hg;rcases ht.ah k hk with ⟨z,a,c⟩ | ⟨q,hq,a,c⟩
  ·have e : ∀f,ZsE ns f k = [k]:=fun f=>by
    cases f with
    | zero=>rfl
    | succ f=>unfold ZsE;rw [zP hk];dsimp only;rw [a,if_pos (by omega)]
   rw [e,e]
  obtain ⟨f,rfl⟩ : ∃x,f=x+1:=⟨f-1,by omega⟩
  obtain ⟨g,rfl⟩ : ∃x,g=x+1:=⟨g-1,by omega⟩
  unfold ZsE;rw [zP hk];dsimp only;rw [a,if_neg (by omega),if_neg (by omega),zG,ih q hq f g (by omega) (by omega) (by omega)]
theorem Ztg {ns:List Nd} {k:Nat} (hk:k<ns.length) (a:ns[k].ah = -1):ZeL ns k = [k]:=by
 unfold ZeL;cases k with
 | zero=>rfl
 | succ f=>unfold ZsE;rw [zP hk];dsimp only;rw [a,if_pos (by omega)]
theorem Zpb {ns:List Nd} (ht:ZhC ns) {k q:Nat} (hk:k<ns.length) (hq:q<k) (a:ns[k].ah=(q:Int)):ZeL ns k=ZeL ns q ++ [k]:=by
 obtain ⟨f,rfl⟩ : ∃x,k=x+1:=⟨k-1,by omega⟩
 unfold ZeL;rw [ZsE,zP hk];dsimp only;rw [a,if_neg (by omega),zG,Ztj ht q f q (by omega) (by omega) (by omega)]
theorem Zeg {ns:List Nd} (ht:ZhC ns) {k:Nat} (hk:k<ns.length) :
  (k=0∧ns[k].ah = -1∧ZeL ns k = [k]∧ns[k].ch.length=1)∨∃q,q<k∧ns[k].ah=(q:Int)∧ZeL ns k=ZeL ns q ++ [k]∧∃hq:q<ns.length,ns[k].ch=ns[q].ch ++ [ns[k].hd]:=by
 rcases ht.ah k hk with ⟨z,a,c⟩ | ⟨q,hq,a,c⟩
 ·exact .inl ⟨z,a,Ztg hk a,c⟩
 exact .inr ⟨q,hq,a,Zpb ht hk hq a,by omega,c⟩
theorem ZhE {ns:List Nd} (ht:ZhC ns) : ∀{k:Nat} (hk:k<ns.length),(ZeL ns k).length=ns[k].ch.length:=by
 intro k
 induction k using vX with
 | ind k ih=>
  intro hk;rcases Zeg ht hk with ⟨z,a,e,c⟩ | ⟨q,hq,a,e,hq',c⟩
  ·rw [e,c];rfl
  rw [e,c,zT,zT,ih q hq hq'];rfl
theorem Zpc {ns:List Nd} (ht:ZhC ns) {k:Nat} (hk:k<ns.length):(ZeL ns k)[(ZeL ns k).length-1]? = some k:=by
 rcases Zeg ht hk with ⟨z,a,e,c⟩ | ⟨q,hq,a,e,hq',c⟩
 ·rw [e];rfl
 rw [e];simp
theorem Zka {ns:List Nd} (ht:ZhC ns) : ∀{k:Nat},k<ns.length→∀x∈ZeL ns k,x≤k:=by
 intro k
 induction k using vX with
 | ind k ih=>
  intro hk x hx;rcases Zeg ht hk with ⟨z,a,e,c⟩ | ⟨q,hq,a,e,hq',c⟩
  ·rw [e] at hx;simp at hx;omega
  rw [e] at hx;rcases List.mem_append.1 hx with hx | hx
  ·have:=ih q hq hq' x hx;omega
  simp at hx;omega
theorem Zrg {ns:List Nd} (ht:ZhC ns) : ∀{k:Nat},k<ns.length→∀{h x:Nat},(ZeL ns k)[h]? = some x→x<ns.length∧ZeL ns x=(ZeL ns k).take (h+1):=by
 intro k
 induction k using vX with
 | ind k ih=>
  intro hk h x hx;rcases Zeg ht hk with ⟨z,a,e,c⟩ | ⟨q,hq,a,e,hq',c⟩
  ·rw [e] at hx ⊢;cases h with
   | zero=>cases hx;exact ⟨hk,by rw [e];rfl⟩
   | succ h=>cases hx
  rw [e] at hx ⊢;by_cases hlt:h<(ZeL ns q).length
  ·rw [zV hlt] at hx;obtain ⟨h1,h2⟩:=ih q hq hq' hx;exact ⟨h1,by rw [h2,List.take_append_of_le_length (by omega)]⟩
  rw [yA (by omega)] at hx;have e0:h-(ZeL ns q).length=0:=by
   cases e1:h-(ZeL ns q).length with
   | zero=>rfl
   | succ n=>rw [e1] at hx;cases hx
  rw [e0] at hx;cases hx;exact ⟨hk,by rw [e,zX (by simp;omega)]⟩
theorem rowP_at {ns:List Nd} (ht:ZhC ns) {k h x:Nat} (hk:k<ns.length) (hx:(ZeL ns k)[h]? = some x) : ∃h':x<ns.length,ns[x].ch.length=h+1:=by
 obtain ⟨h1,h2⟩:=Zrg ht hk hx;refine ⟨h1,?_⟩;have hl:h<(ZeL ns k).length:=(List.getElem?_eq_some_iff.1 hx).1;rw [←ZhE ht h1,h2,List.length_take];omega
theorem ZnI {ns:List Nd} (ht:ZhC ns) {k x:Nat} (hk:k<ns.length) (hx:x∈ZeL ns k) : ∃h':x<ns.length,(ZeL ns k)[ns[x].ch.length-1]? = some x:=by
 obtain ⟨h,hx⟩:=List.mem_iff_getElem?.1 hx;obtain ⟨h1,h2⟩:=rowP_at ht hk hx;exact ⟨h1,by rw [h2];exact hx⟩
theorem Zti (ns:List Nd) (nd:Nd) (ht:ZhC ns) : ∀(k f:Nat),k<ns.length→ZsE (ns ++ [nd]) f k=ZsE ns f k:=by
 intro k
 induction k using vX with
 | ind k ih=>
  intro f hk;cases f with
  | zero=>rfl
  | succ f=>
   unfold ZsE;rw [zV hk,zP hk];dsimp only;rcases ht.ah k hk with ⟨z,a,c⟩ | ⟨q,hq,a,c⟩
   ·rw [a,if_pos (by omega),if_pos (by omega)]
   rw [a,if_neg (by omega),if_neg (by omega),zG,ih q hq f (by omega)]
theorem Zij {ns:List Nd} (nd:Nd) (ht:ZhC ns) {k:Nat} (hk:k<ns.length):ZeL (ns ++ [nd]) k=ZeL ns k:=Zti ns nd ht k k hk
def Zuy (l:List Nat):List Int:=l.map (fun x:Nat=>(x:Int))
theorem ZgT {p:Zae} {room:Int} {ns:List Nd} (ht:ZhC ns) (hN:ns.length+2≤N) {k:Nat} (hk:k<ns.length):ZaM N (rOf p room ns) (k:Int)=some (Zel (Zuy (ZeL ns k))):=by
 have sm:=ht.small;unfold ZaM;have lk:=ZhE ht hk;have cb:=(ht.ch _ (yJ hk)).2;have key:loopN (ZaM.p1 N (rOf p room ns)) N ([],(k:Int))=some (Zel (Zuy (ZeL ns k))):=by
  refine ZbW (fun m (s:LL×Int)=>∃(q:Nat) (c:List Nat),q=m∧s=(Zel (Zuy c),(q:Int)-1)∧((q=0∧c=ZeL ns k)∨∃h:0<q∧q-1<ns.length,ZeL ns (q-1)++c=ZeL ns k)) ?_ N (k+1) _ ⟨k+1,[],rfl,by rw [show ((k+1:Nat):Int)-1=(k:Int) by omega];rfl,.inr ⟨⟨by omega,by omega⟩,by simp⟩⟩ (by omega);rintro G m _ ⟨q,c,rfl,rfl,ho⟩ hG;unfold ZaM.p1;dsimp only;rcases ho with ⟨rfl,rfl⟩ | ⟨⟨h0,h1⟩,ho⟩
  ·rw [if_neg (by simp)]
  obtain ⟨j,rfl⟩ : ∃j,q=j+1:=⟨q-1,by omega⟩
  simp only [uN] at ho h1;have hj2:j<(ns.map Nd.ah).length:=by simp;omega
  have lo:=congrArg List.length ho;rw [zT,lk] at lo;have e1 : [(j:Int)]++Zuy c=Zuy (j::c):=rfl;rw [show (rOf p room ns).Ahead=Zel (ns.map Nd.ah) from rfl,show ((j+1:Nat):Int)-1=(j:Int) by omega,if_pos (by simp),ZkU,ZhF,e1,Zag (by rw [ZdT];simp [Zuy];omega),Zag (by omega),ZeN,Zag (by omega),zG,Zjs hj2,Zan,Zei,uM];rcases Zeg ht h1 with ⟨z,a,e,cl⟩ | ⟨q,hq,a,e,hq',cl⟩
  ·rw [a];exact hG 0 _ (by omega) ⟨0,_,rfl,rfl,.inl ⟨rfl,by rw [←ho,e];rfl⟩⟩
  rw [a];exact hG (q+1) _ (by omega) ⟨q+1,_,rfl,by rw [show ((q+1:Nat):Int)-1=(q:Int) by omega],.inr ⟨⟨by omega,by simp;omega⟩,by simp only [uN];rw [←ho,e];simp⟩⟩
 exact key
noncomputable def tOf (p:Zae) (room:Int) (ns:List Nd) (lp:List Int):ZaC:=⟨aOf p room ns,Zel lp⟩
structure ZqS (ns:List Nd) (lp:List Int):Prop where
 len:lp.length≤ns.length
 ok : ∀(i:Nat) (v:Int),lp[i]? = some v→v = -1∨∃x:Nat,v=(x:Int)∧x≠i∧x∈ZeL ns i
def hZ (ns:List Nd) (k:Int):Int:=if 0≤k∧k<(ns.length:Int) then ((ns[k.toNat]?.map Nd.ch).getD []).length-1 else -1
theorem Zss {ns:List Nd} {k:Nat} (hk:k<ns.length):hZ ns (k:Int)=(ns[k].ch.length:Int)-1:=by
 unfold hZ;rw [if_pos (by omega),zG,zP hk];rfl
theorem ZqK {ns:List Nd} {k:Int} (hk:k<0∨(ns.length:Int)≤k):hZ ns k = -1:=by
 unfold hZ;rw [if_neg (by omega)]
theorem Zlo (p:Zae) (room:Int) {ns:List Nd} (lp:List Int) {k:Nat} (hk:k<ns.length):ZbR N (tOf p room ns lp) (k:Int)=some (ns[k].en,true):=by
 unfold ZbR;rw [show (tOf p room ns lp).store=aOf p room ns from rfl,Zux p room hk,Zaa]
theorem ZsT (p:Zae) (room:Int) {ns:List Nd} (lp:List Int) {k:Int} (hk:k<0∨(ns.length:Int)≤k) : ∃e,ZbR N (tOf p room ns lp) k=some (e,false):=by
 unfold ZbR;rw [show (tOf p room ns lp).store=aOf p room ns from rfl,Zuw p room hk,Zaa];exact ⟨_,rfl⟩
theorem Ziv (p:Zae) (room:Int) (ns:List Nd) (lp:List Int) (k:Int):Zbl N (tOf p room ns lp) k=some (hZ ns k):=by
 unfold Zbl;by_cases h:0≤k∧k<(ns.length:Int)
 ·obtain ⟨j,rfl⟩ : ∃j:Nat,k=(j:Int):=⟨k.toNat,by omega⟩
  have hj:j<ns.length:=by omega
  rw [Zlo p room lp hj,Zaa];dsimp only;rw [if_neg (by simp),Zss hj];rfl
 obtain ⟨e,h1⟩:=ZsT (N:=N) p room (ns:=ns) lp (k:=k) (by omega);rw [h1,Zaa];dsimp only;rw [if_pos (by rfl),ZqK (by omega)]
def ancZ (ns:List Nd) (k h:Int):Int:=if 0≤k∧k<(ns.length:Int)∧0≤h then ((ZeL ns k.toNat)[h.toNat]?.map fun (x:Nat)=>(x:Int)).getD (-1) else -1
theorem ancZ_at {ns:List Nd} {k h x:Nat} (hk:k<ns.length) (hx:(ZeL ns k)[h]? = some x):ancZ ns (k:Int) (h:Int)=(x:Int):=by
 unfold ancZ;rw [if_pos (by omega),zG,zG,hx];rfl
theorem ZoZ {ns:List Nd} (ht:ZhC ns) {k x y:Nat} (hk:k<ns.length) (hx:x∈ZeL ns k) (hy:y∈ZeL ns x):y∈ZeL ns k:=by
 obtain ⟨h,hx⟩:=List.mem_iff_getElem?.1 hx;obtain ⟨_,e⟩:=Zrg ht hk hx;rw [e] at hy;exact List.mem_of_mem_take hy
theorem row_lt {ns:List Nd} (ht:ZhC ns) {x y:Nat} (hx:x<ns.length) (hy:y∈ZeL ns x) (hne:y≠x) : ∃h:y<ns.length,ns[y].ch.length<ns[x].ch.length:=by
 obtain ⟨h,e⟩:=ZnI ht hx hy;refine ⟨h,?_⟩;have hl:=(List.getElem?_eq_some_iff.1 e).1;have ll:=Zpc ht hx;have e2:=ZhE ht hx;have p1:=List.length_pos_iff.2 (ht.ch _ (yJ h)).1;rcases zU ns[y].ch.length ns[x].ch.length with h3 | h3
 ·exact h3
 rw [show ns[y].ch.length-1=(ZeL ns x).length-1 by omega,ll] at e;cases e;exact absurd rfl hne
theorem ZnG {ns:List Nd} (ht:ZhC ns) {k:Nat} (hk:k<ns.length):k∈ZeL ns k:=wU (Zpc ht hk)
theorem Zte {ns:List Nd} (ht:ZhC ns) {k q:Nat} (hk:k<ns.length) (hq:q<k) (e:ZeL ns k=ZeL ns q ++ [k]):q∈ZeL ns k:=by
 rw [e];exact List.mem_append.2 (.inl (ZnG ht (by omega)))
theorem Zmq (hN:600≤N) {p:Zae} {room:Int} {ns:List Nd} {lp:List Int} (ht:ZhC ns) (hl:ZqS ns lp) (k h:Int) (hb:k<(lp.length:Int)∨ns.length≤lp.length):Zav N (tOf p room ns lp) k h=some (ancZ ns k h):=by
 have sm:=ht.small;unfold Zav;rw [Ziv,Zaa];by_cases h0:h<0
 ·rw [if_pos (by simpa using h0)];unfold ancZ;rw [if_neg (by omega)]
 rw [if_neg (by simpa using h0)];by_cases hk0:k<0∨(ns.length:Int)≤k
 ·rw [ZqK (by omega),if_pos (by simp;omega)];unfold ancZ;rw [if_neg (by omega)]
 obtain ⟨k,rfl⟩ : ∃j:Nat,k=(j:Int):=⟨k.toNat,by omega⟩
 obtain ⟨h,rfl⟩ : ∃j:Nat,h=(j:Int):=⟨h.toNat,by omega⟩
 have hk:k<ns.length:=by omega
 have lk:=ZhE ht hk;have lb:=(ht.ch _ (yJ hk)).2;rw [Zss hk];by_cases h1:(h:Int)>(ns[k].ch.length:Int)-1
 ·rw [if_pos (by simpa using h1)];unfold ancZ;rw [if_pos (by omega),zG,zG,zL (by omega)];rfl
 rw [if_neg (by simpa using h1)];have hh:h<(ZeL ns k).length:=by omega
 obtain ⟨t,et⟩ : ∃t,(ZeL ns k)[h]? = some t:=⟨_,zP hh⟩
 rw [ancZ_at hk et];refine ZbW (fun m (s:Int×Int)=>∃(x:Nat) (hx:x<ns.length),m=ns[x].ch.length∧s=((x:Int),(ns[x].ch.length:Int)-1)∧x∈ZeL ns k∧h+1≤ns[x].ch.length) ?_ N ns[k].ch.length _ ⟨k,hk,rfl,rfl,ZnG ht hk,by omega⟩ (by omega);rintro G m _ ⟨x,hx,rfl,rfl,hm,hle⟩ hG;unfold Zav.p1 Zav.p2;dsimp only;by_cases hgt:(ns[x].ch.length:Int)-1>(h:Int)
 ·have hx2:x<lp.length:=by
   have:=Zka ht hk x hm;omega
  rw [if_pos (by simpa using hgt),Zlo p room lp hx,Zaa];dsimp only;rw [show (tOf p room ns lp).leaps=Zel lp from rfl,Zag (by omega),ZeN,Zag (by omega),zG,Zjs hx2,Zan,Zei,show (ns[x].en).Ahead=ns[x].ah from rfl];rcases Zeg ht hx with ⟨z,a,e,c⟩ | ⟨q,hq,a,e,hq',c⟩
  ·omega
  have cl:=congrArg List.length c;rw [zT,yS] at cl;have toq:G ((q:Int),(ns[q].ch.length:Int)-1)=some (t:Int):=hG ns[q].ch.length _ (by omega) ⟨q,hq',rfl,rfl,ZoZ ht hk hm (Zte ht hx hq e),by omega⟩;rcases hl.ok x lp[x] (zP hx2) with v | ⟨y,v,hne,hy⟩
  ·rw [v,if_neg (by simp),a,Ziv,Zaa,Zss hq'];exact toq
  obtain ⟨hy',hyl⟩:=row_lt ht hx hy hne;rw [v,if_pos (by simp<;>omega),Ziv,Zaa,Zss hy'];by_cases h3:(ns[y].ch.length:Int)-1≥(h:Int)
  ·rw [if_pos (by simpa using h3),Zaa];exact hG ns[y].ch.length _ hyl ⟨y,hy',rfl,rfl,ZoZ ht hk hm hy,by omega⟩
  rw [if_neg (by simpa using h3),a,Ziv,Zaa,Zss hq'];exact toq
 obtain ⟨h3,e3⟩:=ZnI ht hk hm;rw [show ns[x].ch.length-1=h by omega,et] at e3;cases e3;rw [if_neg (by simpa using hgt)]
def ZgN (ns:List Nd) (k o:Int):Bool:=decide (0≤k∧k<(ns.length:Int)∧0≤o∧o<(ns.length:Int)∧k.toNat∈ZeL ns o.toNat)
theorem ZpY (hN:600≤N) {p:Zae} {room:Int} {ns:List Nd} {lp:List Int} (ht:ZhC ns) (hl:ZqS ns lp) (hb:ns.length≤lp.length) (k o:Int):ZcJ N (tOf p room ns lp) k o=some (ZgN ns k o):=by
 unfold ZcJ;rw [Ziv,Zaa];by_cases hk0:k<0∨(ns.length:Int)≤k
 ·rw [ZqK (by omega),if_neg (by simp)];unfold ZgN;rw [decide_eq_false (by omega)]
 obtain ⟨k,rfl⟩ : ∃j:Nat,k=(j:Int):=⟨k.toNat,by omega⟩
 have hk:k<ns.length:=by omega
 have pk:=List.length_pos_iff.2 (ht.ch _ (yJ hk)).1;rw [Zss hk,if_pos (by simp;omega),Zmq hN ht hl _ _ (.inr hb),Zaa]
 congr 1
 unfold ZgN ancZ;by_cases ho:o<0∨(ns.length:Int)≤o
 ·rw [if_neg (by omega),decide_eq_false (by omega)];simp<;>omega
 obtain ⟨o,rfl⟩ : ∃j:Nat,o=(j:Int):=⟨o.toNat,by omega⟩
 have ho':o<ns.length:=by omega
 rw [if_pos (by omega),zG,zG,show ((ns[k].ch.length:Int)-1).toNat=ns[k].ch.length-1 by omega];by_cases hm:k∈ZeL ns o
 ·obtain ⟨h1,h2⟩:=ZnI ht ho' hm;rw [h2,decide_eq_true ⟨by omega,by omega,by omega,by omega,hm⟩];simp
 rw [decide_eq_false (fun h=>hm h.2.2.2.2)];cases e:(ZeL ns o)[ns[k].ch.length-1]? with
 | none=>simp<;>omega
 | some y=>
  have:y≠k:=fun h=>hm (by rw [←h];exact wU e);simp<;>omega
end Go.Dn.F
set_option maxRecDepth 100000
namespace Go.Dn.F
open Go.Dn Go.Proofs
variable {N:Nat}
end Go.Dn.F
set_option maxRecDepth 40000
namespace Go.Dn.F
open Go.Dn Go.Proofs
variable {N:Nat}
noncomputable def Zgy (ia:Nat) (lp:List Int):List L:=[zQ (some ia),yB true 1 (Zel lp)]
structure ZhB (st:LL) (ia it:Nat) (p:Zae) (room:Int) (ns:List Nd) (lp:List Int):Prop where
 a:st[ia]? = some (aOf p room ns).lo
 t:st[it]? = some (Zgy ia lp)
 ne:ia≠it
 lv:ZqS ns lp
 len:lp.length=ns.length
 tr:ZhC ns
theorem skH_eq (h:Int) : ∃x,Zev N h=some x:=by
 unfold Zev Zef;by_cases h1:h<2
 ·rw [if_pos (by simpa using h1)];exact ⟨_,rfl⟩
 rw [if_neg (by simpa using h1)];by_cases h2:ZaF .and .i64 h 1=0
 ·rw [if_pos (by simpa using h2)];exact ⟨_,rfl⟩
 rw [if_neg (by simpa using h2)];exact ⟨_,rfl⟩
theorem ZsC (p:Zae) (gs:List ZcU) (cs:List Zcs) (room:Int) (ns:List Nd) (h:Zak) (now:Int) :
  ((Zjl p gs cs room ns h now).2.2.2=ns∧((Zjl p gs cs room ns h now).2.2.1≠0∨∃k:Nat,k<ns.length∧(Zjl p gs cs room ns h now).1=(k:Int)))∨∃k:Nat,k<ns.length∧ZeZ 0 (ids ns) (hid h)=none∧(ns.length:Int)<room ∧
   Zjl p gs cs room ns h now=((ns.length:Int),0,0,ns ++ [Zeh ns k h]):=by
 unfold Zjl;by_cases hg:ZgD h=false
 ·rw [if_pos hg];exact .inl ⟨rfl,.inl (by simp)⟩
 rw [if_neg hg];cases e1:ZeZ 0 (ids ns) (hid h) with
 | some k=>
  obtain ⟨_,hk,_⟩:=ZgJ e1;have hk':k<ns.length:=by simpa [ids] using hk
  exact .inl ⟨rfl,.inr ⟨k,hk',rfl⟩⟩
 | none=>
  dsimp only;cases e2:ZeZ 0 (ids ns) h.Prev with
  | none=>exact .inl ⟨rfl,.inl (by simp)⟩
  | some k=>
   dsimp only;obtain ⟨_,hk,_⟩:=ZgJ e2;have hk':k<ns.length:=by simpa [ids] using hk
   by_cases h1:ZfK p gs cs (Zdu p (chAt ns k)) h now=0
   ·rw [if_neg (by simp [h1])];by_cases h2:room≤(ns.length:Int)
    ·rw [if_pos h2];exact .inl ⟨rfl,.inl (by simp)⟩
    rw [if_neg h2];exact .inr ⟨k,hk',rfl,by omega,rfl⟩
   rw [if_pos h1];exact .inl ⟨rfl,.inl (by simp)⟩
theorem ZqS.grow {ns:List Nd} {lp:List Int} (ht:ZhC ns) (hl:ZqS ns lp) (hlen:lp.length=ns.length) {nd:Nd} (ht':ZhC (ns ++ [nd])) {k:Nat} (hk:k<ns.length) (ha:nd.ah=(k:Int)) (h:Int):ZqS (ns ++ [nd]) (lp ++ [ancZ (ns ++ [nd]) (k:Int) h]) where
 len:=by simp [hlen]
 ok:=fun i v hv=>by
  by_cases hi:i<lp.length
  ·rw [zV hi] at hv;rcases hl.ok i v hv with h1 | ⟨x,h1,h2,h3⟩
   ·exact .inl h1
   exact .inr ⟨x,h1,h2,by rw [Zij nd ht (by omega)];exact h3⟩
  have e0:i=ns.length:=by
   have:=(List.getElem?_eq_some_iff.1 hv).1;simp at this;omega
  subst e0;rw [yA (by omega),hlen,Nat.sub_self] at hv;cases hv;have hn:ns.length<(ns ++ [nd]).length:=by simp
  have ea:(ns ++ [nd])[ns.length].ah=(k:Int):=by simpa using ha
  rw [Zpb ht' hn hk ea,Zij nd ht hk];unfold ancZ;by_cases hc:0≤(k:Int)∧(k:Int)<((ns ++ [nd]).length:Int)∧0≤h
  ·rw [if_pos hc,zG,Zij nd ht hk];cases e:(ZeL ns k)[h.toNat]? with
   | none=>exact .inl rfl
   | some y=>
    have hy:=wU e;have:=Zka ht hk y hy;exact .inr ⟨y,rfl,by omega,List.mem_append.2 (.inl hy)⟩
  rw [if_neg hc];exact .inl rfl
theorem skAdd_eq (hN:600≤N) {st:LL} {ia it:Nat} {p:Zae} {gs:List ZcU} {cs:List Zcs} (hg:p.Gates=Zmy gs) (hc:p.Checks=ZjT cs) (lg:gs.length≤400) (lc:cs.length≤400) {room:Int} (hroom:room≤512) {ns:List Nd} {lp:List Int} (T:ZhB st ia it p room ns lp)
  {h:Zak} (hh:WfH h) (now:Int) (hnow : -1152921504606846976≤now∧now≤9223372036854775807) :
  ∃lp' st',Zcn N (some it) h now st=some ((Zjl p gs cs room ns h now).1,(Zjl p gs cs room ns h now).2.1,(Zjl p gs cs room ns h now).2.2.1,st')∧ZhB st' ia it p room (Zjl p gs cs room ns h now).2.2.2 lp'∧(∀j,j≠ia→j≠it→st'[j]? = st[j]?):=by
 have ht':=Zup (p:=p) (gs:=gs) (cs:=cs) hroom T.tr hh now;unfold Zcn Zcn.p1;rw [if_neg (c:=Option.isNone (some it)=true) (by simp),Zaa,T.t,Zan];unfold Zgy;rw [Zdf,Add_eq (by omega) hg hc lg lc hroom T.tr T.a hh now hnow,Zaa];dsimp only;rcases ZsC p gs cs room ns h now with ⟨e,e1⟩ | ⟨k,hk,hpl,hlr,e⟩
 ·rw [e,ZiG T.a];refine ⟨lp,st,?_,T,fun j _ _=>rfl⟩;by_cases h6:(Zjl p gs cs room ns h now).2.2.1=0
  ·rcases e1 with e1 | ⟨k,hk,e1⟩
   ·exact absurd h6 e1
   rw [if_pos (by simpa using h6),T.t,Zan];unfold Zgy;rw [Zdf,if_neg (by rw [e1,ZeN,T.len];simp;omega)]
  rw [if_neg (by simpa using h6)]
 rw [e] at ht' ⊢;dsimp only at ht' ⊢;have t2:(st.set ia (aOf p room (ns ++ [Zeh ns k h])).lo)[it]? = some (Zgy ia lp):=by
  rw [zO T.ne];exact T.t
 have a2:(st.set ia (aOf p room (ns ++ [Zeh ns k h])).lo)[ia]? = some (aOf p room (ns ++ [Zeh ns k h])).lo:=zN (List.getElem?_eq_some_iff.1 T.a).1;have hit:=(List.getElem?_eq_some_iff.1 t2).1;have hn:ns.length<(ns ++ [Zeh ns k h]).length:=by simp
 have en:(ns ++ [Zeh ns k h])[ns.length]=Zeh ns k h:=by simp
 obtain ⟨hx,eh⟩:=skH_eq (N:=N) ((ns ++ [Zeh ns k h])[ns.length].en).Height;have lv:ZqS (ns ++ [Zeh ns k h]) lp:=⟨by rw [T.len];simp,fun i v hv=>by
  have hi:=(List.getElem?_eq_some_iff.1 hv).1;rcases T.lv.ok i v hv with h1 | ⟨x,h1,h2,h3⟩
  ·exact .inl h1
  exact .inr ⟨x,h1,h2,by rw [Zij _ T.tr (by rw [←T.len];exact hi)];exact h3⟩⟩
 have sm:=T.tr.small;rw [if_pos (by rfl),t2,Zan];unfold Zgy;rw [Zdf,if_pos (by rw [ZeN,T.len];simp),Zaa,a2,Zan,ZbY,Zux p room hn,Zaa];dsimp only;rw [eh,Zaa,show ((ns ++ [Zeh ns k h])[ns.length].en).Ahead=(ns ++ [Zeh ns k h])[ns.length].ah from rfl,en,show (Zeh ns k h).ah=(k:Int) from rfl,show (ZaC.mk (aOf p room (ns ++ [Zeh ns k h])) (Zel lp))=tOf p room (ns ++ [Zeh ns k h]) lp from rfl,Zmq hN ht' lv _ _ (.inl (by rw [T.len];omega)),Zaa,ZkU,ZhF,Zag (by rw [ZdT,zT,yS,T.len];omega),yT];refine ⟨_,_,rfl,⟨?_,?_,T.ne,T.lv.grow T.tr T.len ht' hk rfl hx,by simp [T.len],ht'⟩,fun j h1 h2=>?_⟩
 ·rw [zO (Ne.symm T.ne)];exact a2
 ·exact zN hit
 rw [zO (Ne.symm h2),zO (Ne.symm h1)]
theorem Zrc (hN:500≤N) {p:Zae} {gs:List ZcU} {cs:List Zcs} (hg:p.Gates=Zmy gs) (hc:p.Checks=ZjT cs) (lg:gs.length≤400) (lc:cs.length≤400) (hp:WfP p) (room:Int) (st:LL) :
  Zfy N p room st=if Zmz p gs cs=true then some (some (st.length+1),0,(st ++ [(aOf p (ZkD room) [ZfQ p]).lo]) ++ [Zgy st.length [-1]]) else some (none,1,st):=by
 unfold Zfy;rw [New_eq hN hg hc lg lc hp];cases Zmz p gs cs with
 | false=>rfl
 | true=>
  rw [if_pos rfl,Zaa,if_pos (c:=true=true) rfl];dsimp only;rw [if_neg (by simp),zT,yS];rfl
theorem Zrd {p:Zae} (hp:WfP p) (room:Int) (st:LL):ZhB ((st ++ [(aOf p room [ZfQ p]).lo]) ++ [Zgy st.length [-1]]) st.length (st.length+1) p room [ZfQ p] [-1] where
 a:=by rw [zV (by simp)];simp
 t:=by rw [yA (by simp)];simp
 ne:=by omega
 lv:=⟨by simp,fun i v hv=>by
  cases i with
  | zero=>cases hv;exact .inl rfl
  | succ i=>cases hv⟩
 len:=rfl
 tr:=ZhC.one_node hp.h
theorem ZhB.app {st:LL} {ia it:Nat} {p:Zae} {room:Int} {ns:List Nd} {lp:List Int} (T:ZhB st ia it p room ns lp) (x:LL):ZhB (st++x) ia it p room ns lp where
 a:=by rw [zV (List.getElem?_eq_some_iff.1 T.a).1];exact T.a
 t:=by rw [zV (List.getElem?_eq_some_iff.1 T.t).1];exact T.t
 ne:=T.ne
 lv:=T.lv
 len:=T.len
 tr:=T.tr
end Go.Dn.F
set_option maxRecDepth 100000
namespace Go.Dn.F
open Go.Dn Go.Proofs
variable {N:Nat}
def Zmm (S:List Int) (O:List Bool) (k:Nat):Bool:=O.getD k false||S.getD k 0==2
def chZ (ns:List Nd) (S:List Int) (O:List Bool) (k:Nat):Bool:=(ZeL ns k).dropLast.any (Zmm S O)
def flZ (ns:List Nd) (S:List Int) (O:List Bool) (k:Nat):Bool:=(ZeL ns k).any (Zmm S O)
def stZ (ns:List Nd) (S:List Int) (O:List Bool) (k:Nat):ZaS:=⟨S.getD k 0,O.getD k false,chZ ns S O k⟩
def Zfa (ns:List Nd) (S:List Int) (O:List Bool):List ZaS:=(vG ns.length).map (stZ ns S O)
noncomputable def rowM (l:List ZaS):LL:=l.map ZaS.ls
noncomputable def mk2 (it:Nat) (l:List ZaS):List L:=[zQ (some it),yB true 3 (rowM l)]
theorem rowP_cat {ns:List Nd} (ht:ZhC ns) {k:Nat} (hk:k<ns.length) : ∃l,ZeL ns k=l ++ [k]:=by
 rcases Zeg ht hk with ⟨_,_,e,_⟩ | ⟨q,_,_,e,_⟩
 ·exact ⟨[],e⟩
 exact ⟨_,e⟩
theorem ZrA {ns:List Nd} (ht:ZhC ns) {k:Nat} (hk:k<ns.length) (S:List Int) (O:List Bool):flZ ns S O k=(chZ ns S O k||Zmm S O k):=by
 obtain ⟨l,e⟩:=rowP_cat ht hk;unfold flZ chZ;rw [e,uU,List.any_append];simp
theorem Zoy {ns:List Nd} (ht:ZhC ns) {k:Nat} (e:ZeL ns k = [k]) (S:List Int) (O:List Bool):chZ ns S O k=false:=by
 unfold chZ;rw [e];rfl
theorem ZrH {ns:List Nd} {k q:Nat} (e:ZeL ns k=ZeL ns q ++ [k]) (S:List Int) (O:List Bool):chZ ns S O k=flZ ns S O q:=by
 unfold chZ flZ;rw [e,uU]
theorem Zmb (x:ZaS):Zcz N x=some (x.out||x.verdict==2):=by
 unfold Zcz;cases h:x.out
 ·rw [if_neg (by simp)];simp
 rw [if_pos rfl];simp
@[simp] theorem Zgn (ns:List Nd) (S:List Int) (O:List Bool):(Zfa ns S O).length=ns.length:=by simp [Zfa]
theorem Zgo {ns:List Nd} {S:List Int} {O:List Bool} {k:Nat} (hk:k<ns.length):(Zfa ns S O)[k]? = some (stZ ns S O k):=by simp [Zfa,hk]
@[simp] theorem rowM_length (l:List ZaS):(rowM l).length=l.length:=by simp [rowM]
@[simp] theorem ZhN (l:List ZaS):len (rowM l)=(l.length:Int):=by simp [len,rowM]
theorem Zjr {l:List ZaS} {k:Nat} {x:ZaS} (h:l[k]? = some x):(rowM l)[0+k]? = some x.ls:=by simp [rowM,h]
theorem ZgS {ns:List Nd} {S:List Int} {O:List Bool} {k:Nat} (hk:k<ns.length):(rowM (Zfa ns S O))[0+k]? = some (stZ ns S O k).ls:=Zjr (Zgo hk)
theorem ZtO {ns:List Nd} {S:List Int} {O:List Bool} {j:Nat} (hj:j<ns.length):(Zfa ns S O).take (j+1)=(Zfa ns S O).take j ++ [stZ ns S O j]:=by
 rw [yG (by simpa using hj)]
 congr 2
 have:=Zgo (S:=S) (O:=O) hj;rw [zP (by simpa using hj)] at this;exact Option.some.inj this
theorem ZeM {α:Type} (it:Nat) (l:List ZaS) (k:Option Nat→LL→Option α):ZbZ (mk2 it l) k=k (some it) (rowM l):=rfl
theorem ZtM {c1:(Int×LL)→Option LL} {im it:Nat} {st:LL} {l:List ZaS} {s:ZaS} (hm:im<st.length) (hl:l.length≤1000) (j:Int) :
  ZaN.p2 N c1 im j s (st.set im (mk2 it l))=c1 (w64 (j+1),st.set im (mk2 it (l ++ [s]))):=by
 unfold ZaN.p2;rw [zN hm,Zan,ZeM,Zag (by simp;omega),yT,yT];simp [mk2,rowM]
theorem ZhB.setIm {st:LL} {ia it im:Nat} {p:Zae} {room:Int} {ns:List Nd} {lp:List Int} {x:List L} (T:ZhB st ia it p room ns lp) (na:im≠ia) (nt:im≠it):ZhB (st.set im x) ia it p room ns lp:=
 ⟨by rw [zO na];exact T.a,by rw [zO nt];exact T.t,T.ne,T.lv,T.len,T.tr⟩
theorem Len_eq {st:LL} {ia it:Nat} {p:Zae} {room:Int} {ns:List Nd} {lp:List Int} (T:ZhB st ia it p room ns lp):ZdM N (some it) st=some ((ns.length:Int),st):=by
 unfold ZdM;rw [if_neg (by simp),Zaa,T.t,Zan];unfold Zgy;rw [Zdf,Zaa,T.a,Zan,ZbY,Len_v_eq,Zaa]
theorem grow_eq (hN:600≤N) {st:LL} {ia it im:Nat} {p:Zae} {room:Int} {ns:List Nd} {lp:List Int} {S:List Int} {O:List Bool} {k:Nat} (T:ZhB st ia it p room ns lp) (h1:im≠ia) (h2:im≠it)
  (hm:st[im]? = some (mk2 it ((Zfa ns S O).take k))) (hk:k≤ns.length) (hnew : ∀i,k≤i→i<ns.length→S.getD i 0=(if i=0 then 1 else 0)∧O.getD i false=false) (small:ns.length≤500) :
  ZaN N (some im) st=some (st.set im (mk2 it (Zfa ns S O))):=by
 unfold ZaN;have him:im<st.length:=(List.getElem?_eq_some_iff.1 hm).1;have e0:len (rowM ((Zfa ns S O).take k))=(k:Int):=by simp;omega
 rw [Zaa,hm,Zan,ZeM,e0]
 conv=>lhs;rw [←ZiG hm]
 refine ZbW (fun m (s:Int×LL)=>∃j,k≤j∧j+m=ns.length∧s=((j:Int),st.set im (mk2 it ((Zfa ns S O).take j)))) ?_ N (ns.length-k) _ ⟨k,by omega,by omega,rfl⟩ (by omega);rintro G m _ ⟨j,hj,hjm,rfl⟩ hG;unfold ZaN.p1;dsimp only;rw [zN him,Zan,ZeM,Len_eq (T.setIm h1 h2),Zaa];dsimp only;by_cases hlt:j<ns.length
 ·rw [if_pos (by simp;omega),zN him,Zan,ZeM,Zaa,zO h2,T.t,Zan];unfold Zgy;rw [Zdf,Zaa,zO h1,T.a,Zan,ZbY,show (ZaC.mk (aOf p room ns) (Zel lp))=tOf p room ns lp from rfl,Zlo p room lp hlt,Zaa];dsimp only;have hn:=hnew j hj hlt;have el:((Zfa ns S O).take j).length=j:=by simp;omega
  have fin : ∀s,s=stZ ns S O j→ZaN.p2 N G im (j:Int) s (st.set im (mk2 it ((Zfa ns S O).take j)))=some (st.set im (mk2 it (Zfa ns S O))):=by
   rintro s rfl;rw [ZtM him (by omega),←ZtO hlt,ZaL (by omega) (by omega)];exact hG (m-1) _ (by omega) ⟨j+1,by omega,by omega,by rw [Int.natCast_add];rfl⟩
  rw [show (ns[j].en).Ahead=ns[j].ah from rfl];rcases Zeg T.tr hlt with ⟨z,a,e,_⟩ | ⟨q,hq,a,e,hq',_⟩
  ·rw [a,if_neg (by simp)];refine fin _ ?_;subst z;unfold stZ;rw [Zoy T.tr e,hn.1,hn.2,if_pos rfl]
  have ec:=ZrH e S O;rw [ZrA T.tr hq'] at ec;have eq:(rowM ((Zfa ns S O).take j))[0+q]? = some (stZ ns S O q).ls:=Zjr (by rw [tB hq];exact Zgo hq');rw [a,if_pos (by simp<;>omega),Zag (by omega),Zag (by rw [ZhN,el];omega),zG,eq,Zan,ZcT,show (stZ ns S O q).child=chZ ns S O q from rfl,Zmb,show ((stZ ns S O q).out||(stZ ns S O q).verdict==2)=Zmm S O q from rfl,Zaa];have hj0:j≠0:=by omega
  cases hc:chZ ns S O q
  ·rw [if_neg (by simp)];refine fin _ ?_;unfold stZ;rw [ec,hc,hn.1,hn.2,if_neg hj0,uA]
  rw [if_pos rfl];refine fin _ ?_;unfold stZ;rw [ec,hc,hn.1,hn.2,if_neg hj0,rG]
 rw [if_neg (by simp;omega),zX (by simp;omega)]
structure ZiR (st:LL) (ia it im:Nat) (p:Zae) (room:Int) (ns:List Nd) (lp:List Int) (S:List Int) (O:List Bool):Prop where
 T:ZhB st ia it p room ns lp
 na:im≠ia
 nt:im≠it
 k : ∃k,k≤ns.length∧st[im]? = some (mk2 it ((Zfa ns S O).take k))∧∀i,k≤i→S.getD i 0=(if i=0 then 1 else 0)∧O.getD i false=false
 small:ns.length≤500
noncomputable def gst (st:LL) (im it:Nat) (ns:List Nd) (S:List Int) (O:List Bool):LL:=st.set im (mk2 it (Zfa ns S O))
def inB (ns:List Nd) (k:Int):Bool:=decide (0≤k)&&decide (k<(ns.length:Int))
theorem inB_true {ns:List Nd} {k:Int}:inB ns k=true↔0≤k∧k<(ns.length:Int):=by simp [inB]
theorem ZlX {ns:List Nd} {k:Int} (h:inB ns k=true) : ∃j:Nat,k=(j:Int)∧j<ns.length:=by
 rw [inB_true] at h;exact ⟨k.toNat,by omega,by omega⟩
section
variable {st:LL} {ia it im:Nat} {p:Zae} {room:Int} {ns:List Nd} {lp:List Int} {S:List Int} {O:List Bool}
theorem ZiR.im_lt (M:ZiR st ia it im p room ns lp S O):im<st.length:=by
 obtain ⟨k,_,h,_⟩:=M.k;exact (List.getElem?_eq_some_iff.1 h).1
theorem ZiR.gm (M:ZiR st ia it im p room ns lp S O):(gst st im it ns S O)[im]? = some (mk2 it (Zfa ns S O)):=zN M.im_lt
theorem ZiR.gst_len (M:ZiR st ia it im p room ns lp S O) : ∀i,ns.length≤i→S.getD i 0=(if i=0 then 1 else 0)∧O.getD i false=false:=by
 obtain ⟨k,hk,_,h⟩:=M.k;exact fun i hi=>h i (by omega)
theorem ZiR.gst (M:ZiR st ia it im p room ns lp S O):ZiR (gst st im it ns S O) ia it im p room ns lp S O:=
 ⟨M.T.setIm M.na M.nt,M.na,M.nt,⟨ns.length,Nat.le_refl _,by rw [M.gm,zX (by simp)],M.gst_len⟩,M.small⟩
theorem Zjf:F.gst (F.gst st im it ns S O) im it ns S O=F.gst st im it ns S O:=by unfold F.gst;rw [yT]
theorem ZqJ (hN:600≤N) (M:ZiR st ia it im p room ns lp S O) (k:Int):ZbN N (some im) k st=some (inB ns k,gst st im it ns S O):=by
 unfold ZbN;obtain ⟨j,hj,hm,hn⟩:=M.k;rw [if_neg (by simp),grow_eq hN M.T M.na M.nt hm hj (fun i h1 _=>hn i h1) M.small,Zaa,show st.set im (mk2 it (Zfa ns S O))=gst st im it ns S O from rfl];by_cases h:0≤k
 ·rw [if_pos (by simpa using h),Zaa,M.gm,Zan,ZeM];simp [inB,h]
 rw [if_neg (by simpa using h)];simp [inB,h]
def atZ (ns:List Nd) (f:Nat→Bool) (k:Int):Bool:=inB ns k&&f k.toNat
theorem Zmp (hN:600≤N) (M:ZiR st ia it im p room ns lp S O) (k:Int):ZcA N (some im) k st=some (atZ ns (flZ ns S O) k,gst st im it ns S O):=by
 unfold ZcA;rw [ZqJ hN M,Zaa];dsimp only;unfold atZ;cases h:inB ns k
 ·rw [if_neg (by simp)];rfl
 obtain ⟨j,rfl,hj⟩:=ZlX h;rw [if_pos rfl,Zaa,M.gm,Zan,ZeM,Zag (by omega),Zag (by simp<;>omega),zG,ZgS hj,Zan,ZcT,Zmb,Zaa,ZrA M.T.tr hj];show (if chZ ns S O j=true then _ else _)=_;cases chZ ns S O j<;>rfl
theorem Child_eq (hN:600≤N) (M:ZiR st ia it im p room ns lp S O) (k:Int):Zdo N (some im) k st=some (atZ ns (chZ ns S O) k,gst st im it ns S O):=by
 unfold Zdo;rw [ZqJ hN M,Zaa];dsimp only;unfold atZ;cases h:inB ns k
 ·rw [if_neg (by simp)];rfl
 obtain ⟨j,rfl,hj⟩:=ZlX h;rw [if_pos rfl,Zaa,M.gm,Zan,ZeM,Zag (by omega),Zag (by simp<;>omega),zG,ZgS hj,Zan,ZcT];rfl
theorem Said_eq (hN:600≤N) (M:ZiR st ia it im p room ns lp S O) (k:Int):Zdv N (some im) k st=some (if inB ns k=true then S.getD k.toNat 0 else 0,if inB ns k=true then O.getD k.toNat false else false,gst st im it ns S O):=by
 unfold Zdv;rw [ZqJ hN M,Zaa];dsimp only;cases h:inB ns k
 ·rw [if_pos (by rfl),if_neg (by simp),if_neg (by simp)]
 obtain ⟨j,rfl,hj⟩:=ZlX h;rw [if_neg (by simp),Zaa,M.gm,Zan,ZeM,Zag (by omega),Zag (by simp<;>omega),zG,ZgS hj,Zan,ZcT,if_pos rfl,if_pos rfl]
 try rfl
def Zjk (ns:List Nd) (k:Int):Int:=if inB ns k=true then (if k=0 then 1 else 0) else 5
theorem Zmj (hN:600≤N) (M:ZiR st ia it im p room ns lp S O) (k:Int):Zck N (some im) k st=some (Zjk ns k,gst st im it ns S O):=by
 unfold Zck Zjk;rw [if_neg (by simp),ZqJ hN M,Zaa];dsimp only;cases h:inB ns k
 ·rw [if_pos (by rfl),if_neg (by simp)]
 rw [if_neg (by simp),if_pos rfl];by_cases h0:k=0
 ·rw [if_pos (by simpa using h0),if_pos h0]
 rw [if_neg (by simpa using h0),if_neg h0]
theorem full_ext {l:List ZaS} (hl:l.length=ns.length) (h : ∀i,i<ns.length→l[i]? = some (stZ ns S O i)):l=Zfa ns S O:=by
 refine xH fun i=>?_;rcases zU i ns.length with hi | hi
 ·rw [h i hi,Zgo hi]
 rw [zL (by omega),zL (by simp;omega)]
theorem ZoV (hN:600≤N) (T:ZhB st ia it p room ns lp) (na:im≠ia) (nt:im≠it) {l:List ZaS} (hm:st[im]? = some (mk2 it l)) (hl:l.length=ns.length)
  (h1 : ∀i,i<ns.length→∃c,l[i]? = some ⟨S.getD i 0,O.getD i false,c⟩) {fr:Int} {f:Nat} (hf:(if (1:Int)>fr then 1 else fr)=(f:Int)) (hfp:1≤f) (h0 : ∀i,i<ns.length→i<f→l[i]? = some (stZ ns S O i)) (small:ns.length≤500) :
  Zbg N (some im) fr st=some (st.set im (mk2 it (Zfa ns S O))):=by
 unfold Zbg;have him:im<st.length:=(List.getElem?_eq_some_iff.1 hm).1;rw [hf]
 conv=>lhs;rw [←ZiG hm]
 refine ZbW (fun m (s:(Option Nat)×Int×LL)=>∃(j:Nat) (l:List ZaS),1≤j∧ns.length≤j+m∧s=(some im,(j:Int),st.set im (mk2 it l))∧l.length=ns.length∧(∀i,i<ns.length→∃c,l[i]? = some ⟨S.getD i 0,O.getD i false,c⟩)∧(∀i,i<ns.length→i<j→l[i]? = some (stZ ns S O i))) ?_ N ns.length _ ⟨f,l,hfp,by omega,rfl,hl,h1,h0⟩ (by omega);rintro G m _ ⟨j,l,hj,hjm,rfl,hl,h1,h0⟩ hG;unfold Zbg.p1;dsimp only;rw [Zaa,zN him,Zan,ZeM,ZhN,hl];by_cases hlt:j<ns.length
 ·rw [if_pos (by simp<;>omega),Zaa,zO nt,T.t,Zan];unfold Zgy;rw [Zdf,Zaa,zO na,T.a,Zan,ZbY,show (ZaC.mk (aOf p room ns) (Zel lp))=tOf p room ns lp from rfl,Zlo p room lp hlt,Zaa];dsimp only;rw [show (ns[j].en).Ahead=ns[j].ah from rfl];obtain ⟨q,hq,a,e,hq',_⟩ : ∃q,q<j∧ns[j].ah=(q:Int)∧ZeL ns j=ZeL ns q ++ [j]∧∃hq:q<ns.length,True:=by
   rcases Zeg T.tr hlt with ⟨z,_,_,_⟩ | ⟨q,hq,a,e,hq',_⟩
   ·omega
   exact ⟨q,hq,a,e,hq',trivial⟩
  obtain ⟨c,hc⟩:=h1 j hlt;have ec:=ZrH e S O;rw [ZrA T.tr hq'] at ec;have gq:=Zjr (h0 q hq' hq);have gj:=Zjr hc;have fin : ∀x,x=chZ ns S O j→G (some im,w64 ((j:Int)+1),zM (st.set im (mk2 it l)) im [zQ (some it),yB true 3 (zM (rowM l) (0+j) (ZaS.ls ⟨S.getD j 0,O.getD j false,x⟩))])=some (st.set im (mk2 it (Zfa ns S O))):=by
   rintro x rfl;rw [ZaL (by omega) (by omega),yT];refine hG (m-1) _ (by omega) ⟨j+1,l.set j (stZ ns S O j),by omega,by omega,?_,by simpa using hl,fun i hi=>?_,fun i hi hij=>?_⟩
   ·simp only [mk2,rowM,uV,yE];rfl
   ·by_cases hij:i=j
    ·subst hij;exact ⟨_,zN (by omega)⟩
    rw [zO (by omega)];exact h1 i hi
   by_cases hij':i=j
   ·subst hij';exact zN (by omega)
   rw [zO (by omega)];exact h0 i hi (by omega)
  rw [a,Zag (by omega),Zag (by omega),zG,gq,Zan,ZcT,Zmb,Zaa,zG,gj,Zan,ZcT,Zag (by omega),Zan,ZcT];show (if chZ ns S O q=true then _ else _)=_;cases hc:chZ ns S O q
  ·rw [if_neg (by simp)];refine fin (Zmm S O q) ?_;rw [ec,hc,uA]
  rw [if_pos rfl];refine fin true ?_;rw [ec,hc,rG]
 rw [if_neg (by simp<;>omega),full_ext hl fun i hi=>h0 i hi (by omega)]
end
end Go.Dn.F
namespace Go.Dn.F
open Go.Dn Go.Proofs
variable {N:Nat}
theorem ZhO {α:Type} {l:List α} {k:Nat} (hk:k<l.length) (v d:α) (i:Nat):(l.set k v).getD i d=if i=k then v else l.getD i d:=by
 rw [yC,yC];by_cases h:i=k
 ·subst h;rw [zN hk,if_pos rfl];rfl
 rw [zO (fun e=>h e.symm),if_neg h]
theorem Zsy {ns:List Nd} (ht:ZhC ns) {S S':List Int} {O O':List Bool} {k:Nat} (h : ∀x,x<k→Zmm S' O' x=Zmm S O x) {i:Nat} (hi:i<ns.length) (hik:i≤k):chZ ns S' O' i=chZ ns S O i:=by
 unfold chZ;rcases Zeg ht hi with ⟨_,_,e,_⟩ | ⟨q,hq,_,e,hq',_⟩
 ·rw [e];rfl
 rw [e,uU];have key : ∀l:List Nat,(∀x∈l,x<k)→l.any (Zmm S' O')=l.any (Zmm S O):=by
  intro l
  induction l with
  | nil=>intro _;rfl
  | cons y l ih=>intro hy;rw [vR,vR,h y (hy y (by simp)),ih fun x hx=>hy x (by simp [hx])]
 exact key _ fun x hx=>by have:=Zka ht hq' x hx;omega
section
variable {st:LL} {ia it im:Nat} {p:Zae} {room:Int} {ns:List Nd} {lp:List Int} {S:List Int} {O:List Bool}
theorem Zhi {ns:List Nd} {k:Int} (h:Zjk ns k=0) : ∃j:Nat,k=(j:Int)∧j<ns.length∧1≤j:=by
 unfold Zjk at h;cases hb:inB ns k
 ·rw [hb,if_neg (by simp)] at h;cases h
 obtain ⟨j,rfl,hj⟩:=ZlX hb;rw [hb,if_pos rfl] at h;refine ⟨j,rfl,hj,?_⟩;by_cases h0:(j:Int)=0
 ·rw [if_pos h0] at h;cases h
 omega
theorem ZsM (hN:600≤N) (M:ZiR st ia it im p room ns lp S O) {S':List Int} {O':List Bool} {j:Nat} (hj:j<ns.length) (hj1:1≤j) (hS : ∀i,i≠j→S'.getD i 0=S.getD i 0) (hO : ∀i,i≠j→O'.getD i false=O.getD i false) {x:ZaS} (hx:x=⟨S'.getD j 0,O'.getD j false,chZ ns S O j⟩) :
  Zbg N (some im) (j:Int) (zM (gst st im it ns S O) im [zQ (some it),yB true 3 (zM (rowM (Zfa ns S O)) (0+j) x.ls)])=some (gst st im it ns S' O'):=by
 subst hx;have hb : ∀i,i<j→Zmm S' O' i=Zmm S O i:=fun i hi=>by unfold Zmm;rw [hS i (by omega),hO i (by omega)]
 have e : [zQ (some it),yB true 3 (zM (rowM (Zfa ns S O)) (0+j) (ZaS.ls ⟨S'.getD j 0,O'.getD j false,chZ ns S O j⟩))]=mk2 it ((Zfa ns S O).set j ⟨S'.getD j 0,O'.getD j false,chZ ns S O j⟩):=by
  simp only [mk2,rowM,uV,yE]
 rw [e];unfold gst;rw [yT];have hlj:j<(Zfa ns S O).length:=by simpa using hj
 rw [ZoV (S:=S') (O:=O') (l:=(Zfa ns S O).set j ⟨S'.getD j 0,O'.getD j false,chZ ns S O j⟩) (f:=j) hN (M.T.setIm M.na M.nt) M.na M.nt (zN M.im_lt) (by simp) (fun i hi=>?_) (by rw [if_neg (by omega)]) hj1 (fun i hi hij=>?_) M.small,yT]
 ·by_cases h:i=j
  ·subst h;exact ⟨_,zN hlj⟩
  rw [zO (fun e=>h e.symm),Zgo hi,hS i h,hO i h];exact ⟨_,rfl⟩
 rw [zO (by omega),Zgo hi];unfold stZ;rw [Zsy M.T.tr hb hi (by omega),hS i (by omega),hO i (by omega)]
def invO (ns:List Nd) (O:List Bool) (k:Int):List Bool:=if Zjk ns k=0 then O.set k.toNat true else O
theorem ZjS (hN:600≤N) (M:ZiR st ia it im p room ns lp S O) (hO:O.length=600) (k:Int):Zcl N (some im) k st=some (Zjk ns k,gst st im it ns S (invO ns O k)):=by
 unfold Zcl invO;rw [Zmj hN M,Zaa];dsimp only;by_cases h:Zjk ns k=0
 ·rw [if_neg (by simpa using h),if_pos h];obtain ⟨j,rfl,hj,hj1⟩:=Zhi h;have sm:=M.small;rw [Zaa,M.gm,Zan,ZeM,Zag (by omega),Zag (by simp<;>omega),zG,ZgS hj,Zan,ZcT,ZsM (S':=S) (O':=O.set j true) hN M hj hj1 (fun _ _=>rfl) (fun i hi=>by rw [ZhO (by omega),if_neg hi]) (by unfold stZ;rw [ZhO (by omega),if_pos rfl]),Zaa,h]
 rw [if_pos (by simpa using h),if_neg h]
def Zqg (right:Bool):Int:=if right=true then 1 else 2
def vrdE (ns:List Nd) (S:List Int) (k:Int) (right:Bool):Int:=if Zjk ns k=0 then (if S.getD k.toNat 0≠0∧S.getD k.toNat 0≠Zqg right then 1 else 0) else Zjk ns k
def vrdS (ns:List Nd) (S:List Int) (k:Int) (right:Bool):List Int:=if vrdE ns S k right=0 then S.set k.toNat (Zqg right) else S
theorem ZpZ (hN:600≤N) (M:ZiR st ia it im p room ns lp S O) (hS:S.length=600) {j:Nat} (hj:j<ns.length) (hj1:1≤j) (w:Int):ZaJ.p2 N im (j:Int) w (gst st im it ns S O)=some (0,gst st im it ns (S.set j w) O):=by
 unfold ZaJ.p2;have sm:=M.small;rw [M.gm,Zan,ZeM,zG,ZgS hj,Zan,ZcT,ZsM (S':=S.set j w) (O':=O) hN M hj hj1 (fun i hi=>by rw [ZhO (by omega),if_neg hi]) (fun _ _=>rfl) (by unfold stZ;rw [ZhO (by omega),if_pos rfl]),Zaa]
theorem ZsD (hN:600≤N) (M:ZiR st ia it im p room ns lp S O) (hS:S.length=600) (k:Int) (right:Bool):ZaJ N (some im) k right st=some (vrdE ns S k right,gst st im it ns (vrdS ns S k right) O):=by
 unfold ZaJ;rw [Zmj hN M,Zaa];dsimp only;unfold vrdS vrdE;by_cases h:Zjk ns k=0
 ·rw [if_neg (by simpa using h),if_pos h];obtain ⟨j,rfl,hj,hj1⟩:=Zhi h;have p1 : ∀w,ZaJ.p1 N (some im) (j:Int) w (gst st im it ns S O)=if S.getD j 0≠0∧S.getD j 0≠w then some (1,gst st im it ns S O) else some (0,gst st im it ns (S.set j w) O):=by
   intro w;unfold ZaJ.p1;rw [Zaa,M.gm,Zan,ZeM,Zag (by omega),Zag (by simp<;>omega),zG,ZgS hj,Zan,ZcT,show (stZ ns S O j).verdict=S.getD j 0 from rfl,ZpZ hN M hS hj hj1];by_cases h1:S.getD j 0=0
   ·rw [if_neg (by simpa using h1),if_neg (fun e=>e.1 h1)]
   rw [if_pos (by simpa using h1)];by_cases h2:S.getD j 0=w
   ·rw [if_neg (by simpa using h2),if_neg (fun e=>e.2 h2)]
   rw [if_pos (by simpa using h2),if_pos ⟨h1,h2⟩]
  rw [p1,p1,zG];cases right
  ·rw [if_neg (by simp),show Zqg false=2 from rfl];split<;>simp_all
  rw [if_pos rfl,show Zqg true=1 from rfl];split<;>simp_all
 rw [if_pos (by simpa using h),if_neg h,if_neg h]
def Zov (ns:List Nd) (a:Int) (i:Nat):Bool:=ZgN ns (i:Int) a||ZgN ns a (i:Int)
def rsF (ns:List Nd) (a:Int) (S:List Int) (j i:Nat):Int:=if decide (i<j)&&Zov ns a i&&S.getD i 0==2 then 0 else S.getD i 0
def roF (ns:List Nd) (a:Int) (O:List Bool) (j i:Nat):Bool:=if decide (i<j)&&Zov ns a i then false else O.getD i false
def recS (ns:List Nd) (a:Int) (S:List Int):List Int:=(vG S.length).map (rsF ns a S ns.length)
def recO (ns:List Nd) (a:Int) (O:List Bool):List Bool:=(vG O.length).map (roF ns a O ns.length)
theorem ZnU (ns:List Nd) (a:Int) (S:List Int) (i:Nat):(recS ns a S).getD i 0=rsF ns a S ns.length i:=by
 unfold recS;rw [yC];rcases zU i S.length with h | h
 ·simp [h]
 rw [zL (by simpa using h)];unfold rsF;rw [yC,zL h];simp
theorem ZnV (ns:List Nd) (a:Int) (O:List Bool) (i:Nat):(recO ns a O).getD i false=roF ns a O ns.length i:=by
 unfold recO;rw [yC];rcases zU i O.length with h | h
 ·simp [h]
 rw [zL (by simpa using h)];unfold roF;rw [yC,zL h];simp
def ZlC (ns:List Nd) (a:Int) (S:List Int) (O:List Bool) (j:Nat):List ZaS:=(vG ns.length).map fun i=>⟨rsF ns a S j i,roF ns a O j i,chZ ns S O i⟩
theorem ZhI {ns:List Nd} {a:Int} {S:List Int} {O:List Bool} {j i:Nat} (hi:i<ns.length):(ZlC ns a S O j)[i]? = some ⟨rsF ns a S j i,roF ns a O j i,chZ ns S O i⟩:=by simp [ZlC,hi]
@[simp] theorem recL_length (ns:List Nd) (a:Int) (S:List Int) (O:List Bool) (j:Nat):(ZlC ns a S O j).length=ns.length:=by simp [ZlC]
theorem Ztl (ns:List Nd) (a:Int) (S:List Int) (O:List Bool):ZlC ns a S O 0=Zfa ns S O:=by
 unfold ZlC Zfa;refine vL fun i _=>?_;unfold rsF roF stZ;simp
theorem Zrj {ns:List Nd} {a:Int} {S:List Int} {O:List Bool} {j:Nat} (hj:j<ns.length) (hc:Zov ns a j=true):ZlC ns a S O (j+1)=(ZlC ns a S O j).set j ⟨if S.getD j 0=2 then 0 else S.getD j 0,false,chZ ns S O j⟩:=by
 refine xH fun i=>?_;rcases zU i ns.length with hi | hi
 ·rw [ZhI hi];by_cases h:i=j
  ·subst h;rw [zN (by simpa using hj)];unfold rsF roF;simp [hc]
  rw [zO (fun e=>h e.symm),ZhI hi];unfold rsF roF;rw [show decide (i<j+1)=decide (i<j) from decide_eq_decide.2 (by omega)]
 rw [zL (by simpa using hi),zL (by simpa using hi)]
theorem recL_not {ns:List Nd} {a:Int} {S:List Int} {O:List Bool} {j:Nat} (hj:j<ns.length) (hc:Zov ns a j=false):ZlC ns a S O (j+1)=ZlC ns a S O j:=by
 refine xH fun i=>?_;rcases zU i ns.length with hi | hi
 ·rw [ZhI hi,ZhI hi];unfold rsF roF;by_cases h:i=j
  ·subst h;simp [hc]
  rw [show decide (i<j+1)=decide (i<j) from decide_eq_decide.2 (by omega)]
 rw [zL (by simpa using hi),zL (by simpa using hi)]
def rcnS (ns:List Nd) (S:List Int) (k:Int):List Int:=if Zjk ns k=0 then recS ns k S else S
def rcnO (ns:List Nd) (O:List Bool) (k:Int):List Bool:=if Zjk ns k=0 then recO ns k O else O
theorem ZoE (hN:600≤N) (M:ZiR st ia it im p room ns lp S O) (k:Int):Zar N (some im) k st=some (Zjk ns k,gst st im it ns (rcnS ns S k) (rcnO ns O k)):=by
 unfold Zar rcnS rcnO;rw [Zmj hN M,Zaa];dsimp only;by_cases h:Zjk ns k=0
 ·rw [if_neg (by simpa using h),if_pos h,if_pos h,h];have sm:=M.small;have hl:=M.T.len;obtain ⟨z,hz,hz0,hz1⟩:=Zhi h;rw [Zaa,M.gm,Zan,ZeM];have e0:gst st im it ns S O=st.set im (mk2 it (ZlC ns k S O 0)):=by rw [Ztl];rfl
  rw [e0];refine ZbW (fun m (s:Int×LL)=>∃j:Nat,j+m=ns.length∧s=((j:Int),st.set im (mk2 it (ZlC ns k S O j)))) ?_ N ns.length _ ⟨0,by omega,rfl⟩ (by omega);rintro G m _ ⟨j,hjm,rfl⟩ hG;unfold Zar.p1;dsimp only;rw [ZhN,Zgn];have him:=M.im_lt;by_cases hlt:j<ns.length
  ·have hg:=Zjr (ZhI (a:=k) (S:=S) (O:=O) (j:=j) hlt);rw [if_pos (by simp<;>omega),zN him,Zan,ZeM,Zag (by omega),Zag (by simp<;>omega),Zaa,zO M.nt,M.T.t,Zan];unfold Zgy;rw [Zdf,Zaa,zO M.na,M.T.a,Zan,ZbY,show (ZaC.mk (aOf p room ns) (Zel lp))=tOf p room ns lp from rfl,ZpY hN M.T.tr M.T.lv (by omega),Zaa,ZpY hN M.T.tr M.T.lv (by omega),Zaa,zG,hg];have w1:w64 ((j:Int)+1)=((j+1:Nat):Int):=by rw [ZaL (by omega) (by omega)];rfl
   have nxt : ∀l,l=ZlC ns k S O (j+1)→Zar.p2 N G im k (rowM (Zfa ns S O)) (j:Int) (st.set im (mk2 it l))=some (0,gst st im it ns (recS ns k S) (recO ns k O)):=by
    rintro l rfl;unfold Zar.p2;rw [w1];exact hG (m-1) _ (by omega) ⟨j+1,by omega,rfl⟩
   have hrs:rsF ns k S j j=S.getD j 0:=by unfold rsF;simp
   have sw : ∀x:ZaS,[zQ (some it),yB true 3 (zM (rowM (ZlC ns k S O j)) (0+j) x.ls)]=mk2 it ((ZlC ns k S O j).set j x):=fun x=>by simp only [mk2,rowM,uV,yE]
   have sg : ∀x:ZaS,(zM (rowM (ZlC ns k S O j)) (0+j) x.ls)[0+j]? = some x.ls:=fun x=>zN (by simp;omega);have body:Zov ns k j=true→(Zda (some (ZaS.ls ⟨rsF ns k S j j,roF ns k O j j,chZ ns S O j⟩)) Zcx fun x31=>
     Zda ((zM (rowM (ZlC ns k S O j)) (0+j) (ZaS.ls {x31 with out:=false}))[0+j]?) Zcx fun x32=>
     if (x32.verdict==2)=true then
      Zar.p2 N G im k (rowM (Zfa ns S O)) (j:Int) (zM (zM (st.set im (mk2 it (ZlC ns k S O j))) im [zQ (some it),yB true 3 (zM (rowM (ZlC ns k S O j)) (0+j) (ZaS.ls {x31 with out:=false}))]) im [zQ (some it),yB true 3 (zM (zM (rowM (ZlC ns k S O j)) (0+j) (ZaS.ls {x31 with out:=false})) (0+j) (ZaS.ls {x32 with verdict:=0}))])
     else Zar.p2 N G im k (rowM (Zfa ns S O)) (j:Int) (zM (st.set im (mk2 it (ZlC ns k S O j))) im [zQ (some it),yB true 3 (zM (rowM (ZlC ns k S O j)) (0+j) (ZaS.ls {x31 with out:=false}))]))=some (0,gst st im it ns (recS ns k S) (recO ns k O)):=by
    intro hc;rw [Zan,ZcT,sg,Zan,ZcT];dsimp only;rw [yT,yT,sw,yT,sw,hrs];by_cases h2:S.getD j 0=2
    ·rw [if_pos (by simpa using h2)];exact nxt _ (by rw [Zrj hlt hc,if_pos h2])
    rw [if_neg (by simpa using h2),yT];exact nxt _ (by rw [Zrj hlt hc,if_neg h2])
   cases hw:ZgN ns (j:Int) k
   ·rw [if_neg (by simp)];cases hw2:ZgN ns k (j:Int)
    ·rw [if_neg (by simp)];exact nxt _ (by rw [recL_not hlt (by unfold Zov;rw [hw,hw2];rfl)])
    rw [if_pos rfl];exact body (by unfold Zov;rw [hw,hw2];rfl)
   rw [if_pos rfl];exact body (by unfold Zov;rw [hw];rfl)
  have hj:j=ns.length:=by omega
  subst hj;rw [if_neg (by simp<;>omega),ZoV (S:=recS ns k S) (O:=recO ns k O) (l:=ZlC ns k S O ns.length) (f:=1) hN (M.T.setIm M.na M.nt) M.na M.nt (zN M.im_lt) (by simp) (fun i hi=>?_) rfl (Nat.le_refl _) (fun i hi hi1=>?_) M.small,Zaa,yT]
  ·rfl
  ·rw [ZhI hi,ZnU,ZnV];exact ⟨_,rfl⟩
  have h0:i=0:=by omega
  subst h0;have e:ZeL ns 0 = [0]:=by
   rcases Zeg M.T.tr hi with ⟨_,_,e,_⟩ | ⟨q,hq,_⟩
   ·exact e
   omega
  rw [ZhI hi];unfold stZ;rw [ZnU,ZnV,Zoy M.T.tr e,Zoy M.T.tr e]
 rw [if_pos (by simpa using h),if_neg h,if_neg h]
end
end Go.Dn.F
namespace Go.Dn.F
open Go.Dn Go.Proofs
variable {N:Nat}
def hvZ (ns:List Nd) (x y:Nat):Bool:=
 match ns[x]?,ns[y]? with
 | some a,some b=>decide (b.wk<a.wk)||(a.wk==b.wk&&decide (x<y))
 | _,_=>false
theorem Zrv (p:Zae) (room:Int) (ns:List Nd) (k:Int):ZbX N (aOf p room ns) k=some (decide (0≤k∧k<(ns.length:Int))):=by
 unfold ZbX;rw [show (aOf p room ns).list=ZhZ ns from rfl,Zhg];by_cases h:k≥0
 ·rw [if_pos (by simpa using h)];congr 1;simp;omega
 rw [if_neg (by simpa using h),decide_eq_false (by omega)]
theorem hvZ_at {ns:List Nd} {x y:Nat} (hx:x<ns.length) (hy:y<ns.length):hvZ ns x y=(decide (ns[y].wk<ns[x].wk)||(ns[x].wk==ns[y].wk&&decide (x<y))):=by
 unfold hvZ;rw [zP hx,zP hy]
theorem Znw (hN:10≤N) (p:Zae) (room:Int) {ns:List Nd} (lp:List Int) (ht:ZhC ns) {a b:Nat} (ha:a<ns.length) (hb:b<ns.length):Zcf N (tOf p room ns lp) (a:Int) (b:Int)=some (hvZ ns a b):=by
 unfold Zcf ZcI;rw [show (tOf p room ns lp).store=aOf p room ns from rfl,Zrv,Zaa];rw [if_neg (by simp;omega),Zrv,Zaa,if_neg (by simp;omega)];rw [show (aOf p room ns).list=ZhZ ns from rfl,Zhg,Zag (by omega),Zag (by omega),zG,ZkV ha,Zan,Zfo,Zag (by omega),Zag (by omega),zG,ZkV hb,Zan,Zfo,show (ns[a].en).Work=nw ns[a].wk from rfl,show (ns[b].en).Work=nw ns[b].wk from rfl,ZhS hN (ht.wk _ (yJ ha)) (ht.wk _ (yJ hb)),Zaa,hvZ_at ha hb];unfold cmp;by_cases h1:ns[a].wk<ns[b].wk
 ·rw [if_pos h1,if_neg (by simp),if_neg (by simp)];have e1 : ¬ ns[b].wk<ns[a].wk:=by omega
  have e2:ns[a].wk≠ns[b].wk:=by omega
  simp [e1,e2]
 rw [if_neg h1];by_cases h2:ns[b].wk<ns[a].wk
 ·rw [if_pos h2,if_pos (by simp)];simp [h2]
 rw [if_neg h2,if_neg (by simp),if_pos (by simp)];have e2:ns[a].wk=ns[b].wk:=by omega
 simp [h2,e2]
theorem ZkM (hN:10≤N) (p:Zae) (room:Int) {ns:List Nd} (lp:List Int) {a:Nat} (ha:a<ns.length):Zcf N (tOf p room ns lp) (a:Int) (-1)=some true:=by
 unfold Zcf ZcI;rw [show (tOf p room ns lp).store=aOf p room ns from rfl,Zrv,Zaa];rw [if_neg (by simp;omega),Zrv,Zaa,if_pos (by simp),Zaa];simp;omega
section
variable {st:LL} {ia it im:Nat} {p:Zae} {room:Int} {ns:List Nd} {lp:List Int} {S:List Int} {O:List Bool}
def allR (ns:List Nd) (S:List Int) (k:Nat):Bool:=(ZeL ns k).all fun x=>S.getD x 0==1
def vlZ (ns:List Nd) (S:List Int) (O:List Bool) (k:Nat):Bool:=allR ns S k && !flZ ns S O k
theorem ZoL (M:ZiR st ia it im p room ns lp S O) : ∀(k n:Nat),k<ns.length→k+2≤n→loopN (Zbp.p1 N im (gst st im it ns S O)) n (k:Int)=some (allR ns S k):=by
 intro k
 induction k using vX with
 | ind k ih=>
  intro n hk hn;obtain ⟨n,rfl⟩ : ∃m,n=m+1:=⟨n-1,by omega⟩
  have T:=M.gst.T;show Zbp.p1 N im (gst st im it ns S O) (loopN (Zbp.p1 N im (gst st im it ns S O)) n) (k:Int)=_;generalize hc:loopN (Zbp.p1 N im (gst st im it ns S O)) n=c;unfold Zbp.p1;rw [if_pos (by simp<;>omega),M.gm,Zan,ZeM,Zag (by omega),Zag (by simp<;>omega),zG,ZgS hk,Zan,ZcT,show (stZ ns S O k).verdict=S.getD k 0 from rfl];rw [Zaa,T.t,Zan];unfold Zgy;rw [Zdf,Zaa,T.a,Zan,ZbY,show (ZaC.mk (aOf p room ns) (Zel lp))=tOf p room ns lp from rfl,Zlo p room lp hk,Zaa];dsimp only;rw [show (ns[k].en).Ahead=ns[k].ah from rfl];unfold allR;by_cases h:S.getD k 0=1
  ·have h':(S.getD k 0==1)=true:=by rw [h];rfl
   rw [if_neg (by rw [h];decide)];rcases Zeg M.T.tr hk with ⟨_,a,e,_⟩ | ⟨q,hq,a,e,hq',_⟩
   ·obtain ⟨n,rfl⟩ : ∃m,n=m+1:=⟨n-1,by omega⟩
    rw [a,e,←hc];show Zbp.p1 N im (gst st im it ns S O) _ (-1)=_;unfold Zbp.p1;rw [if_neg (by simp)];simp only [yO,sN,h',Bool.and_true]
   rw [a,←hc,ih q hq n hq' (by omega),e];unfold allR;simp only [List.all_append,yO,sN,h',Bool.and_true]
  rw [if_pos (by simpa using h)];have hm:=ZnG M.T.tr hk;symm;rw [Option.some.injEq,List.all_eq_false];exact ⟨k,hm,by simpa using h⟩
theorem Zlh (hN:600≤N) (M:ZiR st ia it im p room ns lp S O) (k:Int):Zbp N (some im) k st=some (atZ ns (vlZ ns S O) k,gst st im it ns S O):=by
 unfold Zbp;rw [ZqJ hN M,Zaa];dsimp only;cases h:inB ns k
 ·rw [if_pos (by rfl)];unfold atZ;rw [h];rfl
 obtain ⟨j,rfl,hj⟩:=ZlX h;rw [if_neg (by simp),Zmp hN M.gst,Zaa,Zjf];dsimp only;have sm:=M.small;have e1:atZ ns (flZ ns S O) (j:Int)=flZ ns S O j:=by unfold atZ;rw [h];simp
 have e2:atZ ns (vlZ ns S O) (j:Int)=vlZ ns S O j:=by unfold atZ;rw [h];simp
 rw [e1,e2];unfold vlZ;cases hf:flZ ns S O j
 ·rw [if_neg (by simp),Zaa,ZoL M j N hj (by omega),Zaa];simp
 rw [if_pos rfl];simp
def ZkN (ns:List Nd) (f:Nat→Bool):Nat→Nat→Nat→Nat
 | 0,_,out=>out
 | m+1,j,out=>ZkN ns f m (j+1) (if f j&&hvZ ns j out then j else out)
def Zim (ns:List Nd) (f:Nat→Bool):Nat:=ZkN ns f ns.length 0 0
theorem Zkg {ns:List Nd} (h:0<ns.length) (f:Nat→Bool):Zim ns f=ZkN ns f (ns.length-1) 1 0:=by
 unfold Zim;obtain ⟨m,hm⟩ : ∃m,ns.length=m+1:=⟨ns.length-1,by omega⟩
 rw [hm];show ZkN ns f m 1 (if f 0&&hvZ ns 0 0 then 0 else 0)=_;rw [show (if f 0&&hvZ ns 0 0 then 0 else 0)=0 by split<;>rfl];rfl
theorem ZlF (hN:600≤N) (M:ZiR st ia it im p room ns lp S O) (h0:0<ns.length) (hf:vlZ ns S O 0=true):Zdj N (some im) st=some ((Zim ns (vlZ ns S O):Int),gst st im it ns S O):=by
 unfold Zdj Zah;rw [ZqJ hN M,Zaa];dsimp only;have i0:inB ns 0=true:=inB_true.2 ⟨by omega,by omega⟩;have sm:=M.small;have T:=M.gst.T;rw [i0,if_neg (by simp),Zaa,M.gm,Zan,ZeM]
 suffices h:loopN (Zah.p1 N im (some im) (rowM (Zfa ns S O))) N (-1,0,gst st im it ns S O)=some ((Zim ns (vlZ ns S O):Int),gst st im it ns S O) by rw [h,Zaa]
 refine ZbW (fun m (s:Int×Int×LL)=>∃j:Nat,j+m=ns.length∧((j=0∧s=(-1,0,gst st im it ns S O))∨(1≤j∧∃out:Nat,out<ns.length∧s=((out:Int),(j:Int),gst st im it ns S O)∧ZkN ns (vlZ ns S O) m j out=Zim ns (vlZ ns S O)))) ?_ N ns.length _ ⟨0,by omega,.inl ⟨rfl,rfl⟩⟩ (by omega);rintro G m _ ⟨j,hjm,hs⟩ hG;unfold Zah.p1 Zah.p2;rcases hs with ⟨rfl,rfl⟩ | ⟨hj1,out,ho,rfl,hp⟩
 ·dsimp only;have e2:atZ ns (vlZ ns S O) 0=true:=by unfold atZ;rw [i0];exact hf
  rw [ZhN,Zgn,if_pos (by simp<;>omega),Zlh hN M.gst,Zaa,Zjf];dsimp only;rw [e2,if_pos rfl,M.gm,Zan,ZeM,Zaa,T.t,Zan];unfold Zgy;rw [Zdf,Zaa,T.a,Zan,ZbY,show (ZaC.mk (aOf p room ns) (Zel lp))=tOf p room ns lp from rfl,show (0:Int)=((0:Nat):Int) from rfl,ZkM (by omega) p room lp h0,Zaa,if_pos rfl];exact hG (m-1) _ (by omega) ⟨1,by omega,.inr ⟨by omega,0,h0,rfl,by rw [Zkg h0,show m-1=ns.length-1 by omega]⟩⟩
 dsimp only;rw [ZhN,Zgn];by_cases hlt:j<ns.length
 ·have ij:inB ns (j:Int)=true:=inB_true.2 ⟨by omega,by omega⟩;have e2:atZ ns (vlZ ns S O) (j:Int)=vlZ ns S O j:=by unfold atZ;rw [ij];simp
  have w1:w64 ((j:Int)+1)=((j+1:Nat):Int):=by rw [ZaL (by omega) (by omega)];rfl
  obtain ⟨m,rfl⟩ : ∃x,m=x+1:=⟨m-1,by omega⟩
  have hp':ZkN ns (vlZ ns S O) m (j+1) (if vlZ ns S O j&&hvZ ns j out then j else out)=Zim ns (vlZ ns S O):=hp;rw [if_pos (by simp<;>omega),Zlh hN M.gst,Zaa,Zjf];dsimp only;rw [e2,w1];cases hv:vlZ ns S O j
  ·rw [if_neg (by simp)];rw [hv,tO,if_neg (by simp)] at hp';exact hG m _ (by omega) ⟨j+1,by omega,.inr ⟨by omega,out,ho,rfl,hp'⟩⟩
  rw [if_pos rfl,M.gm,Zan,ZeM,Zaa,T.t,Zan];unfold Zgy;rw [Zdf,Zaa,T.a,Zan,ZbY,show (ZaC.mk (aOf p room ns) (Zel lp))=tOf p room ns lp from rfl,Znw (by omega) p room lp T.tr hlt ho,Zaa];rw [hv,xG] at hp';cases hh:hvZ ns j out
  ·rw [if_neg (by simp)];rw [hh,if_neg (by simp)] at hp';exact hG m _ (by omega) ⟨j+1,by omega,.inr ⟨by omega,out,ho,rfl,hp'⟩⟩
  rw [if_pos rfl];rw [hh,if_pos rfl] at hp';exact hG m _ (by omega) ⟨j+1,by omega,.inr ⟨by omega,j,hlt,rfl,hp'⟩⟩
 rw [if_neg (by simp<;>omega)];have:m=0:=by omega
 subst this;rw [←hp];rfl
def ldZ (ns:List Nd) (S:List Int) (O:List Bool) (k:Nat):Bool:=!flZ ns S O k
theorem ZrQ (hN:600≤N) (M:ZiR st ia it im p room ns lp S O) {j:Nat} (hj:j<ns.length):Zdi N (j:Int) (some im) st=some (ldZ ns S O j,gst st im it ns S O):=by
 unfold Zdi;have ij:inB ns (j:Int)=true:=inB_true.2 ⟨by omega,by omega⟩;rw [Zmp hN M,Zaa];unfold atZ ldZ;rw [ij];simp
theorem Zqy (hN:600≤N) (M:ZiR st ia it im p room ns lp S O) (h0:0<ns.length) (hf:ldZ ns S O 0=true):Zdw N (some im) st=some ((Zim ns (ldZ ns S O):Int),gst st im it ns S O):=by
 unfold Zdw Zaf;rw [ZqJ hN M,Zaa];dsimp only;have i0:inB ns 0=true:=inB_true.2 ⟨by omega,by omega⟩;have sm:=M.small;have T:=M.gst.T;rw [i0,if_neg (by simp),Zaa,M.gm,Zan,ZeM]
 suffices h:loopN (Zaf.p1 N im (some im) (rowM (Zfa ns S O))) N (-1,0,gst st im it ns S O)=some ((Zim ns (ldZ ns S O):Int),gst st im it ns S O) by rw [h,Zaa]
 refine ZbW (fun m (s:Int×Int×LL)=>∃j:Nat,j+m=ns.length∧((j=0∧s=(-1,0,gst st im it ns S O))∨(1≤j∧∃out:Nat,out<ns.length∧s=((out:Int),(j:Int),gst st im it ns S O)∧ZkN ns (ldZ ns S O) m j out=Zim ns (ldZ ns S O)))) ?_ N ns.length _ ⟨0,by omega,.inl ⟨rfl,rfl⟩⟩ (by omega);rintro G m _ ⟨j,hjm,hs⟩ hG;unfold Zaf.p1 Zaf.p2;rcases hs with ⟨rfl,rfl⟩ | ⟨hj1,out,ho,rfl,hp⟩
 ·dsimp only;rw [ZhN,Zgn,if_pos (by simp<;>omega),show (0:Int)=((0:Nat):Int) from rfl,ZrQ hN M.gst h0,Zaa,Zjf];dsimp only;rw [hf,if_pos rfl,M.gm,Zan,ZeM,Zaa,T.t,Zan];unfold Zgy;rw [Zdf,Zaa,T.a,Zan,ZbY,show (ZaC.mk (aOf p room ns) (Zel lp))=tOf p room ns lp from rfl,ZkM (by omega) p room lp h0,Zaa,if_pos rfl];exact hG (m-1) _ (by omega) ⟨1,by omega,.inr ⟨by omega,0,h0,rfl,by rw [Zkg h0,show m-1=ns.length-1 by omega]⟩⟩
 dsimp only;rw [ZhN,Zgn];by_cases hlt:j<ns.length
 ·have w1:w64 ((j:Int)+1)=((j+1:Nat):Int):=by rw [ZaL (by omega) (by omega)];rfl
  obtain ⟨m,rfl⟩ : ∃x,m=x+1:=⟨m-1,by omega⟩
  have hp':ZkN ns (ldZ ns S O) m (j+1) (if ldZ ns S O j&&hvZ ns j out then j else out)=Zim ns (ldZ ns S O):=hp;rw [if_pos (by simp<;>omega),ZrQ hN M.gst hlt,Zaa,Zjf];dsimp only;rw [w1];cases hv:ldZ ns S O j
  ·rw [if_neg (by simp)];rw [hv,tO,if_neg (by simp)] at hp';exact hG m _ (by omega) ⟨j+1,by omega,.inr ⟨by omega,out,ho,rfl,hp'⟩⟩
  rw [if_pos rfl,M.gm,Zan,ZeM,Zaa,T.t,Zan];unfold Zgy;rw [Zdf,Zaa,T.a,Zan,ZbY,show (ZaC.mk (aOf p room ns) (Zel lp))=tOf p room ns lp from rfl,Znw (by omega) p room lp T.tr hlt ho,Zaa];rw [hv,xG] at hp';cases hh:hvZ ns j out
  ·rw [if_neg (by simp)];rw [hh,if_neg (by simp)] at hp';exact hG m _ (by omega) ⟨j+1,by omega,.inr ⟨by omega,out,ho,rfl,hp'⟩⟩
  rw [if_pos rfl];rw [hh,if_pos rfl] at hp';exact hG m _ (by omega) ⟨j+1,by omega,.inr ⟨by omega,j,hlt,rfl,hp'⟩⟩
 rw [if_neg (by simp<;>omega)];have:m=0:=by omega
 subst this;rw [←hp];rfl
end
end Go.Dn.F
namespace Go.Dn.F
open Go.Dn Go.Proofs
variable {N:Nat}
noncomputable def rm2 (S:List Int) (O:List Bool):List L:=[zH .i64 600 S,L.brr 600 O]
theorem Zko {α:Type} (S:List Int) (O:List Bool) (k:ZaE→Option α):Zcm (rm2 S O) k=k ⟨S,O⟩:=rfl
noncomputable def rst (st:LL) (ir:Nat) (S:List Int) (O:List Bool):LL:=st.set ir (rm2 S O)
structure ZmI (st:LL) (ib ir:Nat) (p:Zae) (room:Int) (ns:List Nd) (S:List Int) (O:List Bool):Prop where
 b:st[ib]? = some (rOf p room ns).lo
 r:st[ir]? = some (rm2 S O)
 ne:ir≠ib
 tr:ZhC ns
 small:ns.length≤500
 S6:S.length=600
 O6:O.length=600
 pos : ∀i,0≤S.getD i 0
theorem ZlN {l:List Nat} {i:Nat} (h:i<l.length):(Zel (Zuy l))[0+i]? = some [L.int .i64 ((l[i]:Nat):Int)]:=by simp [Zel,Zuy,h]
theorem Zog (l:List Nat):len (Zel (Zuy l))=(l.length:Int):=by simp [len,Zel,Zuy]
theorem Zkf (l:List Int):ZeA (Zel l)=true:=by
 unfold ZeA Zel;simp [L.plain]
theorem Zjg {α:Type} (x:Int) (k:Int→Option α):ZdX [L.int .i64 x] k=k x:=rfl
section
variable {st:LL} {ib ir:Nat} {p:Zae} {room:Int} {ns:List Nd} {S:List Int} {O:List Bool}
theorem ZmI.same (R:ZmI st ib ir p room ns S O):rst st ir S O=st:=ZiG R.r
theorem ZmI.put (R:ZmI st ib ir p room ns S O) {S':List Int} {O':List Bool} (h1:S'.length=600) (h2:O'.length=600) (h3 : ∀i,0≤S'.getD i 0):ZmI (rst st ir S' O') ib ir p room ns S' O':=
 ⟨by unfold rst;rw [zO R.ne];exact R.b,zN (List.getElem?_eq_some_iff.1 R.r).1,R.ne,R.tr,R.small,h1,h2,h3⟩
theorem ZnW (p:Zae) (room:Int) (ns:List Nd):len (rOf p room ns).List_=(ns.length:Int):=by
 rw [show (rOf p room ns).List_=Zkb (ns.map Nd.hd) from rfl];simp
theorem Zke (R:ZmI st ib ir p room ns S O) (k:Int):Zde N (some ib) k st=some (Zjk ns k,st):=by
 unfold Zde Zjk;by_cases h1:k<0
 ·rw [if_pos (by simpa using h1),if_neg (by rw [inB_true];omega)]
 rw [if_neg (by simpa using h1),Zaa,R.b,Zan,Zbj,ZnW];by_cases h2:k≥(ns.length:Int)
 ·rw [if_pos (by simpa using h2),if_neg (by rw [inB_true];omega)]
 rw [if_neg (by simpa using h2),if_pos (c:=inB ns k=true) (by rw [inB_true];omega)];by_cases h3:k=0
 ·rw [if_pos (by simpa using h3),if_pos h3]
 rw [if_neg (by simpa using h3),if_neg h3]
theorem ZmD (R:ZmI st ib ir p room ns S O) (k:Int):ZaR N (some ir) (some ib) k st=some (Zjk ns k,rst st ir S (invO ns O k)):=by
 unfold ZaR ZaR.p1 invO;rw [Zke R,Zaa];dsimp only;by_cases h:Zjk ns k=0
 ·rw [if_pos (by simpa using h),if_pos h];obtain ⟨j,rfl,hj,hj1⟩:=Zhi h;have sm:=R.small;rw [Zaa,Zag (by omega),Zag (by omega),R.r,Zan,Zko,zG];rfl
 rw [if_neg (by simpa using h),if_neg h,R.same]
theorem Zqw (R:ZmI st ib ir p room ns S O) (k:Int) (right:Bool):ZaY N (some ir) (some ib) k right st=some (vrdE ns S k right,rst st ir (vrdS ns S k right) O):=by
 unfold ZaY;rw [Zke R,Zaa];dsimp only;unfold vrdS vrdE;by_cases h:Zjk ns k=0
 ·rw [if_neg (by rw [h];simp),if_pos h];obtain ⟨j,rfl,hj,hj1⟩:=Zhi h;have sm:=R.small;have p1 : ∀w,ZaY.p1 N (some ir) (j:Int) w st=if S.getD j 0≠0∧S.getD j 0≠w then some (1,rst st ir S O) else some (0,rst st ir (S.set j w) O):=by
   intro w;unfold ZaY.p1;rw [Zaa,Zag (by omega),Zag (by omega),R.r,Zan,Zko,zG];dsimp only;have pz:=R.pos j;by_cases h1:S.getD j 0=0
   ·rw [if_neg (by rw [h1];simp),if_neg (fun e=>e.1 h1)];rfl
   rw [if_pos (decide_eq_true (by omega))];by_cases h2:S.getD j 0=w
   ·rw [if_neg (by rw [h2];simp),if_neg (fun e=>e.2 h2)];rfl
   rw [if_pos (by rw [bne_iff_ne];exact h2),if_pos ⟨h1,h2⟩,R.same]
  rw [p1,p1,zG];cases right
  ·rw [if_neg (by simp),show Zqg false=2 from rfl];by_cases hc:S.getD j 0≠0∧S.getD j 0≠2
   ·rw [if_pos hc,if_pos hc,if_neg (by decide)]
   rw [if_neg hc,if_neg hc,if_pos rfl]
  rw [if_pos rfl,show Zqg true=1 from rfl];by_cases hc:S.getD j 0≠0∧S.getD j 0≠1
  ·rw [if_pos hc,if_pos hc,if_neg (by decide)]
  rw [if_neg hc,if_neg hc,if_pos rfl]
 have hp:Zjk ns k>0:=by
  unfold Zjk at h ⊢;split
  ·split
   ·omega
   rename_i h1 h2;rw [if_pos h1,if_neg h2] at h;exact absurd rfl h
  omega
 rw [if_pos (by simpa using hp),if_neg h,if_neg h,R.same]
theorem on_eq (ht:ZhC ns) (hN:600≤N) {y:Nat} (hy:y<ns.length) (x:Int):ZcC N (rOf p room ns) x (y:Int)=some ((ZeL ns y).any fun z=>(z:Int)==x):=by
 unfold ZcC;have sm:=ht.small;rw [ZgT ht (by omega) hy,Zaa,Zag (Zkf _)];have hl:(ZeL ns y).length≤ns.length:=by rw [ZhE ht hy];exact (ht.ch _ (yJ hy)).2
 refine ZbW (fun m (v:Int)=>∃j:Nat,j+m=(ZeL ns y).length∧v=(j:Int)∧(ZeL ns y).any (fun z=>(z:Int)==x)=((ZeL ns y).drop j).any (fun z=>(z:Int)==x)) ?_ N (ZeL ns y).length 0 ⟨0,by omega,rfl,by rw [wZ]⟩ (by omega);rintro G m _ ⟨j,hj,rfl,hp⟩ hG;unfold ZcC.p1;rw [Zog];by_cases hlt:j<(ZeL ns y).length
 ·rw [if_pos (decide_eq_true (by omega)),Zag (by omega),zG,ZlN hlt,Zan,Zjg,ZaL (by omega) (by omega)];rw [yN hlt,vR] at hp;by_cases he:(((ZeL ns y)[j]:Nat):Int)=x
  ·rw [if_pos (by simpa using he),hp];simp [he]
  rw [if_neg (by simpa using he)];refine hG (m-1) _ (by omega) ⟨j+1,by omega,by omega,?_⟩;rw [hp,show ((((ZeL ns y)[j]:Nat):Int)==x)=false by simpa using he,uA]
 rw [if_neg (by simp<;>omega),hp,wE (by omega)];rfl
theorem Zps {ns:List Nd} {x y:Nat} (hx:x<ns.length) (hy:y<ns.length):((ZeL ns y).any fun z=>(z:Int)==(x:Int))=ZgN ns (x:Int) (y:Int):=by
 unfold ZgN;rw [Bool.eq_iff_iff,List.any_eq_true,decide_eq_true_eq,zG,zG];constructor
 ·rintro ⟨z,hz,he⟩;have:(z:Int)=(x:Int):=by simpa using he
  have:z=x:=by omega
  subst this;exact ⟨by omega,by omega,by omega,by omega,hz⟩
 rintro ⟨_,_,_,_,hz⟩;exact ⟨x,hz,by simp⟩
theorem Znf (R:ZmI st ib ir p room ns S O) {j:Nat} (hj:j<600):ZcD N (some ir) (j:Int) st=some (Zmm S O j,st):=by
 unfold ZcD Zmm;rw [Zaa,Zag (by omega),Zag (by omega),R.r,Zan,Zko,zG];dsimp only;cases O.getD j false
 ·rw [if_neg (by simp),uA]
 rw [if_pos rfl,rG]
theorem Zpm (hN:600≤N) (R:ZmI st ib ir p room ns S O) (k:Int):Zbi N (some ir) (some ib) k st=some (atZ ns (chZ ns S O) k,st):=by
 unfold Zbi atZ;have ht:=R.tr;by_cases h1:k<0
 ·rw [if_pos (by simpa using h1),show inB ns k=false by rw [←wX,inB_true];omega];rfl
 rw [if_neg (by simpa using h1),Zaa,R.b,Zan,Zbj,ZnW];by_cases h2:k≥(ns.length:Int)
 ·rw [if_pos (by simpa using h2),show inB ns k=false by rw [←wX,inB_true];omega];rfl
 rw [if_neg (by simpa using h2),show inB ns k=true by rw [inB_true];omega];obtain ⟨k,rfl⟩ : ∃j:Nat,k=(j:Int):=⟨k.toNat,by omega⟩
 have hk:k<ns.length:=by omega
 have sm:=R.small;rw [ZgT ht (by omega) hk,Zaa,Zag (Zkf _),zG,xG];have hl:(ZeL ns k).length≤ns.length:=by rw [ZhE ht hk];exact (ht.ch _ (yJ hk)).2
 have hany:chZ ns S O k=(ZeL ns k).any fun x=>x != k&&Zmm S O x:=by
  unfold chZ;rcases Zeg ht hk with ⟨_,_,e,_⟩ | ⟨q,hq,_,e,hq',_⟩
  ·rw [e];simp
  rw [e,uU,List.any_append];have : ∀l:List Nat,(∀x∈l,x<k)→l.any (Zmm S O)=l.any (fun x=>x != k&&Zmm S O x):=by
   intro l
   induction l with
   | nil=>intro _;rfl
   | cons z l ih=>
    intro hz;have h1:=hz z (by simp);rw [vR,vR,ih fun x hx=>hz x (by simp [hx]),show (z != k)=true by rw [bne_iff_ne];omega,xG]
  rw [this _ fun x hx=>by have:=Zka ht hq' x hx;omega];simp
 rw [hany];refine ZbW (fun m (s:Int×LL)=>∃j:Nat,j+m=(ZeL ns k).length∧s=((j:Int),st)∧(ZeL ns k).any (fun x=>x != k&&Zmm S O x)=((ZeL ns k).drop j).any (fun x=>x != k&&Zmm S O x)) ?_ N (ZeL ns k).length _ ⟨0,by omega,rfl,by rw [wZ]⟩ (by omega);rintro G m _ ⟨j,hj,rfl,hp⟩ hG;unfold Zbi.p1;dsimp only;rw [Zog];by_cases hlt:j<(ZeL ns k).length
 ·rw [if_pos (decide_eq_true (by omega)),Zag (by omega),zG,ZlN hlt,Zan,Zjg,ZaL (by omega) (by omega)];have hz:=Zka ht hk _ (yJ hlt);rw [yN hlt,vR] at hp;generalize (ZeL ns k)[j]=z at hp hz ⊢;by_cases he:z=k
  ·subst he;rw [if_neg (by simp)];rw [show (z != z)=false by simp,tO,uA] at hp;exact hG (m-1) _ (by omega) ⟨j+1,by omega,rfl,hp⟩
  rw [if_pos (by rw [bne_iff_ne];omega),Znf R (by omega),Zaa];dsimp only;rw [show (z != k)=true by rw [bne_iff_ne];exact he,xG] at hp;cases hb:Zmm S O z
  ·rw [if_neg (by simp)];rw [hb,uA] at hp;exact hG (m-1) _ (by omega) ⟨j+1,by omega,rfl,hp⟩
  rw [if_pos rfl,hp,hb,rG]
 rw [if_neg (by simp<;>omega),hp,wE (by omega)];rfl
theorem Zng (hN:600≤N) (R:ZmI st ib ir p room ns S O) (k:Int):ZcE N (some ir) (some ib) k st=some (atZ ns (flZ ns S O) k,st):=by
 unfold ZcE;have sm:=R.small;by_cases h1:0≤k
 ·rw [if_pos (by simpa using h1),Zaa,R.b,Zan,Zbj,ZnW];by_cases h2:k<(ns.length:Int)
  ·rw [if_pos (by simpa using h2)];obtain ⟨k,rfl⟩ : ∃j:Nat,k=(j:Int):=⟨k.toNat,by omega⟩
   have hk:k<ns.length:=by omega
   have hi:inB ns (k:Int)=true:=by rw [inB_true];omega
   rw [Znf R (by omega),Zaa];dsimp only;unfold atZ;rw [hi,xG,zG,ZrA R.tr hk];cases hb:Zmm S O k
   ·rw [if_neg (by simp),Zpm hN R,Zaa];unfold atZ;rw [hi,xG,zG,Bool.or_false]
   rw [if_pos rfl,Bool.or_true]
  rw [if_neg (by simpa using h2)];unfold atZ;rw [show inB ns k=false by rw [←wX,inB_true];omega];rfl
 rw [if_neg (by simpa using h1)];unfold atZ;rw [show inB ns k=false by rw [←wX,inB_true];omega];rfl
theorem Zqh (ns:List Nd) (S:List Int) (O:List Bool) (k:Nat):vlZ ns S O k=(ZeL ns k).all fun x=>S.getD x 0==1 && !O.getD x false:=by
 unfold vlZ allR flZ;generalize ZeL ns k=l
 induction l with
 | nil=>rfl
 | cons z l ih=>
  rw [yO,vR,yO,←ih];unfold Zmm;by_cases h:S.getD z 0=1
  ·rw [h];cases O.getD z false<;>simp
  rw [show (S.getD z 0==1)=false by simpa using h];simp
theorem Zpl (hN:600≤N) (R:ZmI st ib ir p room ns S O) (k:Int):Zbh N (some ir) (some ib) k st=some (atZ ns (vlZ ns S O) k,st):=by
 unfold Zbh atZ;have ht:=R.tr;by_cases h1:k<0
 ·rw [if_pos (by simpa using h1),show inB ns k=false by rw [←wX,inB_true];omega];rfl
 rw [if_neg (by simpa using h1),Zaa,R.b,Zan,Zbj,ZnW];by_cases h2:k≥(ns.length:Int)
 ·rw [if_pos (by simpa using h2),show inB ns k=false by rw [←wX,inB_true];omega];rfl
 rw [if_neg (by simpa using h2),show inB ns k=true by rw [inB_true];omega];obtain ⟨k,rfl⟩ : ∃j:Nat,k=(j:Int):=⟨k.toNat,by omega⟩
 have hk:k<ns.length:=by omega
 have sm:=R.small;rw [ZgT ht (by omega) hk,Zaa,Zag (Zkf _),zG,xG,Zqh];have hl:(ZeL ns k).length≤ns.length:=by rw [ZhE ht hk];exact (ht.ch _ (yJ hk)).2
 refine ZbW (fun m (s:(Option Nat)×Int)=>∃j:Nat,j+m=(ZeL ns k).length∧s=(some ir,(j:Int))∧(ZeL ns k).all (fun x=>S.getD x 0==1 && !O.getD x false)=((ZeL ns k).drop j).all (fun x=>S.getD x 0==1 && !O.getD x false)) ?_ N (ZeL ns k).length _ ⟨0,by omega,rfl,by rw [wZ]⟩ (by omega);rintro G m _ ⟨j,hj,rfl,hp⟩ hG;unfold Zbh.p1;dsimp only;rw [Zog];by_cases hlt:j<(ZeL ns k).length
 ·have hz:=Zka ht hk _ (yJ hlt);rw [if_pos (decide_eq_true (by omega)),Zag (by omega),zG,ZlN hlt,Zan,Zjg,Zaa,Zag (by omega),Zag (by omega),R.r,Zan,Zko,zG,ZaL (by omega) (by omega)];rw [yN hlt,yO] at hp;dsimp only;generalize (ZeL ns k)[j]=z at hp hz ⊢;by_cases he:S.getD z 0=1
  ·rw [if_neg (by rw [he];decide)];rw [show (S.getD z 0==1)=true by rw [he];rfl,xG] at hp;cases ho:O.getD z false
   ·rw [if_neg (by simp)];rw [ho,Bool.not_false,xG] at hp;exact hG (m-1) _ (by omega) ⟨j+1,by omega,rfl,hp⟩
   rw [if_pos rfl,hp,ho];rfl
  rw [if_pos (by rw [bne_iff_ne];exact he),hp,show (S.getD z 0==1)=false by simpa using he];rfl
 rw [if_neg (by simp<;>omega),hp,wE (by omega)];rfl
theorem ZlD (hN:600≤N) (ht:ZhC ns) {a b:Nat} (ha:a<ns.length) (hb:b<ns.length):Zdc N (rOf p room ns) (a:Int) (b:Int)=some (hvZ ns a b):=by
 unfold Zdc ZcL;have wa:=ht.wk _ (yJ ha);have wb:=ht.wk _ (yJ hb);rw [show (rOf p room ns).Works=Ztf (ns.map Nd.wk) from rfl,Zrp,xW];rw [Zag (by omega),Zag (by omega),zG,ZnH (by simpa using ha),Zan,show ∀(x:List Int) (k:List Int→Option (List Int)),Zgp [zH .u64 4 x] k=k x from fun _ _=>rfl,Zaa,
  Zag (by omega),Zag (by omega),zG,ZnH (by simpa using hb),Zan,show ∀(x:List Int) (k:List Int→Option (List Int)),Zgp [zH .u64 4 x] k=k x from fun _ _=>rfl,Zaa,uM,uM,ZfM (by omega) wb wa,Zaa,hvZ_at ha hb]
 by_cases h1:ns[b].wk<ns[a].wk
 ·rw [if_pos (decide_eq_true h1)];simp [h1]
 rw [if_neg (by simpa using h1)];by_cases h2:ns[a].wk=ns[b].wk
 ·rw [if_pos (by rw [h2];simp)];simp [h2]
 rw [if_neg (by intro e;exact h2 (Zrm wa wb (by simpa using e)))];simp [h1,h2]
end
end Go.Dn.F
namespace Go.Dn.F
open Go.Dn Go.Proofs
variable {N:Nat}
def ZgU (ns:List Nd) (a:Int) (S:List Int) (j:Nat):List Int:=(vG S.length).map (rsF ns a S j)
def Zhk (ns:List Nd) (a:Int) (O:List Bool) (j:Nat):List Bool:=(vG O.length).map (roF ns a O j)
theorem Zjz? {ns:List Nd} {a:Int} {S:List Int} {j i:Nat} (hi:i<S.length):(ZgU ns a S j)[i]? = some (rsF ns a S j i):=by simp [ZgU,hi]
theorem ZlB? {ns:List Nd} {a:Int} {O:List Bool} {j i:Nat} (hi:i<O.length):(Zhk ns a O j)[i]? = some (roF ns a O j i):=by simp [Zhk,hi]
@[simp] theorem recSj_len (ns:List Nd) (a:Int) (S:List Int) (j:Nat):(ZgU ns a S j).length=S.length:=by simp [ZgU]
@[simp] theorem recOj_len (ns:List Nd) (a:Int) (O:List Bool) (j:Nat):(Zhk ns a O j).length=O.length:=by simp [Zhk]
theorem ZrZ (ns:List Nd) (a:Int) (S:List Int):ZgU ns a S 0=S:=by
 refine xH fun i=>?_;rcases zU i S.length with h | h
 ·rw [Zjz? h];unfold rsF;rw [yC,zP h];simp
 rw [zL (by simpa using h),zL h]
theorem Zsa (ns:List Nd) (a:Int) (O:List Bool):Zhk ns a O 0=O:=by
 refine xH fun i=>?_;rcases zU i O.length with h | h
 ·rw [ZlB? h];unfold roF;rw [yC,zP h];simp
 rw [zL (by simpa using h),zL h]
theorem Zne {ns:List Nd} {a:Int} {S:List Int} {j:Nat} (h:Zov ns a j=false∨S.getD j 0≠2):ZgU ns a S (j+1)=ZgU ns a S j:=by
 unfold ZgU;refine vL fun i _=>?_;unfold rsF;by_cases e:i=j
 ·subst e;rcases h with h | h
  ·simp [h]
  rw [show (S.getD i 0==2)=false by simpa using h];simp
 rw [show decide (i<j+1)=decide (i<j) from decide_eq_decide.2 (by omega)]
theorem Ztk {ns:List Nd} {a:Int} {S:List Int} {j:Nat} (hj:j<S.length) (h:Zov ns a j=true) (h2:S.getD j 0=2):ZgU ns a S (j+1)=(ZgU ns a S j).set j 0:=by
 refine xH fun i=>?_;rcases zU i S.length with hi | hi
 ·rw [Zjz? hi];by_cases e:i=j
  ·subst e;rw [zN (by simpa using hj)];unfold rsF;rw [h,h2];simp
  rw [zO (fun h=>e h.symm),Zjz? hi];unfold rsF;rw [show decide (i<j+1)=decide (i<j) from decide_eq_decide.2 (by omega)]
 rw [zL (by simpa using hi),zL (by simpa using hi)]
theorem Zsb {ns:List Nd} {a:Int} {O:List Bool} {j:Nat} (h:Zov ns a j=false):Zhk ns a O (j+1)=Zhk ns a O j:=by
 unfold Zhk;refine vL fun i _=>?_;unfold roF;by_cases e:i=j
 ·subst e;simp [h]
 rw [show decide (i<j+1)=decide (i<j) from decide_eq_decide.2 (by omega)]
theorem Zpk {ns:List Nd} {a:Int} {O:List Bool} {j:Nat} (hj:j<O.length) (h:Zov ns a j=true):Zhk ns a O (j+1)=(Zhk ns a O j).set j false:=by
 refine xH fun i=>?_;rcases zU i O.length with hi | hi
 ·rw [ZlB? hi];by_cases e:i=j
  ·subst e;rw [zN (by simpa using hj)];unfold roF;rw [h];simp
  rw [zO (fun h=>e h.symm),ZlB? hi];unfold roF;rw [show decide (i<j+1)=decide (i<j) from decide_eq_decide.2 (by omega)]
 rw [zL (by simpa using hi),zL (by simpa using hi)]
section
variable {st:LL} {ib ir:Nat} {p:Zae} {room:Int} {ns:List Nd} {S:List Int} {O:List Bool}
theorem ZmC (hN:600≤N) (R:ZmI st ib ir p room ns S O) (k:Int):Zao N (some ir) (some ib) k st=some (Zjk ns k,rst st ir (rcnS ns S k) (rcnO ns O k)):=by
 unfold Zao rcnS rcnO;rw [Zke R,Zaa];dsimp only;have hb:=R.b;have hne:=R.ne;have hir:ir<st.length:=(List.getElem?_eq_some_iff.1 R.r).1;by_cases h:Zjk ns k=0
 ·rw [if_neg (by rw [h];simp),if_pos h,if_pos h,h];obtain ⟨z,rfl,hz0,hz1⟩:=Zhi h;have sm:=R.small;have s6:=R.S6;have o6:=R.O6;rw [Zaa,R.b,Zan,Zbj];have e0:st=rst st ir (ZgU ns (z:Int) S 0) (Zhk ns (z:Int) O 0):=by rw [ZrZ,Zsa,R.same]
  conv=>lhs;rw [e0]
  refine ZbW (fun m (s:(Option Nat)×Int×LL)=>∃j:Nat,j+m=ns.length∧s=(some ir,(j:Int),rst st ir (ZgU ns (z:Int) S j) (Zhk ns (z:Int) O j))) ?_ N ns.length _ ⟨0,by omega,rfl⟩ (by omega);rintro G m _ ⟨j,hjm,rfl⟩ hG;unfold Zao.p1 Zao.p2;dsimp only;rw [ZnW];by_cases hlt:j<ns.length
  ·have w1:w64 ((j:Int)+1)=((j+1:Nat):Int):=by rw [ZaL (by omega) (by omega)];rfl
   have gb:(rst st ir (ZgU ns (z:Int) S j) (Zhk ns (z:Int) O j))[ib]? = some (rOf p room ns).lo:=by unfold rst;rw [zO hne];exact hb
   have gr:(rst st ir (ZgU ns (z:Int) S j) (Zhk ns (z:Int) O j))[ir]? = some (rm2 (ZgU ns (z:Int) S j) (Zhk ns (z:Int) O j)):=zN hir;have hS:(ZgU ns (z:Int) S j).getD j 0=S.getD j 0:=by
    rw [yC,Zjz? (by omega)];unfold rsF;simp
   have nxt : ∀S' O',S'=ZgU ns (z:Int) S (j+1)→O'=Zhk ns (z:Int) O (j+1)→G (some ir,w64 ((j:Int)+1),rst st ir S' O')=some (0,rst st ir (recS ns (z:Int) S) (recO ns (z:Int) O)):=by
    rintro S' O' rfl rfl;rw [w1];exact hG (m-1) _ (by omega) ⟨j+1,by omega,rfl⟩
   have rr : ∀S1 O1 S2 O2,zM (rst st ir S1 O1) ir (rm2 S2 O2)=rst st ir S2 O2:=fun _ _ _ _=>by unfold rst;rw [yT]
   have body:Zov ns (z:Int) j=true→(if ((ZgU ns (z:Int) S j).getD j 0==2)=true then
     G (some ir,w64 ((j:Int)+1),zM (zM (rst st ir (ZgU ns (z:Int) S j) (Zhk ns (z:Int) O j)) ir (rm2 (ZgU ns (z:Int) S j) ((Zhk ns (z:Int) O j).set j false))) ir (rm2 ((ZgU ns (z:Int) S j).set j 0) ((Zhk ns (z:Int) O j).set j false)))
     else G (some ir,w64 ((j:Int)+1),zM (rst st ir (ZgU ns (z:Int) S j) (Zhk ns (z:Int) O j)) ir (rm2 (ZgU ns (z:Int) S j) ((Zhk ns (z:Int) O j).set j false))))=some (0,rst st ir (recS ns (z:Int) S) (recO ns (z:Int) O)):=by
    intro hc;rw [rr,rr,hS];by_cases h2:S.getD j 0=2
    ·rw [if_pos (by rw [h2];rfl)];exact nxt _ _ (Ztk (by omega) hc h2).symm (Zpk (by omega) hc).symm
    rw [if_neg (by simpa using h2)];exact nxt _ _ (Zne (.inr h2)).symm (Zpk (by omega) hc).symm
   rw [if_pos (decide_eq_true (by omega)),gb,Zan,Zbj,on_eq R.tr hN hz0,Zps hlt hz0,Zaa,on_eq R.tr hN hlt,Zps hz0 hlt,Zaa,Zaa,Zag (by omega),Zag (by omega),gr,Zan,Zko,zG];dsimp only;cases hw:ZgN ns (j:Int) (z:Int)
   ·rw [if_neg (by simp)];cases hw2:ZgN ns (z:Int) (j:Int)
    ·rw [if_neg (by simp)];have hc:Zov ns (z:Int) j=false:=by unfold Zov;rw [hw,hw2];rfl
     exact nxt _ _ (Zne (.inl hc)).symm (Zsb hc).symm
    rw [if_pos rfl];exact body (by unfold Zov;rw [hw,hw2];rfl)
   rw [if_pos rfl];exact body (by unfold Zov;rw [hw];rfl)
  have hj:j=ns.length:=by omega
  subst hj;rw [if_neg (by simp<;>omega)];rfl
 have hp:Zjk ns k>0:=by
  unfold Zjk at h ⊢;split
  ·split
   ·omega
   rename_i h1 h2;rw [if_pos h1,if_neg h2] at h;exact absurd rfl h
  omega
 rw [if_pos (by simpa using hp),if_neg h,if_neg h,R.same]
theorem rBest_eq (hN:600≤N) (R:ZmI st ib ir p room ns S O) (h0:0<ns.length):ZaI N (some ir) (some ib) st=some ((Zim ns (vlZ ns S O):Int),st):=by
 unfold ZaI;have sm:=R.small;rw [Zaa,R.b,Zan,Zbj];refine ZbW (fun m (s:Int×Int×LL)=>∃j:Nat,j+m=ns.length∧∃out:Nat,out<ns.length∧s=((out:Int),(j:Int),st)∧ZkN ns (vlZ ns S O) m j out=Zim ns (vlZ ns S O)) ?_ N ns.length _ ⟨0,by omega,0,h0,rfl,rfl⟩ (by omega);rintro G m _ ⟨j,hjm,out,ho,rfl,hp⟩ hG;unfold ZaI.p1 ZaI.p2;dsimp only;rw [ZnW];by_cases hlt:j<ns.length
 ·have ij:inB ns (j:Int)=true:=inB_true.2 ⟨by omega,by omega⟩;have e2:atZ ns (vlZ ns S O) (j:Int)=vlZ ns S O j:=by unfold atZ;rw [ij];simp
  have w1:w64 ((j:Int)+1)=((j+1:Nat):Int):=by rw [ZaL (by omega) (by omega)];rfl
  obtain ⟨m,rfl⟩ : ∃x,m=x+1:=⟨m-1,by omega⟩
  have hp':ZkN ns (vlZ ns S O) m (j+1) (if vlZ ns S O j&&hvZ ns j out then j else out)=Zim ns (vlZ ns S O):=hp;rw [if_pos (decide_eq_true (by omega)),Zpl hN R,Zaa];dsimp only;rw [e2,w1];cases hv:vlZ ns S O j
  ·rw [if_neg (by simp)];rw [hv,tO,if_neg (by simp)] at hp';exact hG m _ (by omega) ⟨j+1,by omega,out,ho,rfl,hp'⟩
  rw [if_pos rfl,R.b,Zan,Zbj,ZlD hN R.tr hlt ho,Zaa];rw [hv,xG] at hp';cases hh:hvZ ns j out
  ·rw [if_neg (by simp)];rw [hh,if_neg (by simp)] at hp';exact hG m _ (by omega) ⟨j+1,by omega,out,ho,rfl,hp'⟩
  rw [if_pos rfl];rw [hh,if_pos rfl] at hp';exact hG m _ (by omega) ⟨j+1,by omega,j,hlt,rfl,hp'⟩
 rw [if_neg (by simp<;>omega)];have:m=0:=by omega
 subst this;rw [←hp];rfl
theorem rLead_eq (hN:600≤N) (R:ZmI st ib ir p room ns S O) (h0:0<ns.length):ZaH N (some ir) (some ib) st=some ((Zim ns (ldZ ns S O):Int),st):=by
 unfold ZaH;have sm:=R.small;rw [Zaa,R.b,Zan,Zbj];refine ZbW (fun m (s:Int×Int×LL)=>∃j:Nat,j+m=ns.length∧∃out:Nat,out<ns.length∧s=((out:Int),(j:Int),st)∧ZkN ns (ldZ ns S O) m j out=Zim ns (ldZ ns S O)) ?_ N ns.length _ ⟨0,by omega,0,h0,rfl,rfl⟩ (by omega);rintro G m _ ⟨j,hjm,out,ho,rfl,hp⟩ hG;unfold ZaH.p1 ZaH.p2;dsimp only;rw [ZnW];by_cases hlt:j<ns.length
 ·have ij:inB ns (j:Int)=true:=inB_true.2 ⟨by omega,by omega⟩;have e2:(!atZ ns (flZ ns S O) (j:Int))=ldZ ns S O j:=by unfold atZ ldZ;rw [ij];simp
  have w1:w64 ((j:Int)+1)=((j+1:Nat):Int):=by rw [ZaL (by omega) (by omega)];rfl
  obtain ⟨m,rfl⟩ : ∃x,m=x+1:=⟨m-1,by omega⟩
  have hp':ZkN ns (ldZ ns S O) m (j+1) (if ldZ ns S O j&&hvZ ns j out then j else out)=Zim ns (ldZ ns S O):=hp;rw [if_pos (decide_eq_true (by omega)),Zng hN R,Zaa];dsimp only;rw [e2,w1];cases hv:ldZ ns S O j
  ·rw [if_neg (by simp)];rw [hv,tO,if_neg (by simp)] at hp';exact hG m _ (by omega) ⟨j+1,by omega,out,ho,rfl,hp'⟩
  rw [if_pos rfl,R.b,Zan,Zbj,ZlD hN R.tr hlt ho,Zaa];rw [hv,xG] at hp';cases hh:hvZ ns j out
  ·rw [if_neg (by simp)];rw [hh,if_neg (by simp)] at hp';exact hG m _ (by omega) ⟨j+1,by omega,out,ho,rfl,hp'⟩
  rw [if_pos rfl];rw [hh,if_pos rfl] at hp';exact hG m _ (by omega) ⟨j+1,by omega,j,hlt,rfl,hp'⟩
 rw [if_neg (by simp<;>omega)];have:m=0:=by omega
 subst this;rw [←hp];rfl
end
end Go.Dn.F
namespace Go.Dn.F
open Go.Dn Go.Proofs
variable {N:Nat}
def Zuf (it im ib ir:Nat):List L:=[zQ (some it),zQ (some im),zQ (some ib),zQ (some ir)]
structure ZeB (st:LL) (ia it im ib ir ih:Nat) (p:Zae) (ns:List Nd) (lp:List Int) (S:List Int) (O:List Bool):Prop where
 M:ZiR st ia it im p 100 ns lp S O
 R:ZmI st ib ir p 100 ns S O
 h:st[ih]? = some (Zuf it im ib ir)
 nd : [ia,it,im,ib,ir,ih].Nodup
 gen:S.getD 0 0=1∧O.getD 0 false=false
 len1:1≤ns.length
theorem Zsu {ns:List Nd} (ht:ZhC ns) (x:Nd) (S:List Int) (O:List Bool) {k:Nat} (hk:k≤ns.length):(Zfa (ns ++ [x]) S O).take k=(Zfa ns S O).take k:=by
 refine xH fun i=>?_;rcases zU i k with h | h
 ·rw [tB h,tB h,Zgo (by simp;omega),Zgo (by omega)];unfold stZ chZ;rw [Zij x ht (by omega)]
 rw [sT h,sT h]
section
variable {st:LL} {ia it im ib ir ih:Nat} {p:Zae} {ns:List Nd} {lp:List Int} {S:List Int} {O:List Bool}
theorem ZeB.ne (B:ZeB st ia it im ib ir ih p ns lp S O):(im≠ib∧im≠ir∧im≠ih)∧(ir≠ia∧ir≠it∧ir≠im∧ir≠ih)∧(ib≠ia∧ib≠it∧ib≠im∧ib≠ir∧ib≠ih)∧(ih≠ia∧ih≠it):=by
 have:=B.nd;simp at this;omega
theorem ZiR.turned (M:ZiR st ia it im p 100 ns lp S O) {S':List Int} {O':List Bool} (h : ∀i,ns.length≤i→S'.getD i 0=S.getD i 0∧O'.getD i false=O.getD i false):ZiR (F.gst st im it ns S' O') ia it im p 100 ns lp S' O':=
 ⟨M.T.setIm M.na M.nt,M.na,M.nt,⟨ns.length,Nat.le_refl _,by rw [zX (by simp)];exact zN M.im_lt,fun i hi=>by rw [(h i hi).1,(h i hi).2];exact M.gst_len i hi⟩,M.small⟩
theorem ZiR.other (M:ZiR st ia it im p 100 ns lp S O) {j:Nat} {x:List L} (h1:j≠ia) (h2:j≠it) (h3:j≠im):ZiR (st.set j x) ia it im p 100 ns lp S O:=by
 obtain ⟨k,hk,hm,hn⟩:=M.k;exact ⟨M.T.setIm h1 h2,M.na,M.nt,⟨k,hk,by rw [zO h3];exact hm,hn⟩,M.small⟩
theorem ZmI.other (R:ZmI st ib ir p 100 ns S O) {j:Nat} {x:List L} (h1:j≠ib) (h2:j≠ir):ZmI (st.set j x) ib ir p 100 ns S O:=
 ⟨by rw [zO h1];exact R.b,by rw [zO h2];exact R.r,R.ne,R.tr,R.small,R.S6,R.O6,R.pos⟩
theorem ZeB.turn (B:ZeB st ia it im ib ir ih p ns lp S O) {S':List Int} {O':List Bool} (h : ∀i,ns.length≤i→S'.getD i 0=S.getD i 0∧O'.getD i false=O.getD i false) (h1:S'.length=600) (h2:O'.length=600) (h3 : ∀i,0≤S'.getD i 0) (h4:S'.getD 0 0=1∧O'.getD 0 false=false) :
  ZeB (rst (F.gst st im it ns S' O') ir S' O') ia it im ib ir ih p ns lp S' O':=by
 obtain ⟨⟨n1,n2,n3⟩,⟨n4,n5,n6,n7⟩,⟨n8,n9,n10,n11,n12⟩,n13,n14⟩:=B.ne;have R1:ZmI (F.gst st im it ns S' O') ib ir p 100 ns S O:=B.R.other n1 n2;exact ⟨(B.M.turned h).other n4 n5 n6,R1.put h1 h2 h3,by unfold rst gst;rw [zO n7,zO n3];exact B.h,B.nd,h4,B.len1⟩
theorem ZeB.gst (B:ZeB st ia it im ib ir ih p ns lp S O):ZeB (F.gst st im it ns S O) ia it im ib ir ih p ns lp S O:=by
 obtain ⟨⟨n1,n2,n3⟩,_⟩:=B.ne;exact ⟨B.M.gst,B.R.other n1 n2,by unfold F.gst;rw [zO n3];exact B.h,B.nd,B.gen,B.len1⟩
theorem ZeB.ih_gst (B:ZeB st ia it im ib ir ih p ns lp S O) (S':List Int) (O':List Bool):(F.gst st im it ns S' O')[ih]? = some (Zuf it im ib ir):=by
 obtain ⟨⟨n1,n2,n3⟩,_⟩:=B.ne;unfold F.gst;rw [zO n3];exact B.h
theorem ZeB.R_gst (B:ZeB st ia it im ib ir ih p ns lp S O) (S':List Int) (O':List Bool):ZmI (F.gst st im it ns S' O') ib ir p 100 ns S O:=by
 obtain ⟨⟨n1,n2,n3⟩,_⟩:=B.ne;exact B.R.other n1 n2
theorem ZeB.fl0 (B:ZeB st ia it im ib ir ih p ns lp S O):ZeL ns 0 = [0]:=by
 rcases Zeg B.M.T.tr B.len1 with ⟨_,_,e,_⟩ | ⟨q,hq,_⟩
 ·exact e
 omega
theorem ZeB.ld0 (B:ZeB st ia it im ib ir ih p ns lp S O):ldZ ns S O 0=true:=by
 unfold ldZ flZ;rw [B.fl0];unfold Zmm;simp only [vR,List.any_nil];rw [B.gen.1,B.gen.2];rfl
theorem ZeB.vl0 (B:ZeB st ia it im ib ir ih p ns lp S O):vlZ ns S O 0=true:=by
 rw [Zqh,B.fl0];simp only [yO,sN];rw [B.gen.1,B.gen.2];rfl
theorem ZfW {α:Type} {it im ib ir:Nat} (k:Option Nat→Option Nat→Option Nat→Option Nat→Option α):ZbC (Zuf it im ib ir) k=k (some it) (some im) (some ib) (some ir):=rfl
theorem ZeB.ck {α:Type} (B:ZeB st ia it im ib ir ih p ns lp S O) (S':List Int) (O':List Bool) (A:Option α):chk (eqO ((F.gst st im it ns S' O')[ih]?) (some [zQ (some it),zQ (some im),zQ (some ib),zQ (some ir)])=true) A=A:=Zag (eqO_of (B.ih_gst S' O'))
theorem does_eq (hN:1000≤N) (hp:WfP p) {gs:List ZcU} {cs:List Zcs} (hg:p.Gates=Zmy gs) (hc:p.Checks=ZjT cs) (lg:gs.length≤400) (lc:cs.length≤400) (B:ZeB st ia it im ib ir ih p ns lp S O) (hsm:ns.length≤150) (x:ZbF) (wx:WfH x.Header) (nx:0≤x.Now∧x.Now≤9223372036854775807) :
  ∃st' ns' lp' S' O',ZbA N (some ih) x st=some (true,st')∧ZeB st' ia it im ib ir ih p ns' lp' S' O'∧ns'.length≤ns.length+1:=by
 obtain ⟨⟨n1,n2,n3⟩,⟨n4,n5,n6,n7⟩,⟨n8,n9,n10,n11,n12⟩,n13,n14⟩:=B.ne;have sm:=B.R.small;have gl:=B.M.gst_len;unfold ZbA ZbA.p1;by_cases k0:x.Kind=0
 ·rw [if_pos (by simpa using k0),Zaa,B.h,Zan,ZfW];obtain ⟨lp',st',ea,T',keep⟩:=skAdd_eq (N:=N) (by omega) hg hc lg lc (by omega) B.M.T wx x.Now (by omega);have hib:st'[ib]? = some (rOf p 100 ns).lo:=by rw [keep _ n8 n9];exact B.R.b
  have l1:=addT_len p gs cs 100 ns x.Header x.Now;rw [ea,Zaa];dsimp only;rw [keep _ n13 n14,B.h,Zan,ZfW,Zpi (by omega) hg hc lg lc (by omega) B.M.T.tr (by omega) hib wx _ nx,Zaa];dsimp only;refine ⟨_,(Zjl p gs cs 100 ns x.Header x.Now).2.2.2,lp',S,O,rfl,?_,?_⟩
  ·obtain ⟨k,hk,hm,hn⟩:=B.M.k;have hrow:(Zfa (Zjl p gs cs 100 ns x.Header x.Now).2.2.2 S O).take k=(Zfa ns S O).take k:=by
    rcases Zkt p gs cs 100 ns x.Header x.Now with e | ⟨q,_,_,_,_,_,e⟩
    ·rw [e]
    rw [e];exact Zsu B.M.T.tr _ S O hk
   have him:st'[im]? = some (mk2 it ((Zfa (Zjl p gs cs 100 ns x.Header x.Now).2.2.2 S O).take k)):=by rw [keep _ B.M.na B.M.nt,hrow];exact hm
   have M':ZiR st' ia it im p 100 (Zjl p gs cs 100 ns x.Header x.Now).2.2.2 lp' S O:=⟨T',B.M.na,B.M.nt,⟨k,by omega,him,hn⟩,by omega⟩
   refine ⟨M'.other n8 n9 n10,⟨zN (List.getElem?_eq_some_iff.1 hib).1,by rw [zO n11,keep _ n4 n5];exact B.R.r,B.R.ne,T'.tr,by omega,B.R.S6,B.R.O6,B.R.pos⟩,by rw [zO n12,keep _ n13 n14];exact B.h,B.nd,B.gen,by have:=B.len1;omega⟩
  omega
 rw [if_neg (by simpa using k0)];have fin : ∀(S':List Int) (O':List Bool),(∀i,ns.length≤i→S'.getD i 0=S.getD i 0∧O'.getD i false=O.getD i false)→S'.length=600→O'.length=600→(∀i,0≤S'.getD i 0)→(S'.getD 0 0=1∧O'.getD 0 false=false)→∀o:Option (Bool×LL),o=some (true,rst (F.gst st im it ns S' O') ir S' O') →
   ∃st' ns' lp' S' O',o=some (true,st')∧ZeB st' ia it im ib ir ih p ns' lp' S' O'∧ns'.length≤ns.length+1:=
  fun S' O' h h1 h2 h3 h4 o ho=>⟨_,ns,lp,S',O',ho,B.turn h h1 h2 h3 h4,by omega⟩
 have s6:=B.R.S6;have o6:=B.R.O6;by_cases k1:x.Kind=1
 ·rw [if_pos (by simpa using k1),Zaa,B.h,Zan,ZfW,ZsD (by omega) B.M s6,Zaa];dsimp only;have hP : ∀i,(vrdS ns S x.N x.Right).getD i 0=S.getD i 0∨(1≤i∧i<ns.length∧0≤(vrdS ns S x.N x.Right).getD i 0):=by
   intro i;unfold vrdS;by_cases hv:vrdE ns S x.N x.Right=0
   ·rw [if_pos hv];have hz:Zjk ns x.N=0:=by
     unfold vrdE at hv;by_cases hz:Zjk ns x.N=0
     ·exact hz
     rw [if_neg hz] at hv;exact absurd hv hz
    obtain ⟨j,ej,hj,hj1⟩:=Zhi hz;rw [ej,zG,ZhO (by omega)];by_cases hij:i=j
    ·rw [if_pos hij];right;exact ⟨by omega,by omega,by unfold Zqg;split<;>omega⟩
    rw [if_neg hij];exact .inl rfl
   rw [if_neg hv];exact .inl rfl
  refine fin (vrdS ns S x.N x.Right) O (fun i hi=>?_) (by unfold vrdS;split<;>simp [s6]) o6 (fun i=>?_) ?_ _ ?_
  ·rcases hP i with h | ⟨_,h,_⟩
   ·exact ⟨h,rfl⟩
   omega
  ·rcases hP i with h | ⟨_,_,h⟩
   ·rw [h];exact B.R.pos i
   exact h
  ·rcases hP 0 with h | ⟨h,_⟩
   ·exact ⟨h.trans B.gen.1,B.gen.2⟩
   omega
  rw [B.ck,Zqw (B.R_gst _ _),Zaa];dsimp only;rw [beq_self_eq_true]
 rw [if_neg (by simpa using k1)];by_cases k2:x.Kind=2
 ·rw [if_pos (by simpa using k2),Zaa,B.h,Zan,ZfW,ZjS (by omega) B.M o6,Zaa];dsimp only;have hP : ∀i,(invO ns O x.N).getD i false=O.getD i false∨(1≤i∧i<ns.length):=by
   intro i;unfold invO;by_cases hz:Zjk ns x.N=0
   ·rw [if_pos hz];obtain ⟨j,ej,hj,hj1⟩:=Zhi hz;rw [ej,zG,ZhO (by omega)];by_cases hij:i=j
    ·right;exact ⟨by omega,by omega⟩
    rw [if_neg hij];exact .inl rfl
   rw [if_neg hz];exact .inl rfl
  refine fin S (invO ns O x.N) (fun i hi=>?_) s6 (by unfold invO;split<;>simp [o6]) B.R.pos ?_ _ ?_
  ·rcases hP i with h | ⟨_,h⟩
   ·exact ⟨rfl,h⟩
   omega
  ·rcases hP 0 with h | ⟨h,_⟩
   ·exact ⟨B.gen.1,h.trans B.gen.2⟩
   omega
  rw [B.ck,ZmD (B.R_gst _ _),Zaa];dsimp only;rw [beq_self_eq_true]
 rw [if_neg (by simpa using k2)];by_cases k3:x.Kind=3
 ·rw [if_pos (by simpa using k3),Zaa,B.h,Zan,ZfW,ZoE (by omega) B.M,Zaa];dsimp only;have hS : ∀i,(rcnS ns S x.N).getD i 0=S.getD i 0∨(i<ns.length∧S.getD i 0=2∧(rcnS ns S x.N).getD i 0=0):=by
   intro i;unfold rcnS;by_cases hz:Zjk ns x.N=0
   ·rw [if_pos hz,ZnU];unfold rsF;by_cases hq:(decide (i<ns.length)&&Zov ns x.N i&&S.getD i 0==2)=true
    ·rw [if_pos hq];simp only [zS,decide_eq_true_eq,beq_iff_eq] at hq;exact .inr ⟨hq.1.1,hq.2,rfl⟩
    rw [if_neg hq];exact .inl rfl
   rw [if_neg hz];exact .inl rfl
  have hO : ∀i,(rcnO ns O x.N).getD i false=O.getD i false∨(i<ns.length∧(rcnO ns O x.N).getD i false=false):=by
   intro i;unfold rcnO;by_cases hz:Zjk ns x.N=0
   ·rw [if_pos hz,ZnV];unfold roF;by_cases hq:(decide (i<ns.length)&&Zov ns x.N i)=true
    ·rw [if_pos hq];simp only [zS,decide_eq_true_eq] at hq;exact .inr ⟨hq.1,rfl⟩
    rw [if_neg hq];exact .inl rfl
   rw [if_neg hz];exact .inl rfl
  refine fin (rcnS ns S x.N) (rcnO ns O x.N) (fun i hi=>⟨?_,?_⟩) (by unfold rcnS;split<;>simp [recS,s6]) (by unfold rcnO;split<;>simp [recO,o6]) (fun i=>?_) ⟨?_,?_⟩ _ ?_
  ·rcases hS i with h | ⟨h,_⟩
   ·exact h
   omega
  ·rcases hO i with h | ⟨h,_⟩
   ·exact h
   omega
  ·rcases hS i with h | ⟨_,_,h⟩
   ·rw [h];exact B.R.pos i
   omega
  ·rcases hS 0 with h | ⟨_,h,_⟩
   ·exact h.trans B.gen.1
   rw [B.gen.1] at h;omega
  ·rcases hO 0 with h | ⟨_,h⟩
   ·exact h.trans B.gen.2
   exact h
  rw [B.ck,ZmC (by omega) (B.R_gst _ _),Zaa];dsimp only;rw [beq_self_eq_true]
 rw [if_neg (by simpa using k3)];exact ⟨st,ns,lp,S,O,rfl,B,by omega⟩
end
end Go.Dn.F
namespace Go.Dn.F
open Go.Dn Go.Proofs
variable {N:Nat}
section
variable {st:LL} {ia it im ib ir ih:Nat} {p:Zae} {ns:List Nd} {lp:List Int} {S:List Int} {O:List Bool}
theorem ZeB.ck' {α:Type} (B:ZeB st ia it im ib ir ih p ns lp S O) (A:Option α):chk (eqO (st[ih]?) (some [zQ (some it),zQ (some im),zQ (some ib),zQ (some ir)])=true) A=A:=Zag (eqO_of B.h)
theorem mSame_eq (hN:1000≤N) (B:ZeB st ia it im ib ir ih p ns lp S O):ZaK N (some ih) st=some (true,F.gst st im it ns S O):=by
 unfold ZaK;have sm:=B.R.small;have l1:=B.len1;refine ZbW (fun m (s:(Option Nat)×Int×LL)=>∃(i:Int) (st':LL),-1≤i∧i+m=(ns.length:Int)+1∧s=(some ih,i,st')∧ZeB st' ia it im ib ir ih p ns lp S O∧F.gst st' im it ns S O=F.gst st im it ns S O) ?_ N (ns.length+2) _ ⟨-1,st,by omega,by omega,rfl,B,rfl⟩ (by omega);rintro G m _ ⟨i,st',hi,him,rfl,B',he⟩ hG;unfold ZaK.p1;dsimp only;have B1:=B'.gst;have gg:F.gst (F.gst st' im it ns S O) im it ns S O=F.gst st' im it ns S O:=Zjf;rw [Zaa,B'.h,Zan,ZfW,Zaa,B'.R.b,Zan,Zbj,ZnW];by_cases hle:i≤(ns.length:Int)
 ·rw [if_pos (by simpa using hle),Said_eq (by omega) B'.M,Zaa];dsimp only;have p2:ZaK.p2 N G ih i (if inB ns i=true then S.getD i.toNat 0 else 0) (if inB ns i=true then O.getD i.toNat false else false) (if inB ns i=true then S.getD i.toNat 0 else 0) (if inB ns i=true then O.getD i.toNat false else false) (F.gst st' im it ns S O)=some (true,F.gst st im it ns S O):=by
   unfold ZaK.p2;rw [if_neg (by simp),if_neg (by simp),B1.h,Zan,ZfW,Zmp (by omega) B1.M,Zaa];dsimp only;rw [gg,B1.ck',Zng (by omega) B1.R,Zaa];dsimp only;rw [if_neg (by simp),B1.h,Zan,ZfW,Child_eq (by omega) B1.M,Zaa];dsimp only;rw [gg,B1.ck',Zpm (by omega) B1.R,Zaa];dsimp only;rw [if_neg (by simp),B1.h,Zan,ZfW,Zlh (by omega) B1.M,Zaa];dsimp only;rw [gg,B1.ck',Zpl (by omega) B1.R,Zaa];dsimp only;rw [if_neg (by simp),ZaL (by omega) (by omega)];exact hG (m-1) _ (by omega) ⟨i+1,_,by omega,by omega,rfl,B1,by rw [gg,he]⟩
  by_cases h0:0≤i
  ·rw [if_pos (by simpa using h0),B1.h,Zan,ZfW,Zaa,B1.R.b,Zan,Zbj,ZnW];by_cases hlt:i<(ns.length:Int)
   ·have hi:inB ns i=true:=inB_true.2 ⟨h0,hlt⟩;rw [if_pos (by simpa using hlt),Zaa,Zag h0,Zag (by omega),B1.R.r,Zan,Zko];dsimp only;rw [hi,if_pos rfl,if_pos rfl] at p2 ⊢;exact p2
   have hi:inB ns i=false:=by rw [←wX,inB_true];omega
   rw [if_neg (by simpa using hlt)];rw [hi,if_neg (by simp),if_neg (by simp)] at p2 ⊢;exact p2
  have hi:inB ns i=false:=by rw [←wX,inB_true];omega
  rw [if_neg (by simpa using h0)];rw [hi,if_neg (by simp),if_neg (by simp)] at p2 ⊢;exact p2
 rw [if_neg (by simpa using hle),ZlF (by omega) B'.M l1 B'.vl0,Zaa];dsimp only;rw [B'.ck,rBest_eq (by omega) B1.R l1,Zaa];dsimp only;rw [if_pos (by simp),B1.h,Zan,ZfW,Zqy (by omega) B1.M l1 B1.ld0,Zaa];dsimp only;rw [gg,B1.ck',rLead_eq (by omega) B1.R l1,Zaa];dsimp only;rw [beq_self_eq_true,he]
end
def S0:List Int:=(zC 600 0).set 0 1
def O0:List Bool:=zC 600 false
theorem Zqb (i:Nat):S0.getD i 0=if i=0 then 1 else 0:=by
 unfold S0;rw [ZhO (by simp)];by_cases h:i=0
 ·rw [if_pos h,if_pos h]
 rw [if_neg h,if_neg h,yC,wR];split<;>rfl
theorem ZrP (i:Nat):O0.getD i false=false:=by
 unfold O0;rw [yC,wR];split<;>rfl
theorem ZsA {p:Zae} (hp:WfP p) (st:LL):ZeB ((((((st ++ [(aOf p 100 [ZfQ p]).lo]) ++ [Zgy st.length [-1]]) ++ [mk2 (st.length+1) []]) ++ [(rOf p 100 [ZfQ p]).lo]) ++ [rm2 S0 O0]) ++ [Zuf (st.length+1) (st.length+2) (st.length+3) (st.length+4)])
  st.length (st.length+1) (st.length+2) (st.length+3) (st.length+4) (st.length+5) p [ZfQ p] [-1] S0 O0:=by
 have T:=Zrd hp 100 st;have T5:=(((T.app [mk2 (st.length+1) []]).app [(rOf p 100 [ZfQ p]).lo]).app [rm2 S0 O0]).app [Zuf (st.length+1) (st.length+2) (st.length+3) (st.length+4)];refine ⟨⟨T5,by omega,by omega,⟨0,by simp,?_,fun i _=>⟨Zqb i,ZrP i⟩⟩,by simp⟩,⟨?_,?_,by omega,T.tr,by simp,by simp [S0],by simp [O0],fun i=>by rw [Zqb];split<;>omega⟩,?_,?_,⟨Zqb 0,ZrP 0⟩,by simp⟩
 ·simp
 ·simp
 ·simp
 ·simp
 simp
theorem start_eq (hN:1000≤N) {p:Zae} (hp:WfP p) {gs:List ZcU} {cs:List Zcs} (hg:p.Gates=Zmy gs) (hc:p.Checks=ZjT cs) (lg:gs.length≤400) (lc:cs.length≤400) (hgd:Zmz p gs cs=true) (st:LL) :
  ∃ia it im ib ir ih st',Zed N p st=some (some ih,st')∧ZeB st' ia it im ib ir ih p [ZfQ p] [-1] S0 O0:=by
 unfold Zed;rw [Zrc (by omega) hg hc lg lc hp,hgd,if_pos rfl,Zaa];dsimp only;unfold ZfB;rw [Zaa];dsimp only;rw [Zph (by omega) hp,Zaa,show ZkD 100=100 from rfl];dsimp only;unfold Zfk;rw [Zaa];dsimp only;have e1 : ∀(l:LL) (x y:List L),(l ++ [x]).set l.length y=l ++ [y]:=fun l x y=>by simp
 rw [e1];have B:=ZsA hp st;have l1:(st ++ [(aOf p 100 [ZfQ p]).lo] ++ [Zgy st.length [-1]]:LL).length=st.length+2:=by simp
 have l2:(st ++ [(aOf p 100 [ZfQ p]).lo] ++ [Zgy st.length [-1]] ++ [[zQ (some (st.length+1)),yB true 3 []]]:LL).length=st.length+3:=by simp
 have l3:(st ++ [(aOf p 100 [ZfQ p]).lo] ++ [Zgy st.length [-1]] ++ [[zQ (some (st.length+1)),yB true 3 []]] ++ [(rOf p 100 [ZfQ p]).lo]:LL).length=st.length+4:=by simp
 have l4 : ∀x:List L,(st ++ [(aOf p 100 [ZfQ p]).lo] ++ [Zgy st.length [-1]] ++ [[zQ (some (st.length+1)),yB true 3 []]] ++ [(rOf p 100 [ZfQ p]).lo] ++ [x]:LL).length=st.length+5:=by simp
 rw [l1,l2,l3,l4];exact ⟨_,_,_,_,_,_,_,rfl,B⟩
end Go.Dn.F
namespace Go.Dn.F
open Go.Dn Go.Proofs
variable {N:Nat}
structure WfA16 (c:ZbF):Prop where
 h:WfH c.Header
 n:Zom c.Now
abbrev tysAct:List Ty:=[.int .i64,.int .i64,.arr .u8 32,.arr .u8 32,.int .i64,.int .i64,.int .i64,.int .i64,.int .i64,.bool]
noncomputable def ZiT (l:List ZbF):LL:=l.map ZbF.ls
theorem ZmY {l:List ZbF} {i:Nat} (h:i<l.length):(ZiT l)[i]? = some l[i].ls:=by simp [ZiT,h]
@[simp] theorem Zkl (l:List ZbF):len (ZiT l)=(l.length:Int):=by simp [len,ZiT]
@[simp] theorem ZnJ (l:List ZbF):(ZiT l).length=l.length:=by simp [ZiT]
theorem open_A16 {xs:LL} (h : ∀x∈xs,ZhR tysAct x) : ∃l,xs=ZiT l∧∀x∈l,WfA16 x:=
 ZrE fun x hx=>by
  obtain ⟨_,_,rfl,h0,h⟩:=(h x hx).cons_inv;obtain ⟨_,_,rfl,h1,h⟩:=h.cons_inv;obtain ⟨_,_,rfl,h2,h⟩:=h.cons_inv;obtain ⟨_,_,rfl,h3,h⟩:=h.cons_inv;obtain ⟨_,_,rfl,h4,h⟩:=h.cons_inv;obtain ⟨_,_,rfl,h5,h⟩:=h.cons_inv;obtain ⟨_,_,rfl,h6,h⟩:=h.cons_inv;obtain ⟨_,_,rfl,h7,h⟩:=h.cons_inv;obtain ⟨_,_,rfl,h8,h⟩:=h.cons_inv;obtain ⟨_,_,rfl,h9,h⟩:=h.cons_inv;cases h.nil_inv;obtain ⟨a0,rfl,w0⟩:=h0.int_inv;obtain ⟨a1,rfl,w1⟩:=h1.int_inv;obtain ⟨a2,rfl,k2,w2⟩:=h2.arr_inv;obtain ⟨a3,rfl,k3,w3⟩:=h3.arr_inv;obtain ⟨a4,rfl,w4⟩:=h4.int_inv;obtain ⟨a5,rfl,w5⟩:=h5.int_inv;obtain ⟨a6,rfl,w6⟩:=h6.int_inv;obtain ⟨a7,rfl,w7⟩:=h7.int_inv;obtain ⟨a8,rfl,w8⟩:=h8.int_inv;obtain ⟨a9,rfl⟩:=h9.bool_inv;refine ⟨⟨a0,⟨a1,a2,a3,a4,a5,a6⟩,a7,a8,a9⟩,rfl,⟨⟨Zgf w1,?_,Zgf w4,Zgf w5,Zgf w6⟩,Zgf w7⟩⟩;simp only [wfH,zS];exact ⟨ZqX k2 w2,ZqX k3 w3⟩
theorem Zst {p:Zae} (hp:WfP p) (l:List ZbF) (hl:l.length+900≤N) (hb:l.length≤maxLen) :
  ∃b,Zct N p (ZiT l)=some b∧(b=false→(∀x∈l,0≤x.Now)∧l.length≤40∧∃gs cs,p.Gates=Zmy gs∧p.Checks=ZjT cs∧gs.length≤400∧cs.length≤400∧Zmz p gs cs=true):=by
 unfold Zct;have hm:maxLen=9223372036854775807:=rfl;refine Zkk (fun m (v:Int)=>∃k:Nat,k+m=l.length∧v=(k:Int)∧∀x∈l.take k,0≤x.Now) ?_ N l.length 0 ⟨0,by omega,rfl,by simp⟩ (by omega);rintro G m _ ⟨k,hk,rfl,ha⟩ hG;unfold Zct.p1;rw [Zkl];by_cases hlt:k<l.length
 ·rw [if_pos (by simp<;>omega),Zag (by omega),zG,ZmY hlt,Zan,ZfJ,ZaL (by omega) (by omega)];by_cases h:l[k].Now<0
  ·rw [if_pos (by simpa using h)];exact ⟨true,rfl,fun h=>by cases h⟩
  rw [if_neg (by simpa using h)];refine hG (m-1) _ (by omega) ⟨k+1,by omega,by omega,fun x hx=>?_⟩;rw [yG hlt] at hx;rcases List.mem_append.1 hx with hx | hx
  ·exact ha x hx
  cases List.mem_singleton.1 hx;omega
 rw [if_neg (by simp<;>omega)];rw [zX (by omega)] at ha;by_cases h1:len p.Gates>20
 ·rw [if_pos (by simpa using h1)];exact ⟨true,rfl,fun h=>by cases h⟩
 rw [if_neg (by simpa using h1)];by_cases h2:len p.Checks>20
 ·rw [if_pos (by simpa using h2)];exact ⟨true,rfl,fun h=>by cases h⟩
 rw [if_neg (by simpa using h2)];by_cases h3:(l.length:Int)>40
 ·rw [if_pos (by simpa using h3)];exact ⟨true,rfl,fun h=>by cases h⟩
 rw [if_neg (by simpa using h3)];obtain ⟨gs,eg⟩:=open_G hp.g;obtain ⟨cs,ec⟩:=open_K hp.c;have lg:gs.length≤400:=by simp [len,eg] at h1;omega
 have lc:cs.length≤400:=by simp [len,ec] at h2;omega
 rw [ZnQ (by omega) eg lg ec lc,Zaa];refine ⟨_,rfl,fun h=>⟨ha,by omega,gs,cs,eg,ec,lg,lc,by simpa using h⟩⟩
theorem mk_start {p:Zae} (hp:WfP p) (room:Int) (st:LL):ZiR (((st ++ [(aOf p room [ZfQ p]).lo]) ++ [Zgy st.length [-1]]) ++ [mk2 (st.length+1) []]) st.length (st.length+1) (st.length+2) p room [ZfQ p] [-1] S0 O0:=
 ⟨(Zrd hp room st).app [mk2 (st.length+1) []],by omega,by omega,⟨0,by simp,by simp,fun i _=>⟨Zqb i,ZrP i⟩⟩,by simp⟩
theorem alive16 (hN:1000≤N) : ∃st,Zee N []=some (true,st):=by
 unfold Zee;rw [show (Zae.mk 545259519 4 10 0 false [] [] (zC 4 0) (zC 4 0) (Zak.mk 0 (zC 32 0) (zC 32 0) 0 0 0))=pA from rfl,Zrc (by omega) (p:=pA) (gs:=[]) (cs:=[]) rfl rfl (by simp) (by simp) pA_wf 5 [],if_pos (by kernel_rfl),Zaa,show ZkD 5=5 from rfl];dsimp only;rw [if_neg (by simp)];unfold ZfB;rw [Zaa];dsimp only;have M:=mk_start pA_wf 5 [];have e2:(([] ++ [(aOf pA 5 [ZfQ pA]).lo]) ++ [Zgy ([]:LL).length [-1]]:LL).length=([]:LL).length+2:=by simp
 have e3 : [[zQ (some (([]:LL).length+1)),yB true 3 []]] = [mk2 (([]:LL).length+1) []]:=rfl;rw [e2,e3];generalize ((([] ++ [(aOf pA 5 [ZfQ pA]).lo]) ++ [Zgy ([]:LL).length [-1]]) ++ [mk2 (([]:LL).length+1) []]:LL)=st at M ⊢;generalize ([]:LL).length=z at M ⊢;have hv:vlZ [ZfQ pA] S0 O0 0=true:=by
  rw [Zqh,show ZeL [ZfQ pA] 0 = [0] from rfl];simp only [yO,sN];rw [Zqb,ZrP];rfl
 have ep:Zim [ZfQ pA] (vlZ [ZfQ pA] S0 O0)=0:=by rw [Zkg (by simp)];rfl
 rw [ZlF (by omega) M (by simp) hv,Zaa,ep];dsimp only;rw [if_pos (by rfl),Zlh (by omega) M.gst,Zaa,Zjf];dsimp only;rw [show atZ [ZfQ pA] (vlZ [ZfQ pA] S0 O0) 0=true from by unfold atZ;rw [show inB [ZfQ pA] 0=true by decide,xG];exact hv,if_pos rfl,ZjS (by omega) M.gst (by simp [O0]),Zaa];exact ⟨_,rfl⟩
end Go.Dn.F
namespace Go.Dn.F
open Go.Dn Go.Proofs
theorem Zqc {p:Zae} (hp:WfP p) (l:List ZbF) (hl : ∀x∈l,WfA16 x) (hb:l.length≤maxLen) : ∃st,Zbv (l.length+1000) p (ZiT l) []=some (true,st):=by
 unfold Zbv;obtain ⟨st0,ea⟩:=alive16 (N:=l.length+1000) (by omega);rw [ea,Zaa];dsimp only;rw [if_neg (by simp)];obtain ⟨b,eg,hgr⟩:=Zst (N:=l.length+1000) hp l (by omega) hb;rw [eg,Zaa];cases b with
 | true=>exact ⟨st0,by rw [if_pos rfl]⟩
 | false=>
  obtain ⟨hnow,h40,gs,cs,hg,hc,lg,lc,hgd⟩:=hgr rfl;rw [if_neg (by simp),Zkl];by_cases h12:(l.length:Int)>12
  ·exact ⟨st0,by rw [if_pos (by simpa using h12)]⟩
  rw [if_neg (by simpa using h12)];obtain ⟨ia,it,im,ib,ir,ih,st,es,B⟩:=start_eq (N:=l.length+1000) (by omega) hp hg hc lg lc hgd st0;rw [es,Zaa];dsimp only
  suffices h : ∃r,loopN (Zbv.p1 (l.length+1000) (some ih) (ZiT l)) (l.length+1000) (0,st)=some r∧∃st',r=(true,st') by
   obtain ⟨r,e,st',rfl⟩:=h;exact ⟨st',e⟩
  refine Zkk (Q:=fun r:Bool×LL=>∃st',r=(true,st')) (fun m (s:Int×LL)=>∃(j:Nat) (st:LL) (ns:List Nd) (lp:List Int) (S:List Int) (O:List Bool),j+m=l.length∧s=((j:Int),st)∧ZeB st ia it im ib ir ih p ns lp S O∧ns.length≤j+1) ?_ (l.length+1000) l.length (0,st) ⟨0,st,[ZfQ p],[-1],S0,O0,by omega,rfl,B,by simp⟩ (by omega);rintro G m _ ⟨j,st,ns,lp,S,O,hj,rfl,B,hn⟩ hG;unfold Zbv.p1;dsimp only;rw [Zkl];by_cases hlt:j<l.length
  ·have wx:=hl _ (yJ hlt);have nx:=hnow _ (yJ hlt);have rx:=wx.n;unfold Zom at rx;obtain ⟨st',ns',lp',S',O',ed,B',hn'⟩:=does_eq (N:=l.length+1000) (by omega) hp hg hc lg lc B (by omega) l[j] wx.h ⟨nx,by omega⟩;rw [if_pos (by simp<;>omega),Zag (by omega),zG,ZmY hlt,Zan,ZfJ,ed,Zaa];dsimp only;rw [if_neg (by simp),mSame_eq (by omega) B',Zaa];dsimp only;rw [if_neg (by simp),ZaL (by omega) (by omega)];exact hG (m-1) _ (by omega) ⟨j+1,_,ns',lp',S',O',by omega,rfl,B'.gst,by omega⟩
  rw [if_neg (by simp<;>omega)];exact ⟨_,rfl,st,rfl⟩
theorem MarkSteps_true {ls:List L} (xs:LL) (h0:ZhR tysP ls) (h1 : ∀x∈xs,ZhR tysAct x) (l1:xs.length≤maxLen) :
  ∃st,Snd Tryz.prog 6 [.agg ls,.one (.sl 72 xs)] [] [.one (.bool true)] st:=by
 obtain ⟨p,rfl,hp⟩:=open_P h0;obtain ⟨l,rfl,hl⟩:=open_A16 h1;obtain ⟨st,h⟩:=Zqc hp l hl (by rw [ZnJ] at l1;exact l1);exact ⟨st,Zbv.snd h⟩
end Go.Dn.F
