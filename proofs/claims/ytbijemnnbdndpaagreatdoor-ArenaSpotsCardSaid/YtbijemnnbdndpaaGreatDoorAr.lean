import Derived.Test.YtbijemnnbdndpaaGreatDoorNum
import Derived.Test.YtbijemnnbdndpaaGreatDoorRul
set_option linter.all false
open Bool renaming and_eq_true→zQ
open Go.Dn.L renaming arr→zH
open Int renaming toNat_natCast→zJ,natCast_add→uY
open List renaming replicate→zB,foldl_append→wW,length_map→xM,length_append→zR,length_singleton→xA,getElem?_eq_some_iff→xD,getElem?_set_self→zO,getElem?_set_ne→zV,getElem_mem→yM,getElem_map→sX,length_pos_iff→vP,mem_singleton→yT,mem_append→wB,getElem_append_left→uW,getElem_append_right→sQ,nil_append→wK,take_of_length_le→zY
open Nat renaming zero_add→yB
set_option maxRecDepth 40000
namespace Go.Dn.F
open Go.Dn Go.Proofs
variable {N:Nat}
structure Nd where
 ch:List Zaj
 ah:Int
 wk:Int
def h0:Zaj:=⟨0,zB 32 0,zB 32 0,0,0,0⟩
def Nd.hd (n:Nd):Zaj:=n.ch.getLast?.getD h0
def Nd.id (n:Nd):List Int:=hid n.hd
noncomputable def Nd.en (n:Nd):Zcy:=⟨n.hd,n.id,n.ah,(n.ch.length:Int)-1,nw n.wk⟩
noncomputable def ZgV (ns:List Nd):LL:=ns.map fun n=>n.en.ls
noncomputable def rowS (p:Zae) (ns:List Nd):LL:=ns.map fun n=>(Zcl p n.ch).ls
def Zhx:Nat→List (List Int)→LM
 | _,[]=>[]
 | i,x::l=>(zH .u8 32 x,L.int .i64 (i:Int))::Zhx (i+1) l
def ids (ns:List Nd):List (List Int):=ns.map Nd.id
def ZdL:Nat→List (List Int)→List Int→Option Nat
 | _,[],_=>none
 | i,y::l,x=>if x=y then some i else ZdL (i+1) l x
theorem ZhN : ∀(l:List (List Int)) (i:Nat) (x:List Int),Zgp (Zhx i l) (zH .u8 32 x)=some ((ZdL i l x).map fun k=>(k-i,L.int .i64 (k:Int)))
 | [],i,x=>rfl
 | y::l,i,x=>by
  rw [Zhx,Zgp]
  simp only [ZlG,and_self,if_true]
  unfold ZdL
  by_cases h:x=y
  ·subst h;simp
  ·rw [show (x==y)=false by simpa using h,if_neg h,ZhN l (i+1) x]
   cases e:ZdL (i+1) l x with
   | none=>rfl
   | some k=>
    have : ∀(l:List (List Int)) (i k:Nat),ZdL i l x=some k→i≤k:=by
     intro l
     induction l with
     | nil=>intro i k h;cases h
     | cons z l ih=>
      intro i k h
      unfold ZdL at h
      split at h
      ·cases h;omega
      ·have:=ih _ _ h;omega
    have:=this l (i+1) k e
    simp only [Option.map_some]
    rw [show k-(i+1)+1=k-i by omega]
theorem ZiN : ∀(l:List (List Int)) (i:Nat) (x:List Int),Zhx i (l ++ [x])=Zhx i l ++ [(zH .u8 32 x,L.int .i64 ((i+l.length:Nat):Int))]
 | [],i,x=>rfl
 | y::l,i,x=>by rw [List.cons_append,Zhx,ZiN l (i+1) x,Zhx,List.length_cons,show i+1+l.length=i+(l.length+1) by omega];rfl
theorem ZgY : ∀{l:List (List Int)} {i k:Nat} {x:List Int},ZdL i l x=some k→i≤k∧∃h:k-i<l.length,l[k-i]=x
 | y::l,i,k,x,h=>by
  unfold ZdL at h
  split at h
  ·rename_i e;cases h;exact ⟨by omega,by simp,by simp [e]⟩
  ·obtain ⟨h1,h2,h3⟩:=ZgY h
   refine ⟨by omega,by simp;omega,?_⟩
   have:k-i=(k-(i+1))+1:=by omega
   simp only [this,List.getElem_cons_succ];exact h3
theorem ZkQ : ∀{l:List (List Int)} {i:Nat} {x:List Int},ZdL i l x=none→x∉l
 | [],_,_,_=>by simp
 | y::l,i,x,h=>by
  unfold ZdL at h
  split at h
  ·cases h
  ·rename_i e;simp [e,ZkQ h]
noncomputable def aOf (p:Zae) (room:Int) (ns:List Nd):ZaF:=⟨p,ZgV ns,rowS p ns,Zhx 0 (ids ns),room⟩
theorem rowE_get {ns:List Nd} {i:Nat} (h:i<ns.length):(ZgV ns)[i]? = some ns[i].en.ls:=by simp [ZgV,h]
theorem Zok {p:Zae} {ns:List Nd} {i:Nat} (h:i<ns.length):(rowS p ns)[i]? = some (Zcl p ns[i].ch).ls:=by simp [rowS,h]
@[simp] theorem ZhO (ns:List Nd):len (ZgV ns)=(ns.length:Int):=by simp [len,ZgV]
@[simp] theorem Zos (p:Zae) (ns:List Nd):len (rowS p ns)=(ns.length:Int):=by simp [len,rowS]
structure ZoP (ns:List Nd):Prop where
 small:ns.length≤512
 ch : ∀n∈ns,n.ch ≠ []∧n.ch.length≤ns.length
 wf : ∀n∈ns,∀x∈n.ch,WfH x
 wk : ∀n∈ns,isN n.wk
 ah : ∀(i:Nat) (h:i<ns.length),(i=0∧ns[i].ah = -1∧ns[i].ch.length=1)∨∃(k:Nat) (hk:k<i),ns[i].ah=(k:Int)∧ns[i].ch=ns[k].ch ++ [ns[i].hd]
 one:(ids ns).Nodup
theorem Nd.hd_snoc {n:Nd} {c:List Zaj} {h:Zaj} (e:n.ch=c ++ [h]):n.hd=h:=by unfold Nd.hd;rw [e];simp
theorem ZkE (p:Zae) (c:List Zaj) (h:Zaj):(Zcl p (c ++ [h])).Prev=hid h:=by
 unfold Zcl;rw [wW];rfl
theorem Zqq {st:LL} {i:Nat} {p:Zae} {room:Int} {ns:List Nd} (hst:st[i]? = some (aOf p room ns).lo) (hl:ns.length≤512) (nd:Nd) (hid':ZdL 0 (ids ns) nd.id=none) :
  ZaN.p1 N (some i) (Zcl p nd.ch) nd.en st=some ((ns.length:Int),st.set i (aOf p room (ns ++ [nd])).lo):=by
 unfold ZaN.p1
 have e1:(aOf p room ns).list ++ [nd.en.ls]=ZgV (ns ++ [nd]):=by show ZgV ns++_=_;simp [ZgV]
 have e2:(aOf p room ns).spots ++ [(Zcl p nd.ch).ls]=rowS p (ns ++ [nd]):=by show rowS p ns++_=_;simp [rowS]
 have e3:(aOf p room ns).places ++ [(zH .u8 32 nd.en.Id,L.int .i64 (ns.length:Int))]=Zhx 0 (ids (ns ++ [nd])):=by
  show Zhx 0 (ids ns)++_=_
  unfold ids
  rw [List.map_append]
  show _=Zhx 0 (List.map Nd.id ns ++ [nd.id])
  rw [ZiN,xM,yB];rfl
 have l1:(ZgV (ns ++ [nd])).length=ns.length+1:=by simp [ZgV]
 have l2:(rowS p (ns ++ [nd])).length=ns.length+1:=by simp [rowS]
 rw [Zad,hst,ZaJ,Zcd,e1,e2,Zai (by rw [l1];omega),Zai (by rw [l2];omega),show Zgp (aOf p room ns).places (zH .u8 32 nd.en.Id)=some none by
  show Zgp (Zhx 0 (ids ns)) (zH .u8 32 nd.id)=_
  rw [ZhN,hid'];rfl]
 show some _=_
 rw [ZhO,zR,xA,ZaA (by omega) (by omega),show ((ns.length+1:Nat):Int)-1=(ns.length:Int) by omega,e3]
 simp only [List.set_set]
 rfl
theorem keep_eq (hN:300≤N) {st:LL} {i:Nat} {p:Zae} {room:Int} {ns:List Nd} (hst:st[i]? = some (aOf p room ns).lo) (hl:ns.length≤512) {k:Nat} (hk:k<ns.length) (hw:isN ns[k].wk) (hlen:ns[k].ch.length≤600)
  {h:Zaj} (nd:Nd) (hch:nd.ch=ns[k].ch ++ [h]) (hah:nd.ah=(k:Int)) (hwk:nd.wk=Zkn ns[k].wk (Zfx h.Bits)) (hid':ZdL 0 (ids ns) (hid h)=none) :
  ZaN N (some i) h (k:Int) (Zcl p nd.ch) st=some ((ns.length:Int),st.set i (aOf p room (ns ++ [nd])).lo):=by
 have hd:=nd.hd_snoc hch
 unfold ZaN
 rw [Zhh hN,Zad,if_pos (by simp<;>omega),Zad,hst,ZaJ,Zcd,show (aOf p room ns).list=ZgV ns from rfl,ZhO,Zai (by omega),Zai (by omega),zJ,yB,rowE_get hk,ZaJ,ZhY,show (ns[k].en).Work=nw ns[k].wk from rfl,Zno (by omega) hw (ZgR _),Zad,show (ns[k].en).Height=(ns[k].ch.length:Int)-1 from rfl,ZaA (by omega) (by omega)]
 have e:Zcy.mk h (Zcl p nd.ch).Prev (k:Int) ((ns[k].ch.length:Int)-1+1) (nw (Zkn ns[k].wk (Zfx h.Bits)))=nd.en:=by
  unfold Nd.en Nd.id
  rw [hd,hch,ZkE,hah,hwk,zR,xA]
  congr 1;omega
 rw [e]
 refine Zqq hst hl nd ?_
 unfold Nd.id;rw [hd];exact hid'
theorem keep0_eq (hN:300≤N) {st:LL} {i:Nat} {p:Zae} {room:Int} (hst:st[i]? = some (aOf p room []).lo) {h:Zaj} (nd:Nd) (hch:nd.ch = [h]) (hah:nd.ah = -1) (hwk:nd.wk=Zfx h.Bits) :
  ZaN N (some i) h (-1) (Zcl p nd.ch) st=some (0,st.set i (aOf p room [nd]).lo):=by
 have hd:nd.hd=h:=nd.hd_snoc (c:=[]) hch
 unfold ZaN
 rw [Zhh hN,Zad,if_neg (by simp)]
 have e:Zcy.mk h (Zcl p nd.ch).Prev (-1) 0 (nw (Zfx h.Bits))=nd.en:=by
  unfold Nd.en Nd.id
  rw [hd,hch,show (Zcl p [h]).Prev=hid h from ZkE p [] h,hah,hwk];rfl
 rw [e]
 exact Zqq (ns:=[]) hst (by simp) nd rfl
def chAt (ns:List Nd) (k:Nat):List Zaj:=(ns[k]?.map Nd.ch).getD []
def wkAt (ns:List Nd) (k:Nat):Int:=(ns[k]?.map Nd.wk).getD 0
theorem ZgN {ns:List Nd} {k:Nat} (h:k<ns.length):chAt ns k=ns[k].ch:=by simp [chAt,h]
theorem Znp {ns:List Nd} {k:Nat} (h:k<ns.length):wkAt ns k=ns[k].wk:=by simp [wkAt,h]
def Zeq (ns:List Nd) (k:Nat) (h:Zaj):Nd:=⟨chAt ns k ++ [h],(k:Int),Zkn (wkAt ns k) (Zfx h.Bits)⟩
def Zmg (p:Zae) (gs:List ZbR) (cs:List ZbH) (room:Int) (ns:List Nd) (h:Zaj) (now:Int):Int×Int×Int×List Nd:=
 if Zfq h=false then (-1,1,8,ns) else
 match ZdL 0 (ids ns) (hid h) with
 | some k=>((k:Int),0,0,ns)
 | none=>match ZdL 0 (ids ns) h.Prev with
  | none=>(-1,2,5,ns)
  | some k=>if Zes p gs cs (Zcl p (chAt ns k)) h now≠0 then (-1,Zes p gs cs (Zcl p (chAt ns k)) h now,8,ns)
   else if room≤(ns.length:Int) then (-1,0,6,ns) else ((ns.length:Int),0,0,ns ++ [Zeq ns k h])
theorem Zoi {st:LL} {i:Nat} {x:List L} (h:st[i]? = some x):st.set i x=st:=by
 apply List.ext_getElem?
 intro j
 by_cases e:i=j
 ·subst e
  obtain ⟨hi,e⟩:=xD.1 h
  rw [zO hi,h]
 ·rw [zV e]
theorem Zjv (p:Zae) (c:List Zaj):wfS (Zcl p c)=true:=by
 have h : ∀l:List Zaj,∃ts:List Int,(Zcl p l).Times=ZdD ts∧ts.length≤11:=by
  refine ZjF ⟨[],rfl,by simp⟩ (fun l h ih=>?_)
  unfold Zcl at *
  rw [wW]
  exact ⟨_,rfl,by simp;omega⟩
 obtain ⟨ts,h1,h2⟩:=h c
 simp only [wfS,h1,isI_row,Bool.true_and,decide_eq_true_eq,Zdc]
 omega
theorem Add_eq (hN:500≤N) {st:LL} {i:Nat} {p:Zae} {gs:List ZbR} {cs:List ZbH} (hg:p.Gates=Zkq gs) (hc:p.Checks=ZiH cs) (lg:gs.length≤400) (lc:cs.length≤400) {room:Int} (hroom:room≤512) {ns:List Nd} (ht:ZoP ns) (hst:st[i]? = some (aOf p room ns).lo)
  {h:Zaj} (hh:WfH h) (now:Int) (hnow : -1152921504606846976≤now∧now≤9223372036854775807) :
  ZaB N (some i) h now st=some ((Zmg p gs cs room ns h now).1,(Zmg p gs cs room ns h now).2.1,(Zmg p gs cs room ns h now).2.2.1,st.set i (aOf p room (Zmg p gs cs room ns h now).2.2.2).lo):=by
 have ss:=Zoi hst
 unfold ZaB Zmg
 rw [if_neg (c:=Option.isNone (some i)=true) (by simp),ZdQ,Zad]
 cases hgd:Zfq h with
 | false=>rw [if_pos (by rfl),if_pos (c:=false=false) rfl];dsimp only;rw [ss]
 | true=>
  rw [if_neg (c:=(!true)=true) (by simp),if_neg (c:=true=false) (by simp),Zad,hst,ZaJ,Zcd,Zfd hN hh.w,Zad,show (aOf p room ns).places=Zhx 0 (ids ns) from rfl,ZhN]
  cases e1:ZdL 0 (ids ns) (hid h) with
  | some k=>
   show ZaB.p1 N i now (k:Int) true h st=_
   unfold ZaB.p1
   rw [if_pos rfl];dsimp only;rw [ss]
  | none=>
   show ZaB.p1 N i now 0 false h st=_
   unfold ZaB.p1
   rw [if_neg (by simp),hst,ZaJ,Zcd,show (aOf p room ns).places=Zhx 0 (ids ns) from rfl,ZhN]
   cases e2:ZdL 0 (ids ns) h.Prev with
   | none=>
    show ZaB.p2 N i now 0 false h st=_
    unfold ZaB.p2
    rw [if_pos (by rfl)];dsimp only;rw [ss]
   | some k=>
    show ZaB.p2 N i now (k:Int) true h st=_
    obtain ⟨_,hk,_⟩:=ZgY e2
    have hk':k<ns.length:=by simpa [ids] using hk
    have sw:=Zjv p ns[k].ch
    have isT:isI (Zcl p ns[k].ch).Times=true:=by simp only [wfS,zQ] at sw;exact sw.1
    unfold ZaB.p2
    dsimp only
    rw [if_neg (c:=(!true)=true) (by simp),hst,ZaJ,Zcd,show (aOf p room ns).spots=rowS p ns from rfl,Zos,Zai (by omega),Zai (by omega),zJ,yB,Zok hk',ZaJ,Zgn,show (aOf p room ns).rules=p from rfl,Zlm hN hg hc lg lc hh.w isT now hnow,Zad,ZgN hk']
    by_cases h4:Zes p gs cs (Zcl p ns[k].ch) h now=0
    ·rw [if_neg (c:=(Zes p gs cs (Zcl p ns[k].ch) h now != 0)=true) (by simp [h4]),if_neg (c:=Zes p gs cs (Zcl p ns[k].ch) h now≠0) (by simp [h4]),show (aOf p room ns).list=ZgV ns from rfl,ZhO,show (aOf p room ns).room=room from rfl]
     by_cases h5:room≤(ns.length:Int)
     ·rw [if_pos (by simpa using h5),if_pos h5];dsimp only;rw [ss]
     ·rw [if_neg (by simpa using h5),if_neg h5,Zfp hN hh.w sw,Zad]
      have be:ZeD p (Zcl p ns[k].ch) h=Zcl p (Zeq ns k h).ch:=by
       unfold Zeq Zcl
       rw [ZgN hk',wW];rfl
      have hm:=yM hk'
      have sm:=ht.small
      have cl:=(ht.ch _ hm).2
      rw [be,keep_eq (by omega) hst ht.small hk' (ht.wk _ hm) (by omega) (Zeq ns k h) (by unfold Zeq;rw [ZgN hk']) rfl (by unfold Zeq;rw [Znp hk']) e1,Zad]
    ·rw [if_pos (c:=(Zes p gs cs (Zcl p ns[k].ch) h now != 0)=true) (by simpa using h4),if_pos (c:=Zes p gs cs (Zcl p ns[k].ch) h now≠0) h4];dsimp only;rw [ss]
noncomputable def Zgk (l:List (List Int)):LL:=l.map fun x=>[zH .u8 32 x]
noncomputable def Zrg (l:List Int):LL:=l.map fun x=>[zH .u64 4 (nw x)]
noncomputable def rOf (p:Zae) (room:Int) (ns:List Nd):Zaa:=⟨p,ZhA (ns.map Nd.hd),Zgk (ids ns),ZdD (ns.map Nd.ah),Zrg (ns.map Nd.wk),room⟩
theorem Zpa {l:List (List Int)} {i:Nat} (h:i<l.length):(Zgk l)[i]? = some [zH .u8 32 l[i]]:=by simp [Zgk,h]
theorem rowW_get {l:List Int} {i:Nat} (h:i<l.length):(Zrg l)[i]? = some [zH .u64 4 (nw l[i])]:=by simp [Zrg,h]
@[simp] theorem Zpm (l:List (List Int)):len (Zgk l)=(l.length:Int):=by simp [len,Zgk]
@[simp] theorem len_rowW (l:List Int):len (Zrg l)=(l.length:Int):=by simp [len,Zrg]
@[simp] theorem Zjh (l:List Zaj):len (ZhA l)=(l.length:Int):=by simp [len]
theorem ZkR (i:Nat) (y:List Int) (l:List (List Int)) (x:List Int):ZdL i (y::l) x=if x=y then some i else ZdL (i+1) l x:=rfl
def ZkS (o:Option Nat):Int:=match o with
 | some k=>(k:Int)
 | none=>-1
theorem ZhI {st:LL} {i:Nat} {p:Zae} {room:Int} {ns:List Nd} (hN:ns.length<N) (hl:ns.length≤512) (hst:st[i]? = some (rOf p room ns).lo) (x:List Int) :
  ZaO N (some i) x st=some (ZkS (ZdL 0 (ids ns) x),st):=by
 unfold ZaO
 rw [Zad,hst,ZaJ,Zcm]
 have li:(ids ns).length=ns.length:=by simp [ids]
 refine Zbz (fun m (v:Int)=>∃k:Nat,k+m=ns.length∧v=(k:Int)∧ZdL 0 (ids ns) x=ZdL k ((ids ns).drop k) x) ?_ N ns.length 0 ⟨0,by omega,rfl,by rw [List.drop_zero]⟩ hN
 rintro G m _ ⟨k,hk,rfl,hp⟩ hG
 unfold ZaO.p1
 rw [show (rOf p room ns).Ids=Zgk (ids ns) from rfl,Zpm,li]
 by_cases hlt:k<ns.length
 ·have hk':k<(ids ns).length:=by omega
  rw [List.drop_eq_getElem_cons hk'] at hp
  rw [ZkR] at hp
  rw [if_pos (by simp<;>omega),Zai (by omega),hst,ZaJ,Zcm,show (rOf p room ns).Ids=Zgk (ids ns) from rfl,zJ,yB,Zpa hk',ZaJ,ZiQ,ZaA (by omega) (by omega)]
  by_cases he:x=(ids ns)[k]
  ·rw [if_pos he] at hp
   rw [if_pos (by simp [he]),hp];rfl
  ·rw [if_neg he] at hp
   rw [if_neg (by simpa using fun e=>he e.symm)]
   exact hG (m-1) _ (by omega) ⟨k+1,by omega,by omega,hp⟩
 ·rw [if_neg (by simp<;>omega),hp,List.drop_of_length_le (by omega)];rfl
theorem Zhj {p:Zae} {room:Int} {ns:List Nd} (ht:ZoP ns) (hN:ns.length+2≤N) {k:Nat} (hk:k<ns.length):ZaH N (rOf p room ns) (k:Int)=some (ZhA (chAt ns k)):=by
 have sm:=ht.small
 unfold ZaH
 rw [ZgN hk]
 refine Zbz (fun m (x:LL×Int)=>∃out:List Zaj,x=(ZhA out,(m:Int)-1)∧m≤ns.length∧((m=0∧out=ns[k].ch)∨∃h:0<m∧m-1<ns.length,ns[m-1].ch++out=ns[k].ch)) ?_ N (k+1) _ ⟨[],by simp;rfl,by omega,.inr ⟨⟨by omega,by omega⟩,by simp⟩⟩ (by omega)
 rintro G m _ ⟨out,rfl,hm,ho⟩ hG
 unfold ZaH.p1
 dsimp only
 rcases ho with ⟨rfl,rfl⟩ | ⟨⟨h0,h1⟩,ho⟩
 ·rw [if_neg (by simp)]
 ·obtain ⟨j,rfl⟩ : ∃j,m=j+1:=⟨m-1,by omega⟩
  simp only [Nat.add_sub_cancel] at ho h1
  have hj:j<(ns.map Nd.hd).length:=by simp;omega
  have hj2:j<(ns.map Nd.ah).length:=by simp;omega
  have cl:=congrArg List.length ho
  rw [zR] at cl
  have cb:=(ht.ch _ (yM hk)).2
  rw [show (rOf p room ns).List_=ZhA (ns.map Nd.hd) from rfl,show (rOf p room ns).Ahead=ZdD (ns.map Nd.ah) from rfl,show ((j+1:Nat):Int)-1=(j:Int) by omega,if_pos (by simp),Zjh,Zen,Zai (by omega),Zai (by omega),zJ,ZgU hj,ZaJ,Zdj,Zai (by rw [zR,Zhp];simp;omega),Zai (by omega),Zjc hj2,ZaJ,ZcZ,sX,sX]
  have e : [ns[j].hd.ls]++ZhA out=ZhA (ns[j].hd::out):=rfl
  rw [e]
  have nl:=ht.ch _ (yM h1)
  rcases ht.ah j h1 with ⟨z,a,c⟩ | ⟨q,hq,a,c⟩
  ·have c1:ns[j].ch = [ns[j].hd]:=by
    unfold Nd.hd
    match hch:ns[j].ch,c with
    | [x],_=>rfl
   rw [a]
   rw [c1] at ho
   exact hG 0 _ (by omega) ⟨_,rfl,by omega,.inl ⟨rfl,ho⟩⟩
  ·rw [a]
   rw [c,List.append_assoc] at ho
   exact hG (q+1) _ (by omega) ⟨_,by rw [show ((q+1:Nat):Int)-1=(q:Int) by omega],by omega,.inr ⟨⟨by omega,by omega⟩,by simpa using ho⟩⟩
theorem ZqF (p:Zae) (gs:List ZbR) (cs:List ZbH) (s:Zaz) (h:Zaj) (now:Int):0≤Zes p gs cs s h now:=by
 unfold Zes;repeat' split
 all_goals omega
theorem ZmB (hN:900≤N) {st:LL} {i:Nat} {p:Zae} {gs:List ZbR} {cs:List ZbH} (hg:p.Gates=Zkq gs) (hc:p.Checks=ZiH cs) (lg:gs.length≤400) (lc:cs.length≤400) {room:Int} (hroom:room≤512) {ns:List Nd} (ht:ZoP ns) (hlen:ns.length≤200) (hst:st[i]? = some (rOf p room ns).lo)
  {h:Zaj} (hh:WfH h) (now:Int) (hnow:0≤now∧now≤9223372036854775807) :
  Zcn N (some i) h now st=some ((Zmg p gs cs room ns h now).1,(Zmg p gs cs room ns h now).2.1,(Zmg p gs cs room ns h now).2.2.1,st.set i (rOf p room (Zmg p gs cs room ns h now).2.2.2).lo):=by
 have ss:=Zoi hst
 unfold Zcn Zmg
 rw [ZgX,Zad]
 cases hgd:Zfq h with
 | false=>rw [if_pos (by rfl),if_pos (c:=false=false) rfl];dsimp only;rw [ss]
 | true=>
  rw [if_neg (c:=(!true)=true) (by simp),if_neg (c:=true=false) (by simp),ZgW (by omega) h hh.w,Zad,ZhI (by omega) ht.small hst,Zad]
  dsimp only
  cases e1:ZdL 0 (ids ns) (hid h) with
  | some k=>
   rw [show ZkS (some k)=(k:Int) from rfl,if_pos (by simp)]
   dsimp only;rw [ss]
  | none=>
   rw [show ZkS none = -1 from rfl,if_neg (by simp),ZhI (by omega) ht.small hst,Zad]
   dsimp only
   cases e2:ZdL 0 (ids ns) h.Prev with
   | none=>
    rw [show ZkS none = -1 from rfl,if_pos (by simp)]
    dsimp only;rw [ss]
   | some k=>
    obtain ⟨_,hk,_⟩:=ZgY e2
    have hk':k<ns.length:=by simpa [ids] using hk
    have hm:=yM hk'
    have cl:=ht.ch _ hm
    have c0:0<ns[k].ch.length:=vP.2 cl.1
    dsimp only
    rw [show ZkS (some k)=(k:Int) from rfl,if_neg (by simp<;>omega),Zad,hst,ZaJ,Zcm,Zhj ht (by omega) hk',Zad,ZgN hk',Zai (by simp [ZdB,ZhA,Zaj.ls,L.plain]),show (rOf p room ns).Rules=p from rfl,Zks hN hg lg hc lc ns[k].ch c0 (by omega) (fun x hx=>(ht.wf _ hm x hx).w) hh.w now hnow,Zad]
    have nn:=ZqF p gs cs (Zcl p ns[k].ch) h now
    by_cases h4:Zes p gs cs (Zcl p ns[k].ch) h now=0
    ·rw [if_neg (c:=decide (Zes p gs cs (Zcl p ns[k].ch) h now>0)=true) (by simp<;>omega),if_neg (c:=Zes p gs cs (Zcl p ns[k].ch) h now≠0) (by simp [h4]),show (rOf p room ns).List_=ZhA (ns.map Nd.hd) from rfl,Zjh,xM,show (rOf p room ns).Room=room from rfl]
     by_cases h5:room≤(ns.length:Int)
     ·rw [if_pos (by simpa using h5),if_pos h5];dsimp only;rw [ss]
     ·have hd:=(Zeq ns k h).hd_snoc rfl
      have i1:ZhA (ns.map Nd.hd) ++ [h.ls]=ZhA ((ns ++ [Zeq ns k h]).map Nd.hd):=by simp [ZhA,hd]
      have i2:Zgk (ids ns) ++ [[zH .u8 32 (hid h)]]=Zgk (ids (ns ++ [Zeq ns k h])):=by simp [Zgk,ids,Nd.id,hd]
      have i3:Zrg (ns.map Nd.wk) ++ [[zH .u64 4 (nw (Zkn ns[k].wk (Zfx h.Bits)))]]=Zrg ((ns ++ [Zeq ns k h]).map Nd.wk):=by simp [Zrg,Zeq,Znp hk']
      have i4:ZdD (ns.map Nd.ah) ++ [[L.int .i64 (k:Int)]]=ZdD ((ns ++ [Zeq ns k h]).map Nd.ah):=by simp [ZdD,Zeq]
      have kw:k<(ns.map Nd.wk).length:=by simp;omega
      have sm:=ht.small
      rw [if_neg (by simpa using h5),if_neg h5,show (rOf p room ns).Ids=Zgk (ids ns) from rfl,show (rOf p room ns).Works=Zrg (ns.map Nd.wk) from rfl,show (rOf p room ns).Ahead=ZdD (ns.map Nd.ah) from rfl,i1,i2,i4,Zai (by rw [Zhp,xM,zR,xA];omega),Zai (by simp [Zgk,ids];omega),Zai (by omega),len_rowW,Zai (by rw [xM];omega),zJ,yB,rowW_get kw,ZaJ,sX,Znf,Zgz (by omega),Zad,ZmC (by omega) (ht.wk _ hm) (ZgR _),Zad,i3,Zai (by simp [Zrg];omega),Zai (by rw [Zdc,xM,zR,xA];omega),Zjh,xM,zR,xA,ZaA (by omega) (by omega)]
      simp only [List.set_set]
      rw [show ((ns.length+1:Nat):Int)-1=(ns.length:Int) by omega]
      rfl
    ·rw [if_pos (c:=decide (Zes p gs cs (Zcl p ns[k].ch) h now>0)=true) (by simp<;>omega),if_pos (c:=Zes p gs cs (Zcl p ns[k].ch) h now≠0) h4];dsimp only;rw [ss]
theorem ZoP.one_node {g:Zaj} (hg:WfH g):ZoP [⟨[g],-1,Zfx g.Bits⟩] where
 small:=by simp
 ch:=fun n hn=>by cases yT.1 hn;simp
 wf:=fun n hn x hx=>by cases yT.1 hn;cases yT.1 hx;exact hg
 wk:=fun n hn=>by cases yT.1 hn;exact ZgR _
 ah:=fun i h=>.inl ⟨by simpa using h,by simp at h;subst h;rfl,by simp at h;subst h;rfl⟩
 one:=by simp [ids]
theorem ZoP.grow {ns:List Nd} (ht:ZoP ns) {k:Nat} (hk:k<ns.length) {h:Zaj} (hh:WfH h) (hs:ns.length<512) (hid':ZdL 0 (ids ns) (hid h)=none):ZoP (ns ++ [Zeq ns k h]):=by
 have hm:=yM hk
 have cl:=ht.ch _ hm
 have hc:(Zeq ns k h).ch=ns[k].ch ++ [h]:=by unfold Zeq;rw [ZgN hk]
 have hd:=(Zeq ns k h).hd_snoc rfl
 refine ⟨by simp;omega,?_,?_,?_,?_,?_⟩
 ·intro n hn
  rcases wB.1 hn with hn | hn
  ·have:=ht.ch n hn;exact ⟨this.1,by simp;omega⟩
  ·cases yT.1 hn
   rw [hc];exact ⟨by simp,by simp;omega⟩
 ·intro n hn x hx
  rcases wB.1 hn with hn | hn
  ·exact ht.wf n hn x hx
  ·cases yT.1 hn
   rw [hc] at hx
   rcases wB.1 hx with hx | hx
   ·exact ht.wf _ hm x hx
   ·cases yT.1 hx;exact hh
 ·intro n hn
  rcases wB.1 hn with hn | hn
  ·exact ht.wk n hn
  ·cases yT.1 hn
   unfold Zeq;rw [Znp hk]
   exact ZpC (ht.wk _ hm) (ZgR _)
 ·intro i hi
  by_cases hlt:i<ns.length
  ·rw [uW hlt]
   rcases ht.ah i hlt with a | ⟨q,hq,a,b⟩
   ·exact .inl a
   ·exact .inr ⟨q,hq,a,by rw [uW (by omega)];exact b⟩
  ·have:i=ns.length:=by simp at hi;omega
   subst this
   refine .inr ⟨k,hk,?_,?_⟩
   ·rw [sQ (by omega)];simp [Zeq]
   ·rw [sQ (by omega),uW hk]
    simp only [Nat.sub_self,List.getElem_singleton]
    rw [hc,hd]
 ·have np:=ZkQ hid'
  unfold ids at *
  rw [List.map_append,List.nodup_append]
  refine ⟨ht.one,by simp,?_⟩
  intro a ha b hb
  simp only [List.map_cons,List.map_nil,yT] at hb
  subst hb
  intro e
  unfold Nd.id at e
  rw [hd] at e
  exact np (by rw [←e];exact ha)
theorem Ziw (p:Zae) (gs:List ZbR) (cs:List ZbH) (room:Int) (ns:List Nd) (h:Zaj) (now:Int) :
  (Zmg p gs cs room ns h now).2.2.2=ns∨∃k:Nat,k<ns.length∧Zfq h=true∧ZdL 0 (ids ns) (hid h)=none∧Zes p gs cs (Zcl p (chAt ns k)) h now=0∧(ns.length:Int)<room ∧
   Zmg p gs cs room ns h now=((ns.length:Int),0,0,ns ++ [Zeq ns k h]):=by
 unfold Zmg
 by_cases hg:Zfq h=false
 ·rw [if_pos hg];exact .inl rfl
 rw [if_neg hg]
 cases e1:ZdL 0 (ids ns) (hid h) with
 | some k=>exact .inl rfl
 | none=>
  dsimp only
  cases e2:ZdL 0 (ids ns) h.Prev with
  | none=>exact .inl rfl
  | some k=>
   dsimp only
   obtain ⟨_,hk,_⟩:=ZgY e2
   have hk':k<ns.length:=by simpa [ids] using hk
   by_cases h1:Zes p gs cs (Zcl p (chAt ns k)) h now=0
   ·rw [if_neg (by simp [h1])]
    by_cases h2:room≤(ns.length:Int)
    ·rw [if_pos h2];exact .inl rfl
    ·rw [if_neg h2]
     exact .inr ⟨k,hk',by simpa using hg,rfl,h1,by omega,rfl⟩
   ·rw [if_pos h1];exact .inl rfl
theorem ZqW {p:Zae} {gs:List ZbR} {cs:List ZbH} {room:Int} (hr:room≤512) {ns:List Nd} (ht:ZoP ns) {h:Zaj} (hh:WfH h) (now:Int):ZoP (Zmg p gs cs room ns h now).2.2.2:=by
 rcases Ziw p gs cs room ns h now with e | ⟨k,hk,_,hi,_,hl,e⟩
 ·rw [e];exact ht
 ·rw [e];exact ht.grow hk hh (by omega) hi
theorem addT_len (p:Zae) (gs:List ZbR) (cs:List ZbH) (room:Int) (ns:List Nd) (h:Zaj) (now:Int):ns.length≤(Zmg p gs cs room ns h now).2.2.2.length∧(Zmg p gs cs room ns h now).2.2.2.length≤ns.length+1:=by
 rcases Ziw p gs cs room ns h now with e | ⟨k,hk,_,hi,_,hl,e⟩
 ·rw [e];omega
 ·rw [e];simp
def ZkK (room:Int):Int:=if (512:Int)<(if (1:Int)>room then 1 else room) then 512 else (if (1:Int)>room then 1 else room)
def ZeT (p:Zae):Nd:=⟨[p.Genesis],-1,Zfx p.Genesis.Bits⟩
theorem set_last (st:LL) (a b:List L):(st ++ [a]).set st.length b=st ++ [b]:=by simp
theorem New_eq (hN:500≤N) {p:Zae} {gs:List ZbR} {cs:List ZbH} (hg:p.Gates=Zkq gs) (hc:p.Checks=ZiH cs) (lg:gs.length≤400) (lc:cs.length≤400) (hp:WfP p) (room:Int) (st:LL) :
  ZdA N p room st=if ZnA p gs cs=true then some (some st.length,0,st ++ [(aOf p (ZkK room) [ZeT p]).lo]) else some (none,1,st):=by
 unfold ZdA
 rw [Zms hN hg lg hc lc,Zad]
 cases hgd:ZnA p gs cs with
 | false=>rfl
 | true=>
  have pp:({p with Gates:=[]++p.Gates,Checks:=[]++p.Checks}:Zae)=p:=rfl
  rw [if_neg (c:=(!true)=true) (by simp),pp,Zai (by rw [hg,wK,ZeJ];omega),Zai (by rw [hc,wK,Zhq];omega),Zhi hN hp.h.w,Zad]
  have hst:(st ++ [(aOf p (ZkK room) []).lo])[st.length]? = some (aOf p (ZkK room) []).lo:=by simp
  have k:=keep0_eq (N:=N) (by omega) hst (h:=p.Genesis) (ZeT p) rfl rfl rfl
  rw [set_last] at k
  rw [if_pos (c:=true=true) rfl]
  show Zbt (ZaN N (some st.length) p.Genesis (-1) (Zcl p (ZeT p).ch) (st ++ [(aOf p (ZkK room) []).lo])) _=_
  rw [k,Zad]
theorem ZmA (hN:900≤N) {p:Zae} (hp:WfP p) (room:Int) (st:LL):ZdJ N p room st=some (some st.length,st ++ [(rOf p (ZkK room) [ZeT p]).lo]):=by
 unfold ZdJ
 rw [ZgW (by omega) _ hp.h.w,Zad,Zgz (by omega),Zad]
 rfl
theorem Len_v_eq (p:Zae) (room:Int) (ns:List Nd):Zcg N (aOf p room ns)=some (ns.length:Int):=by
 unfold Zcg;rw [show (aOf p room ns).list=ZgV ns from rfl,ZhO]
theorem Zra (p:Zae) (room:Int) (ns:List Nd):Zch N (aOf p room ns)=some room:=rfl
theorem Zrd (p:Zae) (room:Int) (ns:List Nd) (x:List Int):Zcc N (aOf p room ns) x=some (ZkS (ZdL 0 (ids ns) x)):=by
 unfold Zcc
 rw [show (aOf p room ns).places=Zhx 0 (ids ns) from rfl,ZhN]
 cases ZdL 0 (ids ns) x<;>rfl
end Go.Dn.F
set_option maxRecDepth 100000
namespace Go.Dn.F
open Go.Dn Go.Proofs
variable {N:Nat}
abbrev tysCm:List Ty:=[.int .i64,.arr .u8 32,.arr .u8 32,.int .i64,.int .i64,.int .i64,.int .i64]
structure WfCm (c:Zbh):Prop where
 h:WfH c.Header
 n:ZlJ c.Now
noncomputable def Zkr (l:List Zbh):LL:=l.map Zbh.ls
theorem Zmw {l:List Zbh} {i:Nat} (h:i<l.length):(Zkr l)[i]? = some l[i].ls:=by simp [Zkr,h]
@[simp] theorem ZmP (l:List Zbh):len (Zkr l)=(l.length:Int):=by simp [len,Zkr]
@[simp] theorem Zmv (l:List Zbh):(Zkr l).length=l.length:=by simp [Zkr]
theorem open_Cm {xs:LL} (h : ∀x∈xs,Zgg tysCm x) : ∃l,xs=Zkr l∧∀x∈l,WfCm x:=
 ZoF fun x hx=>by
  obtain ⟨_,_,rfl,h1,h⟩:=(h x hx).cons_inv
  obtain ⟨_,_,rfl,h2,h⟩:=h.cons_inv
  obtain ⟨_,_,rfl,h3,h⟩:=h.cons_inv
  obtain ⟨_,_,rfl,h4,h⟩:=h.cons_inv
  obtain ⟨_,_,rfl,h5,h⟩:=h.cons_inv
  obtain ⟨_,_,rfl,h6,h⟩:=h.cons_inv
  obtain ⟨_,_,rfl,h7,h⟩:=h.cons_inv
  cases h.nil_inv
  obtain ⟨a1,rfl,w1⟩:=h1.int_inv
  obtain ⟨a2,rfl,k2,w2⟩:=h2.arr_inv
  obtain ⟨a3,rfl,k3,w3⟩:=h3.arr_inv
  obtain ⟨a4,rfl,w4⟩:=h4.int_inv
  obtain ⟨a5,rfl,w5⟩:=h5.int_inv
  obtain ⟨a6,rfl,w6⟩:=h6.int_inv
  obtain ⟨a7,rfl,w7⟩:=h7.int_inv
  refine ⟨⟨⟨a1,a2,a3,a4,a5,a6⟩,a7⟩,rfl,⟨⟨ZeL w1,?_,ZeL w4,ZeL w5,ZeL w6⟩,ZeL w7⟩⟩
  simp only [wfH,zQ]
  exact ⟨Zob k2 w2,Zob k3 w3⟩
theorem Zpr (p:Zae) (l:List Zbh) (hl:l.length<N) (hb:l.length≤maxLen) : ∃b,ZbD N p (Zkr l)=some b∧(b=false→(∀x∈l,0≤x.Now)∧p.Gates.length≤20∧p.Checks.length≤20∧l.length≤40):=by
 unfold ZbD
 have hm:maxLen=9223372036854775807:=rfl
 refine Zir (fun m (v:Int)=>∃k:Nat,k+m=l.length∧v=(k:Int)∧∀x∈l.take k,0≤x.Now) ?_ N l.length 0 ⟨0,by omega,rfl,by simp⟩ hl
 rintro G m _ ⟨k,hk,rfl,ha⟩ hG
 unfold ZbD.p1
 rw [ZmP]
 by_cases hlt:k<l.length
 ·rw [if_pos (by simp<;>omega),Zai (by omega),zJ,Zmw hlt,ZaJ,Zej,ZaA (by omega) (by omega)]
  by_cases h:l[k].Now<0
  ·rw [if_pos (by simpa using h)];exact ⟨true,rfl,fun h=>by cases h⟩
  ·rw [if_neg (by simpa using h)]
   refine hG (m-1) _ (by omega) ⟨k+1,by omega,by omega,fun x hx=>?_⟩
   rw [List.take_succ_eq_append_getElem hlt] at hx
   rcases wB.1 hx with hx | hx
   ·exact ha x hx
   ·cases yT.1 hx;omega
 ·rw [if_neg (by simp<;>omega)]
  rw [zY (by omega)] at ha
  by_cases h1:len p.Gates>20
  ·rw [if_pos (by simpa using h1)];exact ⟨true,rfl,fun h=>by cases h⟩
  rw [if_neg (by simpa using h1)]
  by_cases h2:len p.Checks>20
  ·rw [if_pos (by simpa using h2)];exact ⟨true,rfl,fun h=>by cases h⟩
  rw [if_neg (by simpa using h2)]
  refine ⟨_,rfl,fun h=>⟨ha,?_,?_,?_⟩⟩<;>simp [len] at h1 h2 h<;>omega
def pA:Zae:=⟨545259519,4,10,0,false,[],[],zB 4 0,zB 4 0,h0⟩
theorem h0_wf:WfH h0:=⟨by unfold ZlJ h0;simp,by unfold wfH h0;decide,by unfold ZlJ h0;simp,by unfold ZlJ h0;simp,by unfold ZlJ h0;simp⟩
theorem pA_wf:WfP pA where
 l:=by unfold ZlJ pA;simp
 i:=by unfold ZlJ pA;simp
 s:=by unfold ZlJ pA;simp
 f:=by unfold ZlJ pA;simp
 g:=by unfold pA;simp
 gl:=by unfold pA;simp
 c:=by unfold pA;simp
 cl:=by unfold pA;simp
 m:=by unfold pA;exact ⟨rfl,fun x hx=>by obtain ⟨_,rfl⟩:=List.mem_replicate.1 hx;decide⟩
 r:=by unfold pA;exact ⟨rfl,fun x hx=>by obtain ⟨_,rfl⟩:=List.mem_replicate.1 hx;decide⟩
 h:=h0_wf
theorem pA_new (hN:1000≤N):ZdA N pA 5 []=some (some 0,0,[(aOf pA 5 [ZeT pA]).lo]):=by
 rw [New_eq (gs:=[]) (cs:=[]) (by omega) rfl rfl (by simp) (by simp) pA_wf 5 [],if_pos (by kernel_rfl)]
 rfl
theorem alive12 (hN:1000≤N):ZcY N []=some (true,[(aOf pA 5 [ZeT pA]).lo]):=by
 unfold ZcY
 rw [show (Zae.mk 545259519 4 10 0 false [] [] (zB 4 0) (zB 4 0) (Zaj.mk 0 (zB 32 0) (zB 32 0) 0 0 0))=pA from rfl,pA_new hN,Zad]
 dsimp only
 rw [if_pos (by rfl),Zad,show ([(aOf pA 5 [ZeT pA]).lo]:LL)[0]? = some (aOf pA 5 [ZeT pA]).lo from rfl,ZaJ,Zcd,Len_v_eq,Zad,if_pos (by rfl),Zra,Zad,if_pos (by rfl),show (Zaj.mk 0 (zB 32 0) (zB 32 0) 0 0 0)=h0 from rfl,ZgW (by omega) _ h0_wf.w,Zad,Zrd,Zad]
 have:ZdL 0 (ids [ZeT pA]) (hid h0)=some 0:=by
  show ZdL 0 [hid h0] (hid h0)=some 0
  rw [ZkR,if_pos rfl]
 rw [this]
 rfl
def GenT (p:Zae) (ns:List Nd):Prop:=∀n∈ns,n.ch.head? = some p.Genesis
theorem GenT.root (p:Zae):GenT p [ZeT p]:=fun n hn=>by cases yT.1 hn;rfl
theorem addT_gen {p:Zae} {gs:List ZbR} {cs:List ZbH} {room:Int} {ns:List Nd} (hg:GenT p ns) (h:Zaj) (now:Int):GenT p (Zmg p gs cs room ns h now).2.2.2:=by
 rcases Ziw p gs cs room ns h now with e | ⟨k,hk,hh,hi,h0,hl,e⟩
 ·rw [e];exact hg
 ·rw [e]
  intro n hn
  rcases wB.1 hn with hn | hn
  ·exact hg n hn
  ·cases yT.1 hn
   have g:=hg _ (yM hk)
   show (chAt ns k ++ [h]).head? = _
   rw [ZgN hk,List.head?_append,g];rfl
theorem Zpb (l:List Zaj):ZdB (ZhA l)=true:=by simp [ZdB,ZhA,Zaj.ls,L.plain]
theorem ZoX (p:Zae) : ∀l:List Zaj,∃ts:List Int,(Zcl p l).Times=ZdD ts∧ts.length≤11:=by
 refine ZjF ⟨[],rfl,by simp⟩ (fun l h ih=>?_)
 unfold Zcl at *
 rw [wW]
 exact ⟨_,rfl,by simp;omega⟩
theorem Spot_eq {p:Zae} {room:Int} {ns:List Nd} {k:Nat} (hj:k<ns.length) {st:LL} {i:Nat} (hi:st[i]? = some (aOf p room ns).lo):Zbo N (some i) (k:Int) st=some (Zcl p ns[k].ch,true,st):=by
 have sw:=Zjv p ns[k].ch
 simp only [wfS,zQ,decide_eq_true_eq] at sw
 unfold Zbo Zcp
 rw [if_pos (by rfl),if_pos (by simp),Zad,hi,ZaJ,Zcd,show (aOf p room ns).list=ZgV ns from rfl,ZhO,decide_eq_true (by omega),Zad]
 dsimp only
 rw [if_neg (by simp),Zad,hi,ZaJ,Zcd,show (aOf p room ns).spots=rowS p ns from rfl,Zos,Zai (by omega),Zai (by omega),yB,zJ,Zok hj,ZaJ,Zgn,Zai (by rw [wK];omega)]
 rfl
theorem ZqZ {st:LL} {i:Nat} : ∃s,Zbo N (some i) (-1) st=some (s,false,st):=by
 unfold Zbo Zcp
 rw [if_pos (by rfl),if_neg (by simp),Zad]
 dsimp only
 rw [if_pos (by rfl)]
 exact ⟨_,rfl⟩
theorem ZoQ {p:Zae} {gs:List ZbR} {cs:List ZbH} (hg:p.Gates=Zkq gs) (hc:p.Checks=ZiH cs) (lg:gs.length≤400) (lc:cs.length≤400) {room:Int} {ns:List Nd} {st:LL} {i:Nat} (hi:st[i]? = some (aOf p room ns).lo) :
  Zbw N (some i) st=some (p,st):=by
 unfold Zbw
 rw [if_neg (by simp),Zad,hi,ZaJ,Zcd,show (aOf p room ns).rules=p from rfl,Zai (by rw [hg,wK,ZeJ];omega),Zai (by rw [hc,wK,Zhq];omega)]
 rfl
theorem Zma {c4 c2:(Option Nat)×Int×LL→Option (Bool×LL)} {i j:Nat} {v u:Int} {x:Zaa} {S:Zaz} {p:Zae} {st:LL} {ts:List Int} (hS:S.Times=ZdD ts) (hl:ts.length≤11) (hN:100≤N) :
  loopN (Zab.p5 N c4 c2 i j v x u S S p st) N (0,S)=c4 (some i,w64 (u+1),st):=by
 refine Zbz (fun m (s:Int×Zaz)=>∃(k:Nat) (T:Zaz),k+m=ts.length∧s=((k:Int),T)∧T.Times.length=ts.length∧∀q,k≤q→T.Times[q]? = (ZdD ts)[q]?) ?_ N ts.length _ ⟨0,S,by omega,rfl,by rw [hS,Zdc],fun q _=>by rw [hS]⟩ (by omega)
 rintro G m _ ⟨k,T,hk,rfl,hT,hq⟩ hG
 unfold Zab.p5
 dsimp only
 rw [hS]
 by_cases hlt:k<ts.length
 ·rw [if_pos (by simp [len];omega),Zai (by omega),Zai (by simp only [len,hT];omega),yB,zJ,hq k (Nat.le_refl _),Zjc hlt,ZaJ,ZcZ,Zai (by simp [len];omega),ZaJ,ZcZ,if_neg (by simp),ZaA (by omega) (by omega)]
  exact hG (m-1) _ (by omega) ⟨k+1,_,by omega,rfl,by simp [hT],fun q h=>by rw [zV (by omega)];exact hq q (by omega)⟩
 ·rw [if_neg (by simp [len];omega)]
theorem Zmb {c2:(Option Nat)×Int×LL→Option (Bool×LL)} {i j:Nat} {x:Zaa} {p:Zae} {room:Int} {ns:List Nd} {k:Nat} (hj:k<ns.length) {st:LL} (hi:st[i]? = some (aOf p room ns).lo) (hN:100≤N) :
  loopN (Zab.p4 N c2 j (k:Int) x p (Zcl p ns[k].ch)) N (some i,0,st)=c2 (some i,w64 ((k:Int)+1),st):=by
 obtain ⟨ts,h1,h2⟩:=ZoX p ns[k].ch
 refine Zbz (fun m (s:(Option Nat)×Int×LL)=>∃q:Nat,q+m=2∧s=(some i,(q:Int),st)) ?_ N 2 _ ⟨0,by omega,rfl⟩ (by omega)
 rintro G m _ ⟨q,hq,rfl⟩ hG
 unfold Zab.p4
 dsimp only
 by_cases hlt:q<2
 ·rw [if_pos (by simp;omega),Zad,Spot_eq hj hi,Zad]
  dsimp only
  rw [Zai rfl,if_neg (by simp),if_neg (by simp),if_neg (by simp),Zma h1 h2 hN,ZaA (by omega) (by omega)]
  exact hG (m-1) _ (by omega) ⟨q+1,by omega,by rw [uY];rfl⟩
 ·rw [if_neg (by simp;omega)]
theorem Zmc {c2:(Option Nat)×Int×LL→Option (Bool×LL)} {i j:Nat} {x:Zaa} {p:Zae} {room:Int} {ns:List Nd} (ht:ZoP ns) (hg:GenT p ns) {k:Nat} (hj:k<ns.length) {st:LL} (hi:st[i]? = some (aOf p room ns).lo) (hN:1000≤N) :
  loopN (Zab.p3 N c2 (some i) j (k:Int) x (ZhA ns[k].ch) p st) N (0,ZoJ p)=c2 (some i,w64 ((k:Int)+1),st):=by
 have hc:=ht.ch _ (yM hj)
 have lpos:0<ns[k].ch.length:=vP.2 hc.1
 have sm:=ht.small
 have hb:ZoJ p=Zcl p (ns[k].ch.take 1):=by
  have g:=hg _ (yM hj)
  obtain ⟨c,t,e⟩ : ∃c t,ns[k].ch=c::t:=by
   cases h:ns[k].ch with
   | nil=>exact absurd h hc.1
   | cons c t=>exact ⟨c,t,rfl⟩
  rw [e] at g ⊢
  cases g
  rfl
 refine Zbz (fun m (s:Int×Zaz)=>∃q:Nat,q+m=ns[k].ch.length-1∧s=((q:Int),Zcl p (ns[k].ch.take (q+1)))) ?_ N (ns[k].ch.length-1) _ ⟨0,by omega,by rw [hb];rfl⟩ (by omega)
 rintro G m _ ⟨q,hq,rfl⟩ hG
 unfold Zab.p3
 dsimp only
 by_cases hlt:q<ns[k].ch.length-1
 ·have hq1:q+1<ns[k].ch.length:=by omega
  rw [if_pos (by simp;omega),Zai (by omega),zJ,Nat.add_comm 1 q,ZgU hq1,ZaJ,Zdj,Zfp (by omega) (ht.wf _ (yM hj) _ (yM hq1)).w (Zjv _ _),Zad,←Zik p ns[k].ch hq1,ZaA (by omega) (by omega)]
  exact hG (m-1) _ (by omega) ⟨q+1,by omega,by rw [uY];rfl⟩
 ·rw [if_neg (by simp;omega),zY (by omega)]
  exact Zmb hj hi (by omega)
theorem ZlY {p:Zae} {gs:List ZbR} (hg:p.Gates=Zkq gs) (lg:gs.length≤400) {i:Nat} {st:LL} (hN:1000≤N) :
  loopN (Zab.p7 N i p p st) N 0=some (true,st):=by
 refine Zbz (fun m (s:Int)=>∃q:Nat,q+m=gs.length∧s=(q:Int)) ?_ N gs.length _ ⟨0,by omega,rfl⟩ (by omega)
 rintro G m _ ⟨q,hq,rfl⟩ hG
 unfold Zab.p7
 dsimp only
 rw [hg]
 by_cases hlt:q<gs.length
 ·rw [if_pos (by simp [len];omega),Zai (by omega),yB,zJ,ZfX hlt,ZaJ,ZcV,Zai (by simp [len];omega),ZaJ,ZcV,if_neg (by simp),ZaA (by omega) (by omega)]
  exact hG (m-1) _ (by omega) ⟨q+1,by omega,by rw [uY];rfl⟩
 ·obtain ⟨s,hs⟩:=ZqZ (N:=N) (st:=st) (i:=i)
  rw [if_neg (by simp [len];omega),hs,Zad]
  dsimp only
  rw [if_pos (by rfl),if_pos (by simp),if_pos (by simp),if_pos (by simp)]
  simp
theorem ZlZ {p:Zae} {gs:List ZbR} {cs:List ZbH} (hg:p.Gates=Zkq gs) (hc:p.Checks=ZiH cs) (lg:gs.length≤400) (lc:cs.length≤400) {room:Int} {ns:List Nd} {st:LL} {i:Nat} (hi:st[i]? = some (aOf p room ns).lo) (hN:1000≤N) :
  loopN (Zab.p6 N i p p st) N (0,p)=some (true,st):=by
 refine Zbz (fun m (s:Int×Zae)=>∃(q:Nat) (t:Zae),q+m=gs.length∧s=((q:Int),t)∧t.Gates.length=gs.length∧∀r,q≤r→t.Gates[r]? = (Zkq gs)[r]?) ?_ N gs.length _ ⟨0,p,by omega,rfl,by rw [hg,ZeJ],fun r _=>by rw [hg]⟩ (by omega)
 rintro G m _ ⟨q,t,hq,rfl,hT,hr⟩ hG
 unfold Zab.p6
 dsimp only
 by_cases hlt:q<gs.length
 ·rw [if_pos (by simp only [len,hg,ZeJ,decide_eq_true_eq];omega),Zai (by omega),Zai (by simp only [len,hT];omega),yB,zJ,hr q (Nat.le_refl _),ZfX hlt,ZaJ,ZcV,ZaA (by omega) (by omega)]
  exact hG (m-1) _ (by omega) ⟨q+1,_,by omega,rfl,by simp [hT],fun r h=>by rw [zV (by omega)];exact hr r (by omega)⟩
 ·rw [if_neg (by simp only [len,hg,ZeJ,decide_eq_true_eq];omega),ZoQ hg hc lg lc hi,Zad]
  dsimp only
  exact ZlY hg lg hN
theorem Zmd {p:Zae} (hp:WfP p) {gs:List ZbR} {cs:List ZbH} (hg:p.Gates=Zkq gs) (hc:p.Checks=ZiH cs) (lg:gs.length≤400) (lc:cs.length≤400) {room:Int} {ns:List Nd} (ht:ZoP ns) (hgt:GenT p ns) {st:LL} {i j:Nat} (hi:st[i]? = some (aOf p room ns).lo) (hm:st[j]? = some (rOf p room ns).lo) (hN:1000≤N) :
  loopN (Zab.p2 N j (rOf p room ns) p) N (some i,0,st)=some (true,st):=by
 have sm:=ht.small
 refine Zbz (fun m (s:(Option Nat)×Int×LL)=>∃q:Nat,q+m=ns.length∧s=(some i,(q:Int),st)) ?_ N ns.length _ ⟨0,by omega,rfl⟩ (by omega)
 rintro G m _ ⟨q,hq,rfl⟩ hG
 unfold Zab.p2
 dsimp only
 rw [show (rOf p room ns).List_=ZhA (ns.map Nd.hd) from rfl,Zjh,xM]
 by_cases hlt:q<ns.length
 ·have hch:=ht.ch _ (yM hlt)
  have lpos:0<ns[q].ch.length:=vP.2 hch.1
  rw [if_pos (by simp;omega),Zhi (by omega) hp.h.w,Zad,hm,ZaJ,Zcm,Zhj ht (by omega) hlt,Zad,ZgN hlt,Zai (Zpb _),Zai (by rw [Zhp];omega),Zmc ht hgt hlt hi hN,ZaA (by omega) (by omega)]
  exact hG (m-1) _ (by omega) ⟨q+1,by omega,by rw [uY];rfl⟩
 ·rw [if_neg (by simp;omega),Zad,ZoQ hg hc lg lc hi,Zad]
  dsimp only
  exact ZlZ hg hc lg lc hi hN
theorem Zme {p:Zae} (hp:WfP p) (l:List Zbh) (hl : ∀x∈l,WfCm x) (hb:l.length≤maxLen) :
  ∃st,Zab (l.length+1000) p (Zkr l) []=some (true,st):=by
 unfold Zab
 rw [alive12 (by omega),Zad]
 dsimp only
 rw [if_neg (by simp)]
 obtain ⟨b,e,hgr⟩:=Zpr (N:=l.length+1000) p l (by omega) hb
 rw [e,Zad]
 cases b with
 | true=>rw [if_pos rfl];exact ⟨_,rfl⟩
 | false=>
  obtain ⟨hn,hG,hC,h40⟩:=hgr rfl
  obtain ⟨gs,eg⟩:=open_G hp.g
  obtain ⟨cs,ec⟩:=open_K hp.c
  have lg:gs.length≤400:=by rw [eg,ZeJ] at hG;omega
  have lc:cs.length≤400:=by rw [ec,Zhq] at hC;omega
  generalize hN:l.length+1000=N
  rw [if_neg (by simp),Zlt (by omega) eg lg ec lc,Zad]
  cases hgd:ZnA p gs cs with
  | false=>rw [if_pos (by rfl)];exact ⟨_,rfl⟩
  | true=>
   rw [if_neg (by simp),New_eq (by omega) eg ec lg lc hp,hgd,if_pos rfl,Zad]
   dsimp only
   rw [ZmA (by omega) hp,Zad]
   dsimp only
   rw [show ZkK 100=100 from rfl,show ([(aOf pA 5 [ZeT pA]).lo]:LL).length=1 from rfl]
   have ha:([(aOf pA 5 [ZeT pA]).lo] ++ [(aOf p 100 [ZeT p]).lo] ++ [(rOf p 100 [ZeT p]).lo]:LL)[1]? = some (aOf p 100 [ZeT p]).lo:=rfl
   have hm:([(aOf pA 5 [ZeT pA]).lo] ++ [(aOf p 100 [ZeT p]).lo] ++ [(rOf p 100 [ZeT p]).lo]:LL)[2]? = some (rOf p 100 [ZeT p]).lo:=rfl
   rw [show ([(aOf pA 5 [ZeT pA]).lo] ++ [(aOf p 100 [ZeT p]).lo]:LL).length=2 from rfl]
   generalize ([(aOf pA 5 [ZeT pA]).lo] ++ [(aOf p 100 [ZeT p]).lo] ++ [(rOf p 100 [ZeT p]).lo]:LL)=st at ha hm ⊢
   have key : ∃r,loopN (Zab.p1 N (some 1) (some 2) (Zkr l) p) N (0,st)=some r∧r.1=true:=by
    refine Zir (Q:=fun r:Bool×LL=>r.1=true) (fun m (s:Int×LL)=>∃(j:Nat) (ns:List Nd) (st:LL),s=((j:Int),st)∧j+m=l.length∧ns.length≤j+1∧ZoP ns∧GenT p ns∧st[1]? = some (aOf p 100 ns).lo∧st[2]? = some (rOf p 100 ns).lo) ?_ N l.length _ ⟨0,[ZeT p],st,rfl,by omega,by simp,ZoP.one_node hp.h,GenT.root p,ha,hm⟩ (by omega)
    rintro G m _ ⟨j,ns,st,rfl,hj,h1,ht,hgt,ha,hm⟩ hG
    unfold Zab.p1
    dsimp only
    rw [ZmP]
    by_cases hlt:j<l.length
    ·have wx:=hl _ (yM hlt)
     have nx:=hn _ (yM hlt)
     have rx:=wx.n
     unfold ZlJ at rx
     have hl':=addT_len p gs cs 100 ns l[j].Header l[j].Now
     rw [if_pos (by simp<;>omega),Zai (by omega),zJ,Zmw hlt,ZaJ,Zej,Add_eq (by omega) eg ec lg lc (by omega) ht ha wx.h _ (by omega),Zad]
     dsimp only
     have hm':(st.set 1 (aOf p 100 (Zmg p gs cs 100 ns l[j].Header l[j].Now).2.2.2).lo)[2]? = some (rOf p 100 ns).lo:=by rw [zV (by omega)];exact hm
     rw [ZmB (by omega) eg ec lg lc (by omega) ht (by omega) hm' wx.h _ (by omega),Zad]
     dsimp only
     rw [ZaA (by omega) (by omega)]
     exact hG (m-1) _ (by omega) ⟨j+1,_,_,by rw [uY];rfl,by omega,by omega,ZqW (by omega) ht wx.h _,addT_gen hgt _ _,by rw [zV (by omega)];exact zO (xD.1 ha).1,zO (xD.1 hm').1⟩
    ·rw [if_neg (by simp<;>omega),Zad,hm,ZaJ,Zcm,Zmd hp eg ec lg lc ht hgt ha hm (by omega)]
     exact ⟨_,rfl,rfl⟩
   obtain ⟨⟨r1,r2⟩,h1,h2⟩:=key
   dsimp only at h2
   exact ⟨r2,by rw [h1,h2]⟩
theorem ArenaSpots_true {ls:List L} (xs:LL) (h0:Zgg tysP ls) (h2 : ∀x∈xs,Zgg tysCm x) (l2:xs.length≤maxLen) :
  ∃st,Snd Tryz.prog 3 [.agg ls,.one (.sl 69 xs)] [] [.one (.bool true)] st:=by
 obtain ⟨p,rfl,hp⟩:=open_P h0
 obtain ⟨l,rfl,hl⟩:=open_Cm h2
 obtain ⟨st,h⟩:=Zme hp l hl (by rw [Zmv] at l2;exact l2)
 exact ⟨st,Zab.snd h⟩
end Go.Dn.F
