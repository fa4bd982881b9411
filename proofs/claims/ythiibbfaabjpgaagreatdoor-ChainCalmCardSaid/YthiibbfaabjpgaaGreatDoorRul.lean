import Derived.Test.YthiibbfaabjpgaaGreatDoorNum
set_option linter.all false
open Bool renaming eq_iff_iff->wC
open Int renaming toNat_natCast->zJ,tmod->yB
open List renaming take_succ_eq_append_getElem->zY,foldl_append->vW,take_of_length_le->zW,drop_eq_getElem_cons->xC,drop_of_length_le->wM,length_append->zU,length_take->wB,length_map->wJ,map_cons->xF
set_option maxRecDepth 40000
namespace Go.Dn.F
open Go.Dn Go.Proofs
variable {N:Nat}
def Zuu (h:Zal):(hid h).length=32/\bys (hid h):=by
 obtain ⟨b,e,l⟩:=hid_by h;rw [e];refine ⟨by simpa using l,fun x hx=>?_⟩;obtain ⟨y,_,rfl⟩:=List.mem_map.1 hx;exact ⟨ZuZ y,Zva y⟩
def Zlo (p:Zae) (h:Zal):Int:=
 if Zhd h=false then 1 else if (tgt h.Bits p.Limit).2=false then 4 else if hv (hid h)<=(tgt h.Bits p.Limit).1 then 0 else 4
def Zng (hN:500<=N) (p:Zae) {h:Zal} (hw:wfH h=true):ZeL N p h=some (Zlo p h):=by
 unfold ZeL Zlo;rw [Zft,Zaa,ZfP aF,Zaa];dsimp only;have hb:=Zuu h;rw [Zhe hN hw,Zaa,ZlB aF hb.1 hb.2 (ZkF _ _),Zaa];cases Zhd h
 ·rfl
 cases (tgt h.Bits p.Limit).2
 ·rfl
 by_cases k:hv (hid h)<=(tgt h.Bits p.Limit).1<;>simp [k]
def ZiA (height:Int) (gs:List ZcQ):Int:=gs.foldl (fun l g=>if height>=g.Height/\g.Version>l then g.Version else l) (-2147483648)
noncomputable def ZmZ (l:List ZcQ):LL:=l.map ZcQ.ls
noncomputable def ZjM (l:List Zcl):LL:=l.map Zcl.ls
def ZjW {l:List ZcQ} {i:Nat} (h:i<l.length):(ZmZ l)[i]? = some l[i].ls:=by simp [ZmZ,h]
def ZjX {l:List Zcl} {i:Nat} (h:i<l.length):(ZjM l)[i]? = some l[i].ls:=by simp [ZjM,h]
@[simp] def ZqR (l:List ZcQ):(ZmZ l).length=l.length:=by simp [ZmZ]
@[simp] def ZqS (l:List Zcl):(ZjM l).length=l.length:=by simp [ZjM]
def open_G {xs:LL} (h : ∀x∈xs,Ziq [.int .i64,.int .i64] x) : ∃l:List ZcQ,xs=ZmZ l:=
 let ⟨l,h,_⟩:=Zsl (e:=ZcQ.ls) (good:=fun _=>True) fun x hx=>by
  obtain ⟨_,_,rfl,h1,h⟩:=(h x hx).cons_inv;obtain ⟨_,_,rfl,h2,h⟩:=h.cons_inv;cases h.nil_inv;obtain ⟨a,rfl,_⟩:=h1.int_inv;obtain ⟨b,rfl,_⟩:=h2.int_inv;exact ⟨⟨a,b⟩,rfl,trivial⟩
 ⟨l,h⟩
def open_K {xs:LL} (h : ∀x∈xs,Ziq [.int .i64,.arr .u8 32] x) : ∃l:List Zcl,xs=ZjM l:=
 let ⟨l,h,_⟩:=Zsl (e:=Zcl.ls) (good:=fun _=>True) fun x hx=>by
  obtain ⟨_,_,rfl,h1,h⟩:=(h x hx).cons_inv;obtain ⟨_,_,rfl,h2,h⟩:=h.cons_inv;cases h.nil_inv;obtain ⟨a,rfl,_⟩:=h1.int_inv;obtain ⟨b,rfl,_⟩:=h2.arr_inv;exact ⟨⟨a,b⟩,rfl,trivial⟩
 ⟨l,h⟩
def Zmb (height:Int) (gs:List ZcQ) (hg:gs.length<N) (hb:gs.length<1000000):Zbn N height (ZmZ gs)=some (ZiA height gs):=by
 unfold Zbn;refine Zck (fun m (x:Int×Int)=>∃i:Nat,i+m=gs.length/\x=(ZiA height (gs.take i),(i:Int))) ?_ N gs.length _ ⟨0,aF,rfl⟩ hg;rintro G m _ ⟨i,hi,rfl⟩ hG;unfold Zbn.p1 Zbn.p2;dsimp only;by_cases hlt:i<gs.length
 ·rw [aD (by simp [len];omega),Zag aF,zJ,ZjW hlt,Zan,ZfI,ZaK aF aF];have st:ZiA height (gs.take (i+1))=if height>=gs[i].Height/\gs[i].Version>ZiA height (gs.take i) then gs[i].Version else ZiA height (gs.take i):=by
   unfold ZiA;rw [zY hlt,vW];rfl
  have hn:=hG (m-1) (ZiA height (gs.take (i+1)),((i+1:Nat):Int)) aF ⟨i+1,aF,rfl⟩;rw [st] at hn;by_cases h1:height>=gs[i].Height
  ·rw [aD (aR h1)];by_cases h2:gs[i].Version>ZiA height (gs.take i)
   ·rw [aD ⟨h1,h2⟩] at hn;rw [aD h2];exact hn
   rw [aE (fun h=>h2 h.2)] at hn;rw [aE h2];exact hn
  rw [aE (aR h1)];rw [aE (fun h=>h1 h.1)] at hn;exact hn
 rw [aE (by simp [len];omega),zW aF]
def Zgw (height:Int) (id:List Int) (cs:List Zcl):Bool:=cs.all fun c=>!(c.Height==height)||c.Id==id
def Zmc (height:Int) (id:List Int) (cs:List Zcl) (hg:cs.length<N) (hb:cs.length<1000000):Zcm N height id (ZjM cs)=some (Zgw height id cs):=by
 unfold Zcm;refine Zck (fun m (x:Int)=>∃i:Nat,i+m=cs.length/\x=(i:Int)/\Zgw height id cs=Zgw height id (cs.drop i)) ?_ N cs.length _ ⟨0,aF,rfl,by rw [List.drop_zero]⟩ hg;rintro G m _ ⟨i,hi,rfl,ht⟩ hG;unfold Zcm.p1;by_cases hlt:i<cs.length
 ·rw [xC hlt] at ht;have e:Zgw height id (cs[i]::cs.drop (i+1))=((!(cs[i].Height==height)||cs[i].Id==id)&&Zgw height id (cs.drop (i+1))):=rfl;rw [e] at ht;rw [aD (by simp [len];omega),Zag aF,zJ,ZjX hlt,Zan,Zfo,ZaK aF aF];by_cases h1:(cs[i].Height==height)=true
  ·rw [aD h1];by_cases h2:(cs[i].Id==id)=true
   ·rw [aE (by simp [h2])];exact hG (m-1) _ aF ⟨i+1,aF,rfl,by rw [ht];simp [h2]⟩
   rw [aD (aR h2),ht];simp [h1,h2]
  rw [aE h1];exact hG (m-1) _ aF ⟨i+1,aF,rfl,by rw [ht];simp [h1]⟩
 rw [aE (by simp [len];omega),ht,wM aF];rfl
def near (t now f:Int):Bool:=decide (0<=f/\(t<=now\/t-now<=f))
def Znk {t now:Int} (f:Int) (h1:0<=t/\t<=1152921504606846976) (h2 : -1152921504606846976<=now/\now<=9223372036854775807):ZeM N t now f=some (near t now f):=by
 unfold ZeM near;rw [ZaK aF aF]
 repeat' split
 all_goals (refine ZgZ ⟨fun h=>?_,fun h=>?_⟩<;>simp only [decide_eq_true_eq,Bool.false_eq_true] at * <;> first | trivial | omega)
def ZfW (p:Zae) (gs:List ZcQ) (cs:List Zcl) (s:ZaW) (h:Zal) (now:Int):Int:=
 if Zhd h=false then 1
 else if h.Prev≠s.Prev then 2
 else if h.Bits≠Zly p s.Point h.Time then 3
 else if Zlo p h≠0 then 4
 else if ((ZmX s.Times).length==0||decide (h.Time>M (ZmX s.Times)))=false then 5
 else if near h.Time now p.Future=false then 6
 else if h.Version<ZiA s.Point.Height gs then 7
 else if Zgw s.Point.Height (hid h) cs=false then 8 else 0
def Zof (hN:500<=N) {p:Zae} {gs:List ZcQ} {cs:List Zcl} (hg:p.Gates=ZmZ gs) (hc:p.Checks=ZjM cs) (lg:gs.length<=400) (lc:cs.length<=400)
  {s:ZaW} {h:Zal} (hw:wfH h=true) (hs:isI s.Times=true) (now:Int) (hnow : -1152921504606846976<=now/\now<=9223372036854775807) :
  ZeW N p s h now=some (ZfW p gs cs s h now):=by
 unfold ZeW ZfW;rw [Zft,Zaa];cases hgd:Zhd h with
 | false=>rfl
 | true=>
  have tr:=(Zqf h).1 hgd;have ht:s.Times=Zec (ZmX s.Times):=Zjq hs;rw [aE (c:=(!true)=true) aG,aE (c:=true=false) aG];by_cases h2:h.Prev=s.Prev
  ·rw [aE (by simp [h2]),aE (by simp [h2]),ZpP aF,Zaa];by_cases h3:h.Bits=Zly p s.Point h.Time
   ·rw [aE (by simp [h3]),aE (by simp [h3]),Zng hN p hw,Zaa];by_cases h4:Zlo p h=0
    ·rw [aE (by simp [h4]),aE (by simp [h4]),show Zei N h.Time s.Times=_ from (congrArg (Zei N h.Time) ht).trans (Zrf N h.Time (ZmX s.Times)),Zaa];cases h5:((ZmX s.Times).length==0||decide (h.Time>M (ZmX s.Times)))
     ·rfl
     rw [aE aG,aE aG,Znk _ aF hnow,Zaa];cases h6:near h.Time now p.Future
     ·rfl
     rw [aE aG,aE aG,hg,Zmb _ gs aF aF,Zaa];by_cases h7:h.Version<ZiA s.Point.Height gs
     ·rw [aD (aR h7),aD h7]
     rw [aE (aR h7),aE h7,Zhe hN hw,Zaa,hc,Zmc _ _ cs aF aF,Zaa];cases Zgw s.Point.Height (hid h) cs<;>rfl
    rw [aD (aR h4),aD h4]
   rw [aD (aR h3),aD h3]
  rw [aD (aR h2),aD h2]
def ZkL (hN:300<=N) (p:Zae) (b f t:Int):ZaD N p b f t=some (retg p b f t):=by
 unfold ZaD retg;rw [Zhb hN,Zaa];dsimp only;rw [Zkc hN,Zaa];cases hg:Zjv p with
 | false=>rw [aD (by rfl),aE aG]
 | true=>
  rw [aE aG];cases ht:(tgt b p.Limit).2 with
  | false=>rw [aD (by rfl),aE aG]
  | true=>
   rw [aE aG];have hn:=ZkF b p.Limit;have hL:=ZkF p.Limit p.Limit;have D:=ZhR hg;have S:=Zml hg f t;have enc : ∀{x:Int},isN x->ZaD.p3 N (nw x)=some (Ztg x):=fun h=>by
    unfold ZaD.p3;rw [Zoo hN h,Zaa]
   have p2:ZaD.p2 N p (Zgu p f t) (nw (tgt b p.Limit).1)=some (if (tgt b p.Limit).1*Zgu p f t/Zij p<2^256/\(tgt b p.Limit).1*Zgu p f t/Zij p<=(tgt p.Limit p.Limit).1
     then Ztg (if (tgt b p.Limit).1*Zgu p f t/Zij p=0 then 1 else (tgt b p.Limit).1*Zgu p f t/Zij p) else p.Limit):=by
    have hLt:=Zhb hN p.Limit p.Limit;unfold ZaD.p2;rw [ZlT hg,ZtC hN hn S aF,Zaa];dsimp only;rw [hLt,Zaa];dsimp only;have q0:0<=(tgt b p.Limit).1*Zgu p f t/Zij p:=Int.ediv_nonneg (Int.mul_nonneg hn.1 S.1) aF;generalize (tgt b p.Limit).1*Zgu p f t/Zij p=Q at *;by_cases big:Q<2^256
    ·have hQ:isN Q:=⟨q0,big⟩
     rw [aE (aR big),Int.emod_eq_of_lt q0 big,ZfZ hN hL hQ,Zaa];by_cases hl:(tgt p.Limit p.Limit).1<Q
     ·rw [aD (aR hl),aE aF]
     rw [aE (aR hl)];have z:(nw Q==List.replicate 4 0)=decide (Q=0):=Option.some.inj (ZeR (N:=0) hQ);rw [z,aD (c:=Q<2^256/\Q<=(tgt p.Limit p.Limit).1) ⟨big,aF⟩];by_cases h0:Q=0
     ·rw [aD (aR h0),aD h0,Zrb (by unfold isW;omega),enc (by unfold isN;omega)]
     rw [aE (aR h0),aE h0,enc hQ]
    rw [aD (aR big),aE aF]
   have fin:ZaD.p2 N p (Zgu p f t) (nw (tgt b p.Limit).1)=some (if Zjv p=true/\(tgt b p.Limit).2=true/\(tgt b p.Limit).1*Zgu p f t/Zij p<2^256/\(tgt b p.Limit).1*Zgu p f t/Zij p<=(tgt p.Limit p.Limit).1
     then Ztg (if (tgt b p.Limit).1*Zgu p f t/Zij p=0 then 1 else (tgt b p.Limit).1*Zgu p f t/Zij p) else p.Limit):=by
    rw [p2,hg,ht];simp only [true_and]
   rw [hg,ht] at fin;refine Eq.trans ?_ fin;have p1 : ∀y:Int,Zgu p f t=(if Zij p*4<y then Zij p*4 else y)->ZaD.p1 N p y (nw (tgt b p.Limit).1)=ZaD.p2 N p (Zgu p f t) (nw (tgt b p.Limit).1):=fun y hy=>by
    unfold ZaD.p1;rw [ZlT hg,ZaK (n:=Zij p*4) aF aF,hy];by_cases h:Zij p*4<y
    ·rw [aD (aR h),aD h]
    rw [aE (aR h),aE h]
   rw [ZlT hg,Zfj aF,ZaK (n:=Zij p/4) aF aF];by_cases h:w64 (t-f)<Zij p/4
   ·rw [aD (aR h)];exact p1 _ (by unfold Zgu;rw [aD (show Zij p/4>w64 (t-f) from h)])
   rw [aE (aR h)];exact p1 _ (by unfold Zgu;rw [aE (show ¬ Zij p/4>w64 (t-f) from h)])
def Zos (hN:300<=N) (p:Zae) (a:Zeh) (own:Int):ZcI N p a.Height a.Bits a.Time a.First a.Hard own=some (Zly p a own):=by
 unfold ZcI Zly;have p1:ZcI.p1 N a.Bits a.Time a.Hard own p=some (if p.Easy=false then a.Bits else if w64 (own-a.Time)>w64 (2*p.Spacing) then p.Limit else a.Hard):=by
  unfold ZcI.p1;cases p.Easy
  ·rfl
  rw [aE (c:=(!true)=true) aG,aE (c:=true=false) aG];by_cases h:w64 (own-a.Time)>w64 (2*p.Spacing)
  ·rw [aD (aR h),aD h]
  rw [aE (aR h),aE h]
 by_cases h0:a.Height<=0
 ·rw [aD (aR h0),aD h0]
 rw [aE (aR h0),aE h0,p1,ZkL hN,Zaa];unfold ZfR;by_cases hi:p.Interval>0
 ·rw [aD (aR hi),Zag aF];by_cases hm:yB a.Height p.Interval=0
  ·rw [aD (aR hm),aD (c:=decide (0<p.Interval/\yB a.Height p.Interval=0)=true) (by simp [hm]<;>omega)]
  rw [aE (aR hm),aE (c:=decide (0<p.Interval/\yB a.Height p.Interval=0)=true) (by simp [hm])]
 rw [aE (aR hi),aE (c:=decide (0<p.Interval/\yB a.Height p.Interval=0)=true) aP]
def s0 (p:Zae):ZaW:=⟨⟨0,0,0,0,p.Limit⟩,List.replicate 32 0,[]⟩
def ZdA (p:Zae) (l:List Zal):ZaW:=l.foldl (Zgp p) (s0 p)
def Znv (p:Zae) (l:List Zal) {i:Nat} (h:i<l.length):ZdA p (l.take (i+1))=Zgp p (ZdA p (l.take i)) l[i]:=by
 unfold ZdA;rw [zY h,vW];rfl
def ZiD (p:Zae) : ∀l:List Zal,l.length<1000000->(ZdA p l).Point.Height=l.length:=by
 refine Zok (fun _=>rfl) (fun l h ih hl=>?_);unfold ZdA at *;rw [vW];show w64 ((List.foldl (Zgp p) (s0 p) l).Point.Height+1)=_;rw [zU,List.length_singleton] at *;rw [ih aF,ZaK aF aF];omega
def Znx (p:Zae) (l:List Zal) (h:0<l.length):(ZdA p l).Point.Bits=(l[l.length-1]).Bits/\(ZdA p l).Point.Time=(l[l.length-1]).Time/\(ZdA p l).Prev=hid l[l.length-1]:=by
 have:=Znv p l (i:=l.length-1) aF;rw [zW aF] at this;rw [this];exact ⟨rfl,rfl,rfl⟩
def ZqL (p:Zae) : ∀l:List Zal,ZmX (ZdA p l).Times=((l.map (·.Time)).reverse).take 11:=by
 refine Zok rfl (fun l h ih=>?_);unfold ZdA at *;rw [vW];show ZmX (Zec (h.Time::(ZmX (List.foldl (Zgp p) (s0 p) l).Times).take 10))=_;rw [Ztm,ih,List.map_append,List.reverse_append,List.take_take];rfl
def Zor (hN:850<=N) (p:Zae) (l:List Zal) (h0:0<l.length) (hl:l.length<=800) (time:Int):ZaH N p (ZkI l) time=some (Zly p (ZdA p l).Point time):=by
 unfold ZaH;have e:len (ZkI l)=(l.length:Int):=by simp [len]
 obtain ⟨b1,b2,_⟩:=Znx p l h0;have hh:=ZiD p l aF;rw [e,aE (by simp only [beq_iff_eq];omega),(aF:((l.length:Int)-1)=((l.length-1:Nat):Int)),ZaK (n:=((l.length-1:Nat):Int)) aF aF,Zag aF,Zag aF,zJ,ZjV aF,Zan,Zfc];refine Zck (fun m (x:Int×Int×Int)=>∃i:Nat,i+m=l.length/\x=((ZdA p (l.take i)).Point.First,(ZdA p (l.take i)).Point.Hard,(i:Int))) ?_ N l.length _ ⟨0,aF,rfl⟩ aF;rintro G m _ ⟨i,hi,rfl⟩ hG;unfold ZaH.p1;dsimp only;rw [e];by_cases hlt:i<l.length
 ·have hst:=Znv p l hlt;have ht:=ZiD p (l.take i) (by rw [wB];omega);rw [wB,Nat.min_eq_left aF] at ht;have hn:=hG (m-1) _ aF ⟨i+1,aF,rfl⟩;rw [hst] at hn;have p3 : ∀first:Int,first=(Zgp p (ZdA p (l.take i)) l[i]).Point.First->ZaH.p3 N G time (ZkI l) first (ZdA p (l.take i)).Point.Hard (ZfR p (i:Int)) (i:Int) p l[l.length-1] l[i]=some (Zly p (ZdA p l).Point time):=fun first hf=>by
   subst hf;have hd:(Zgp p (ZdA p (l.take i)) l[i]).Point.Hard=if (p.Easy&&l[i].Bits==p.Limit && !ZfR p (i:Int))=true then (ZdA p (l.take i)).Point.Hard else l[i].Bits:=by
    show (if (p.Easy&&l[i].Bits==p.Limit && !ZfR p (ZdA p (l.take i)).Point.Height)=true then _ else _)=_;rw [ht]
   rw [hd] at hn;unfold ZaH.p3 ZaH.p4;rw [ZaK aF aF];have c:((i+1:Nat):Int)=(i:Int)+1:=aF
   rw [c] at hn;cases h1:p.Easy with
   | false=>rw [h1] at hn;simpa using hn
   | true=>
    rw [h1] at hn;by_cases h2:l[i].Bits=p.Limit
    ·cases h3:ZfR p (i:Int) with
     | true=>rw [h3] at hn;simp [h2] at hn |-;exact hn
     | false=>rw [h3] at hn;simp [h2] at hn |-;exact hn
    simp [h2] at hn |-;exact hn
  have p2:ZaH.p2 N G time (ZkI l) (ZdA p (l.take i)).Point.First (ZdA p (l.take i)).Point.Hard (ZfR p (i:Int)) (i:Int) p l[l.length-1] l[i]=some (Zly p (ZdA p l).Point time):=by
   unfold ZaH.p2;have hf:(Zgp p (ZdA p (l.take i)) l[i]).Point.First=if ZfR p (i:Int)=true then l[i].Time else (ZdA p (l.take i)).Point.First:=by
    show (if ZfR p (ZdA p (l.take i)).Point.Height=true then _ else _)=_;rw [ht]
   cases h3:ZfR p (i:Int) with
   | true=>rw [h3] at hf p3;rw [aD rfl];exact p3 _ (by rw [hf];rfl)
   | false=>rw [h3] at hf p3;rw [aE aG];exact p3 _ (by rw [hf];rfl)
  rw [aD aP,Zag aF,zJ,ZjV hlt,Zan,Zfc];by_cases hI:p.Interval>0
  ·have:(yB (i:Int) p.Interval==0)=ZfR p (i:Int):=by
    unfold ZfR;rw [wC];simp [hI]
   rw [aD (aR hI),Zag aF,this];exact p2
  have:false=ZfR p (i:Int):=by
   unfold ZfR;rw [wC];simp;omega
  rw [aE (aR hI),this];exact p2
 rw [aE aP,zW aF,<-b1,<-b2,<-hh,Zos aF,Zaa]
def Zop (hN:600<=N) (p:Zae) {h:Zal} (hw:wfH h=true):Zey N p h=some ((tgt h.Bits p.Limit).2&&decide (hv (hid h)<=(tgt h.Bits p.Limit).1)):=by
 unfold Zey;have hb:=Zuu h;rw [Zhb aF,Zaa];dsimp only;rw [Zka hN h hw,Zaa,Zon aF hb.1 hb.2,Zaa,ZfZ aF (ZkF _ _) (hv_isN hb.1 hb.2),Zaa];cases (tgt h.Bits p.Limit).2
 ·rfl
 rw [aD rfl]
 congr 1
 rw [wC];simp
def Zot (zs:List Int) (hN:zs.length+2<=N) (hz:zs.length<=1000):ZcJ N (Zec zs)=some (Zec (zs.reverse.take 11)):=by
 unfold ZcJ;rw [ZeO,ZaK aF aF];refine Zck (fun m (x:LL×Int)=>∃i:Nat,i+m=zs.length/\i<=11/\x=(Zec (zs.reverse.take i),(zs.length:Int)-1-(i:Int))) ?_ N zs.length _ ⟨0,aF,aF,by simp;rfl⟩ aF;rintro G m _ ⟨i,hi,h11,rfl⟩ hG;unfold ZcJ.p1;dsimp only;by_cases hlt:i<zs.length
 ·rw [aD aP];have ll:(zs.reverse.take i).length=i:=by rw [wB,List.length_reverse];omega
  by_cases h:i<11
  ·have hr:zs.length-1-i<zs.length:=by omega
   have t:zs.reverse.take (i+1)=zs.reverse.take i ++ [zs[zs.length-1-i]]:=by
    rw [zY aH,List.getElem_reverse]
   rw [aD (by rw [ZeO,ll];simp<;>omega),ZeO,Zag aF,Zag aF,(aF:Int.toNat ((zs.length:Int)-1-(i:Int))=zs.length-1-i),Zif hr,Zan,Zeu,ZlD,Zig,Zag (by rw [Zef,zU,ll];simp<;>omega),<-t,ZaK aF aF];exact hG (m-1) _ aF ⟨i+1,aF,aF,by congr 1;omega⟩
  have:i=11:=aF
  subst this;rw [aE (by rw [ZeO,ll];simp)]
 rw [aE aP,zW aH,zW aH]
def Zrx (height:Int) (gs:List ZcQ) (v:Int) (hv : -2147483648<=v):v<ZiA height gs↔∃g∈gs,g.Height<=height/\v<g.Version:=by
 revert gs;refine Zok ?_ (fun gs g ih=>?_)
 ·simp [ZiA];omega
 have e:ZiA height (gs ++ [g])=if height>=g.Height/\g.Version>ZiA height gs then g.Version else ZiA height gs:=by unfold ZiA;rw [vW];rfl
 rw [e];constructor
 ·intro h;split at h
  ·rename_i hc;exact ⟨g,by simp,hc.1,h⟩
  obtain ⟨g',h1,h2⟩:=ih.1 h;exact ⟨g',by simp [h1],h2⟩
 rintro ⟨g',h1,h2,h3⟩;rcases List.mem_append.1 h1 with h1 | h1
 ·have:=ih.2 ⟨g',h1,h2,h3⟩;split<;>omega
 cases List.mem_singleton.1 h1;split
 ·exact h3
 rename_i hc;omega
def ref11_p6 (hN:600<=N) (l:List Zal) (hl:l.length<=800) {p:Zae} {cs:List Zcl} (hc:p.Checks=ZjM cs) (lc:cs.length<=400) {h:Zal} (hw:wfH h=true) :
  loopN (Zav.p6 N (ZkI l) p h) N 0=some (if Zgw (l.length:Int) (hid h) cs=false then 8 else 0):=by
 refine Zck (fun m (x:Int)=>∃i:Nat,i+m=cs.length/\x=(i:Int)/\Zgw (l.length:Int) (hid h) cs=Zgw (l.length:Int) (hid h) (cs.drop i)) ?_ N cs.length _ ⟨0,aF,rfl,by rw [List.drop_zero]⟩ aF;rintro G m _ ⟨i,hi,rfl,ht⟩ hG;unfold Zav.p6;have e:len (ZkI l)=(l.length:Int):=by simp [len]
 rw [hc,e];by_cases hlt:i<cs.length
 ·rw [xC hlt] at ht;have e:Zgw (l.length:Int) (hid h) (cs[i]::cs.drop (i+1))=((!(cs[i].Height==(l.length:Int))||cs[i].Id==hid h)&&Zgw (l.length:Int) (hid h) (cs.drop (i+1))):=rfl;rw [e] at ht;rw [aD (by simp [len]<;>omega),Zag aF,zJ,ZjX hlt,Zan,Zfo,ZaK aF aF];by_cases h1:(cs[i].Height==(l.length:Int))=true
  ·rw [aD h1,Zka hN h hw,Zaa];by_cases h2:(cs[i].Id==hid h)=true
   ·rw [aE (by simp [h2])];exact hG (m-1) _ aF ⟨i+1,aF,rfl,by rw [ht];simp [h2]⟩
   rw [aD (aR h2),ht];simp [h1,h2]
  rw [aE h1];exact hG (m-1) _ aF ⟨i+1,aF,rfl,by rw [ht];simp [h1]⟩
 rw [aE (by simp [len]<;>omega),ht,wM aF];rfl
def ref11_p5 (hN:600<=N) (l:List Zal) (hl:l.length<=800) {p:Zae} {gs:List ZcQ} {cs:List Zcl} (hg:p.Gates=ZmZ gs) (lg:gs.length<=400) (hc:p.Checks=ZjM cs) (lc:cs.length<=400) {h:Zal} (hw:wfH h=true) (hv : -2147483648<=h.Version) :
  Zav.p4 N (ZkI l) p h=some (if h.Version<ZiA (l.length:Int) gs then 7 else if Zgw (l.length:Int) (hid h) cs=false then 8 else 0):=by
 unfold Zav.p4;refine Zck (fun m (x:Int)=>∃i:Nat,i+m=gs.length/\x=(i:Int)/\∀g∈gs.take i,¬ (g.Height<=(l.length:Int)/\h.Version<g.Version)) ?_ N gs.length _ ⟨0,aF,rfl,fun g hg=>by simp at hg⟩ aF;rintro G m _ ⟨i,hi,rfl,ht⟩ hG;unfold Zav.p5;have e:len (ZkI l)=(l.length:Int):=by simp [len]
 rw [hg,e];by_cases hlt:i<gs.length
 ·have next : ¬ (gs[i].Height<=(l.length:Int)/\h.Version<gs[i].Version)->∀g∈gs.take (i+1),¬ (g.Height<=(l.length:Int)/\h.Version<g.Version):=fun hn g hgm=>by
   rw [zY hlt] at hgm;rcases List.mem_append.1 hgm with k | k
   ·exact ht g k
   cases List.mem_singleton.1 k;exact hn
  rw [aD (by simp [len]<;>omega),Zag aF,zJ,ZjW hlt,Zan,ZfI,ZaK aF aF];by_cases h1:gs[i].Height<=(l.length:Int)
  ·rw [aD (aR h1)];by_cases h2:h.Version<gs[i].Version
   ·rw [aD (aR h2),aD ((Zrx _ gs _ hv).2 ⟨gs[i],List.getElem_mem hlt,h1,h2⟩)]
   rw [aE (aR h2)];exact hG (m-1) _ aF ⟨i+1,aF,rfl,next fun k=>h2 k.2⟩
  rw [aE (aR h1)];exact hG (m-1) _ aF ⟨i+1,aF,rfl,next fun k=>h1 k.1⟩
 rw [aE (by simp [len]<;>omega),ref11_p6 hN l hl hc lc hw,aE (c:=h.Version<ZiA (l.length:Int) gs)];intro k;obtain ⟨g,h1,h2⟩:=(Zrx _ gs _ hv).1 k;rw [zW aF] at ht;exact ht g h1 h2
def Znj (hN:900<=N) {p:Zae} {gs:List ZcQ} {cs:List Zcl} (hg:p.Gates=ZmZ gs) (lg:gs.length<=400) (hc:p.Checks=ZjM cs) (lc:cs.length<=400)
  (l:List Zal) (h0:0<l.length) (hl:l.length<=800) (hw2 : ∀x∈l,wfH x=true) {h:Zal} (hw:wfH h=true) (now:Int) (hnow:0<=now/\now<=9223372036854775807) :
  Zav N p (ZkI l) h now=some (ZfW p gs cs (ZdA p l) h now):=by
 unfold Zav;have e:len (ZkI l)=(l.length:Int):=by simp [len]
 obtain ⟨b1,b2,b3⟩:=Znx p l h0;have hh:=ZiD p l aF;rw [Zjm,Zaa];unfold ZfW;cases hgd:Zhd h with
 | false=>rfl
 | true=>
  have tr:=(Zqf h).1 hgd;rw [aE (c:=(!true)=true) aG,aE (c:=true=false) aG,e,aD (by simp only [decide_eq_true_eq,gt_iff_lt];omega),(aF:((l.length:Int)-1)=((l.length-1:Nat):Int)),ZaK (n:=((l.length-1:Nat):Int)) aF aF,Zag aF,Zag aF,zJ,ZjV aF,Zan,Zfc,Zka aF _ (hw2 _ (List.getElem_mem _)),Zaa,<-b3];by_cases h2:h.Prev=(ZdA p l).Prev
  ·rw [aE (c:=(!(h.Prev==(ZdA p l).Prev))=true) (by simp [h2]),aE (c:=h.Prev≠(ZdA p l).Prev) (by simp [h2])];unfold Zav.p1;rw [Zor aF p l h0 hl,Zaa];by_cases h3:h.Bits=Zly p (ZdA p l).Point h.Time
   ·rw [aE (c:=(h.Bits != Zly p (ZdA p l).Point h.Time)=true) (aR h3),aE (c:=h.Bits≠Zly p (ZdA p l).Point h.Time) (aR h3),Zop aF p hw,Zaa];have it:Zlo p h=if ((tgt h.Bits p.Limit).2&&decide (hv (hid h)<=(tgt h.Bits p.Limit).1))=true then 0 else 4:=by
     unfold Zlo;rw [hgd,aE (c:=true=false) aG];cases (tgt h.Bits p.Limit).2
     ·rfl
     by_cases k:hv (hid h)<=(tgt h.Bits p.Limit).1<;>simp [k]
    cases h4:((tgt h.Bits p.Limit).2&&decide (hv (hid h)<=(tgt h.Bits p.Limit).1)) with
    | false=>
     rw [h4] at it;rw [aD (by rfl),aD (c:=Zlo p h≠0) (by rw [it];decide)]
    | true=>
     rw [h4] at it;rw [aE (c:=(!true)=true) aG,aE (c:=Zlo p h≠0) (by rw [it];decide)];have tm:=ZqL p l;have tl:0<((l.map (·.Time)).reverse.take 11).length:=by rw [wB,List.length_reverse,wJ];omega
     refine Zck (fun m (x:LL×Int)=>∃i:Nat,i+m=l.length/\x=(Zec ((l.take i).map (·.Time)),(i:Int))) ?_ N l.length _ ⟨0,aF,rfl⟩ aF;rintro G m _ ⟨i,hi,rfl⟩ hG;unfold Zav.p2;dsimp only;rw [e];by_cases hlt:i<l.length
     ·rw [aD aP,Zag aF,zJ,ZjV hlt,Zan,Zfc,ZlD,Zig,Zag (by rw [Zef,zU,wJ,wB];simp<;>omega),ZaK aF aF];refine hG (m-1) _ aF ⟨i+1,aF,?_⟩;rw [zY hlt,List.map_append];rfl
     rw [aE aP,zW aF,aD (by simp only [decide_eq_true_eq,gt_iff_lt];omega),Zot _ (by rw [wJ];omega) (by rw [wJ];omega),Zaa,Zag (ZnA _),ZsO N aF,Zaa,<-tm];rw [<-tm] at tl;by_cases h5:h.Time<=M (ZmX (ZdA p l).Times)
     ·rw [aD (aR h5),aD (c:=((ZmX (ZdA p l).Times).length==0||decide (h.Time>M (ZmX (ZdA p l).Times)))=false) (by
       simp only [Bool.or_eq_false_iff,beq_eq_false_iff_ne,decide_eq_false_iff_not];omega)]
     rw [aE (aR h5),aE (c:=((ZmX (ZdA p l).Times).length==0||decide (h.Time>M (ZmX (ZdA p l).Times)))=false) (by
      simp only [Bool.or_eq_false_iff,beq_eq_false_iff_ne,decide_eq_false_iff_not];omega)]
     unfold Zav.p3;rw [ref11_p5 aF l hl hg lg hc lc hw tr.1,hh];have nr:near h.Time now p.Future=decide (0<=p.Future/\(h.Time<=now\/h.Time-now<=p.Future)):=rfl;by_cases f:p.Future<0
     ·rw [aD (aR f),aD (c:=near h.Time now p.Future=false) (by rw [nr];simp only [decide_eq_false_iff_not];omega)]
     rw [aE (aR f)];by_cases g:h.Time>now
     ·rw [aD (aR g),ZaK aF aF];by_cases k:h.Time-now>p.Future
      ·rw [aD (aR k),aD (c:=near h.Time now p.Future=false) (by rw [nr];simp only [decide_eq_false_iff_not];omega)]
      rw [aE (aR k),aE (c:=near h.Time now p.Future=false) (by rw [nr];simp only [decide_eq_false_iff_not];omega)]
     rw [aE (aR g),aE (c:=near h.Time now p.Future=false) (by rw [nr];simp only [decide_eq_false_iff_not];omega)]
   rw [aD (aR h3),aD h3]
  rw [aD (aR h2),aD h2]
def Znb (last:Int):List Int->Bool
 | []=>true
 | x::l=>decide (last<x)&&Znb x l
def Zmi (p:Zae) (gs:List ZcQ) (cs:List Zcl):Bool:=Zjv p&&Zhd p.Genesis&&Znb (-1) (gs.map (·.Height))&&Znb 0 (cs.map (·.Height))
def Zoq (hN:500<=N) {p:Zae} {gs:List ZcQ} {cs:List Zcl} (hg:p.Gates=ZmZ gs) (lg:gs.length<=400) (hc:p.Checks=ZjM cs) (lc:cs.length<=400) :
  ZbB N p=some (Zmi p gs cs):=by
 unfold ZbB Zmi;rw [Zkc aF,Zaa,Zjm,Zaa];cases Zjv p
 ·rfl
 cases Zhd p.Genesis
 ·rfl
 rw [aE aG,aE aG];have p2:loopN (ZbB.p2 N p) N (0,0)=some (Znb 0 (cs.map (·.Height))):=by
  refine Zck (fun m (x:Int×Int)=>∃(i:Nat) (last:Int),i+m=cs.length/\x=(last,(i:Int))/\Znb 0 (cs.map (·.Height))=Znb last ((cs.drop i).map (·.Height))) ?_ N cs.length _ ⟨0,0,aF,rfl,rfl⟩ aF;rintro G m _ ⟨i,last,hi,rfl,hI⟩ hG;unfold ZbB.p2;dsimp only;have e:len (ZjM cs)=(cs.length:Int):=by simp [len]
  rw [hc,e];by_cases hlt:i<cs.length
  ·rw [xC hlt,xF] at hI;simp only [Znb] at hI;rw [aD aP,Zag aF,zJ,ZjX hlt,Zan,Zfo,ZaK aF aF];by_cases h1:cs[i].Height<=last
   ·rw [aD (aR h1),hI,show decide (last<cs[i].Height)=false by simp;omega];rfl
   rw [aE (aR h1)];exact hG (m-1) _ aF ⟨i+1,_,aF,rfl,by rw [hI,show decide (last<cs[i].Height)=true by simp;omega];rfl⟩
  rw [aE aP,hI,wM aF];rfl
 refine Zck (fun m (x:Int×Int)=>∃(i:Nat) (last:Int),i+m=gs.length/\x=(last,(i:Int))/\Znb (-1) (gs.map (·.Height))=Znb last ((gs.drop i).map (·.Height))) ?_ N gs.length _ ⟨0,-1,aF,rfl,rfl⟩ aF;rintro G m _ ⟨i,last,hi,rfl,hI⟩ hG;unfold ZbB.p1;dsimp only;have e:len (ZmZ gs)=(gs.length:Int):=by simp [len]
 rw [hg,e];by_cases hlt:i<gs.length
 ·rw [xC hlt,xF] at hI;simp only [Znb] at hI;rw [aD aP,Zag aF,zJ,ZjW hlt,Zan,ZfI,ZaK aF aF];by_cases h1:gs[i].Height<=last
  ·rw [aD (aR h1),hI,show decide (last<gs[i].Height)=false by simp;omega];rfl
  rw [aE (aR h1)];exact hG (m-1) _ aF ⟨i+1,_,aF,rfl,by rw [hI,show decide (last<gs[i].Height)=true by simp;omega];rfl⟩
 rw [aE aP,hI,wM aF,p2];rfl
def Zpx (hN:500<=N) {p:Zae} {gs:List ZcQ} {cs:List Zcl} (hg:p.Gates=ZmZ gs) (lg:gs.length<=400) (hc:p.Checks=ZjM cs) (lc:cs.length<=400) :
  Zcb N p=some (Zmi p gs cs):=by
 unfold Zcb Zmi;rw [Zlm aF,Zaa,Zft,Zaa];cases Zjv p
 ·rfl
 cases Zhd p.Genesis
 ·rfl
 rw [aE aG,aE aG];have p2:loopN (Zcb.p2 N p) N 0=some (Znb 0 (cs.map (·.Height))):=by
  refine Zck (fun m (x:Int)=>∃(i:Nat) (last:Int),i+m=cs.length/\x=(i:Int)/\0<=last/\(i=0->last=0)/\(∀h:0<i/\i-1<cs.length,last=cs[i-1].Height)/\Znb 0 (cs.map (·.Height))=Znb last ((cs.drop i).map (·.Height))) ?_ N cs.length _ ⟨0,0,aF,rfl,aF,fun _=>rfl,fun h=>aF,rfl⟩ aF;rintro G m _ ⟨i,last,hi,rfl,h0,hz,hp,hI⟩ hG;unfold Zcb.p2;have e:len (ZjM cs)=(cs.length:Int):=by simp [len]
  rw [hc,e];by_cases hlt:i<cs.length
  ·rw [xC hlt,xF] at hI;simp only [Znb] at hI;have nx:last<cs[i].Height->G ((i:Int)+1)=some (true&&true&&true&&Znb 0 (cs.map (·.Height))):=fun k=>
    hG (m-1) _ aF ⟨i+1,cs[i].Height,aF,aF,aF,aF,fun _=>rfl,by rw [hI,show decide (last<cs[i].Height)=true by simp;omega];rfl⟩
   have bad : ¬ last<cs[i].Height->Znb 0 (cs.map (·.Height))=false:=fun k=>by rw [hI,show decide (last<cs[i].Height)=false by simp;omega];rfl
   rw [aD aP,Zag aF,zJ,ZjX hlt,Zan,Zfo,ZaK (n:=(i:Int)+1) aF aF];by_cases h1:cs[i].Height<1
   ·rw [aD (aR h1),bad aF]
   rw [aE (aR h1)];by_cases hi0:i=0
   ·have:=hz hi0;rw [aE (by simp [hi0])];exact nx aF
   have:=hp ⟨aF,aF⟩;rw [aD aP,(aF:(i:Int)-1=((i-1:Nat):Int)),ZaK (n:=((i-1:Nat):Int)) aF aF,Zag aF,Zag aF,zJ,ZjX (aF:i-1<cs.length),Zan,Zfo,<-this];by_cases h2:cs[i].Height<=last
   ·rw [aD (aR h2),bad aF]
   rw [aE (aR h2)];exact nx aF
  rw [aE aP,hI,wM aF];rfl
 refine Zck (fun m (x:Int)=>∃(i:Nat) (last:Int),i+m=gs.length/\x=(i:Int)/\-1<=last/\(i=0->last = -1)/\(∀h:0<i/\i-1<gs.length,last=gs[i-1].Height)/\Znb (-1) (gs.map (·.Height))=Znb last ((gs.drop i).map (·.Height))) ?_ N gs.length _ ⟨0,-1,aF,rfl,aF,fun _=>rfl,fun h=>aF,rfl⟩ aF;rintro G m _ ⟨i,last,hi,rfl,h0,hz,hp,hI⟩ hG;unfold Zcb.p1;have e:len (ZmZ gs)=(gs.length:Int):=by simp [len]
 rw [hg,e];by_cases hlt:i<gs.length
 ·rw [xC hlt,xF] at hI;simp only [Znb] at hI;have nx:last<gs[i].Height->0<=gs[i].Height->G ((i:Int)+1)=some (true&&true&&Znb (-1) (gs.map (·.Height))&&Znb 0 (cs.map (·.Height))):=fun k k2=>
   hG (m-1) _ aF ⟨i+1,gs[i].Height,aF,aF,aF,aF,fun _=>rfl,by rw [hI,show decide (last<gs[i].Height)=true by simp;omega];rfl⟩
  have bad : ¬ last<gs[i].Height->Znb (-1) (gs.map (·.Height))=false:=fun k=>by rw [hI,show decide (last<gs[i].Height)=false by simp;omega];rfl
  rw [aD aP,Zag aF,zJ,ZjW hlt,Zan,ZfI,ZaK (n:=(i:Int)+1) aF aF];by_cases h1:gs[i].Height<0
  ·rw [aD (aR h1),bad aF];rfl
  rw [aE (aR h1)];by_cases hi0:i=0
  ·have:=hz hi0;rw [aE (by simp [hi0])];exact nx aF aF
  have:=hp ⟨aF,aF⟩;rw [aD aP,(aF:(i:Int)-1=((i-1:Nat):Int)),ZaK (n:=((i-1:Nat):Int)) aF aF,Zag aF,Zag aF,zJ,ZjW (aF:i-1<gs.length),Zan,ZfI,<-this];by_cases h2:gs[i].Height<=last
  ·rw [aD (aR h2),bad aF];rfl
  rw [aE (aR h2)];exact nx aF aF
 rw [aE aP,hI,wM aF,p2];rfl
end Go.Dn.F
