import Derived.Test.YtbijmojagnjgcaaGreatDoorNum
set_option linter.all false
open Bool renaming eq_iff_iff→xM
open Int renaming toNat_natCast→zG,tmod→zX
open List renaming take_succ_eq_append_getElem→yJ,foldl_append→vQ,take_of_length_le→zY,drop_eq_getElem_cons→yQ,drop_of_length_le→wH,length_append→zU,length_take→xY,length_map→wC,map_cons→xD
set_option maxRecDepth 40000
namespace Go.Dn.F
open Go.Dn Go.Proofs
variable {N:Nat}
theorem ZtN (h:Zak):(hid h).length=32∧bys (hid h):=by
 obtain ⟨b,e,l⟩:=hid_by h;rw [e];refine ⟨by simpa using l,fun x hx=>?_⟩;obtain ⟨y,_,rfl⟩:=List.mem_map.1 hx;exact ⟨Zuf y,Zug y⟩
def ZkH (p:Zae) (h:Zak):Int:=
 if ZgD h=false then 1 else if (tgt h.Bits p.Limit).2=false then 4 else if hv (hid h)≤(tgt h.Bits p.Limit).1 then 0 else 4
theorem Zmx (hN:500≤N) (p:Zae) {h:Zak} (hw:wfH h=true):Zew N p h=some (ZkH p h):=by
 unfold Zew ZkH;rw [Zfj,Zaa,ZfC (by omega),Zaa];dsimp only;have hb:=ZtN h;rw [ZgE hN hw,Zaa,ZkT (by omega) hb.1 hb.2 (ZjX _ _),Zaa];cases ZgD h
 ·rfl
 cases (tgt h.Bits p.Limit).2
 ·rfl
 by_cases k:hv (hid h)≤(tgt h.Bits p.Limit).1<;>simp [k]
def ZhY (height:Int) (gs:List ZcW):Int:=gs.foldl (fun l g=>if height≥g.Height∧g.Version>l then g.Version else l) (-2147483648)
noncomputable def Zmz (l:List ZcW):LL:=l.map ZcW.ls
noncomputable def ZjT (l:List Zcv):LL:=l.map Zcv.ls
theorem Zju {l:List ZcW} {i:Nat} (h:i<l.length):(Zmz l)[i]? = some l[i].ls:=by simp [Zmz,h]
theorem Zjv {l:List Zcv} {i:Nat} (h:i<l.length):(ZjT l)[i]? = some l[i].ls:=by simp [ZjT,h]
@[simp] theorem Zqs (l:List ZcW):(Zmz l).length=l.length:=by simp [Zmz]
@[simp] theorem Zqt (l:List Zcv):(ZjT l).length=l.length:=by simp [ZjT]
theorem open_G {xs:LL} (h : ∀x∈xs,ZhR [.int .i64,.int .i64] x) : ∃l:List ZcW,xs=Zmz l:=
 let ⟨l,h,_⟩:=ZrG (e:=ZcW.ls) (good:=fun _=>True) fun x hx=>by
  obtain ⟨_,_,rfl,h1,h⟩:=(h x hx).cons_inv;obtain ⟨_,_,rfl,h2,h⟩:=h.cons_inv;cases h.nil_inv;obtain ⟨a,rfl,_⟩:=h1.int_inv;obtain ⟨b,rfl,_⟩:=h2.int_inv;exact ⟨⟨a,b⟩,rfl,trivial⟩
 ⟨l,h⟩
theorem open_K {xs:LL} (h : ∀x∈xs,ZhR [.int .i64,.arr .u8 32] x) : ∃l:List Zcv,xs=ZjT l:=
 let ⟨l,h,_⟩:=ZrG (e:=Zcv.ls) (good:=fun _=>True) fun x hx=>by
  obtain ⟨_,_,rfl,h1,h⟩:=(h x hx).cons_inv;obtain ⟨_,_,rfl,h2,h⟩:=h.cons_inv;cases h.nil_inv;obtain ⟨a,rfl,_⟩:=h1.int_inv;obtain ⟨b,rfl,_⟩:=h2.arr_inv;exact ⟨⟨a,b⟩,rfl,trivial⟩
 ⟨l,h⟩
theorem Zls (height:Int) (gs:List ZcW) (hg:gs.length<N) (hb:gs.length<1000000):Zbr N height (Zmz gs)=some (ZhY height gs):=by
 unfold Zbr;refine ZbY (fun m (x:Int×Int)=>∃i:Nat,i+m=gs.length∧x=(ZhY height (gs.take i),(i:Int))) ?_ N gs.length _ ⟨0,by omega,rfl⟩ hg;rintro G m _ ⟨i,hi,rfl⟩ hG;unfold Zbr.p1 Zbr.p2;dsimp only;by_cases hlt:i<gs.length
 ·rw [aD (by simp [len];omega),Zah (by omega),zG,Zju hlt,Zan,Zfv,ZaM (by omega) (by omega)];have st:ZhY height (gs.take (i+1))=if height≥gs[i].Height∧gs[i].Version>ZhY height (gs.take i) then gs[i].Version else ZhY height (gs.take i):=by
   unfold ZhY;rw [yJ hlt,vQ];rfl
  have hn:=hG (m-1) (ZhY height (gs.take (i+1)),((i+1:Nat):Int)) (by omega) ⟨i+1,by omega,rfl⟩;rw [st] at hn;by_cases h1:height≥gs[i].Height
  ·rw [aD (by simpa using h1)];by_cases h2:gs[i].Version>ZhY height (gs.take i)
   ·rw [aD ⟨h1,h2⟩] at hn;rw [aD h2];exact hn
   rw [aE (fun h=>h2 h.2)] at hn;rw [aE h2];exact hn
  rw [aE (by simpa using h1)];rw [aE (fun h=>h1 h.1)] at hn;exact hn
 rw [aE (by simp [len];omega),zY (by omega)]
def Zgc (height:Int) (id:List Int) (cs:List Zcv):Bool:=cs.all fun c=>!(c.Height==height)||c.Id==id
theorem Zlt (height:Int) (id:List Int) (cs:List Zcv) (hg:cs.length<N) (hb:cs.length<1000000):Zct N height id (ZjT cs)=some (Zgc height id cs):=by
 unfold Zct;refine ZbY (fun m (x:Int)=>∃i:Nat,i+m=cs.length∧x=(i:Int)∧Zgc height id cs=Zgc height id (cs.drop i)) ?_ N cs.length _ ⟨0,by omega,rfl,by rw [List.drop_zero]⟩ hg;rintro G m _ ⟨i,hi,rfl,ht⟩ hG;unfold Zct.p1;by_cases hlt:i<cs.length
 ·rw [yQ hlt] at ht;have e:Zgc height id (cs[i]::cs.drop (i+1))=((!(cs[i].Height==height)||cs[i].Id==id)&&Zgc height id (cs.drop (i+1))):=rfl;rw [e] at ht;rw [aD (by simp [len];omega),Zah (by omega),zG,Zjv hlt,Zan,Zfe,ZaM (by omega) (by omega)];by_cases h1:(cs[i].Height==height)=true
  ·rw [aD h1];by_cases h2:(cs[i].Id==id)=true
   ·rw [aE (by simp [h2])];exact hG (m-1) _ (by omega) ⟨i+1,by omega,rfl,by rw [ht];simp [h2]⟩
   rw [aD (by simpa using h2),ht];simp [h1,h2]
  rw [aE h1];exact hG (m-1) _ (by omega) ⟨i+1,by omega,rfl,by rw [ht];simp [h1]⟩
 rw [aE (by simp [len];omega),ht,wH (by omega)];rfl
def near (t now f:Int):Bool:=decide (0≤f∧(t≤now∨t-now≤f))
theorem ZmF {t now:Int} (f:Int) (h1:0≤t∧t≤1152921504606846976) (h2 : -1152921504606846976≤now∧now≤9223372036854775807):Zex N t now f=some (near t now f):=by
 unfold Zex near;rw [ZaM (by omega) (by omega)]
 repeat' split
 all_goals (refine Zgz ⟨fun h=>?_,fun h=>?_⟩<;>simp only [decide_eq_true_eq,Bool.false_eq_true] at * <;> first | trivial | omega)
def ZfK (p:Zae) (gs:List ZcW) (cs:List Zcv) (s:ZaX) (h:Zak) (now:Int):Int:=
 if ZgD h=false then 1
 else if h.Prev≠s.Prev then 2
 else if h.Bits≠ZkQ p s.Point h.Time then 3
 else if ZkH p h≠0 then 4
 else if ((Zms s.Times).length==0||decide (h.Time>M (Zms s.Times)))=false then 5
 else if near h.Time now p.Future=false then 6
 else if h.Version<ZhY s.Point.Height gs then 7
 else if Zgc s.Point.Height (hid h) cs=false then 8 else 0
theorem ZnF (hN:500≤N) {p:Zae} {gs:List ZcW} {cs:List Zcv} (hg:p.Gates=Zmz gs) (hc:p.Checks=ZjT cs) (lg:gs.length≤400) (lc:cs.length≤400)
  {s:ZaX} {h:Zak} (hw:wfH h=true) (hs:isI s.Times=true) (now:Int) (hnow : -1152921504606846976≤now∧now≤9223372036854775807) :
  ZeP N p s h now=some (ZfK p gs cs s h now):=by
 unfold ZeP ZfK;rw [Zfj,Zaa];cases hgd:ZgD h with
 | false=>rfl
 | true=>
  have tr:=(ZpJ h).1 hgd;have ht:s.Times=Zel (Zms s.Times):=Zlc hs;rw [aE (c:=(!true)=true) (by simp),aE (c:=true=false) (by simp)];by_cases h2:h.Prev=s.Prev
  ·rw [aE (by simp [h2]),aE (by simp [h2]),Zpt (by omega),Zaa];by_cases h3:h.Bits=ZkQ p s.Point h.Time
   ·rw [aE (by simp [h3]),aE (by simp [h3]),Zmx hN p hw,Zaa];by_cases h4:ZkH p h=0
    ·rw [aE (by simp [h4]),aE (by simp [h4]),show ZdW N h.Time s.Times=_ from (congrArg (ZdW N h.Time) ht).trans (ZqG N h.Time (Zms s.Times)),Zaa];cases h5:((Zms s.Times).length==0||decide (h.Time>M (Zms s.Times)))
     ·rfl
     rw [aE (by simp),aE (by simp),ZmF _ (by omega) hnow,Zaa];cases h6:near h.Time now p.Future
     ·rfl
     rw [aE (by simp),aE (by simp),hg,Zls _ gs (by omega) (by omega),Zaa];by_cases h7:h.Version<ZhY s.Point.Height gs
     ·rw [aD (by simpa using h7),aD h7]
     rw [aE (by simpa using h7),aE h7,ZgE hN hw,Zaa,hc,Zlt _ _ cs (by omega) (by omega),Zaa];cases Zgc s.Point.Height (hid h) cs<;>rfl
    rw [aD (by simpa using h4),aD h4]
   rw [aD (by simpa using h3),aD h3]
  rw [aD (by simpa using h2),aD h2]
theorem Zkd (hN:300≤N) (p:Zae) (b f t:Int):ZaA N p b f t=some (retg p b f t):=by
 unfold ZaA retg;rw [ZgB hN,Zaa];dsimp only;rw [Zjy hN,Zaa];cases hg:ZiQ p with
 | false=>rw [aD (by rfl),aE (by simp)]
 | true=>
  rw [aE (by simp)];cases ht:(tgt b p.Limit).2 with
  | false=>rw [aD (by rfl),aE (by simp)]
  | true=>
   rw [aE (by simp)];have hn:=ZjX b p.Limit;have hL:=ZjX p.Limit p.Limit;have D:=Zhs hg;have S:=ZlF hg f t;have enc : ∀{x:Int},isN x→ZaA.p3 N (nw x)=some (ZsI x):=fun h=>by
    unfold ZaA.p3;rw [ZnQ hN h,Zaa]
   have p2:ZaA.p2 N p (Zga p f t) (nw (tgt b p.Limit).1)=some (if (tgt b p.Limit).1*Zga p f t/ZhK p<2^256∧(tgt b p.Limit).1*Zga p f t/ZhK p≤(tgt p.Limit p.Limit).1
     then ZsI (if (tgt b p.Limit).1*Zga p f t/ZhK p=0 then 1 else (tgt b p.Limit).1*Zga p f t/ZhK p) else p.Limit):=by
    have hLt:=ZgB hN p.Limit p.Limit;unfold ZaA.p2;rw [Zlk hg,Ztd hN hn S (by omega),Zaa];dsimp only;rw [hLt,Zaa];dsimp only;have q0:0≤(tgt b p.Limit).1*Zga p f t/ZhK p:=Int.ediv_nonneg (Int.mul_nonneg hn.1 S.1) (by omega);generalize (tgt b p.Limit).1*Zga p f t/ZhK p=Q at *;by_cases big:Q<2^256
    ·have hQ:isN Q:=⟨q0,big⟩
     rw [aE (by simpa using big),Int.emod_eq_of_lt q0 big,ZfM hN hL hQ,Zaa];by_cases hl:(tgt p.Limit p.Limit).1<Q
     ·rw [aD (by simpa using hl),aE (by omega)]
     rw [aE (by simpa using hl)];have z:(nw Q==List.replicate 4 0)=decide (Q=0):=Option.some.inj (ZeG (N:=0) hQ);rw [z,aD (c:=Q<2^256∧Q≤(tgt p.Limit p.Limit).1) ⟨big,by omega⟩];by_cases h0:Q=0
     ·rw [aD (by simpa using h0),aD h0,ZqC (by unfold isW;omega),enc (by unfold isN;omega)]
     rw [aE (by simpa using h0),aE h0,enc hQ]
    rw [aD (by simpa using big),aE (by omega)]
   have fin:ZaA.p2 N p (Zga p f t) (nw (tgt b p.Limit).1)=some (if ZiQ p=true∧(tgt b p.Limit).2=true∧(tgt b p.Limit).1*Zga p f t/ZhK p<2^256∧(tgt b p.Limit).1*Zga p f t/ZhK p≤(tgt p.Limit p.Limit).1
     then ZsI (if (tgt b p.Limit).1*Zga p f t/ZhK p=0 then 1 else (tgt b p.Limit).1*Zga p f t/ZhK p) else p.Limit):=by
    rw [p2,hg,ht];simp only [true_and]
   rw [hg,ht] at fin;refine Eq.trans ?_ fin;have p1 : ∀y:Int,Zga p f t=(if ZhK p*4<y then ZhK p*4 else y)→ZaA.p1 N p y (nw (tgt b p.Limit).1)=ZaA.p2 N p (Zga p f t) (nw (tgt b p.Limit).1):=fun y hy=>by
    unfold ZaA.p1;rw [Zlk hg,ZaM (n:=ZhK p*4) (by omega) (by omega),hy];by_cases h:ZhK p*4<y
    ·rw [aD (by simpa using h),aD h]
    rw [aE (by simpa using h),aE h]
   rw [Zlk hg,ZeZ (by omega),ZaM (n:=ZhK p/4) (by omega) (by omega)];by_cases h:w64 (t-f)<ZhK p/4
   ·rw [aD (by simpa using h)];exact p1 _ (by unfold Zga;rw [aD (show ZhK p/4>w64 (t-f) from h)])
   rw [aE (by simpa using h)];exact p1 _ (by unfold Zga;rw [aE (show ¬ ZhK p/4>w64 (t-f) from h)])
theorem ZnU (hN:300≤N) (p:Zae) (a:ZdV) (own:Int):ZcO N p a.Height a.Bits a.Time a.First a.Hard own=some (ZkQ p a own):=by
 unfold ZcO ZkQ;have p1:ZcO.p1 N a.Bits a.Time a.Hard own p=some (if p.Easy=false then a.Bits else if w64 (own-a.Time)>w64 (2*p.Spacing) then p.Limit else a.Hard):=by
  unfold ZcO.p1;cases p.Easy
  ·rfl
  rw [aE (c:=(!true)=true) (by simp),aE (c:=true=false) (by simp)];by_cases h:w64 (own-a.Time)>w64 (2*p.Spacing)
  ·rw [aD (by simpa using h),aD h]
  rw [aE (by simpa using h),aE h]
 by_cases h0:a.Height≤0
 ·rw [aD (by simpa using h0),aD h0]
 rw [aE (by simpa using h0),aE h0,p1,Zkd hN,Zaa];unfold ZfE;by_cases hi:p.Interval>0
 ·rw [aD (by simpa using hi),Zah (by omega)];by_cases hm:zX a.Height p.Interval=0
  ·rw [aD (by simpa using hm),aD (c:=decide (0<p.Interval∧zX a.Height p.Interval=0)=true) (by simp [hm]<;>omega)]
  rw [aE (by simpa using hm),aE (c:=decide (0<p.Interval∧zX a.Height p.Interval=0)=true) (by simp [hm])]
 rw [aE (by simpa using hi),aE (c:=decide (0<p.Interval∧zX a.Height p.Interval=0)=true) (by simp<;>omega)]
def s0 (p:Zae):ZaX:=⟨⟨0,0,0,0,p.Limit⟩,List.replicate 32 0,[]⟩
def Zdw (p:Zae) (l:List Zak):ZaX:=l.foldl (ZfX p) (s0 p)
theorem ZmS (p:Zae) (l:List Zak) {i:Nat} (h:i<l.length):Zdw p (l.take (i+1))=ZfX p (Zdw p (l.take i)) l[i]:=by
 unfold Zdw;rw [yJ h,vQ];rfl
theorem Zid (p:Zae) : ∀l:List Zak,l.length<1000000→(Zdw p l).Point.Height=l.length:=by
 refine ZnM (fun _=>rfl) (fun l h ih hl=>?_);unfold Zdw at *;rw [vQ];show w64 ((List.foldl (ZfX p) (s0 p) l).Point.Height+1)=_;rw [zU,List.length_singleton] at *;rw [ih (by omega),ZaM (by omega) (by omega)];omega
theorem ZmU (p:Zae) (l:List Zak) (h:0<l.length):(Zdw p l).Point.Bits=(l[l.length-1]).Bits∧(Zdw p l).Point.Time=(l[l.length-1]).Time∧(Zdw p l).Prev=hid l[l.length-1]:=by
 have:=ZmS p l (i:=l.length-1) (by omega);rw [zY (by omega)] at this;rw [this];exact ⟨rfl,rfl,rfl⟩
theorem Zqn (p:Zae) : ∀l:List Zak,Zms (Zdw p l).Times=((l.map (·.Time)).reverse).take 11:=by
 refine ZnM rfl (fun l h ih=>?_);unfold Zdw at *;rw [vQ];show Zms (Zel (h.Time::(Zms (List.foldl (ZfX p) (s0 p) l).Times).take 10))=_;rw [ZsP,ih,List.map_append,List.reverse_append,List.take_take];rfl
theorem ZnT (hN:850≤N) (p:Zae) (l:List Zak) (h0:0<l.length) (hl:l.length≤800) (time:Int):ZaE N p (Zkb l) time=some (ZkQ p (Zdw p l).Point time):=by
 unfold ZaE;have e:len (Zkb l)=(l.length:Int):=by simp [len]
 obtain ⟨b1,b2,_⟩:=ZmU p l h0;have hh:=Zid p l (by omega);rw [e,aE (by simp only [beq_iff_eq];omega),show ((l.length:Int)-1)=((l.length-1:Nat):Int) by omega,ZaM (n:=((l.length-1:Nat):Int)) (by omega) (by omega),Zah (by omega),Zah (by omega),zG,Zjt (by omega),Zan,ZeU];refine ZbY (fun m (x:Int×Int×Int)=>∃i:Nat,i+m=l.length∧x=((Zdw p (l.take i)).Point.First,(Zdw p (l.take i)).Point.Hard,(i:Int))) ?_ N l.length _ ⟨0,by omega,rfl⟩ (by omega);rintro G m _ ⟨i,hi,rfl⟩ hG;unfold ZaE.p1;dsimp only;rw [e];by_cases hlt:i<l.length
 ·have hst:=ZmS p l hlt;have ht:=Zid p (l.take i) (by rw [xY];omega);rw [xY,Nat.min_eq_left (by omega)] at ht;have hn:=hG (m-1) _ (by omega) ⟨i+1,by omega,rfl⟩;rw [hst] at hn;have p3 : ∀first:Int,first=(ZfX p (Zdw p (l.take i)) l[i]).Point.First→ZaE.p3 N G time (Zkb l) first (Zdw p (l.take i)).Point.Hard (ZfE p (i:Int)) (i:Int) p l[l.length-1] l[i]=some (ZkQ p (Zdw p l).Point time):=fun first hf=>by
   subst hf;have hd:(ZfX p (Zdw p (l.take i)) l[i]).Point.Hard=if (p.Easy&&l[i].Bits==p.Limit && !ZfE p (i:Int))=true then (Zdw p (l.take i)).Point.Hard else l[i].Bits:=by
    show (if (p.Easy&&l[i].Bits==p.Limit && !ZfE p (Zdw p (l.take i)).Point.Height)=true then _ else _)=_;rw [ht]
   rw [hd] at hn;unfold ZaE.p3 ZaE.p4;rw [ZaM (by omega) (by omega)];have c:((i+1:Nat):Int)=(i:Int)+1:=by omega
   rw [c] at hn;cases h1:p.Easy with
   | false=>rw [h1] at hn;simpa using hn
   | true=>
    rw [h1] at hn;by_cases h2:l[i].Bits=p.Limit
    ·cases h3:ZfE p (i:Int) with
     | true=>rw [h3] at hn;simp [h2] at hn ⊢;exact hn
     | false=>rw [h3] at hn;simp [h2] at hn ⊢;exact hn
    simp [h2] at hn ⊢;exact hn
  have p2:ZaE.p2 N G time (Zkb l) (Zdw p (l.take i)).Point.First (Zdw p (l.take i)).Point.Hard (ZfE p (i:Int)) (i:Int) p l[l.length-1] l[i]=some (ZkQ p (Zdw p l).Point time):=by
   unfold ZaE.p2;have hf:(ZfX p (Zdw p (l.take i)) l[i]).Point.First=if ZfE p (i:Int)=true then l[i].Time else (Zdw p (l.take i)).Point.First:=by
    show (if ZfE p (Zdw p (l.take i)).Point.Height=true then _ else _)=_;rw [ht]
   cases h3:ZfE p (i:Int) with
   | true=>rw [h3] at hf p3;rw [aD rfl];exact p3 _ (by rw [hf];rfl)
   | false=>rw [h3] at hf p3;rw [aE (by simp)];exact p3 _ (by rw [hf];rfl)
  rw [aD (by simp<;>omega),Zah (by omega),zG,Zjt hlt,Zan,ZeU];by_cases hI:p.Interval>0
  ·have:(zX (i:Int) p.Interval==0)=ZfE p (i:Int):=by
    unfold ZfE;rw [xM];simp [hI]
   rw [aD (by simpa using hI),Zah (by omega),this];exact p2
  have:false=ZfE p (i:Int):=by
   unfold ZfE;rw [xM];simp;omega
  rw [aE (by simpa using hI),this];exact p2
 rw [aE (by simp<;>omega),zY (by omega),←b1,←b2,←hh,ZnU (by omega),Zaa]
theorem ZnR (hN:600≤N) (p:Zae) {h:Zak} (hw:wfH h=true):Zek N p h=some ((tgt h.Bits p.Limit).2&&decide (hv (hid h)≤(tgt h.Bits p.Limit).1)):=by
 unfold Zek;have hb:=ZtN h;rw [ZgB (by omega),Zaa];dsimp only;rw [Zjw hN h hw,Zaa,ZnP (by omega) hb.1 hb.2,Zaa,ZfM (by omega) (ZjX _ _) (hv_isN hb.1 hb.2),Zaa];cases (tgt h.Bits p.Limit).2
 ·rfl
 rw [aD rfl]
 congr 1
 rw [xM];simp
theorem ZnV (zs:List Int) (hN:zs.length+2≤N) (hz:zs.length≤1000):ZcP N (Zel zs)=some (Zel (zs.reverse.take 11)):=by
 unfold ZcP;rw [ZeO,ZaM (by omega) (by omega)];refine ZbY (fun m (x:LL×Int)=>∃i:Nat,i+m=zs.length∧i≤11∧x=(Zel (zs.reverse.take i),(zs.length:Int)-1-(i:Int))) ?_ N zs.length _ ⟨0,by omega,by omega,by simp;rfl⟩ (by omega);rintro G m _ ⟨i,hi,h11,rfl⟩ hG;unfold ZcP.p1;dsimp only;by_cases hlt:i<zs.length
 ·rw [aD (by simp<;>omega)];have ll:(zs.reverse.take i).length=i:=by rw [xY,List.length_reverse];omega
  by_cases h:i<11
  ·have hr:zs.length-1-i<zs.length:=by omega
   have t:zs.reverse.take (i+1)=zs.reverse.take i ++ [zs[zs.length-1-i]]:=by
    rw [yJ (by simp;omega),List.getElem_reverse]
   rw [aD (by rw [ZeO,ll];simp<;>omega),ZeO,Zah (by omega),Zah (by omega),show Int.toNat ((zs.length:Int)-1-(i:Int))=zs.length-1-i by omega,Zjs hr,Zan,Zei,ZkV,ZhF,Zah (by rw [ZdT,zU,ll];simp<;>omega),←t,ZaM (by omega) (by omega)];exact hG (m-1) _ (by omega) ⟨i+1,by omega,by omega,by congr 1;omega⟩
  have:i=11:=by omega
  subst this;rw [aE (by rw [ZeO,ll];simp)]
 rw [aE (by simp<;>omega),zY (by simp;omega),zY (by simp;omega)]
theorem Zra (height:Int) (gs:List ZcW) (v:Int) (hv : -2147483648≤v):v<ZhY height gs↔∃g∈gs,g.Height≤height∧v<g.Version:=by
 revert gs;refine ZnM ?_ (fun gs g ih=>?_)
 ·simp [ZhY];omega
 have e:ZhY height (gs ++ [g])=if height≥g.Height∧g.Version>ZhY height gs then g.Version else ZhY height gs:=by unfold ZhY;rw [vQ];rfl
 rw [e];constructor
 ·intro h;split at h
  ·rename_i hc;exact ⟨g,by simp,hc.1,h⟩
  obtain ⟨g',h1,h2⟩:=ih.1 h;exact ⟨g',by simp [h1],h2⟩
 rintro ⟨g',h1,h2,h3⟩;rcases List.mem_append.1 h1 with h1 | h1
 ·have:=ih.2 ⟨g',h1,h2,h3⟩;split<;>omega
 cases List.mem_singleton.1 h1;split
 ·exact h3
 rename_i hc;omega
theorem ref11_p6 (hN:600≤N) (l:List Zak) (hl:l.length≤800) {p:Zae} {cs:List Zcv} (hc:p.Checks=ZjT cs) (lc:cs.length≤400) {h:Zak} (hw:wfH h=true) :
  loopN (Zau.p6 N (Zkb l) p h) N 0=some (if Zgc (l.length:Int) (hid h) cs=false then 8 else 0):=by
 refine ZbY (fun m (x:Int)=>∃i:Nat,i+m=cs.length∧x=(i:Int)∧Zgc (l.length:Int) (hid h) cs=Zgc (l.length:Int) (hid h) (cs.drop i)) ?_ N cs.length _ ⟨0,by omega,rfl,by rw [List.drop_zero]⟩ (by omega);rintro G m _ ⟨i,hi,rfl,ht⟩ hG;unfold Zau.p6;have e:len (Zkb l)=(l.length:Int):=by simp [len]
 rw [hc,e];by_cases hlt:i<cs.length
 ·rw [yQ hlt] at ht;have e:Zgc (l.length:Int) (hid h) (cs[i]::cs.drop (i+1))=((!(cs[i].Height==(l.length:Int))||cs[i].Id==hid h)&&Zgc (l.length:Int) (hid h) (cs.drop (i+1))):=rfl;rw [e] at ht;rw [aD (by simp [len]<;>omega),Zah (by omega),zG,Zjv hlt,Zan,Zfe,ZaM (by omega) (by omega)];by_cases h1:(cs[i].Height==(l.length:Int))=true
  ·rw [aD h1,Zjw hN h hw,Zaa];by_cases h2:(cs[i].Id==hid h)=true
   ·rw [aE (by simp [h2])];exact hG (m-1) _ (by omega) ⟨i+1,by omega,rfl,by rw [ht];simp [h2]⟩
   rw [aD (by simpa using h2),ht];simp [h1,h2]
  rw [aE h1];exact hG (m-1) _ (by omega) ⟨i+1,by omega,rfl,by rw [ht];simp [h1]⟩
 rw [aE (by simp [len]<;>omega),ht,wH (by omega)];rfl
theorem ref11_p5 (hN:600≤N) (l:List Zak) (hl:l.length≤800) {p:Zae} {gs:List ZcW} {cs:List Zcv} (hg:p.Gates=Zmz gs) (lg:gs.length≤400) (hc:p.Checks=ZjT cs) (lc:cs.length≤400) {h:Zak} (hw:wfH h=true) (hv : -2147483648≤h.Version) :
  Zau.p4 N (Zkb l) p h=some (if h.Version<ZhY (l.length:Int) gs then 7 else if Zgc (l.length:Int) (hid h) cs=false then 8 else 0):=by
 unfold Zau.p4;refine ZbY (fun m (x:Int)=>∃i:Nat,i+m=gs.length∧x=(i:Int)∧∀g∈gs.take i,¬ (g.Height≤(l.length:Int)∧h.Version<g.Version)) ?_ N gs.length _ ⟨0,by omega,rfl,fun g hg=>by simp at hg⟩ (by omega);rintro G m _ ⟨i,hi,rfl,ht⟩ hG;unfold Zau.p5;have e:len (Zkb l)=(l.length:Int):=by simp [len]
 rw [hg,e];by_cases hlt:i<gs.length
 ·have next : ¬ (gs[i].Height≤(l.length:Int)∧h.Version<gs[i].Version)→∀g∈gs.take (i+1),¬ (g.Height≤(l.length:Int)∧h.Version<g.Version):=fun hn g hgm=>by
   rw [yJ hlt] at hgm;rcases List.mem_append.1 hgm with k | k
   ·exact ht g k
   cases List.mem_singleton.1 k;exact hn
  rw [aD (by simp [len]<;>omega),Zah (by omega),zG,Zju hlt,Zan,Zfv,ZaM (by omega) (by omega)];by_cases h1:gs[i].Height≤(l.length:Int)
  ·rw [aD (by simpa using h1)];by_cases h2:h.Version<gs[i].Version
   ·rw [aD (by simpa using h2),aD ((Zra _ gs _ hv).2 ⟨gs[i],List.getElem_mem hlt,h1,h2⟩)]
   rw [aE (by simpa using h2)];exact hG (m-1) _ (by omega) ⟨i+1,by omega,rfl,next fun k=>h2 k.2⟩
  rw [aE (by simpa using h1)];exact hG (m-1) _ (by omega) ⟨i+1,by omega,rfl,next fun k=>h1 k.1⟩
 rw [aE (by simp [len]<;>omega),ref11_p6 hN l hl hc lc hw,aE (c:=h.Version<ZhY (l.length:Int) gs)];intro k;obtain ⟨g,h1,h2⟩:=(Zra _ gs _ hv).1 k;rw [zY (by omega)] at ht;exact ht g h1 h2
theorem ZmC (hN:900≤N) {p:Zae} {gs:List ZcW} {cs:List Zcv} (hg:p.Gates=Zmz gs) (lg:gs.length≤400) (hc:p.Checks=ZjT cs) (lc:cs.length≤400)
  (l:List Zak) (h0:0<l.length) (hl:l.length≤800) (hw2 : ∀x∈l,wfH x=true) {h:Zak} (hw:wfH h=true) (now:Int) (hnow:0≤now∧now≤9223372036854775807) :
  Zau N p (Zkb l) h now=some (ZfK p gs cs (Zdw p l) h now):=by
 unfold Zau;have e:len (Zkb l)=(l.length:Int):=by simp [len]
 obtain ⟨b1,b2,b3⟩:=ZmU p l h0;have hh:=Zid p l (by omega);rw [ZiI,Zaa];unfold ZfK;cases hgd:ZgD h with
 | false=>rfl
 | true=>
  have tr:=(ZpJ h).1 hgd;rw [aE (c:=(!true)=true) (by simp),aE (c:=true=false) (by simp),e,aD (by simp only [decide_eq_true_eq,gt_iff_lt];omega),show ((l.length:Int)-1)=((l.length-1:Nat):Int) by omega,ZaM (n:=((l.length-1:Nat):Int)) (by omega) (by omega),Zah (by omega),Zah (by omega),zG,Zjt (by omega),Zan,ZeU,Zjw (by omega) _ (hw2 _ (List.getElem_mem _)),Zaa,←b3];by_cases h2:h.Prev=(Zdw p l).Prev
  ·rw [aE (c:=(!(h.Prev==(Zdw p l).Prev))=true) (by simp [h2]),aE (c:=h.Prev≠(Zdw p l).Prev) (by simp [h2])];unfold Zau.p1;rw [ZnT (by omega) p l h0 hl,Zaa];by_cases h3:h.Bits=ZkQ p (Zdw p l).Point h.Time
   ·rw [aE (c:=(h.Bits != ZkQ p (Zdw p l).Point h.Time)=true) (by simpa using h3),aE (c:=h.Bits≠ZkQ p (Zdw p l).Point h.Time) (by simpa using h3),ZnR (by omega) p hw,Zaa];have it:ZkH p h=if ((tgt h.Bits p.Limit).2&&decide (hv (hid h)≤(tgt h.Bits p.Limit).1))=true then 0 else 4:=by
     unfold ZkH;rw [hgd,aE (c:=true=false) (by simp)];cases (tgt h.Bits p.Limit).2
     ·rfl
     by_cases k:hv (hid h)≤(tgt h.Bits p.Limit).1<;>simp [k]
    cases h4:((tgt h.Bits p.Limit).2&&decide (hv (hid h)≤(tgt h.Bits p.Limit).1)) with
    | false=>
     rw [h4] at it;rw [aD (by rfl),aD (c:=ZkH p h≠0) (by rw [it];decide)]
    | true=>
     rw [h4] at it;rw [aE (c:=(!true)=true) (by simp),aE (c:=ZkH p h≠0) (by rw [it];decide)];have tm:=Zqn p l;have tl:0<((l.map (·.Time)).reverse.take 11).length:=by rw [xY,List.length_reverse,wC];omega
     refine ZbY (fun m (x:LL×Int)=>∃i:Nat,i+m=l.length∧x=(Zel ((l.take i).map (·.Time)),(i:Int))) ?_ N l.length _ ⟨0,by omega,rfl⟩ (by omega);rintro G m _ ⟨i,hi,rfl⟩ hG;unfold Zau.p2;dsimp only;rw [e];by_cases hlt:i<l.length
     ·rw [aD (by simp<;>omega),Zah (by omega),zG,Zjt hlt,Zan,ZeU,ZkV,ZhF,Zah (by rw [ZdT,zU,wC,xY];simp<;>omega),ZaM (by omega) (by omega)];refine hG (m-1) _ (by omega) ⟨i+1,by omega,?_⟩;rw [yJ hlt,List.map_append];rfl
     rw [aE (by simp<;>omega),zY (by omega),aD (by simp only [decide_eq_true_eq,gt_iff_lt];omega),ZnV _ (by rw [wC];omega) (by rw [wC];omega),Zaa,Zah (ZmX _),Zsn N (by omega),Zaa,←tm];rw [←tm] at tl;by_cases h5:h.Time≤M (Zms (Zdw p l).Times)
     ·rw [aD (by simpa using h5),aD (c:=((Zms (Zdw p l).Times).length==0||decide (h.Time>M (Zms (Zdw p l).Times)))=false) (by
       simp only [Bool.or_eq_false_iff,beq_eq_false_iff_ne,decide_eq_false_iff_not];omega)]
     rw [aE (by simpa using h5),aE (c:=((Zms (Zdw p l).Times).length==0||decide (h.Time>M (Zms (Zdw p l).Times)))=false) (by
      simp only [Bool.or_eq_false_iff,beq_eq_false_iff_ne,decide_eq_false_iff_not];omega)]
     unfold Zau.p3;rw [ref11_p5 (by omega) l hl hg lg hc lc hw tr.1,hh];have nr:near h.Time now p.Future=decide (0≤p.Future∧(h.Time≤now∨h.Time-now≤p.Future)):=rfl;by_cases f:p.Future<0
     ·rw [aD (by simpa using f),aD (c:=near h.Time now p.Future=false) (by rw [nr];simp only [decide_eq_false_iff_not];omega)]
     rw [aE (by simpa using f)];by_cases g:h.Time>now
     ·rw [aD (by simpa using g),ZaM (by omega) (by omega)];by_cases k:h.Time-now>p.Future
      ·rw [aD (by simpa using k),aD (c:=near h.Time now p.Future=false) (by rw [nr];simp only [decide_eq_false_iff_not];omega)]
      rw [aE (by simpa using k),aE (c:=near h.Time now p.Future=false) (by rw [nr];simp only [decide_eq_false_iff_not];omega)]
     rw [aE (by simpa using g),aE (c:=near h.Time now p.Future=false) (by rw [nr];simp only [decide_eq_false_iff_not];omega)]
   rw [aD (by simpa using h3),aD h3]
  rw [aD (by simpa using h2),aD h2]
def Zmu (last:Int):List Int→Bool
 | []=>true
 | x::l=>decide (last<x)&&Zmu x l
def ZmA (p:Zae) (gs:List ZcW) (cs:List Zcv):Bool:=ZiQ p&&ZgD p.Genesis&&Zmu (-1) (gs.map (·.Height))&&Zmu 0 (cs.map (·.Height))
theorem ZnS (hN:500≤N) {p:Zae} {gs:List ZcW} {cs:List Zcv} (hg:p.Gates=Zmz gs) (lg:gs.length≤400) (hc:p.Checks=ZjT cs) (lc:cs.length≤400) :
  ZbB N p=some (ZmA p gs cs):=by
 unfold ZbB ZmA;rw [Zjy (by omega),Zaa,ZiI,Zaa];cases ZiQ p
 ·rfl
 cases ZgD p.Genesis
 ·rfl
 rw [aE (by simp),aE (by simp)];have p2:loopN (ZbB.p2 N p) N (0,0)=some (Zmu 0 (cs.map (·.Height))):=by
  refine ZbY (fun m (x:Int×Int)=>∃(i:Nat) (last:Int),i+m=cs.length∧x=(last,(i:Int))∧Zmu 0 (cs.map (·.Height))=Zmu last ((cs.drop i).map (·.Height))) ?_ N cs.length _ ⟨0,0,by omega,rfl,rfl⟩ (by omega);rintro G m _ ⟨i,last,hi,rfl,hI⟩ hG;unfold ZbB.p2;dsimp only;have e:len (ZjT cs)=(cs.length:Int):=by simp [len]
  rw [hc,e];by_cases hlt:i<cs.length
  ·rw [yQ hlt,xD] at hI;simp only [Zmu] at hI;rw [aD (by simp<;>omega),Zah (by omega),zG,Zjv hlt,Zan,Zfe,ZaM (by omega) (by omega)];by_cases h1:cs[i].Height≤last
   ·rw [aD (by simpa using h1),hI,show decide (last<cs[i].Height)=false by simp;omega];rfl
   rw [aE (by simpa using h1)];exact hG (m-1) _ (by omega) ⟨i+1,_,by omega,rfl,by rw [hI,show decide (last<cs[i].Height)=true by simp;omega];rfl⟩
  rw [aE (by simp<;>omega),hI,wH (by omega)];rfl
 refine ZbY (fun m (x:Int×Int)=>∃(i:Nat) (last:Int),i+m=gs.length∧x=(last,(i:Int))∧Zmu (-1) (gs.map (·.Height))=Zmu last ((gs.drop i).map (·.Height))) ?_ N gs.length _ ⟨0,-1,by omega,rfl,rfl⟩ (by omega);rintro G m _ ⟨i,last,hi,rfl,hI⟩ hG;unfold ZbB.p1;dsimp only;have e:len (Zmz gs)=(gs.length:Int):=by simp [len]
 rw [hg,e];by_cases hlt:i<gs.length
 ·rw [yQ hlt,xD] at hI;simp only [Zmu] at hI;rw [aD (by simp<;>omega),Zah (by omega),zG,Zju hlt,Zan,Zfv,ZaM (by omega) (by omega)];by_cases h1:gs[i].Height≤last
  ·rw [aD (by simpa using h1),hI,show decide (last<gs[i].Height)=false by simp;omega];rfl
  rw [aE (by simpa using h1)];exact hG (m-1) _ (by omega) ⟨i+1,_,by omega,rfl,by rw [hI,show decide (last<gs[i].Height)=true by simp;omega];rfl⟩
 rw [aE (by simp<;>omega),hI,wH (by omega),p2];rfl
theorem Zpa (hN:500≤N) {p:Zae} {gs:List ZcW} {cs:List Zcv} (hg:p.Gates=Zmz gs) (lg:gs.length≤400) (hc:p.Checks=ZjT cs) (lc:cs.length≤400) :
  Zcm N p=some (ZmA p gs cs):=by
 unfold Zcm ZmA;rw [ZkF (by omega),Zaa,Zfj,Zaa];cases ZiQ p
 ·rfl
 cases ZgD p.Genesis
 ·rfl
 rw [aE (by simp),aE (by simp)];have p2:loopN (Zcm.p2 N p) N 0=some (Zmu 0 (cs.map (·.Height))):=by
  refine ZbY (fun m (x:Int)=>∃(i:Nat) (last:Int),i+m=cs.length∧x=(i:Int)∧0≤last∧(i=0→last=0)∧(∀h:0<i∧i-1<cs.length,last=cs[i-1].Height)∧Zmu 0 (cs.map (·.Height))=Zmu last ((cs.drop i).map (·.Height))) ?_ N cs.length _ ⟨0,0,by omega,rfl,by omega,fun _=>rfl,fun h=>by omega,rfl⟩ (by omega);rintro G m _ ⟨i,last,hi,rfl,h0,hz,hp,hI⟩ hG;unfold Zcm.p2;have e:len (ZjT cs)=(cs.length:Int):=by simp [len]
  rw [hc,e];by_cases hlt:i<cs.length
  ·rw [yQ hlt,xD] at hI;simp only [Zmu] at hI;have nx:last<cs[i].Height→G ((i:Int)+1)=some (true&&true&&true&&Zmu 0 (cs.map (·.Height))):=fun k=>
    hG (m-1) _ (by omega) ⟨i+1,cs[i].Height,by omega,by omega,by omega,by omega,fun _=>rfl,by rw [hI,show decide (last<cs[i].Height)=true by simp;omega];rfl⟩
   have bad : ¬ last<cs[i].Height→Zmu 0 (cs.map (·.Height))=false:=fun k=>by rw [hI,show decide (last<cs[i].Height)=false by simp;omega];rfl
   rw [aD (by simp<;>omega),Zah (by omega),zG,Zjv hlt,Zan,Zfe,ZaM (n:=(i:Int)+1) (by omega) (by omega)];by_cases h1:cs[i].Height<1
   ·rw [aD (by simpa using h1),bad (by omega)]
   rw [aE (by simpa using h1)];by_cases hi0:i=0
   ·have:=hz hi0;rw [aE (by simp [hi0])];exact nx (by omega)
   have:=hp ⟨by omega,by omega⟩;rw [aD (by simp<;>omega),show (i:Int)-1=((i-1:Nat):Int) by omega,ZaM (n:=((i-1:Nat):Int)) (by omega) (by omega),Zah (by omega),Zah (by omega),zG,Zjv (show i-1<cs.length by omega),Zan,Zfe,←this];by_cases h2:cs[i].Height≤last
   ·rw [aD (by simpa using h2),bad (by omega)]
   rw [aE (by simpa using h2)];exact nx (by omega)
  rw [aE (by simp<;>omega),hI,wH (by omega)];rfl
 refine ZbY (fun m (x:Int)=>∃(i:Nat) (last:Int),i+m=gs.length∧x=(i:Int)∧-1≤last∧(i=0→last = -1)∧(∀h:0<i∧i-1<gs.length,last=gs[i-1].Height)∧Zmu (-1) (gs.map (·.Height))=Zmu last ((gs.drop i).map (·.Height))) ?_ N gs.length _ ⟨0,-1,by omega,rfl,by omega,fun _=>rfl,fun h=>by omega,rfl⟩ (by omega);rintro G m _ ⟨i,last,hi,rfl,h0,hz,hp,hI⟩ hG;unfold Zcm.p1;have e:len (Zmz gs)=(gs.length:Int):=by simp [len]
 rw [hg,e];by_cases hlt:i<gs.length
 ·rw [yQ hlt,xD] at hI;simp only [Zmu] at hI;have nx:last<gs[i].Height→0≤gs[i].Height→G ((i:Int)+1)=some (true&&true&&Zmu (-1) (gs.map (·.Height))&&Zmu 0 (cs.map (·.Height))):=fun k k2=>
   hG (m-1) _ (by omega) ⟨i+1,gs[i].Height,by omega,by omega,by omega,by omega,fun _=>rfl,by rw [hI,show decide (last<gs[i].Height)=true by simp;omega];rfl⟩
  have bad : ¬ last<gs[i].Height→Zmu (-1) (gs.map (·.Height))=false:=fun k=>by rw [hI,show decide (last<gs[i].Height)=false by simp;omega];rfl
  rw [aD (by simp<;>omega),Zah (by omega),zG,Zju hlt,Zan,Zfv,ZaM (n:=(i:Int)+1) (by omega) (by omega)];by_cases h1:gs[i].Height<0
  ·rw [aD (by simpa using h1),bad (by omega)];rfl
  rw [aE (by simpa using h1)];by_cases hi0:i=0
  ·have:=hz hi0;rw [aE (by simp [hi0])];exact nx (by omega) (by omega)
  have:=hp ⟨by omega,by omega⟩;rw [aD (by simp<;>omega),show (i:Int)-1=((i-1:Nat):Int) by omega,ZaM (n:=((i-1:Nat):Int)) (by omega) (by omega),Zah (by omega),Zah (by omega),zG,Zju (show i-1<gs.length by omega),Zan,Zfv,←this];by_cases h2:gs[i].Height≤last
  ·rw [aD (by simpa using h2),bad (by omega)];rfl
  rw [aE (by simpa using h2)];exact nx (by omega) (by omega)
 rw [aE (by simp<;>omega),hI,wH (by omega),p2];rfl
end Go.Dn.F
