import Derived.Test.YtbijmojagnjgcaaGreatDoorNum
set_option linter.all false
open Bool renaming eq_iff_iff→xH
open Int renaming toNat_natCast→zG,tmod→zW
open List renaming take_succ_eq_append_getElem→yE,foldl_append→vH,take_of_length_le→zX,drop_eq_getElem_cons→yU,drop_of_length_le→xZ,length_append→zT,length_take→xO,length_map→xQ,map_cons→xA
set_option maxRecDepth 40000
namespace Go.Dn.F
open Go.Dn Go.Proofs
variable {N:Nat}
theorem Ztt (h:Zaj):(hid h).length=32∧bys (hid h):=by
 obtain ⟨b,e,l⟩:=hid_by h;rw [e];refine ⟨by simpa using l,fun x hx=>?_⟩;obtain ⟨y,_,rfl⟩:=List.mem_map.1 hx;exact ⟨ZtN y,ZtO y⟩
def Zkq (p:Zae) (h:Zaj):Int:=
 if Zgi h=false then 1 else if (tgt h.Bits p.Limit).2=false then 4 else if hv (hid h)≤(tgt h.Bits p.Limit).1 then 0 else 4
theorem Zmc (hN:500≤N) (p:Zae) {h:Zaj} (hw:wfH h=true):Zek N p h=some (Zkq p h):=by
 unfold Zek Zkq;rw [ZeS,Zaa,Zfo (by omega),Zaa];dsimp only;have hb:=Ztt h;rw [Zgj hN hw,Zaa,ZkA (by omega) hb.1 hb.2 (ZjK _ _),Zaa];cases Zgi h
 ·rfl
 cases (tgt h.Bits p.Limit).2
 ·rfl
 by_cases k:hv (hid h)≤(tgt h.Bits p.Limit).1<;>simp [k]
def ZhI (height:Int) (gs:List ZcJ):Int:=gs.foldl (fun l g=>if height≥g.Height∧g.Version>l then g.Version else l) (-2147483648)
noncomputable def Zme (l:List ZcJ):LL:=l.map ZcJ.ls
noncomputable def ZjF (l:List Zci):LL:=l.map Zci.ls
theorem Zjf {l:List ZcJ} {i:Nat} (h:i<l.length):(Zme l)[i]? = some l[i].ls:=by simp [Zme,h]
theorem Zjg {l:List Zci} {i:Nat} (h:i<l.length):(ZjF l)[i]? = some l[i].ls:=by simp [ZjF,h]
@[simp] theorem ZpT (l:List ZcJ):(Zme l).length=l.length:=by simp [Zme]
@[simp] theorem ZpU (l:List Zci):(ZjF l).length=l.length:=by simp [ZjF]
theorem open_G {xs:LL} (h : ∀x∈xs,ZhB [.int .i64,.int .i64] x) : ∃l:List ZcJ,xs=Zme l:=
 let ⟨l,h,_⟩:=Zrg (e:=ZcJ.ls) (good:=fun _=>True) fun x hx=>by
  obtain ⟨_,_,rfl,h1,h⟩:=(h x hx).cons_inv;obtain ⟨_,_,rfl,h2,h⟩:=h.cons_inv;cases h.nil_inv;obtain ⟨a,rfl,_⟩:=h1.int_inv;obtain ⟨b,rfl,_⟩:=h2.int_inv;exact ⟨⟨a,b⟩,rfl,trivial⟩
 ⟨l,h⟩
theorem open_K {xs:LL} (h : ∀x∈xs,ZhB [.int .i64,.arr .u8 32] x) : ∃l:List Zci,xs=ZjF l:=
 let ⟨l,h,_⟩:=Zrg (e:=Zci.ls) (good:=fun _=>True) fun x hx=>by
  obtain ⟨_,_,rfl,h1,h⟩:=(h x hx).cons_inv;obtain ⟨_,_,rfl,h2,h⟩:=h.cons_inv;cases h.nil_inv;obtain ⟨a,rfl,_⟩:=h1.int_inv;obtain ⟨b,rfl,_⟩:=h2.arr_inv;exact ⟨⟨a,b⟩,rfl,trivial⟩
 ⟨l,h⟩
theorem ZkZ (height:Int) (gs:List ZcJ) (hg:gs.length<N) (hb:gs.length<1000000):Zbh N height (Zme gs)=some (ZhI height gs):=by
 unfold Zbh;refine ZbY (fun m (x:Int×Int)=>∃i:Nat,i+m=gs.length∧x=(ZhI height (gs.take i),(i:Int))) ?_ N gs.length _ ⟨0,by omega,rfl⟩ hg;rintro G m _ ⟨i,hi,rfl⟩ hG;unfold Zbh.p1 Zbh.p2;dsimp only;by_cases hlt:i<gs.length
 ·rw [if_pos (by simp [len];omega),Zag (by omega),zG,Zjf hlt,Zat,Zfg,ZaH (by omega) (by omega)];have st:ZhI height (gs.take (i+1))=if height≥gs[i].Height∧gs[i].Version>ZhI height (gs.take i) then gs[i].Version else ZhI height (gs.take i):=by
   unfold ZhI;rw [yE hlt,vH];rfl
  have hn:=hG (m-1) (ZhI height (gs.take (i+1)),((i+1:Nat):Int)) (by omega) ⟨i+1,by omega,rfl⟩;rw [st] at hn;by_cases h1:height≥gs[i].Height
  ·rw [if_pos (by simpa using h1)];by_cases h2:gs[i].Version>ZhI height (gs.take i)
   ·rw [if_pos ⟨h1,h2⟩] at hn;rw [if_pos h2];exact hn
   rw [if_neg (fun h=>h2 h.2)] at hn;rw [if_neg h2];exact hn
  rw [if_neg (by simpa using h1)];rw [if_neg (fun h=>h1 h.1)] at hn;exact hn
 rw [if_neg (by simp [len];omega),zX (by omega)]
def ZfN (height:Int) (id:List Int) (cs:List Zci):Bool:=cs.all fun c=>!(c.Height==height)||c.Id==id
theorem Zla (height:Int) (id:List Int) (cs:List Zci) (hg:cs.length<N) (hb:cs.length<1000000):Zcg N height id (ZjF cs)=some (ZfN height id cs):=by
 unfold Zcg;refine ZbY (fun m (x:Int)=>∃i:Nat,i+m=cs.length∧x=(i:Int)∧ZfN height id cs=ZfN height id (cs.drop i)) ?_ N cs.length _ ⟨0,by omega,rfl,by rw [List.drop_zero]⟩ hg;rintro G m _ ⟨i,hi,rfl,ht⟩ hG;unfold Zcg.p1;by_cases hlt:i<cs.length
 ·rw [yU hlt] at ht;have e:ZfN height id (cs[i]::cs.drop (i+1))=((!(cs[i].Height==height)||cs[i].Id==id)&&ZfN height id (cs.drop (i+1))):=rfl;rw [e] at ht;rw [if_pos (by simp [len];omega),Zag (by omega),zG,Zjg hlt,Zat,ZeO,ZaH (by omega) (by omega)];by_cases h1:(cs[i].Height==height)=true
  ·rw [if_pos h1];by_cases h2:(cs[i].Id==id)=true
   ·rw [if_neg (by simp [h2])];exact hG (m-1) _ (by omega) ⟨i+1,by omega,rfl,by rw [ht];simp [h2]⟩
   rw [if_pos (by simpa using h2),ht];simp [h1,h2]
  rw [if_neg h1];exact hG (m-1) _ (by omega) ⟨i+1,by omega,rfl,by rw [ht];simp [h1]⟩
 rw [if_neg (by simp [len];omega),ht,xZ (by omega)];rfl
def near (t now f:Int):Bool:=decide (0≤f∧(t≤now∨t-now≤f))
theorem Zmk {t now:Int} (f:Int) (h1:0≤t∧t≤1152921504606846976) (h2 : -1152921504606846976≤now∧now≤9223372036854775807):Zel N t now f=some (near t now f):=by
 unfold Zel near;rw [ZaH (by omega) (by omega)]
 repeat' split
 all_goals (refine Zgf ⟨fun h=>?_,fun h=>?_⟩<;>simp only [decide_eq_true_eq,Bool.false_eq_true] at * <;> first | trivial | omega)
def Zfx (p:Zae) (gs:List ZcJ) (cs:List Zci) (s:ZaU) (h:Zaj) (now:Int):Int:=
 if Zgi h=false then 1
 else if h.Prev≠s.Prev then 2
 else if h.Bits≠Zkx p s.Point h.Time then 3
 else if Zkq p h≠0 then 4
 else if ((ZlW s.Times).length==0||decide (h.Time>M (ZlW s.Times)))=false then 5
 else if near h.Time now p.Future=false then 6
 else if h.Version<ZhI s.Point.Height gs then 7
 else if ZfN s.Point.Height (hid h) cs=false then 8 else 0
theorem Zng (hN:500≤N) {p:Zae} {gs:List ZcJ} {cs:List Zci} (hg:p.Gates=Zme gs) (hc:p.Checks=ZjF cs) (lg:gs.length≤400) (lc:cs.length≤400)
  {s:ZaU} {h:Zaj} (hw:wfH h=true) (hs:isI s.Times=true) (now:Int) (hnow : -1152921504606846976≤now∧now≤9223372036854775807) :
  Zey N p s h now=some (Zfx p gs cs s h now):=by
 unfold Zey Zfx;rw [ZeS,Zaa];cases hgd:Zgi h with
 | false=>rfl
 | true=>
  have tr:=(Zph h).1 hgd;have ht:s.Times=ZdY (ZlW s.Times):=ZkK hs;rw [if_neg (c:=(!true)=true) (by simp),if_neg (c:=true=false) (by simp)];by_cases h2:h.Prev=s.Prev
  ·rw [if_neg (by simp [h2]),if_neg (by simp [h2]),ZoR (by omega),Zaa];by_cases h3:h.Bits=Zkx p s.Point h.Time
   ·rw [if_neg (by simp [h3]),if_neg (by simp [h3]),Zmc hN p hw,Zaa];by_cases h4:Zkq p h=0
    ·rw [if_neg (by simp [h4]),if_neg (by simp [h4]),show ZdK N h.Time s.Times=_ from (congrArg (ZdK N h.Time) ht).trans (Zqi N h.Time (ZlW s.Times)),Zaa];cases h5:((ZlW s.Times).length==0||decide (h.Time>M (ZlW s.Times)))
     ·rfl
     rw [if_neg (by simp),if_neg (by simp),Zmk _ (by omega) hnow,Zaa];cases h6:near h.Time now p.Future
     ·rfl
     rw [if_neg (by simp),if_neg (by simp),hg,ZkZ _ gs (by omega) (by omega),Zaa];by_cases h7:h.Version<ZhI s.Point.Height gs
     ·rw [if_pos (by simpa using h7),if_pos h7]
     rw [if_neg (by simpa using h7),if_neg h7,Zgj hN hw,Zaa,hc,Zla _ _ cs (by omega) (by omega),Zaa];cases ZfN s.Point.Height (hid h) cs<;>rfl
    rw [if_pos (by simpa using h4),if_pos h4]
   rw [if_pos (by simpa using h3),if_pos h3]
  rw [if_pos (by simpa using h2),if_pos h2]
theorem ZjP (hN:300≤N) (p:Zae) (b f t:Int):ZaA N p b f t=some (retg p b f t):=by
 unfold ZaA retg;rw [Zgh hN,Zaa];dsimp only;rw [Zjj hN,Zaa];cases hg:ZiB p with
 | false=>rw [if_pos (by rfl),if_neg (by simp)]
 | true=>
  rw [if_neg (by simp)];cases ht:(tgt b p.Limit).2 with
  | false=>rw [if_pos (by rfl),if_neg (by simp)]
  | true=>
   rw [if_neg (by simp)];have hn:=ZjK b p.Limit;have hL:=ZjK p.Limit p.Limit;have D:=Zhe hg;have S:=Zlm hg f t;have enc : ∀{x:Int},isN x→ZaA.p3 N (nw x)=some (Zsk x):=fun h=>by
    unfold ZaA.p3;rw [Znq hN h,Zaa]
   have p2:ZaA.p2 N p (ZfL p f t) (nw (tgt b p.Limit).1)=some (if (tgt b p.Limit).1*ZfL p f t/Zhv p<2^256∧(tgt b p.Limit).1*ZfL p f t/Zhv p≤(tgt p.Limit p.Limit).1
     then Zsk (if (tgt b p.Limit).1*ZfL p f t/Zhv p=0 then 1 else (tgt b p.Limit).1*ZfL p f t/Zhv p) else p.Limit):=by
    have hLt:=Zgh hN p.Limit p.Limit;unfold ZaA.p2;rw [ZkR hg,ZsH hN hn S (by omega),Zaa];dsimp only;rw [hLt,Zaa];dsimp only;have q0:0≤(tgt b p.Limit).1*ZfL p f t/Zhv p:=Int.ediv_nonneg (Int.mul_nonneg hn.1 S.1) (by omega);generalize (tgt b p.Limit).1*ZfL p f t/Zhv p=Q at *;by_cases big:Q<2^256
    ·have hQ:isN Q:=⟨q0,big⟩
     rw [if_neg (by simpa using big),Int.emod_eq_of_lt q0 big,ZfQ hN hL hQ,Zaa];by_cases hl:(tgt p.Limit p.Limit).1<Q
     ·rw [if_pos (by simpa using hl),if_neg (by omega)]
     rw [if_neg (by simpa using hl)];have z:(nw Q==List.replicate 4 0)=decide (Q=0):=Option.some.inj (Zer (N:=0) hQ);rw [z,if_pos (c:=Q<2^256∧Q≤(tgt p.Limit p.Limit).1) ⟨big,by omega⟩];by_cases h0:Q=0
     ·rw [if_pos (by simpa using h0),if_pos h0,Zqe (by unfold isW;omega),enc (by unfold isN;omega)]
     rw [if_neg (by simpa using h0),if_neg h0,enc hQ]
    rw [if_pos (by simpa using big),if_neg (by omega)]
   have fin:ZaA.p2 N p (ZfL p f t) (nw (tgt b p.Limit).1)=some (if ZiB p=true∧(tgt b p.Limit).2=true∧(tgt b p.Limit).1*ZfL p f t/Zhv p<2^256∧(tgt b p.Limit).1*ZfL p f t/Zhv p≤(tgt p.Limit p.Limit).1
     then Zsk (if (tgt b p.Limit).1*ZfL p f t/Zhv p=0 then 1 else (tgt b p.Limit).1*ZfL p f t/Zhv p) else p.Limit):=by
    rw [p2,hg,ht];simp only [true_and]
   rw [hg,ht] at fin;refine Eq.trans ?_ fin;have p1 : ∀y:Int,ZfL p f t=(if Zhv p*4<y then Zhv p*4 else y)→ZaA.p1 N p y (nw (tgt b p.Limit).1)=ZaA.p2 N p (ZfL p f t) (nw (tgt b p.Limit).1):=fun y hy=>by
    unfold ZaA.p1;rw [ZkR hg,ZaH (n:=Zhv p*4) (by omega) (by omega),hy];by_cases h:Zhv p*4<y
    ·rw [if_pos (by simpa using h),if_pos h]
    rw [if_neg (by simpa using h),if_neg h]
   rw [ZkR hg,ZeJ (by omega),ZaH (n:=Zhv p/4) (by omega) (by omega)];by_cases h:w64 (t-f)<Zhv p/4
   ·rw [if_pos (by simpa using h)];exact p1 _ (by unfold ZfL;rw [if_pos (show Zhv p/4>w64 (t-f) from h)])
   rw [if_neg (by simpa using h)];exact p1 _ (by unfold ZfL;rw [if_neg (show ¬ Zhv p/4>w64 (t-f) from h)])
theorem Znu (hN:300≤N) (p:Zae) (a:ZdJ) (own:Int):ZcB N p a.Height a.Bits a.Time a.First a.Hard own=some (Zkx p a own):=by
 unfold ZcB Zkx;have p1:ZcB.p1 N a.Bits a.Time a.Hard own p=some (if p.Easy=false then a.Bits else if w64 (own-a.Time)>w64 (2*p.Spacing) then p.Limit else a.Hard):=by
  unfold ZcB.p1;cases p.Easy
  ·rfl
  rw [if_neg (c:=(!true)=true) (by simp),if_neg (c:=true=false) (by simp)];by_cases h:w64 (own-a.Time)>w64 (2*p.Spacing)
  ·rw [if_pos (by simpa using h),if_pos h]
  rw [if_neg (by simpa using h),if_neg h]
 by_cases h0:a.Height≤0
 ·rw [if_pos (by simpa using h0),if_pos h0]
 rw [if_neg (by simpa using h0),if_neg h0,p1,ZjP hN,Zaa];unfold Zfr;by_cases hi:p.Interval>0
 ·rw [if_pos (by simpa using hi),Zag (by omega)];by_cases hm:zW a.Height p.Interval=0
  ·rw [if_pos (by simpa using hm),if_pos (c:=decide (0<p.Interval∧zW a.Height p.Interval=0)=true) (by simp [hm]<;>omega)]
  rw [if_neg (by simpa using hm),if_neg (c:=decide (0<p.Interval∧zW a.Height p.Interval=0)=true) (by simp [hm])]
 rw [if_neg (by simpa using hi),if_neg (c:=decide (0<p.Interval∧zW a.Height p.Interval=0)=true) (by simp<;>omega)]
def s0 (p:Zae):ZaU:=⟨⟨0,0,0,0,p.Limit⟩,List.replicate 32 0,[]⟩
def Zdf (p:Zae) (l:List Zaj):ZaU:=l.foldl (ZfI p) (s0 p)
theorem Zmw (p:Zae) (l:List Zaj) {i:Nat} (h:i<l.length):Zdf p (l.take (i+1))=ZfI p (Zdf p (l.take i)) l[i]:=by
 unfold Zdf;rw [yE h,vH];rfl
theorem ZhM (p:Zae) : ∀l:List Zaj,l.length<1000000→(Zdf p l).Point.Height=l.length:=by
 refine Znm (fun _=>rfl) (fun l h ih hl=>?_);unfold Zdf at *;rw [vH];show w64 ((List.foldl (ZfI p) (s0 p) l).Point.Height+1)=_;rw [zT,List.length_singleton] at *;rw [ih (by omega),ZaH (by omega) (by omega)];omega
theorem Zmy (p:Zae) (l:List Zaj) (h:0<l.length):(Zdf p l).Point.Bits=(l[l.length-1]).Bits∧(Zdf p l).Point.Time=(l[l.length-1]).Time∧(Zdf p l).Prev=hid l[l.length-1]:=by
 have:=Zmw p l (i:=l.length-1) (by omega);rw [zX (by omega)] at this;rw [this];exact ⟨rfl,rfl,rfl⟩
theorem ZpN (p:Zae) : ∀l:List Zaj,ZlW (Zdf p l).Times=((l.map (·.Time)).reverse).take 11:=by
 refine Znm rfl (fun l h ih=>?_);unfold Zdf at *;rw [vH];show ZlW (ZdY (h.Time::(ZlW (List.foldl (ZfI p) (s0 p) l).Times).take 10))=_;rw [Zst,ih,List.map_append,List.reverse_append,List.take_take];rfl
theorem Znt (hN:850≤N) (p:Zae) (l:List Zaj) (h0:0<l.length) (hl:l.length≤800) (time:Int):ZaC N p (ZjN l) time=some (Zkx p (Zdf p l).Point time):=by
 unfold ZaC;have e:len (ZjN l)=(l.length:Int):=by simp [len]
 obtain ⟨b1,b2,_⟩:=Zmy p l h0;have hh:=ZhM p l (by omega);rw [e,if_neg (by simp only [beq_iff_eq];omega),show ((l.length:Int)-1)=((l.length-1:Nat):Int) by omega,ZaH (n:=((l.length-1:Nat):Int)) (by omega) (by omega),Zag (by omega),Zag (by omega),zG,Zje (by omega),Zat,ZeD];refine ZbY (fun m (x:Int×Int×Int)=>∃i:Nat,i+m=l.length∧x=((Zdf p (l.take i)).Point.First,(Zdf p (l.take i)).Point.Hard,(i:Int))) ?_ N l.length _ ⟨0,by omega,rfl⟩ (by omega);rintro G m _ ⟨i,hi,rfl⟩ hG;unfold ZaC.p1;dsimp only;rw [e];by_cases hlt:i<l.length
 ·have hst:=Zmw p l hlt;have ht:=ZhM p (l.take i) (by rw [xO];omega);rw [xO,Nat.min_eq_left (by omega)] at ht;have hn:=hG (m-1) _ (by omega) ⟨i+1,by omega,rfl⟩;rw [hst] at hn;have p3 : ∀first:Int,first=(ZfI p (Zdf p (l.take i)) l[i]).Point.First→ZaC.p3 N G time (ZjN l) first (Zdf p (l.take i)).Point.Hard (Zfr p (i:Int)) (i:Int) p l[l.length-1] l[i]=some (Zkx p (Zdf p l).Point time):=fun first hf=>by
   subst hf;have hd:(ZfI p (Zdf p (l.take i)) l[i]).Point.Hard=if (p.Easy&&l[i].Bits==p.Limit && !Zfr p (i:Int))=true then (Zdf p (l.take i)).Point.Hard else l[i].Bits:=by
    show (if (p.Easy&&l[i].Bits==p.Limit && !Zfr p (Zdf p (l.take i)).Point.Height)=true then _ else _)=_;rw [ht]
   rw [hd] at hn;unfold ZaC.p3 ZaC.p4;rw [ZaH (by omega) (by omega)];have c:((i+1:Nat):Int)=(i:Int)+1:=by omega
   rw [c] at hn;cases h1:p.Easy with
   | false=>rw [h1] at hn;simpa using hn
   | true=>
    rw [h1] at hn;by_cases h2:l[i].Bits=p.Limit
    ·cases h3:Zfr p (i:Int) with
     | true=>rw [h3] at hn;simp [h2] at hn ⊢;exact hn
     | false=>rw [h3] at hn;simp [h2] at hn ⊢;exact hn
    simp [h2] at hn ⊢;exact hn
  have p2:ZaC.p2 N G time (ZjN l) (Zdf p (l.take i)).Point.First (Zdf p (l.take i)).Point.Hard (Zfr p (i:Int)) (i:Int) p l[l.length-1] l[i]=some (Zkx p (Zdf p l).Point time):=by
   unfold ZaC.p2;have hf:(ZfI p (Zdf p (l.take i)) l[i]).Point.First=if Zfr p (i:Int)=true then l[i].Time else (Zdf p (l.take i)).Point.First:=by
    show (if Zfr p (Zdf p (l.take i)).Point.Height=true then _ else _)=_;rw [ht]
   cases h3:Zfr p (i:Int) with
   | true=>rw [h3] at hf p3;rw [if_pos rfl];exact p3 _ (by rw [hf];rfl)
   | false=>rw [h3] at hf p3;rw [if_neg (by simp)];exact p3 _ (by rw [hf];rfl)
  rw [if_pos (by simp<;>omega),Zag (by omega),zG,Zje hlt,Zat,ZeD];by_cases hI:p.Interval>0
  ·have:(zW (i:Int) p.Interval==0)=Zfr p (i:Int):=by
    unfold Zfr;rw [xH];simp [hI]
   rw [if_pos (by simpa using hI),Zag (by omega),this];exact p2
  have:false=Zfr p (i:Int):=by
   unfold Zfr;rw [xH];simp;omega
  rw [if_neg (by simpa using hI),this];exact p2
 rw [if_neg (by simp<;>omega),zX (by omega),←b1,←b2,←hh,Znu (by omega),Zaa]
theorem Znr (hN:600≤N) (p:Zae) {h:Zaj} (hw:wfH h=true):ZdX N p h=some ((tgt h.Bits p.Limit).2&&decide (hv (hid h)≤(tgt h.Bits p.Limit).1)):=by
 unfold ZdX;have hb:=Ztt h;rw [Zgh (by omega),Zaa];dsimp only;rw [Zjh hN h hw,Zaa,Znp (by omega) hb.1 hb.2,Zaa,ZfQ (by omega) (ZjK _ _) (hv_isN hb.1 hb.2),Zaa];cases (tgt h.Bits p.Limit).2
 ·rfl
 rw [if_pos rfl]
 congr 1
 rw [xH];simp
theorem Znv (zs:List Int) (hN:zs.length+2≤N) (hz:zs.length≤1000):ZcC N (ZdY zs)=some (ZdY (zs.reverse.take 11)):=by
 unfold ZcC;rw [Zet,ZaH (by omega) (by omega)];refine ZbY (fun m (x:LL×Int)=>∃i:Nat,i+m=zs.length∧i≤11∧x=(ZdY (zs.reverse.take i),(zs.length:Int)-1-(i:Int))) ?_ N zs.length _ ⟨0,by omega,by omega,by simp;rfl⟩ (by omega);rintro G m _ ⟨i,hi,h11,rfl⟩ hG;unfold ZcC.p1;dsimp only;by_cases hlt:i<zs.length
 ·rw [if_pos (by simp<;>omega)];have ll:(zs.reverse.take i).length=i:=by rw [xO,List.length_reverse];omega
  by_cases h:i<11
  ·have hr:zs.length-1-i<zs.length:=by omega
   have t:zs.reverse.take (i+1)=zs.reverse.take i ++ [zs[zs.length-1-i]]:=by
    rw [yE (by simp;omega),List.getElem_reverse]
   rw [if_pos (by rw [Zet,ll];simp<;>omega),Zet,Zag (by omega),Zag (by omega),show Int.toNat ((zs.length:Int)-1-(i:Int))=zs.length-1-i by omega,Ziq hr,Zat,ZdV,ZkC,Zhq,Zag (by rw [ZdH,zT,ll];simp<;>omega),←t,ZaH (by omega) (by omega)];exact hG (m-1) _ (by omega) ⟨i+1,by omega,by omega,by congr 1;omega⟩
  have:i=11:=by omega
  subst this;rw [if_neg (by rw [Zet,ll];simp)]
 rw [if_neg (by simp<;>omega),zX (by simp;omega),zX (by simp;omega)]
theorem ZqD (height:Int) (gs:List ZcJ) (v:Int) (hv : -2147483648≤v):v<ZhI height gs↔∃g∈gs,g.Height≤height∧v<g.Version:=by
 revert gs;refine Znm ?_ (fun gs g ih=>?_)
 ·simp [ZhI];omega
 have e:ZhI height (gs ++ [g])=if height≥g.Height∧g.Version>ZhI height gs then g.Version else ZhI height gs:=by unfold ZhI;rw [vH];rfl
 rw [e];constructor
 ·intro h;split at h
  ·rename_i hc;exact ⟨g,by simp,hc.1,h⟩
  obtain ⟨g',h1,h2⟩:=ih.1 h;exact ⟨g',by simp [h1],h2⟩
 rintro ⟨g',h1,h2,h3⟩;rcases List.mem_append.1 h1 with h1 | h1
 ·have:=ih.2 ⟨g',h1,h2,h3⟩;split<;>omega
 cases List.mem_singleton.1 h1;split
 ·exact h3
 rename_i hc;omega
theorem ref11_p6 (hN:600≤N) (l:List Zaj) (hl:l.length≤800) {p:Zae} {cs:List Zci} (hc:p.Checks=ZjF cs) (lc:cs.length≤400) {h:Zaj} (hw:wfH h=true) :
  loopN (Zas.p6 N (ZjN l) p h) N 0=some (if ZfN (l.length:Int) (hid h) cs=false then 8 else 0):=by
 refine ZbY (fun m (x:Int)=>∃i:Nat,i+m=cs.length∧x=(i:Int)∧ZfN (l.length:Int) (hid h) cs=ZfN (l.length:Int) (hid h) (cs.drop i)) ?_ N cs.length _ ⟨0,by omega,rfl,by rw [List.drop_zero]⟩ (by omega);rintro G m _ ⟨i,hi,rfl,ht⟩ hG;unfold Zas.p6;have e:len (ZjN l)=(l.length:Int):=by simp [len]
 rw [hc,e];by_cases hlt:i<cs.length
 ·rw [yU hlt] at ht;have e:ZfN (l.length:Int) (hid h) (cs[i]::cs.drop (i+1))=((!(cs[i].Height==(l.length:Int))||cs[i].Id==hid h)&&ZfN (l.length:Int) (hid h) (cs.drop (i+1))):=rfl;rw [e] at ht;rw [if_pos (by simp [len]<;>omega),Zag (by omega),zG,Zjg hlt,Zat,ZeO,ZaH (by omega) (by omega)];by_cases h1:(cs[i].Height==(l.length:Int))=true
  ·rw [if_pos h1,Zjh hN h hw,Zaa];by_cases h2:(cs[i].Id==hid h)=true
   ·rw [if_neg (by simp [h2])];exact hG (m-1) _ (by omega) ⟨i+1,by omega,rfl,by rw [ht];simp [h2]⟩
   rw [if_pos (by simpa using h2),ht];simp [h1,h2]
  rw [if_neg h1];exact hG (m-1) _ (by omega) ⟨i+1,by omega,rfl,by rw [ht];simp [h1]⟩
 rw [if_neg (by simp [len]<;>omega),ht,xZ (by omega)];rfl
theorem ref11_p5 (hN:600≤N) (l:List Zaj) (hl:l.length≤800) {p:Zae} {gs:List ZcJ} {cs:List Zci} (hg:p.Gates=Zme gs) (lg:gs.length≤400) (hc:p.Checks=ZjF cs) (lc:cs.length≤400) {h:Zaj} (hw:wfH h=true) (hv : -2147483648≤h.Version) :
  Zas.p4 N (ZjN l) p h=some (if h.Version<ZhI (l.length:Int) gs then 7 else if ZfN (l.length:Int) (hid h) cs=false then 8 else 0):=by
 unfold Zas.p4;refine ZbY (fun m (x:Int)=>∃i:Nat,i+m=gs.length∧x=(i:Int)∧∀g∈gs.take i,¬ (g.Height≤(l.length:Int)∧h.Version<g.Version)) ?_ N gs.length _ ⟨0,by omega,rfl,fun g hg=>by simp at hg⟩ (by omega);rintro G m _ ⟨i,hi,rfl,ht⟩ hG;unfold Zas.p5;have e:len (ZjN l)=(l.length:Int):=by simp [len]
 rw [hg,e];by_cases hlt:i<gs.length
 ·have next : ¬ (gs[i].Height≤(l.length:Int)∧h.Version<gs[i].Version)→∀g∈gs.take (i+1),¬ (g.Height≤(l.length:Int)∧h.Version<g.Version):=fun hn g hgm=>by
   rw [yE hlt] at hgm;rcases List.mem_append.1 hgm with k | k
   ·exact ht g k
   cases List.mem_singleton.1 k;exact hn
  rw [if_pos (by simp [len]<;>omega),Zag (by omega),zG,Zjf hlt,Zat,Zfg,ZaH (by omega) (by omega)];by_cases h1:gs[i].Height≤(l.length:Int)
  ·rw [if_pos (by simpa using h1)];by_cases h2:h.Version<gs[i].Version
   ·rw [if_pos (by simpa using h2),if_pos ((ZqD _ gs _ hv).2 ⟨gs[i],List.getElem_mem hlt,h1,h2⟩)]
   rw [if_neg (by simpa using h2)];exact hG (m-1) _ (by omega) ⟨i+1,by omega,rfl,next fun k=>h2 k.2⟩
  rw [if_neg (by simpa using h1)];exact hG (m-1) _ (by omega) ⟨i+1,by omega,rfl,next fun k=>h1 k.1⟩
 rw [if_neg (by simp [len]<;>omega),ref11_p6 hN l hl hc lc hw,if_neg (c:=h.Version<ZhI (l.length:Int) gs)];intro k;obtain ⟨g,h1,h2⟩:=(ZqD _ gs _ hv).1 k;rw [zX (by omega)] at ht;exact ht g h1 h2
theorem Zmh (hN:900≤N) {p:Zae} {gs:List ZcJ} {cs:List Zci} (hg:p.Gates=Zme gs) (lg:gs.length≤400) (hc:p.Checks=ZjF cs) (lc:cs.length≤400)
  (l:List Zaj) (h0:0<l.length) (hl:l.length≤800) (hw2 : ∀x∈l,wfH x=true) {h:Zaj} (hw:wfH h=true) (now:Int) (hnow:0≤now∧now≤9223372036854775807) :
  Zas N p (ZjN l) h now=some (Zfx p gs cs (Zdf p l) h now):=by
 unfold Zas;have e:len (ZjN l)=(l.length:Int):=by simp [len]
 obtain ⟨b1,b2,b3⟩:=Zmy p l h0;have hh:=ZhM p l (by omega);rw [Zir,Zaa];unfold Zfx;cases hgd:Zgi h with
 | false=>rfl
 | true=>
  have tr:=(Zph h).1 hgd;rw [if_neg (c:=(!true)=true) (by simp),if_neg (c:=true=false) (by simp),e,if_pos (by simp only [decide_eq_true_eq,gt_iff_lt];omega),show ((l.length:Int)-1)=((l.length-1:Nat):Int) by omega,ZaH (n:=((l.length-1:Nat):Int)) (by omega) (by omega),Zag (by omega),Zag (by omega),zG,Zje (by omega),Zat,ZeD,Zjh (by omega) _ (hw2 _ (List.getElem_mem _)),Zaa,←b3];by_cases h2:h.Prev=(Zdf p l).Prev
  ·rw [if_neg (c:=(!(h.Prev==(Zdf p l).Prev))=true) (by simp [h2]),if_neg (c:=h.Prev≠(Zdf p l).Prev) (by simp [h2])];unfold Zas.p1;rw [Znt (by omega) p l h0 hl,Zaa];by_cases h3:h.Bits=Zkx p (Zdf p l).Point h.Time
   ·rw [if_neg (c:=(h.Bits != Zkx p (Zdf p l).Point h.Time)=true) (by simpa using h3),if_neg (c:=h.Bits≠Zkx p (Zdf p l).Point h.Time) (by simpa using h3),Znr (by omega) p hw,Zaa];have it:Zkq p h=if ((tgt h.Bits p.Limit).2&&decide (hv (hid h)≤(tgt h.Bits p.Limit).1))=true then 0 else 4:=by
     unfold Zkq;rw [hgd,if_neg (c:=true=false) (by simp)];cases (tgt h.Bits p.Limit).2
     ·rfl
     by_cases k:hv (hid h)≤(tgt h.Bits p.Limit).1<;>simp [k]
    cases h4:((tgt h.Bits p.Limit).2&&decide (hv (hid h)≤(tgt h.Bits p.Limit).1)) with
    | false=>
     rw [h4] at it;rw [if_pos (by rfl),if_pos (c:=Zkq p h≠0) (by rw [it];decide)]
    | true=>
     rw [h4] at it;rw [if_neg (c:=(!true)=true) (by simp),if_neg (c:=Zkq p h≠0) (by rw [it];decide)];have tm:=ZpN p l;have tl:0<((l.map (·.Time)).reverse.take 11).length:=by rw [xO,List.length_reverse,xQ];omega
     refine ZbY (fun m (x:LL×Int)=>∃i:Nat,i+m=l.length∧x=(ZdY ((l.take i).map (·.Time)),(i:Int))) ?_ N l.length _ ⟨0,by omega,rfl⟩ (by omega);rintro G m _ ⟨i,hi,rfl⟩ hG;unfold Zas.p2;dsimp only;rw [e];by_cases hlt:i<l.length
     ·rw [if_pos (by simp<;>omega),Zag (by omega),zG,Zje hlt,Zat,ZeD,ZkC,Zhq,Zag (by rw [ZdH,zT,xQ,xO];simp<;>omega),ZaH (by omega) (by omega)];refine hG (m-1) _ (by omega) ⟨i+1,by omega,?_⟩;rw [yE hlt,List.map_append];rfl
     rw [if_neg (by simp<;>omega),zX (by omega),if_pos (by simp only [decide_eq_true_eq,gt_iff_lt];omega),Znv _ (by rw [xQ];omega) (by rw [xQ];omega),Zaa,Zag (ZmB _),ZrN N (by omega),Zaa,←tm];rw [←tm] at tl;by_cases h5:h.Time≤M (ZlW (Zdf p l).Times)
     ·rw [if_pos (by simpa using h5),if_pos (c:=((ZlW (Zdf p l).Times).length==0||decide (h.Time>M (ZlW (Zdf p l).Times)))=false) (by
       simp only [Bool.or_eq_false_iff,beq_eq_false_iff_ne,decide_eq_false_iff_not];omega)]
     rw [if_neg (by simpa using h5),if_neg (c:=((ZlW (Zdf p l).Times).length==0||decide (h.Time>M (ZlW (Zdf p l).Times)))=false) (by
      simp only [Bool.or_eq_false_iff,beq_eq_false_iff_ne,decide_eq_false_iff_not];omega)]
     unfold Zas.p3;rw [ref11_p5 (by omega) l hl hg lg hc lc hw tr.1,hh];have nr:near h.Time now p.Future=decide (0≤p.Future∧(h.Time≤now∨h.Time-now≤p.Future)):=rfl;by_cases f:p.Future<0
     ·rw [if_pos (by simpa using f),if_pos (c:=near h.Time now p.Future=false) (by rw [nr];simp only [decide_eq_false_iff_not];omega)]
     rw [if_neg (by simpa using f)];by_cases g:h.Time>now
     ·rw [if_pos (by simpa using g),ZaH (by omega) (by omega)];by_cases k:h.Time-now>p.Future
      ·rw [if_pos (by simpa using k),if_pos (c:=near h.Time now p.Future=false) (by rw [nr];simp only [decide_eq_false_iff_not];omega)]
      rw [if_neg (by simpa using k),if_neg (c:=near h.Time now p.Future=false) (by rw [nr];simp only [decide_eq_false_iff_not];omega)]
     rw [if_neg (by simpa using g),if_neg (c:=near h.Time now p.Future=false) (by rw [nr];simp only [decide_eq_false_iff_not];omega)]
   rw [if_pos (by simpa using h3),if_pos h3]
  rw [if_pos (by simpa using h2),if_pos h2]
def ZlY (last:Int):List Int→Bool
 | []=>true
 | x::l=>decide (last<x)&&ZlY x l
def Zmf (p:Zae) (gs:List ZcJ) (cs:List Zci):Bool:=ZiB p&&Zgi p.Genesis&&ZlY (-1) (gs.map (·.Height))&&ZlY 0 (cs.map (·.Height))
theorem Zns (hN:500≤N) {p:Zae} {gs:List ZcJ} {cs:List Zci} (hg:p.Gates=Zme gs) (lg:gs.length≤400) (hc:p.Checks=ZjF cs) (lc:cs.length≤400) :
  Zbp N p=some (Zmf p gs cs):=by
 unfold Zbp Zmf;rw [Zjj (by omega),Zaa,Zir,Zaa];cases ZiB p
 ·rfl
 cases Zgi p.Genesis
 ·rfl
 rw [if_neg (by simp),if_neg (by simp)];have p2:loopN (Zbp.p2 N p) N (0,0)=some (ZlY 0 (cs.map (·.Height))):=by
  refine ZbY (fun m (x:Int×Int)=>∃(i:Nat) (last:Int),i+m=cs.length∧x=(last,(i:Int))∧ZlY 0 (cs.map (·.Height))=ZlY last ((cs.drop i).map (·.Height))) ?_ N cs.length _ ⟨0,0,by omega,rfl,rfl⟩ (by omega);rintro G m _ ⟨i,last,hi,rfl,hI⟩ hG;unfold Zbp.p2;dsimp only;have e:len (ZjF cs)=(cs.length:Int):=by simp [len]
  rw [hc,e];by_cases hlt:i<cs.length
  ·rw [yU hlt,xA] at hI;simp only [ZlY] at hI;rw [if_pos (by simp<;>omega),Zag (by omega),zG,Zjg hlt,Zat,ZeO,ZaH (by omega) (by omega)];by_cases h1:cs[i].Height≤last
   ·rw [if_pos (by simpa using h1),hI,show decide (last<cs[i].Height)=false by simp;omega];rfl
   rw [if_neg (by simpa using h1)];exact hG (m-1) _ (by omega) ⟨i+1,_,by omega,rfl,by rw [hI,show decide (last<cs[i].Height)=true by simp;omega];rfl⟩
  rw [if_neg (by simp<;>omega),hI,xZ (by omega)];rfl
 refine ZbY (fun m (x:Int×Int)=>∃(i:Nat) (last:Int),i+m=gs.length∧x=(last,(i:Int))∧ZlY (-1) (gs.map (·.Height))=ZlY last ((gs.drop i).map (·.Height))) ?_ N gs.length _ ⟨0,-1,by omega,rfl,rfl⟩ (by omega);rintro G m _ ⟨i,last,hi,rfl,hI⟩ hG;unfold Zbp.p1;dsimp only;have e:len (Zme gs)=(gs.length:Int):=by simp [len]
 rw [hg,e];by_cases hlt:i<gs.length
 ·rw [yU hlt,xA] at hI;simp only [ZlY] at hI;rw [if_pos (by simp<;>omega),Zag (by omega),zG,Zjf hlt,Zat,Zfg,ZaH (by omega) (by omega)];by_cases h1:gs[i].Height≤last
  ·rw [if_pos (by simpa using h1),hI,show decide (last<gs[i].Height)=false by simp;omega];rfl
  rw [if_neg (by simpa using h1)];exact hG (m-1) _ (by omega) ⟨i+1,_,by omega,rfl,by rw [hI,show decide (last<gs[i].Height)=true by simp;omega];rfl⟩
 rw [if_neg (by simp<;>omega),hI,xZ (by omega),p2];rfl
theorem ZoA (hN:500≤N) {p:Zae} {gs:List ZcJ} {cs:List Zci} (hg:p.Gates=Zme gs) (lg:gs.length≤400) (hc:p.Checks=ZjF cs) (lc:cs.length≤400) :
  ZbS N p=some (Zmf p gs cs):=by
 unfold ZbS Zmf;rw [Zkn (by omega),Zaa,ZeS,Zaa];cases ZiB p
 ·rfl
 cases Zgi p.Genesis
 ·rfl
 rw [if_neg (by simp),if_neg (by simp)];have p2:loopN (ZbS.p2 N p) N 0=some (ZlY 0 (cs.map (·.Height))):=by
  refine ZbY (fun m (x:Int)=>∃(i:Nat) (last:Int),i+m=cs.length∧x=(i:Int)∧0≤last∧(i=0→last=0)∧(∀h:0<i∧i-1<cs.length,last=cs[i-1].Height)∧ZlY 0 (cs.map (·.Height))=ZlY last ((cs.drop i).map (·.Height))) ?_ N cs.length _ ⟨0,0,by omega,rfl,by omega,fun _=>rfl,fun h=>by omega,rfl⟩ (by omega);rintro G m _ ⟨i,last,hi,rfl,h0,hz,hp,hI⟩ hG;unfold ZbS.p2;have e:len (ZjF cs)=(cs.length:Int):=by simp [len]
  rw [hc,e];by_cases hlt:i<cs.length
  ·rw [yU hlt,xA] at hI;simp only [ZlY] at hI;have nx:last<cs[i].Height→G ((i:Int)+1)=some (true&&true&&true&&ZlY 0 (cs.map (·.Height))):=fun k=>
    hG (m-1) _ (by omega) ⟨i+1,cs[i].Height,by omega,by omega,by omega,by omega,fun _=>rfl,by rw [hI,show decide (last<cs[i].Height)=true by simp;omega];rfl⟩
   have bad : ¬ last<cs[i].Height→ZlY 0 (cs.map (·.Height))=false:=fun k=>by rw [hI,show decide (last<cs[i].Height)=false by simp;omega];rfl
   rw [if_pos (by simp<;>omega),Zag (by omega),zG,Zjg hlt,Zat,ZeO,ZaH (n:=(i:Int)+1) (by omega) (by omega)];by_cases h1:cs[i].Height<1
   ·rw [if_pos (by simpa using h1),bad (by omega)]
   rw [if_neg (by simpa using h1)];by_cases hi0:i=0
   ·have:=hz hi0;rw [if_neg (by simp [hi0])];exact nx (by omega)
   have:=hp ⟨by omega,by omega⟩;rw [if_pos (by simp<;>omega),show (i:Int)-1=((i-1:Nat):Int) by omega,ZaH (n:=((i-1:Nat):Int)) (by omega) (by omega),Zag (by omega),Zag (by omega),zG,Zjg (show i-1<cs.length by omega),Zat,ZeO,←this];by_cases h2:cs[i].Height≤last
   ·rw [if_pos (by simpa using h2),bad (by omega)]
   rw [if_neg (by simpa using h2)];exact nx (by omega)
  rw [if_neg (by simp<;>omega),hI,xZ (by omega)];rfl
 refine ZbY (fun m (x:Int)=>∃(i:Nat) (last:Int),i+m=gs.length∧x=(i:Int)∧-1≤last∧(i=0→last = -1)∧(∀h:0<i∧i-1<gs.length,last=gs[i-1].Height)∧ZlY (-1) (gs.map (·.Height))=ZlY last ((gs.drop i).map (·.Height))) ?_ N gs.length _ ⟨0,-1,by omega,rfl,by omega,fun _=>rfl,fun h=>by omega,rfl⟩ (by omega);rintro G m _ ⟨i,last,hi,rfl,h0,hz,hp,hI⟩ hG;unfold ZbS.p1;have e:len (Zme gs)=(gs.length:Int):=by simp [len]
 rw [hg,e];by_cases hlt:i<gs.length
 ·rw [yU hlt,xA] at hI;simp only [ZlY] at hI;have nx:last<gs[i].Height→0≤gs[i].Height→G ((i:Int)+1)=some (true&&true&&ZlY (-1) (gs.map (·.Height))&&ZlY 0 (cs.map (·.Height))):=fun k k2=>
   hG (m-1) _ (by omega) ⟨i+1,gs[i].Height,by omega,by omega,by omega,by omega,fun _=>rfl,by rw [hI,show decide (last<gs[i].Height)=true by simp;omega];rfl⟩
  have bad : ¬ last<gs[i].Height→ZlY (-1) (gs.map (·.Height))=false:=fun k=>by rw [hI,show decide (last<gs[i].Height)=false by simp;omega];rfl
  rw [if_pos (by simp<;>omega),Zag (by omega),zG,Zjf hlt,Zat,Zfg,ZaH (n:=(i:Int)+1) (by omega) (by omega)];by_cases h1:gs[i].Height<0
  ·rw [if_pos (by simpa using h1),bad (by omega)];rfl
  rw [if_neg (by simpa using h1)];by_cases hi0:i=0
  ·have:=hz hi0;rw [if_neg (by simp [hi0])];exact nx (by omega) (by omega)
  have:=hp ⟨by omega,by omega⟩;rw [if_pos (by simp<;>omega),show (i:Int)-1=((i-1:Nat):Int) by omega,ZaH (n:=((i-1:Nat):Int)) (by omega) (by omega),Zag (by omega),Zag (by omega),zG,Zjf (show i-1<gs.length by omega),Zat,Zfg,←this];by_cases h2:gs[i].Height≤last
  ·rw [if_pos (by simpa using h2),bad (by omega)];rfl
  rw [if_neg (by simpa using h2)];exact nx (by omega) (by omega)
 rw [if_neg (by simp<;>omega),hI,xZ (by omega),p2];rfl
end Go.Dn.F
