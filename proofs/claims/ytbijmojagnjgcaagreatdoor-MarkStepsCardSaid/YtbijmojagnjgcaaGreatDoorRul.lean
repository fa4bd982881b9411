import Derived.Test.YtbijmojagnjgcaaGreatDoorNum
set_option linter.all false
open Bool renaming eq_iff_iff→xI
open Int renaming toNat_natCast→zG,tmod→zW
open List renaming take_succ_eq_append_getElem→yG,foldl_append→vK,take_of_length_le→zX,drop_eq_getElem_cons→yN,drop_of_length_le→wA,length_append→zT,length_take→xP,length_map→xW,map_cons→xA
set_option maxRecDepth 40000
namespace Go.Dn.F
open Go.Dn Go.Proofs
variable {N:Nat}
theorem ZtL (h:Zak):(hid h).length=32∧bys (hid h):=by
 obtain ⟨b,e,l⟩:=hid_by h;rw [e];refine ⟨by simpa using l,fun x hx=>?_⟩;obtain ⟨y,_,rfl⟩:=List.mem_map.1 hx;exact ⟨Zud y,Zue y⟩
def ZkG (p:Zae) (h:Zak):Int:=
 if ZgD h=false then 1 else if (tgt h.Bits p.Limit).2=false then 4 else if hv (hid h)≤(tgt h.Bits p.Limit).1 then 0 else 4
theorem Zmw (hN:500≤N) (p:Zae) {h:Zak} (hw:wfH h=true):Zew N p h=some (ZkG p h):=by
 unfold Zew ZkG;rw [Zfi,Zaa,ZfC (by omega),Zaa];dsimp only;have hb:=ZtL h;rw [ZgE hN hw,Zaa,ZkS (by omega) hb.1 hb.2 (ZjX _ _),Zaa];cases ZgD h
 ·rfl
 cases (tgt h.Bits p.Limit).2
 ·rfl
 by_cases k:hv (hid h)≤(tgt h.Bits p.Limit).1<;>simp [k]
def ZhY (height:Int) (gs:List ZcU):Int:=gs.foldl (fun l g=>if height≥g.Height∧g.Version>l then g.Version else l) (-2147483648)
noncomputable def Zmy (l:List ZcU):LL:=l.map ZcU.ls
noncomputable def ZjT (l:List Zcs):LL:=l.map Zcs.ls
theorem Zju {l:List ZcU} {i:Nat} (h:i<l.length):(Zmy l)[i]? = some l[i].ls:=by simp [Zmy,h]
theorem Zjv {l:List Zcs} {i:Nat} (h:i<l.length):(ZjT l)[i]? = some l[i].ls:=by simp [ZjT,h]
@[simp] theorem Zqr (l:List ZcU):(Zmy l).length=l.length:=by simp [Zmy]
@[simp] theorem Zqs (l:List Zcs):(ZjT l).length=l.length:=by simp [ZjT]
theorem open_G {xs:LL} (h : ∀x∈xs,ZhR [.int .i64,.int .i64] x) : ∃l:List ZcU,xs=Zmy l:=
 let ⟨l,h,_⟩:=ZrE (e:=ZcU.ls) (good:=fun _=>True) fun x hx=>by
  obtain ⟨_,_,rfl,h1,h⟩:=(h x hx).cons_inv;obtain ⟨_,_,rfl,h2,h⟩:=h.cons_inv;cases h.nil_inv;obtain ⟨a,rfl,_⟩:=h1.int_inv;obtain ⟨b,rfl,_⟩:=h2.int_inv;exact ⟨⟨a,b⟩,rfl,trivial⟩
 ⟨l,h⟩
theorem open_K {xs:LL} (h : ∀x∈xs,ZhR [.int .i64,.arr .u8 32] x) : ∃l:List Zcs,xs=ZjT l:=
 let ⟨l,h,_⟩:=ZrE (e:=Zcs.ls) (good:=fun _=>True) fun x hx=>by
  obtain ⟨_,_,rfl,h1,h⟩:=(h x hx).cons_inv;obtain ⟨_,_,rfl,h2,h⟩:=h.cons_inv;cases h.nil_inv;obtain ⟨a,rfl,_⟩:=h1.int_inv;obtain ⟨b,rfl,_⟩:=h2.arr_inv;exact ⟨⟨a,b⟩,rfl,trivial⟩
 ⟨l,h⟩
theorem Zlr (height:Int) (gs:List ZcU) (hg:gs.length<N) (hb:gs.length<1000000):Zbr N height (Zmy gs)=some (ZhY height gs):=by
 unfold Zbr;refine ZbW (fun m (x:Int×Int)=>∃i:Nat,i+m=gs.length∧x=(ZhY height (gs.take i),(i:Int))) ?_ N gs.length _ ⟨0,by omega,rfl⟩ hg;rintro G m _ ⟨i,hi,rfl⟩ hG;unfold Zbr.p1 Zbr.p2;dsimp only;by_cases hlt:i<gs.length
 ·rw [if_pos (by simp [len];omega),Zag (by omega),zG,Zju hlt,Zan,Zfu,ZaL (by omega) (by omega)];have st:ZhY height (gs.take (i+1))=if height≥gs[i].Height∧gs[i].Version>ZhY height (gs.take i) then gs[i].Version else ZhY height (gs.take i):=by
   unfold ZhY;rw [yG hlt,vK];rfl
  have hn:=hG (m-1) (ZhY height (gs.take (i+1)),((i+1:Nat):Int)) (by omega) ⟨i+1,by omega,rfl⟩;rw [st] at hn;by_cases h1:height≥gs[i].Height
  ·rw [if_pos (by simpa using h1)];by_cases h2:gs[i].Version>ZhY height (gs.take i)
   ·rw [if_pos ⟨h1,h2⟩] at hn;rw [if_pos h2];exact hn
   rw [if_neg (fun h=>h2 h.2)] at hn;rw [if_neg h2];exact hn
  rw [if_neg (by simpa using h1)];rw [if_neg (fun h=>h1 h.1)] at hn;exact hn
 rw [if_neg (by simp [len];omega),zX (by omega)]
def Zgc (height:Int) (id:List Int) (cs:List Zcs):Bool:=cs.all fun c=>!(c.Height==height)||c.Id==id
theorem Zls (height:Int) (id:List Int) (cs:List Zcs) (hg:cs.length<N) (hb:cs.length<1000000):Zcq N height id (ZjT cs)=some (Zgc height id cs):=by
 unfold Zcq;refine ZbW (fun m (x:Int)=>∃i:Nat,i+m=cs.length∧x=(i:Int)∧Zgc height id cs=Zgc height id (cs.drop i)) ?_ N cs.length _ ⟨0,by omega,rfl,by rw [List.drop_zero]⟩ hg;rintro G m _ ⟨i,hi,rfl,ht⟩ hG;unfold Zcq.p1;by_cases hlt:i<cs.length
 ·rw [yN hlt] at ht;have e:Zgc height id (cs[i]::cs.drop (i+1))=((!(cs[i].Height==height)||cs[i].Id==id)&&Zgc height id (cs.drop (i+1))):=rfl;rw [e] at ht;rw [if_pos (by simp [len];omega),Zag (by omega),zG,Zjv hlt,Zan,Zfd,ZaL (by omega) (by omega)];by_cases h1:(cs[i].Height==height)=true
  ·rw [if_pos h1];by_cases h2:(cs[i].Id==id)=true
   ·rw [if_neg (by simp [h2])];exact hG (m-1) _ (by omega) ⟨i+1,by omega,rfl,by rw [ht];simp [h2]⟩
   rw [if_pos (by simpa using h2),ht];simp [h1,h2]
  rw [if_neg h1];exact hG (m-1) _ (by omega) ⟨i+1,by omega,rfl,by rw [ht];simp [h1]⟩
 rw [if_neg (by simp [len];omega),ht,wA (by omega)];rfl
def near (t now f:Int):Bool:=decide (0≤f∧(t≤now∨t-now≤f))
theorem ZmE {t now:Int} (f:Int) (h1:0≤t∧t≤1152921504606846976) (h2 : -1152921504606846976≤now∧now≤9223372036854775807):Zex N t now f=some (near t now f):=by
 unfold Zex near;rw [ZaL (by omega) (by omega)]
 repeat' split
 all_goals (refine Zgz ⟨fun h=>?_,fun h=>?_⟩<;>simp only [decide_eq_true_eq,Bool.false_eq_true] at * <;> first | trivial | omega)
def ZfK (p:Zae) (gs:List ZcU) (cs:List Zcs) (s:ZaX) (h:Zak) (now:Int):Int:=
 if ZgD h=false then 1
 else if h.Prev≠s.Prev then 2
 else if h.Bits≠ZkP p s.Point h.Time then 3
 else if ZkG p h≠0 then 4
 else if ((Zmr s.Times).length==0||decide (h.Time>M (Zmr s.Times)))=false then 5
 else if near h.Time now p.Future=false then 6
 else if h.Version<ZhY s.Point.Height gs then 7
 else if Zgc s.Point.Height (hid h) cs=false then 8 else 0
theorem ZnD (hN:500≤N) {p:Zae} {gs:List ZcU} {cs:List Zcs} (hg:p.Gates=Zmy gs) (hc:p.Checks=ZjT cs) (lg:gs.length≤400) (lc:cs.length≤400)
  {s:ZaX} {h:Zak} (hw:wfH h=true) (hs:isI s.Times=true) (now:Int) (hnow : -1152921504606846976≤now∧now≤9223372036854775807) :
  ZeO N p s h now=some (ZfK p gs cs s h now):=by
 unfold ZeO ZfK;rw [Zfi,Zaa];cases hgd:ZgD h with
 | false=>rfl
 | true=>
  have tr:=(ZpH h).1 hgd;have ht:s.Times=Zel (Zmr s.Times):=Zlb hs;rw [if_neg (c:=(!true)=true) (by simp),if_neg (c:=true=false) (by simp)];by_cases h2:h.Prev=s.Prev
  ·rw [if_neg (by simp [h2]),if_neg (by simp [h2]),Zpr (by omega),Zaa];by_cases h3:h.Bits=ZkP p s.Point h.Time
   ·rw [if_neg (by simp [h3]),if_neg (by simp [h3]),Zmw hN p hw,Zaa];by_cases h4:ZkG p h=0
    ·rw [if_neg (by simp [h4]),if_neg (by simp [h4]),show ZdW N h.Time s.Times=_ from (congrArg (ZdW N h.Time) ht).trans (ZqF N h.Time (Zmr s.Times)),Zaa];cases h5:((Zmr s.Times).length==0||decide (h.Time>M (Zmr s.Times)))
     ·rfl
     rw [if_neg (by simp),if_neg (by simp),ZmE _ (by omega) hnow,Zaa];cases h6:near h.Time now p.Future
     ·rfl
     rw [if_neg (by simp),if_neg (by simp),hg,Zlr _ gs (by omega) (by omega),Zaa];by_cases h7:h.Version<ZhY s.Point.Height gs
     ·rw [if_pos (by simpa using h7),if_pos h7]
     rw [if_neg (by simpa using h7),if_neg h7,ZgE hN hw,Zaa,hc,Zls _ _ cs (by omega) (by omega),Zaa];cases Zgc s.Point.Height (hid h) cs<;>rfl
    rw [if_pos (by simpa using h4),if_pos h4]
   rw [if_pos (by simpa using h3),if_pos h3]
  rw [if_pos (by simpa using h2),if_pos h2]
theorem Zkd (hN:300≤N) (p:Zae) (b f t:Int):ZaA N p b f t=some (retg p b f t):=by
 unfold ZaA retg;rw [ZgB hN,Zaa];dsimp only;rw [Zjy hN,Zaa];cases hg:ZiP p with
 | false=>rw [if_pos (by rfl),if_neg (by simp)]
 | true=>
  rw [if_neg (by simp)];cases ht:(tgt b p.Limit).2 with
  | false=>rw [if_pos (by rfl),if_neg (by simp)]
  | true=>
   rw [if_neg (by simp)];have hn:=ZjX b p.Limit;have hL:=ZjX p.Limit p.Limit;have D:=Zhs hg;have S:=ZlE hg f t;have enc : ∀{x:Int},isN x→ZaA.p3 N (nw x)=some (ZsG x):=fun h=>by
    unfold ZaA.p3;rw [ZnO hN h,Zaa]
   have p2:ZaA.p2 N p (Zga p f t) (nw (tgt b p.Limit).1)=some (if (tgt b p.Limit).1*Zga p f t/ZhK p<2^256∧(tgt b p.Limit).1*Zga p f t/ZhK p≤(tgt p.Limit p.Limit).1
     then ZsG (if (tgt b p.Limit).1*Zga p f t/ZhK p=0 then 1 else (tgt b p.Limit).1*Zga p f t/ZhK p) else p.Limit):=by
    have hLt:=ZgB hN p.Limit p.Limit;unfold ZaA.p2;rw [Zlj hg,Ztb hN hn S (by omega),Zaa];dsimp only;rw [hLt,Zaa];dsimp only;have q0:0≤(tgt b p.Limit).1*Zga p f t/ZhK p:=Int.ediv_nonneg (Int.mul_nonneg hn.1 S.1) (by omega);generalize (tgt b p.Limit).1*Zga p f t/ZhK p=Q at *;by_cases big:Q<2^256
    ·have hQ:isN Q:=⟨q0,big⟩
     rw [if_neg (by simpa using big),Int.emod_eq_of_lt q0 big,ZfM hN hL hQ,Zaa];by_cases hl:(tgt p.Limit p.Limit).1<Q
     ·rw [if_pos (by simpa using hl),if_neg (by omega)]
     rw [if_neg (by simpa using hl)];have z:(nw Q==List.replicate 4 0)=decide (Q=0):=Option.some.inj (ZeG (N:=0) hQ);rw [z,if_pos (c:=Q<2^256∧Q≤(tgt p.Limit p.Limit).1) ⟨big,by omega⟩];by_cases h0:Q=0
     ·rw [if_pos (by simpa using h0),if_pos h0,ZqB (by unfold isW;omega),enc (by unfold isN;omega)]
     rw [if_neg (by simpa using h0),if_neg h0,enc hQ]
    rw [if_pos (by simpa using big),if_neg (by omega)]
   have fin:ZaA.p2 N p (Zga p f t) (nw (tgt b p.Limit).1)=some (if ZiP p=true∧(tgt b p.Limit).2=true∧(tgt b p.Limit).1*Zga p f t/ZhK p<2^256∧(tgt b p.Limit).1*Zga p f t/ZhK p≤(tgt p.Limit p.Limit).1
     then ZsG (if (tgt b p.Limit).1*Zga p f t/ZhK p=0 then 1 else (tgt b p.Limit).1*Zga p f t/ZhK p) else p.Limit):=by
    rw [p2,hg,ht];simp only [true_and]
   rw [hg,ht] at fin;refine Eq.trans ?_ fin;have p1 : ∀y:Int,Zga p f t=(if ZhK p*4<y then ZhK p*4 else y)→ZaA.p1 N p y (nw (tgt b p.Limit).1)=ZaA.p2 N p (Zga p f t) (nw (tgt b p.Limit).1):=fun y hy=>by
    unfold ZaA.p1;rw [Zlj hg,ZaL (n:=ZhK p*4) (by omega) (by omega),hy];by_cases h:ZhK p*4<y
    ·rw [if_pos (by simpa using h),if_pos h]
    rw [if_neg (by simpa using h),if_neg h]
   rw [Zlj hg,ZeY (by omega),ZaL (n:=ZhK p/4) (by omega) (by omega)];by_cases h:w64 (t-f)<ZhK p/4
   ·rw [if_pos (by simpa using h)];exact p1 _ (by unfold Zga;rw [if_pos (show ZhK p/4>w64 (t-f) from h)])
   rw [if_neg (by simpa using h)];exact p1 _ (by unfold Zga;rw [if_neg (show ¬ ZhK p/4>w64 (t-f) from h)])
theorem ZnS (hN:300≤N) (p:Zae) (a:ZdV) (own:Int):ZcM N p a.Height a.Bits a.Time a.First a.Hard own=some (ZkP p a own):=by
 unfold ZcM ZkP;have p1:ZcM.p1 N a.Bits a.Time a.Hard own p=some (if p.Easy=false then a.Bits else if w64 (own-a.Time)>w64 (2*p.Spacing) then p.Limit else a.Hard):=by
  unfold ZcM.p1;cases p.Easy
  ·rfl
  rw [if_neg (c:=(!true)=true) (by simp),if_neg (c:=true=false) (by simp)];by_cases h:w64 (own-a.Time)>w64 (2*p.Spacing)
  ·rw [if_pos (by simpa using h),if_pos h]
  rw [if_neg (by simpa using h),if_neg h]
 by_cases h0:a.Height≤0
 ·rw [if_pos (by simpa using h0),if_pos h0]
 rw [if_neg (by simpa using h0),if_neg h0,p1,Zkd hN,Zaa];unfold ZfE;by_cases hi:p.Interval>0
 ·rw [if_pos (by simpa using hi),Zag (by omega)];by_cases hm:zW a.Height p.Interval=0
  ·rw [if_pos (by simpa using hm),if_pos (c:=decide (0<p.Interval∧zW a.Height p.Interval=0)=true) (by simp [hm]<;>omega)]
  rw [if_neg (by simpa using hm),if_neg (c:=decide (0<p.Interval∧zW a.Height p.Interval=0)=true) (by simp [hm])]
 rw [if_neg (by simpa using hi),if_neg (c:=decide (0<p.Interval∧zW a.Height p.Interval=0)=true) (by simp<;>omega)]
def s0 (p:Zae):ZaX:=⟨⟨0,0,0,0,p.Limit⟩,List.replicate 32 0,[]⟩
def Zdu (p:Zae) (l:List Zak):ZaX:=l.foldl (ZfX p) (s0 p)
theorem ZmR (p:Zae) (l:List Zak) {i:Nat} (h:i<l.length):Zdu p (l.take (i+1))=ZfX p (Zdu p (l.take i)) l[i]:=by
 unfold Zdu;rw [yG h,vK];rfl
theorem Zid (p:Zae) : ∀l:List Zak,l.length<1000000→(Zdu p l).Point.Height=l.length:=by
 refine ZnK (fun _=>rfl) (fun l h ih hl=>?_);unfold Zdu at *;rw [vK];show w64 ((List.foldl (ZfX p) (s0 p) l).Point.Height+1)=_;rw [zT,List.length_singleton] at *;rw [ih (by omega),ZaL (by omega) (by omega)];omega
theorem ZmT (p:Zae) (l:List Zak) (h:0<l.length):(Zdu p l).Point.Bits=(l[l.length-1]).Bits∧(Zdu p l).Point.Time=(l[l.length-1]).Time∧(Zdu p l).Prev=hid l[l.length-1]:=by
 have:=ZmR p l (i:=l.length-1) (by omega);rw [zX (by omega)] at this;rw [this];exact ⟨rfl,rfl,rfl⟩
theorem Zqm (p:Zae) : ∀l:List Zak,Zmr (Zdu p l).Times=((l.map (·.Time)).reverse).take 11:=by
 refine ZnK rfl (fun l h ih=>?_);unfold Zdu at *;rw [vK];show Zmr (Zel (h.Time::(Zmr (List.foldl (ZfX p) (s0 p) l).Times).take 10))=_;rw [ZsN,ih,List.map_append,List.reverse_append,List.take_take];rfl
theorem ZnR (hN:850≤N) (p:Zae) (l:List Zak) (h0:0<l.length) (hl:l.length≤800) (time:Int):ZaD N p (Zkb l) time=some (ZkP p (Zdu p l).Point time):=by
 unfold ZaD;have e:len (Zkb l)=(l.length:Int):=by simp [len]
 obtain ⟨b1,b2,_⟩:=ZmT p l h0;have hh:=Zid p l (by omega);rw [e,if_neg (by simp only [beq_iff_eq];omega),show ((l.length:Int)-1)=((l.length-1:Nat):Int) by omega,ZaL (n:=((l.length-1:Nat):Int)) (by omega) (by omega),Zag (by omega),Zag (by omega),zG,Zjt (by omega),Zan,ZeT];refine ZbW (fun m (x:Int×Int×Int)=>∃i:Nat,i+m=l.length∧x=((Zdu p (l.take i)).Point.First,(Zdu p (l.take i)).Point.Hard,(i:Int))) ?_ N l.length _ ⟨0,by omega,rfl⟩ (by omega);rintro G m _ ⟨i,hi,rfl⟩ hG;unfold ZaD.p1;dsimp only;rw [e];by_cases hlt:i<l.length
 ·have hst:=ZmR p l hlt;have ht:=Zid p (l.take i) (by rw [xP];omega);rw [xP,Nat.min_eq_left (by omega)] at ht;have hn:=hG (m-1) _ (by omega) ⟨i+1,by omega,rfl⟩;rw [hst] at hn;have p3 : ∀first:Int,first=(ZfX p (Zdu p (l.take i)) l[i]).Point.First→ZaD.p3 N G time (Zkb l) first (Zdu p (l.take i)).Point.Hard (ZfE p (i:Int)) (i:Int) p l[l.length-1] l[i]=some (ZkP p (Zdu p l).Point time):=fun first hf=>by
   subst hf;have hd:(ZfX p (Zdu p (l.take i)) l[i]).Point.Hard=if (p.Easy&&l[i].Bits==p.Limit && !ZfE p (i:Int))=true then (Zdu p (l.take i)).Point.Hard else l[i].Bits:=by
    show (if (p.Easy&&l[i].Bits==p.Limit && !ZfE p (Zdu p (l.take i)).Point.Height)=true then _ else _)=_;rw [ht]
   rw [hd] at hn;unfold ZaD.p3 ZaD.p4;rw [ZaL (by omega) (by omega)];have c:((i+1:Nat):Int)=(i:Int)+1:=by omega
   rw [c] at hn;cases h1:p.Easy with
   | false=>rw [h1] at hn;simpa using hn
   | true=>
    rw [h1] at hn;by_cases h2:l[i].Bits=p.Limit
    ·cases h3:ZfE p (i:Int) with
     | true=>rw [h3] at hn;simp [h2] at hn ⊢;exact hn
     | false=>rw [h3] at hn;simp [h2] at hn ⊢;exact hn
    simp [h2] at hn ⊢;exact hn
  have p2:ZaD.p2 N G time (Zkb l) (Zdu p (l.take i)).Point.First (Zdu p (l.take i)).Point.Hard (ZfE p (i:Int)) (i:Int) p l[l.length-1] l[i]=some (ZkP p (Zdu p l).Point time):=by
   unfold ZaD.p2;have hf:(ZfX p (Zdu p (l.take i)) l[i]).Point.First=if ZfE p (i:Int)=true then l[i].Time else (Zdu p (l.take i)).Point.First:=by
    show (if ZfE p (Zdu p (l.take i)).Point.Height=true then _ else _)=_;rw [ht]
   cases h3:ZfE p (i:Int) with
   | true=>rw [h3] at hf p3;rw [if_pos rfl];exact p3 _ (by rw [hf];rfl)
   | false=>rw [h3] at hf p3;rw [if_neg (by simp)];exact p3 _ (by rw [hf];rfl)
  rw [if_pos (by simp<;>omega),Zag (by omega),zG,Zjt hlt,Zan,ZeT];by_cases hI:p.Interval>0
  ·have:(zW (i:Int) p.Interval==0)=ZfE p (i:Int):=by
    unfold ZfE;rw [xI];simp [hI]
   rw [if_pos (by simpa using hI),Zag (by omega),this];exact p2
  have:false=ZfE p (i:Int):=by
   unfold ZfE;rw [xI];simp;omega
  rw [if_neg (by simpa using hI),this];exact p2
 rw [if_neg (by simp<;>omega),zX (by omega),←b1,←b2,←hh,ZnS (by omega),Zaa]
theorem ZnP (hN:600≤N) (p:Zae) {h:Zak} (hw:wfH h=true):Zek N p h=some ((tgt h.Bits p.Limit).2&&decide (hv (hid h)≤(tgt h.Bits p.Limit).1)):=by
 unfold Zek;have hb:=ZtL h;rw [ZgB (by omega),Zaa];dsimp only;rw [Zjw hN h hw,Zaa,ZnN (by omega) hb.1 hb.2,Zaa,ZfM (by omega) (ZjX _ _) (hv_isN hb.1 hb.2),Zaa];cases (tgt h.Bits p.Limit).2
 ·rfl
 rw [if_pos rfl]
 congr 1
 rw [xI];simp
theorem ZnT (zs:List Int) (hN:zs.length+2≤N) (hz:zs.length≤1000):ZcN N (Zel zs)=some (Zel (zs.reverse.take 11)):=by
 unfold ZcN;rw [ZeN,ZaL (by omega) (by omega)];refine ZbW (fun m (x:LL×Int)=>∃i:Nat,i+m=zs.length∧i≤11∧x=(Zel (zs.reverse.take i),(zs.length:Int)-1-(i:Int))) ?_ N zs.length _ ⟨0,by omega,by omega,by simp;rfl⟩ (by omega);rintro G m _ ⟨i,hi,h11,rfl⟩ hG;unfold ZcN.p1;dsimp only;by_cases hlt:i<zs.length
 ·rw [if_pos (by simp<;>omega)];have ll:(zs.reverse.take i).length=i:=by rw [xP,List.length_reverse];omega
  by_cases h:i<11
  ·have hr:zs.length-1-i<zs.length:=by omega
   have t:zs.reverse.take (i+1)=zs.reverse.take i ++ [zs[zs.length-1-i]]:=by
    rw [yG (by simp;omega),List.getElem_reverse]
   rw [if_pos (by rw [ZeN,ll];simp<;>omega),ZeN,Zag (by omega),Zag (by omega),show Int.toNat ((zs.length:Int)-1-(i:Int))=zs.length-1-i by omega,Zjs hr,Zan,Zei,ZkU,ZhF,Zag (by rw [ZdT,zT,ll];simp<;>omega),←t,ZaL (by omega) (by omega)];exact hG (m-1) _ (by omega) ⟨i+1,by omega,by omega,by congr 1;omega⟩
  have:i=11:=by omega
  subst this;rw [if_neg (by rw [ZeN,ll];simp)]
 rw [if_neg (by simp<;>omega),zX (by simp;omega),zX (by simp;omega)]
theorem ZqY (height:Int) (gs:List ZcU) (v:Int) (hv : -2147483648≤v):v<ZhY height gs↔∃g∈gs,g.Height≤height∧v<g.Version:=by
 revert gs;refine ZnK ?_ (fun gs g ih=>?_)
 ·simp [ZhY];omega
 have e:ZhY height (gs ++ [g])=if height≥g.Height∧g.Version>ZhY height gs then g.Version else ZhY height gs:=by unfold ZhY;rw [vK];rfl
 rw [e];constructor
 ·intro h;split at h
  ·rename_i hc;exact ⟨g,by simp,hc.1,h⟩
  obtain ⟨g',h1,h2⟩:=ih.1 h;exact ⟨g',by simp [h1],h2⟩
 rintro ⟨g',h1,h2,h3⟩;rcases List.mem_append.1 h1 with h1 | h1
 ·have:=ih.2 ⟨g',h1,h2,h3⟩;split<;>omega
 cases List.mem_singleton.1 h1;split
 ·exact h3
 rename_i hc;omega
theorem ref11_p6 (hN:600≤N) (l:List Zak) (hl:l.length≤800) {p:Zae} {cs:List Zcs} (hc:p.Checks=ZjT cs) (lc:cs.length≤400) {h:Zak} (hw:wfH h=true) :
  loopN (Zau.p6 N (Zkb l) p h) N 0=some (if Zgc (l.length:Int) (hid h) cs=false then 8 else 0):=by
 refine ZbW (fun m (x:Int)=>∃i:Nat,i+m=cs.length∧x=(i:Int)∧Zgc (l.length:Int) (hid h) cs=Zgc (l.length:Int) (hid h) (cs.drop i)) ?_ N cs.length _ ⟨0,by omega,rfl,by rw [List.drop_zero]⟩ (by omega);rintro G m _ ⟨i,hi,rfl,ht⟩ hG;unfold Zau.p6;have e:len (Zkb l)=(l.length:Int):=by simp [len]
 rw [hc,e];by_cases hlt:i<cs.length
 ·rw [yN hlt] at ht;have e:Zgc (l.length:Int) (hid h) (cs[i]::cs.drop (i+1))=((!(cs[i].Height==(l.length:Int))||cs[i].Id==hid h)&&Zgc (l.length:Int) (hid h) (cs.drop (i+1))):=rfl;rw [e] at ht;rw [if_pos (by simp [len]<;>omega),Zag (by omega),zG,Zjv hlt,Zan,Zfd,ZaL (by omega) (by omega)];by_cases h1:(cs[i].Height==(l.length:Int))=true
  ·rw [if_pos h1,Zjw hN h hw,Zaa];by_cases h2:(cs[i].Id==hid h)=true
   ·rw [if_neg (by simp [h2])];exact hG (m-1) _ (by omega) ⟨i+1,by omega,rfl,by rw [ht];simp [h2]⟩
   rw [if_pos (by simpa using h2),ht];simp [h1,h2]
  rw [if_neg h1];exact hG (m-1) _ (by omega) ⟨i+1,by omega,rfl,by rw [ht];simp [h1]⟩
 rw [if_neg (by simp [len]<;>omega),ht,wA (by omega)];rfl
theorem ref11_p5 (hN:600≤N) (l:List Zak) (hl:l.length≤800) {p:Zae} {gs:List ZcU} {cs:List Zcs} (hg:p.Gates=Zmy gs) (lg:gs.length≤400) (hc:p.Checks=ZjT cs) (lc:cs.length≤400) {h:Zak} (hw:wfH h=true) (hv : -2147483648≤h.Version) :
  Zau.p4 N (Zkb l) p h=some (if h.Version<ZhY (l.length:Int) gs then 7 else if Zgc (l.length:Int) (hid h) cs=false then 8 else 0):=by
 unfold Zau.p4;refine ZbW (fun m (x:Int)=>∃i:Nat,i+m=gs.length∧x=(i:Int)∧∀g∈gs.take i,¬ (g.Height≤(l.length:Int)∧h.Version<g.Version)) ?_ N gs.length _ ⟨0,by omega,rfl,fun g hg=>by simp at hg⟩ (by omega);rintro G m _ ⟨i,hi,rfl,ht⟩ hG;unfold Zau.p5;have e:len (Zkb l)=(l.length:Int):=by simp [len]
 rw [hg,e];by_cases hlt:i<gs.length
 ·have next : ¬ (gs[i].Height≤(l.length:Int)∧h.Version<gs[i].Version)→∀g∈gs.take (i+1),¬ (g.Height≤(l.length:Int)∧h.Version<g.Version):=fun hn g hgm=>by
   rw [yG hlt] at hgm;rcases List.mem_append.1 hgm with k | k
   ·exact ht g k
   cases List.mem_singleton.1 k;exact hn
  rw [if_pos (by simp [len]<;>omega),Zag (by omega),zG,Zju hlt,Zan,Zfu,ZaL (by omega) (by omega)];by_cases h1:gs[i].Height≤(l.length:Int)
  ·rw [if_pos (by simpa using h1)];by_cases h2:h.Version<gs[i].Version
   ·rw [if_pos (by simpa using h2),if_pos ((ZqY _ gs _ hv).2 ⟨gs[i],List.getElem_mem hlt,h1,h2⟩)]
   rw [if_neg (by simpa using h2)];exact hG (m-1) _ (by omega) ⟨i+1,by omega,rfl,next fun k=>h2 k.2⟩
  rw [if_neg (by simpa using h1)];exact hG (m-1) _ (by omega) ⟨i+1,by omega,rfl,next fun k=>h1 k.1⟩
 rw [if_neg (by simp [len]<;>omega),ref11_p6 hN l hl hc lc hw,if_neg (c:=h.Version<ZhY (l.length:Int) gs)];intro k;obtain ⟨g,h1,h2⟩:=(ZqY _ gs _ hv).1 k;rw [zX (by omega)] at ht;exact ht g h1 h2
theorem ZmB (hN:900≤N) {p:Zae} {gs:List ZcU} {cs:List Zcs} (hg:p.Gates=Zmy gs) (lg:gs.length≤400) (hc:p.Checks=ZjT cs) (lc:cs.length≤400)
  (l:List Zak) (h0:0<l.length) (hl:l.length≤800) (hw2 : ∀x∈l,wfH x=true) {h:Zak} (hw:wfH h=true) (now:Int) (hnow:0≤now∧now≤9223372036854775807) :
  Zau N p (Zkb l) h now=some (ZfK p gs cs (Zdu p l) h now):=by
 unfold Zau;have e:len (Zkb l)=(l.length:Int):=by simp [len]
 obtain ⟨b1,b2,b3⟩:=ZmT p l h0;have hh:=Zid p l (by omega);rw [ZiH,Zaa];unfold ZfK;cases hgd:ZgD h with
 | false=>rfl
 | true=>
  have tr:=(ZpH h).1 hgd;rw [if_neg (c:=(!true)=true) (by simp),if_neg (c:=true=false) (by simp),e,if_pos (by simp only [decide_eq_true_eq,gt_iff_lt];omega),show ((l.length:Int)-1)=((l.length-1:Nat):Int) by omega,ZaL (n:=((l.length-1:Nat):Int)) (by omega) (by omega),Zag (by omega),Zag (by omega),zG,Zjt (by omega),Zan,ZeT,Zjw (by omega) _ (hw2 _ (List.getElem_mem _)),Zaa,←b3];by_cases h2:h.Prev=(Zdu p l).Prev
  ·rw [if_neg (c:=(!(h.Prev==(Zdu p l).Prev))=true) (by simp [h2]),if_neg (c:=h.Prev≠(Zdu p l).Prev) (by simp [h2])];unfold Zau.p1;rw [ZnR (by omega) p l h0 hl,Zaa];by_cases h3:h.Bits=ZkP p (Zdu p l).Point h.Time
   ·rw [if_neg (c:=(h.Bits != ZkP p (Zdu p l).Point h.Time)=true) (by simpa using h3),if_neg (c:=h.Bits≠ZkP p (Zdu p l).Point h.Time) (by simpa using h3),ZnP (by omega) p hw,Zaa];have it:ZkG p h=if ((tgt h.Bits p.Limit).2&&decide (hv (hid h)≤(tgt h.Bits p.Limit).1))=true then 0 else 4:=by
     unfold ZkG;rw [hgd,if_neg (c:=true=false) (by simp)];cases (tgt h.Bits p.Limit).2
     ·rfl
     by_cases k:hv (hid h)≤(tgt h.Bits p.Limit).1<;>simp [k]
    cases h4:((tgt h.Bits p.Limit).2&&decide (hv (hid h)≤(tgt h.Bits p.Limit).1)) with
    | false=>
     rw [h4] at it;rw [if_pos (by rfl),if_pos (c:=ZkG p h≠0) (by rw [it];decide)]
    | true=>
     rw [h4] at it;rw [if_neg (c:=(!true)=true) (by simp),if_neg (c:=ZkG p h≠0) (by rw [it];decide)];have tm:=Zqm p l;have tl:0<((l.map (·.Time)).reverse.take 11).length:=by rw [xP,List.length_reverse,xW];omega
     refine ZbW (fun m (x:LL×Int)=>∃i:Nat,i+m=l.length∧x=(Zel ((l.take i).map (·.Time)),(i:Int))) ?_ N l.length _ ⟨0,by omega,rfl⟩ (by omega);rintro G m _ ⟨i,hi,rfl⟩ hG;unfold Zau.p2;dsimp only;rw [e];by_cases hlt:i<l.length
     ·rw [if_pos (by simp<;>omega),Zag (by omega),zG,Zjt hlt,Zan,ZeT,ZkU,ZhF,Zag (by rw [ZdT,zT,xW,xP];simp<;>omega),ZaL (by omega) (by omega)];refine hG (m-1) _ (by omega) ⟨i+1,by omega,?_⟩;rw [yG hlt,List.map_append];rfl
     rw [if_neg (by simp<;>omega),zX (by omega),if_pos (by simp only [decide_eq_true_eq,gt_iff_lt];omega),ZnT _ (by rw [xW];omega) (by rw [xW];omega),Zaa,Zag (ZmW _),Zsl N (by omega),Zaa,←tm];rw [←tm] at tl;by_cases h5:h.Time≤M (Zmr (Zdu p l).Times)
     ·rw [if_pos (by simpa using h5),if_pos (c:=((Zmr (Zdu p l).Times).length==0||decide (h.Time>M (Zmr (Zdu p l).Times)))=false) (by
       simp only [Bool.or_eq_false_iff,beq_eq_false_iff_ne,decide_eq_false_iff_not];omega)]
     rw [if_neg (by simpa using h5),if_neg (c:=((Zmr (Zdu p l).Times).length==0||decide (h.Time>M (Zmr (Zdu p l).Times)))=false) (by
      simp only [Bool.or_eq_false_iff,beq_eq_false_iff_ne,decide_eq_false_iff_not];omega)]
     unfold Zau.p3;rw [ref11_p5 (by omega) l hl hg lg hc lc hw tr.1,hh];have nr:near h.Time now p.Future=decide (0≤p.Future∧(h.Time≤now∨h.Time-now≤p.Future)):=rfl;by_cases f:p.Future<0
     ·rw [if_pos (by simpa using f),if_pos (c:=near h.Time now p.Future=false) (by rw [nr];simp only [decide_eq_false_iff_not];omega)]
     rw [if_neg (by simpa using f)];by_cases g:h.Time>now
     ·rw [if_pos (by simpa using g),ZaL (by omega) (by omega)];by_cases k:h.Time-now>p.Future
      ·rw [if_pos (by simpa using k),if_pos (c:=near h.Time now p.Future=false) (by rw [nr];simp only [decide_eq_false_iff_not];omega)]
      rw [if_neg (by simpa using k),if_neg (c:=near h.Time now p.Future=false) (by rw [nr];simp only [decide_eq_false_iff_not];omega)]
     rw [if_neg (by simpa using g),if_neg (c:=near h.Time now p.Future=false) (by rw [nr];simp only [decide_eq_false_iff_not];omega)]
   rw [if_pos (by simpa using h3),if_pos h3]
  rw [if_pos (by simpa using h2),if_pos h2]
def Zmt (last:Int):List Int→Bool
 | []=>true
 | x::l=>decide (last<x)&&Zmt x l
def Zmz (p:Zae) (gs:List ZcU) (cs:List Zcs):Bool:=ZiP p&&ZgD p.Genesis&&Zmt (-1) (gs.map (·.Height))&&Zmt 0 (cs.map (·.Height))
theorem ZnQ (hN:500≤N) {p:Zae} {gs:List ZcU} {cs:List Zcs} (hg:p.Gates=Zmy gs) (lg:gs.length≤400) (hc:p.Checks=ZjT cs) (lc:cs.length≤400) :
  Zby N p=some (Zmz p gs cs):=by
 unfold Zby Zmz;rw [Zjy (by omega),Zaa,ZiH,Zaa];cases ZiP p
 ·rfl
 cases ZgD p.Genesis
 ·rfl
 rw [if_neg (by simp),if_neg (by simp)];have p2:loopN (Zby.p2 N p) N (0,0)=some (Zmt 0 (cs.map (·.Height))):=by
  refine ZbW (fun m (x:Int×Int)=>∃(i:Nat) (last:Int),i+m=cs.length∧x=(last,(i:Int))∧Zmt 0 (cs.map (·.Height))=Zmt last ((cs.drop i).map (·.Height))) ?_ N cs.length _ ⟨0,0,by omega,rfl,rfl⟩ (by omega);rintro G m _ ⟨i,last,hi,rfl,hI⟩ hG;unfold Zby.p2;dsimp only;have e:len (ZjT cs)=(cs.length:Int):=by simp [len]
  rw [hc,e];by_cases hlt:i<cs.length
  ·rw [yN hlt,xA] at hI;simp only [Zmt] at hI;rw [if_pos (by simp<;>omega),Zag (by omega),zG,Zjv hlt,Zan,Zfd,ZaL (by omega) (by omega)];by_cases h1:cs[i].Height≤last
   ·rw [if_pos (by simpa using h1),hI,show decide (last<cs[i].Height)=false by simp;omega];rfl
   rw [if_neg (by simpa using h1)];exact hG (m-1) _ (by omega) ⟨i+1,_,by omega,rfl,by rw [hI,show decide (last<cs[i].Height)=true by simp;omega];rfl⟩
  rw [if_neg (by simp<;>omega),hI,wA (by omega)];rfl
 refine ZbW (fun m (x:Int×Int)=>∃(i:Nat) (last:Int),i+m=gs.length∧x=(last,(i:Int))∧Zmt (-1) (gs.map (·.Height))=Zmt last ((gs.drop i).map (·.Height))) ?_ N gs.length _ ⟨0,-1,by omega,rfl,rfl⟩ (by omega);rintro G m _ ⟨i,last,hi,rfl,hI⟩ hG;unfold Zby.p1;dsimp only;have e:len (Zmy gs)=(gs.length:Int):=by simp [len]
 rw [hg,e];by_cases hlt:i<gs.length
 ·rw [yN hlt,xA] at hI;simp only [Zmt] at hI;rw [if_pos (by simp<;>omega),Zag (by omega),zG,Zju hlt,Zan,Zfu,ZaL (by omega) (by omega)];by_cases h1:gs[i].Height≤last
  ·rw [if_pos (by simpa using h1),hI,show decide (last<gs[i].Height)=false by simp;omega];rfl
  rw [if_neg (by simpa using h1)];exact hG (m-1) _ (by omega) ⟨i+1,_,by omega,rfl,by rw [hI,show decide (last<gs[i].Height)=true by simp;omega];rfl⟩
 rw [if_neg (by simp<;>omega),hI,wA (by omega),p2];rfl
theorem ZoY (hN:500≤N) {p:Zae} {gs:List ZcU} {cs:List Zcs} (hg:p.Gates=Zmy gs) (lg:gs.length≤400) (hc:p.Checks=ZjT cs) (lc:cs.length≤400) :
  Zci N p=some (Zmz p gs cs):=by
 unfold Zci Zmz;rw [ZkE (by omega),Zaa,Zfi,Zaa];cases ZiP p
 ·rfl
 cases ZgD p.Genesis
 ·rfl
 rw [if_neg (by simp),if_neg (by simp)];have p2:loopN (Zci.p2 N p) N 0=some (Zmt 0 (cs.map (·.Height))):=by
  refine ZbW (fun m (x:Int)=>∃(i:Nat) (last:Int),i+m=cs.length∧x=(i:Int)∧0≤last∧(i=0→last=0)∧(∀h:0<i∧i-1<cs.length,last=cs[i-1].Height)∧Zmt 0 (cs.map (·.Height))=Zmt last ((cs.drop i).map (·.Height))) ?_ N cs.length _ ⟨0,0,by omega,rfl,by omega,fun _=>rfl,fun h=>by omega,rfl⟩ (by omega);rintro G m _ ⟨i,last,hi,rfl,h0,hz,hp,hI⟩ hG;unfold Zci.p2;have e:len (ZjT cs)=(cs.length:Int):=by simp [len]
  rw [hc,e];by_cases hlt:i<cs.length
  ·rw [yN hlt,xA] at hI;simp only [Zmt] at hI;have nx:last<cs[i].Height→G ((i:Int)+1)=some (true&&true&&true&&Zmt 0 (cs.map (·.Height))):=fun k=>
    hG (m-1) _ (by omega) ⟨i+1,cs[i].Height,by omega,by omega,by omega,by omega,fun _=>rfl,by rw [hI,show decide (last<cs[i].Height)=true by simp;omega];rfl⟩
   have bad : ¬ last<cs[i].Height→Zmt 0 (cs.map (·.Height))=false:=fun k=>by rw [hI,show decide (last<cs[i].Height)=false by simp;omega];rfl
   rw [if_pos (by simp<;>omega),Zag (by omega),zG,Zjv hlt,Zan,Zfd,ZaL (n:=(i:Int)+1) (by omega) (by omega)];by_cases h1:cs[i].Height<1
   ·rw [if_pos (by simpa using h1),bad (by omega)]
   rw [if_neg (by simpa using h1)];by_cases hi0:i=0
   ·have:=hz hi0;rw [if_neg (by simp [hi0])];exact nx (by omega)
   have:=hp ⟨by omega,by omega⟩;rw [if_pos (by simp<;>omega),show (i:Int)-1=((i-1:Nat):Int) by omega,ZaL (n:=((i-1:Nat):Int)) (by omega) (by omega),Zag (by omega),Zag (by omega),zG,Zjv (show i-1<cs.length by omega),Zan,Zfd,←this];by_cases h2:cs[i].Height≤last
   ·rw [if_pos (by simpa using h2),bad (by omega)]
   rw [if_neg (by simpa using h2)];exact nx (by omega)
  rw [if_neg (by simp<;>omega),hI,wA (by omega)];rfl
 refine ZbW (fun m (x:Int)=>∃(i:Nat) (last:Int),i+m=gs.length∧x=(i:Int)∧-1≤last∧(i=0→last = -1)∧(∀h:0<i∧i-1<gs.length,last=gs[i-1].Height)∧Zmt (-1) (gs.map (·.Height))=Zmt last ((gs.drop i).map (·.Height))) ?_ N gs.length _ ⟨0,-1,by omega,rfl,by omega,fun _=>rfl,fun h=>by omega,rfl⟩ (by omega);rintro G m _ ⟨i,last,hi,rfl,h0,hz,hp,hI⟩ hG;unfold Zci.p1;have e:len (Zmy gs)=(gs.length:Int):=by simp [len]
 rw [hg,e];by_cases hlt:i<gs.length
 ·rw [yN hlt,xA] at hI;simp only [Zmt] at hI;have nx:last<gs[i].Height→0≤gs[i].Height→G ((i:Int)+1)=some (true&&true&&Zmt (-1) (gs.map (·.Height))&&Zmt 0 (cs.map (·.Height))):=fun k k2=>
   hG (m-1) _ (by omega) ⟨i+1,gs[i].Height,by omega,by omega,by omega,by omega,fun _=>rfl,by rw [hI,show decide (last<gs[i].Height)=true by simp;omega];rfl⟩
  have bad : ¬ last<gs[i].Height→Zmt (-1) (gs.map (·.Height))=false:=fun k=>by rw [hI,show decide (last<gs[i].Height)=false by simp;omega];rfl
  rw [if_pos (by simp<;>omega),Zag (by omega),zG,Zju hlt,Zan,Zfu,ZaL (n:=(i:Int)+1) (by omega) (by omega)];by_cases h1:gs[i].Height<0
  ·rw [if_pos (by simpa using h1),bad (by omega)];rfl
  rw [if_neg (by simpa using h1)];by_cases hi0:i=0
  ·have:=hz hi0;rw [if_neg (by simp [hi0])];exact nx (by omega) (by omega)
  have:=hp ⟨by omega,by omega⟩;rw [if_pos (by simp<;>omega),show (i:Int)-1=((i-1:Nat):Int) by omega,ZaL (n:=((i-1:Nat):Int)) (by omega) (by omega),Zag (by omega),Zag (by omega),zG,Zju (show i-1<gs.length by omega),Zan,Zfu,←this];by_cases h2:gs[i].Height≤last
  ·rw [if_pos (by simpa using h2),bad (by omega)];rfl
  rw [if_neg (by simpa using h2)];exact nx (by omega) (by omega)
 rw [if_neg (by simp<;>omega),hI,wA (by omega),p2];rfl
end Go.Dn.F
