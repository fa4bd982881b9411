import Derived.Test.YtbijmojagnjgcaaGreatDoorNum
set_option linter.all false
open Bool renaming eq_iff_iff→xG
open Int renaming toNat_natCast→zG,tmod→zW
open List renaming take_succ_eq_append_getElem→yG,foldl_append→vI,take_of_length_le→zX,drop_eq_getElem_cons→yQ,drop_of_length_le→xY,length_append→zT,length_take→xO,length_map→wB,map_cons→xA
set_option maxRecDepth 40000
namespace Go.Dn.F
open Go.Dn Go.Proofs
variable {N:Nat}
theorem ZtH (h:Zak):(hid h).length=32∧bys (hid h):=by
 obtain ⟨b,e,l⟩:=hid_by h;rw [e];refine ⟨by simpa using l,fun x hx=>?_⟩;obtain ⟨y,_,rfl⟩:=List.mem_map.1 hx;exact ⟨Zua y,Zub y⟩
def Zkw (p:Zae) (h:Zak):Int:=
 if Zgv h=false then 1 else if (tgt h.Bits p.Limit).2=false then 4 else if hv (hid h)≤(tgt h.Bits p.Limit).1 then 0 else 4
theorem Zmn (hN:500≤N) (p:Zae) {h:Zak} (hw:wfH h=true):Zep N p h=some (Zkw p h):=by
 unfold Zep Zkw;rw [Zfb,Zaa,Zfv (by omega),Zaa];dsimp only;have hb:=ZtH h;rw [Zgw hN hw,Zaa,ZkH (by omega) hb.1 hb.2 (ZjS _ _),Zaa];cases Zgv h
 ·rfl
 cases (tgt h.Bits p.Limit).2
 ·rfl
 by_cases k:hv (hid h)≤(tgt h.Bits p.Limit).1<;>simp [k]
def ZhO (height:Int) (gs:List ZcN):Int:=gs.foldl (fun l g=>if height≥g.Height∧g.Version>l then g.Version else l) (-2147483648)
noncomputable def Zmp (l:List ZcN):LL:=l.map ZcN.ls
noncomputable def ZjN (l:List Zco):LL:=l.map Zco.ls
theorem Zjp {l:List ZcN} {i:Nat} (h:i<l.length):(Zmp l)[i]? = some l[i].ls:=by simp [Zmp,h]
theorem Zjq {l:List Zco} {i:Nat} (h:i<l.length):(ZjN l)[i]? = some l[i].ls:=by simp [ZjN,h]
@[simp] theorem Zqh (l:List ZcN):(Zmp l).length=l.length:=by simp [Zmp]
@[simp] theorem Zqi (l:List Zco):(ZjN l).length=l.length:=by simp [ZjN]
theorem open_G {xs:LL} (h : ∀x∈xs,ZhG [.int .i64,.int .i64] x) : ∃l:List ZcN,xs=Zmp l:=
 let ⟨l,h,_⟩:=Zrs (e:=ZcN.ls) (good:=fun _=>True) fun x hx=>by
  obtain ⟨_,_,rfl,h1,h⟩:=(h x hx).cons_inv;obtain ⟨_,_,rfl,h2,h⟩:=h.cons_inv;cases h.nil_inv;obtain ⟨a,rfl,_⟩:=h1.int_inv;obtain ⟨b,rfl,_⟩:=h2.int_inv;exact ⟨⟨a,b⟩,rfl,trivial⟩
 ⟨l,h⟩
theorem open_K {xs:LL} (h : ∀x∈xs,ZhG [.int .i64,.arr .u8 32] x) : ∃l:List Zco,xs=ZjN l:=
 let ⟨l,h,_⟩:=Zrs (e:=Zco.ls) (good:=fun _=>True) fun x hx=>by
  obtain ⟨_,_,rfl,h1,h⟩:=(h x hx).cons_inv;obtain ⟨_,_,rfl,h2,h⟩:=h.cons_inv;cases h.nil_inv;obtain ⟨a,rfl,_⟩:=h1.int_inv;obtain ⟨b,rfl,_⟩:=h2.arr_inv;exact ⟨⟨a,b⟩,rfl,trivial⟩
 ⟨l,h⟩
theorem Zlh (height:Int) (gs:List ZcN) (hg:gs.length<N) (hb:gs.length<1000000):Zbl N height (Zmp gs)=some (ZhO height gs):=by
 unfold Zbl;refine Zcd (fun m (x:Int×Int)=>∃i:Nat,i+m=gs.length∧x=(ZhO height (gs.take i),(i:Int))) ?_ N gs.length _ ⟨0,by omega,rfl⟩ hg;rintro G m _ ⟨i,hi,rfl⟩ hG;unfold Zbl.p1 Zbl.p2;dsimp only;by_cases hlt:i<gs.length
 ·rw [if_pos (by simp [len];omega),Zah (by omega),zG,Zjp hlt,Zar,Zfn,ZaJ (by omega) (by omega)];have st:ZhO height (gs.take (i+1))=if height≥gs[i].Height∧gs[i].Version>ZhO height (gs.take i) then gs[i].Version else ZhO height (gs.take i):=by
   unfold ZhO;rw [yG hlt,vI];rfl
  have hn:=hG (m-1) (ZhO height (gs.take (i+1)),((i+1:Nat):Int)) (by omega) ⟨i+1,by omega,rfl⟩;rw [st] at hn;by_cases h1:height≥gs[i].Height
  ·rw [if_pos (by simpa using h1)];by_cases h2:gs[i].Version>ZhO height (gs.take i)
   ·rw [if_pos ⟨h1,h2⟩] at hn;rw [if_pos h2];exact hn
   rw [if_neg (fun h=>h2 h.2)] at hn;rw [if_neg h2];exact hn
  rw [if_neg (by simpa using h1)];rw [if_neg (fun h=>h1 h.1)] at hn;exact hn
 rw [if_neg (by simp [len];omega),zX (by omega)]
def ZfU (height:Int) (id:List Int) (cs:List Zco):Bool:=cs.all fun c=>!(c.Height==height)||c.Id==id
theorem Zli (height:Int) (id:List Int) (cs:List Zco) (hg:cs.length<N) (hb:cs.length<1000000):Zcm N height id (ZjN cs)=some (ZfU height id cs):=by
 unfold Zcm;refine Zcd (fun m (x:Int)=>∃i:Nat,i+m=cs.length∧x=(i:Int)∧ZfU height id cs=ZfU height id (cs.drop i)) ?_ N cs.length _ ⟨0,by omega,rfl,by rw [List.drop_zero]⟩ hg;rintro G m _ ⟨i,hi,rfl,ht⟩ hG;unfold Zcm.p1;by_cases hlt:i<cs.length
 ·rw [yQ hlt] at ht;have e:ZfU height id (cs[i]::cs.drop (i+1))=((!(cs[i].Height==height)||cs[i].Id==id)&&ZfU height id (cs.drop (i+1))):=rfl;rw [e] at ht;rw [if_pos (by simp [len];omega),Zah (by omega),zG,Zjq hlt,Zar,ZeV,ZaJ (by omega) (by omega)];by_cases h1:(cs[i].Height==height)=true
  ·rw [if_pos h1];by_cases h2:(cs[i].Id==id)=true
   ·rw [if_neg (by simp [h2])];exact hG (m-1) _ (by omega) ⟨i+1,by omega,rfl,by rw [ht];simp [h2]⟩
   rw [if_pos (by simpa using h2),ht];simp [h1,h2]
  rw [if_neg h1];exact hG (m-1) _ (by omega) ⟨i+1,by omega,rfl,by rw [ht];simp [h1]⟩
 rw [if_neg (by simp [len];omega),ht,xY (by omega)];rfl
def near (t now f:Int):Bool:=decide (0≤f∧(t≤now∨t-now≤f))
theorem Zmv {t now:Int} (f:Int) (h1:0≤t∧t≤1152921504606846976) (h2 : -1152921504606846976≤now∧now≤9223372036854775807):Zeq N t now f=some (near t now f):=by
 unfold Zeq near;rw [ZaJ (by omega) (by omega)]
 repeat' split
 all_goals (refine Zgr ⟨fun h=>?_,fun h=>?_⟩<;>simp only [decide_eq_true_eq,Bool.false_eq_true] at * <;> first | trivial | omega)
def ZfD (p:Zae) (gs:List ZcN) (cs:List Zco) (s:ZaV) (h:Zak) (now:Int):Int:=
 if Zgv h=false then 1
 else if h.Prev≠s.Prev then 2
 else if h.Bits≠ZkE p s.Point h.Time then 3
 else if Zkw p h≠0 then 4
 else if ((Zmi s.Times).length==0||decide (h.Time>M (Zmi s.Times)))=false then 5
 else if near h.Time now p.Future=false then 6
 else if h.Version<ZhO s.Point.Height gs then 7
 else if ZfU s.Point.Height (hid h) cs=false then 8 else 0
theorem Znu (hN:500≤N) {p:Zae} {gs:List ZcN} {cs:List Zco} (hg:p.Gates=Zmp gs) (hc:p.Checks=ZjN cs) (lg:gs.length≤400) (lc:cs.length≤400)
  {s:ZaV} {h:Zak} (hw:wfH h=true) (hs:isI s.Times=true) (now:Int) (hnow : -1152921504606846976≤now∧now≤9223372036854775807) :
  ZeF N p s h now=some (ZfD p gs cs s h now):=by
 unfold ZeF ZfD;rw [Zfb,Zaa];cases hgd:Zgv h with
 | false=>rfl
 | true=>
  have tr:=(Zpy h).1 hgd;have ht:s.Times=Zed (Zmi s.Times):=ZkR hs;rw [if_neg (c:=(!true)=true) (by simp),if_neg (c:=true=false) (by simp)];by_cases h2:h.Prev=s.Prev
  ·rw [if_neg (by simp [h2]),if_neg (by simp [h2]),Zph (by omega),Zaa];by_cases h3:h.Bits=ZkE p s.Point h.Time
   ·rw [if_neg (by simp [h3]),if_neg (by simp [h3]),Zmn hN p hw,Zaa];by_cases h4:Zkw p h=0
    ·rw [if_neg (by simp [h4]),if_neg (by simp [h4]),show ZdO N h.Time s.Times=_ from (congrArg (ZdO N h.Time) ht).trans (Zqv N h.Time (Zmi s.Times)),Zaa];cases h5:((Zmi s.Times).length==0||decide (h.Time>M (Zmi s.Times)))
     ·rfl
     rw [if_neg (by simp),if_neg (by simp),Zmv _ (by omega) hnow,Zaa];cases h6:near h.Time now p.Future
     ·rfl
     rw [if_neg (by simp),if_neg (by simp),hg,Zlh _ gs (by omega) (by omega),Zaa];by_cases h7:h.Version<ZhO s.Point.Height gs
     ·rw [if_pos (by simpa using h7),if_pos h7]
     rw [if_neg (by simpa using h7),if_neg h7,Zgw hN hw,Zaa,hc,Zli _ _ cs (by omega) (by omega),Zaa];cases ZfU s.Point.Height (hid h) cs<;>rfl
    rw [if_pos (by simpa using h4),if_pos h4]
   rw [if_pos (by simpa using h3),if_pos h3]
  rw [if_pos (by simpa using h2),if_pos h2]
theorem ZjX (hN:300≤N) (p:Zae) (b f t:Int):ZaC N p b f t=some (retg p b f t):=by
 unfold ZaC retg;rw [Zgt hN,Zaa];dsimp only;rw [Zjt hN,Zaa];cases hg:ZiM p with
 | false=>rw [if_pos (by rfl),if_neg (by simp)]
 | true=>
  rw [if_neg (by simp)];cases ht:(tgt b p.Limit).2 with
  | false=>rw [if_pos (by rfl),if_neg (by simp)]
  | true=>
   rw [if_neg (by simp)];have hn:=ZjS b p.Limit;have hL:=ZjS p.Limit p.Limit;have D:=Zhi hg;have S:=Zlu hg f t;have enc : ∀{x:Int},isN x→ZaC.p3 N (nw x)=some (Zsw x):=fun h=>by
    unfold ZaC.p3;rw [ZnE hN h,Zaa]
   have p2:ZaC.p2 N p (ZfR p f t) (nw (tgt b p.Limit).1)=some (if (tgt b p.Limit).1*ZfR p f t/ZhA p<2^256∧(tgt b p.Limit).1*ZfR p f t/ZhA p≤(tgt p.Limit p.Limit).1
     then Zsw (if (tgt b p.Limit).1*ZfR p f t/ZhA p=0 then 1 else (tgt b p.Limit).1*ZfR p f t/ZhA p) else p.Limit):=by
    have hLt:=Zgt hN p.Limit p.Limit;unfold ZaC.p2;rw [ZkZ hg,ZsS hN hn S (by omega),Zaa];dsimp only;rw [hLt,Zaa];dsimp only;have q0:0≤(tgt b p.Limit).1*ZfR p f t/ZhA p:=Int.ediv_nonneg (Int.mul_nonneg hn.1 S.1) (by omega);generalize (tgt b p.Limit).1*ZfR p f t/ZhA p=Q at *;by_cases big:Q<2^256
    ·have hQ:isN Q:=⟨q0,big⟩
     rw [if_neg (by simpa using big),Int.emod_eq_of_lt q0 big,ZfX hN hL hQ,Zaa];by_cases hl:(tgt p.Limit p.Limit).1<Q
     ·rw [if_pos (by simpa using hl),if_neg (by omega)]
     rw [if_neg (by simpa using hl)];have z:(nw Q==List.replicate 4 0)=decide (Q=0):=Option.some.inj (Zex (N:=0) hQ);rw [z,if_pos (c:=Q<2^256∧Q≤(tgt p.Limit p.Limit).1) ⟨big,by omega⟩];by_cases h0:Q=0
     ·rw [if_pos (by simpa using h0),if_pos h0,Zqr (by unfold isW;omega),enc (by unfold isN;omega)]
     rw [if_neg (by simpa using h0),if_neg h0,enc hQ]
    rw [if_pos (by simpa using big),if_neg (by omega)]
   have fin:ZaC.p2 N p (ZfR p f t) (nw (tgt b p.Limit).1)=some (if ZiM p=true∧(tgt b p.Limit).2=true∧(tgt b p.Limit).1*ZfR p f t/ZhA p<2^256∧(tgt b p.Limit).1*ZfR p f t/ZhA p≤(tgt p.Limit p.Limit).1
     then Zsw (if (tgt b p.Limit).1*ZfR p f t/ZhA p=0 then 1 else (tgt b p.Limit).1*ZfR p f t/ZhA p) else p.Limit):=by
    rw [p2,hg,ht];simp only [true_and]
   rw [hg,ht] at fin;refine Eq.trans ?_ fin;have p1 : ∀y:Int,ZfR p f t=(if ZhA p*4<y then ZhA p*4 else y)→ZaC.p1 N p y (nw (tgt b p.Limit).1)=ZaC.p2 N p (ZfR p f t) (nw (tgt b p.Limit).1):=fun y hy=>by
    unfold ZaC.p1;rw [ZkZ hg,ZaJ (n:=ZhA p*4) (by omega) (by omega),hy];by_cases h:ZhA p*4<y
    ·rw [if_pos (by simpa using h),if_pos h]
    rw [if_neg (by simpa using h),if_neg h]
   rw [ZkZ hg,ZeP (by omega),ZaJ (n:=ZhA p/4) (by omega) (by omega)];by_cases h:w64 (t-f)<ZhA p/4
   ·rw [if_pos (by simpa using h)];exact p1 _ (by unfold ZfR;rw [if_pos (show ZhA p/4>w64 (t-f) from h)])
   rw [if_neg (by simpa using h)];exact p1 _ (by unfold ZfR;rw [if_neg (show ¬ ZhA p/4>w64 (t-f) from h)])
theorem ZnI (hN:300≤N) (p:Zae) (a:ZdN) (own:Int):ZcG N p a.Height a.Bits a.Time a.First a.Hard own=some (ZkE p a own):=by
 unfold ZcG ZkE;have p1:ZcG.p1 N a.Bits a.Time a.Hard own p=some (if p.Easy=false then a.Bits else if w64 (own-a.Time)>w64 (2*p.Spacing) then p.Limit else a.Hard):=by
  unfold ZcG.p1;cases p.Easy
  ·rfl
  rw [if_neg (c:=(!true)=true) (by simp),if_neg (c:=true=false) (by simp)];by_cases h:w64 (own-a.Time)>w64 (2*p.Spacing)
  ·rw [if_pos (by simpa using h),if_pos h]
  rw [if_neg (by simpa using h),if_neg h]
 by_cases h0:a.Height≤0
 ·rw [if_pos (by simpa using h0),if_pos h0]
 rw [if_neg (by simpa using h0),if_neg h0,p1,ZjX hN,Zaa];unfold Zfy;by_cases hi:p.Interval>0
 ·rw [if_pos (by simpa using hi),Zah (by omega)];by_cases hm:zW a.Height p.Interval=0
  ·rw [if_pos (by simpa using hm),if_pos (c:=decide (0<p.Interval∧zW a.Height p.Interval=0)=true) (by simp [hm]<;>omega)]
  rw [if_neg (by simpa using hm),if_neg (c:=decide (0<p.Interval∧zW a.Height p.Interval=0)=true) (by simp [hm])]
 rw [if_neg (by simpa using hi),if_neg (c:=decide (0<p.Interval∧zW a.Height p.Interval=0)=true) (by simp<;>omega)]
def s0 (p:Zae):ZaV:=⟨⟨0,0,0,0,p.Limit⟩,List.replicate 32 0,[]⟩
def Zdn (p:Zae) (l:List Zak):ZaV:=l.foldl (ZfO p) (s0 p)
theorem ZmH (p:Zae) (l:List Zak) {i:Nat} (h:i<l.length):Zdn p (l.take (i+1))=ZfO p (Zdn p (l.take i)) l[i]:=by
 unfold Zdn;rw [yG h,vI];rfl
theorem ZhT (p:Zae) : ∀l:List Zak,l.length<1000000→(Zdn p l).Point.Height=l.length:=by
 refine ZnA (fun _=>rfl) (fun l h ih hl=>?_);unfold Zdn at *;rw [vI];show w64 ((List.foldl (ZfO p) (s0 p) l).Point.Height+1)=_;rw [zT,List.length_singleton] at *;rw [ih (by omega),ZaJ (by omega) (by omega)];omega
theorem ZmJ (p:Zae) (l:List Zak) (h:0<l.length):(Zdn p l).Point.Bits=(l[l.length-1]).Bits∧(Zdn p l).Point.Time=(l[l.length-1]).Time∧(Zdn p l).Prev=hid l[l.length-1]:=by
 have:=ZmH p l (i:=l.length-1) (by omega);rw [zX (by omega)] at this;rw [this];exact ⟨rfl,rfl,rfl⟩
theorem Zqc (p:Zae) : ∀l:List Zak,Zmi (Zdn p l).Times=((l.map (·.Time)).reverse).take 11:=by
 refine ZnA rfl (fun l h ih=>?_);unfold Zdn at *;rw [vI];show Zmi (Zed (h.Time::(Zmi (List.foldl (ZfO p) (s0 p) l).Times).take 10))=_;rw [ZsE,ih,List.map_append,List.reverse_append,List.take_take];rfl
theorem ZnH (hN:850≤N) (p:Zae) (l:List Zak) (h0:0<l.length) (hl:l.length≤800) (time:Int):ZaE N p (ZjV l) time=some (ZkE p (Zdn p l).Point time):=by
 unfold ZaE;have e:len (ZjV l)=(l.length:Int):=by simp [len]
 obtain ⟨b1,b2,_⟩:=ZmJ p l h0;have hh:=ZhT p l (by omega);rw [e,if_neg (by simp only [beq_iff_eq];omega),show ((l.length:Int)-1)=((l.length-1:Nat):Int) by omega,ZaJ (n:=((l.length-1:Nat):Int)) (by omega) (by omega),Zah (by omega),Zah (by omega),zG,Zjo (by omega),Zar,ZeK];refine Zcd (fun m (x:Int×Int×Int)=>∃i:Nat,i+m=l.length∧x=((Zdn p (l.take i)).Point.First,(Zdn p (l.take i)).Point.Hard,(i:Int))) ?_ N l.length _ ⟨0,by omega,rfl⟩ (by omega);rintro G m _ ⟨i,hi,rfl⟩ hG;unfold ZaE.p1;dsimp only;rw [e];by_cases hlt:i<l.length
 ·have hst:=ZmH p l hlt;have ht:=ZhT p (l.take i) (by rw [xO];omega);rw [xO,Nat.min_eq_left (by omega)] at ht;have hn:=hG (m-1) _ (by omega) ⟨i+1,by omega,rfl⟩;rw [hst] at hn;have p3 : ∀first:Int,first=(ZfO p (Zdn p (l.take i)) l[i]).Point.First→ZaE.p3 N G time (ZjV l) first (Zdn p (l.take i)).Point.Hard (Zfy p (i:Int)) (i:Int) p l[l.length-1] l[i]=some (ZkE p (Zdn p l).Point time):=fun first hf=>by
   subst hf;have hd:(ZfO p (Zdn p (l.take i)) l[i]).Point.Hard=if (p.Easy&&l[i].Bits==p.Limit && !Zfy p (i:Int))=true then (Zdn p (l.take i)).Point.Hard else l[i].Bits:=by
    show (if (p.Easy&&l[i].Bits==p.Limit && !Zfy p (Zdn p (l.take i)).Point.Height)=true then _ else _)=_;rw [ht]
   rw [hd] at hn;unfold ZaE.p3 ZaE.p4;rw [ZaJ (by omega) (by omega)];have c:((i+1:Nat):Int)=(i:Int)+1:=by omega
   rw [c] at hn;cases h1:p.Easy with
   | false=>rw [h1] at hn;simpa using hn
   | true=>
    rw [h1] at hn;by_cases h2:l[i].Bits=p.Limit
    ·cases h3:Zfy p (i:Int) with
     | true=>rw [h3] at hn;simp [h2] at hn ⊢;exact hn
     | false=>rw [h3] at hn;simp [h2] at hn ⊢;exact hn
    simp [h2] at hn ⊢;exact hn
  have p2:ZaE.p2 N G time (ZjV l) (Zdn p (l.take i)).Point.First (Zdn p (l.take i)).Point.Hard (Zfy p (i:Int)) (i:Int) p l[l.length-1] l[i]=some (ZkE p (Zdn p l).Point time):=by
   unfold ZaE.p2;have hf:(ZfO p (Zdn p (l.take i)) l[i]).Point.First=if Zfy p (i:Int)=true then l[i].Time else (Zdn p (l.take i)).Point.First:=by
    show (if Zfy p (Zdn p (l.take i)).Point.Height=true then _ else _)=_;rw [ht]
   cases h3:Zfy p (i:Int) with
   | true=>rw [h3] at hf p3;rw [if_pos rfl];exact p3 _ (by rw [hf];rfl)
   | false=>rw [h3] at hf p3;rw [if_neg (by simp)];exact p3 _ (by rw [hf];rfl)
  rw [if_pos (by simp<;>omega),Zah (by omega),zG,Zjo hlt,Zar,ZeK];by_cases hI:p.Interval>0
  ·have:(zW (i:Int) p.Interval==0)=Zfy p (i:Int):=by
    unfold Zfy;rw [xG];simp [hI]
   rw [if_pos (by simpa using hI),Zah (by omega),this];exact p2
  have:false=Zfy p (i:Int):=by
   unfold Zfy;rw [xG];simp;omega
  rw [if_neg (by simpa using hI),this];exact p2
 rw [if_neg (by simp<;>omega),zX (by omega),←b1,←b2,←hh,ZnI (by omega),Zaa]
theorem ZnF (hN:600≤N) (p:Zae) {h:Zak} (hw:wfH h=true):Zee N p h=some ((tgt h.Bits p.Limit).2&&decide (hv (hid h)≤(tgt h.Bits p.Limit).1)):=by
 unfold Zee;have hb:=ZtH h;rw [Zgt (by omega),Zaa];dsimp only;rw [Zjr hN h hw,Zaa,ZnD (by omega) hb.1 hb.2,Zaa,ZfX (by omega) (ZjS _ _) (hv_isN hb.1 hb.2),Zaa];cases (tgt h.Bits p.Limit).2
 ·rfl
 rw [if_pos rfl]
 congr 1
 rw [xG];simp
theorem ZnJ (zs:List Int) (hN:zs.length+2≤N) (hz:zs.length≤1000):ZcH N (Zed zs)=some (Zed (zs.reverse.take 11)):=by
 unfold ZcH;rw [ZeE,ZaJ (by omega) (by omega)];refine Zcd (fun m (x:LL×Int)=>∃i:Nat,i+m=zs.length∧i≤11∧x=(Zed (zs.reverse.take i),(zs.length:Int)-1-(i:Int))) ?_ N zs.length _ ⟨0,by omega,by omega,by simp;rfl⟩ (by omega);rintro G m _ ⟨i,hi,h11,rfl⟩ hG;unfold ZcH.p1;dsimp only;by_cases hlt:i<zs.length
 ·rw [if_pos (by simp<;>omega)];have ll:(zs.reverse.take i).length=i:=by rw [xO,List.length_reverse];omega
  by_cases h:i<11
  ·have hr:zs.length-1-i<zs.length:=by omega
   have t:zs.reverse.take (i+1)=zs.reverse.take i ++ [zs[zs.length-1-i]]:=by
    rw [yG (by simp;omega),List.getElem_reverse]
   rw [if_pos (by rw [ZeE,ll];simp<;>omega),ZeE,Zah (by omega),Zah (by omega),show Int.toNat ((zs.length:Int)-1-(i:Int))=zs.length-1-i by omega,Zjn hr,Zar,Zea,ZkK,Zhu,Zah (by rw [ZdL,zT,ll];simp<;>omega),←t,ZaJ (by omega) (by omega)];exact hG (m-1) _ (by omega) ⟨i+1,by omega,by omega,by congr 1;omega⟩
  have:i=11:=by omega
  subst this;rw [if_neg (by rw [ZeE,ll];simp)]
 rw [if_neg (by simp<;>omega),zX (by simp;omega),zX (by simp;omega)]
theorem ZqO (height:Int) (gs:List ZcN) (v:Int) (hv : -2147483648≤v):v<ZhO height gs↔∃g∈gs,g.Height≤height∧v<g.Version:=by
 revert gs;refine ZnA ?_ (fun gs g ih=>?_)
 ·simp [ZhO];omega
 have e:ZhO height (gs ++ [g])=if height≥g.Height∧g.Version>ZhO height gs then g.Version else ZhO height gs:=by unfold ZhO;rw [vI];rfl
 rw [e];constructor
 ·intro h;split at h
  ·rename_i hc;exact ⟨g,by simp,hc.1,h⟩
  obtain ⟨g',h1,h2⟩:=ih.1 h;exact ⟨g',by simp [h1],h2⟩
 rintro ⟨g',h1,h2,h3⟩;rcases List.mem_append.1 h1 with h1 | h1
 ·have:=ih.2 ⟨g',h1,h2,h3⟩;split<;>omega
 cases List.mem_singleton.1 h1;split
 ·exact h3
 rename_i hc;omega
theorem ref11_p6 (hN:600≤N) (l:List Zak) (hl:l.length≤800) {p:Zae} {cs:List Zco} (hc:p.Checks=ZjN cs) (lc:cs.length≤400) {h:Zak} (hw:wfH h=true) :
  loopN (Zau.p6 N (ZjV l) p h) N 0=some (if ZfU (l.length:Int) (hid h) cs=false then 8 else 0):=by
 refine Zcd (fun m (x:Int)=>∃i:Nat,i+m=cs.length∧x=(i:Int)∧ZfU (l.length:Int) (hid h) cs=ZfU (l.length:Int) (hid h) (cs.drop i)) ?_ N cs.length _ ⟨0,by omega,rfl,by rw [List.drop_zero]⟩ (by omega);rintro G m _ ⟨i,hi,rfl,ht⟩ hG;unfold Zau.p6;have e:len (ZjV l)=(l.length:Int):=by simp [len]
 rw [hc,e];by_cases hlt:i<cs.length
 ·rw [yQ hlt] at ht;have e:ZfU (l.length:Int) (hid h) (cs[i]::cs.drop (i+1))=((!(cs[i].Height==(l.length:Int))||cs[i].Id==hid h)&&ZfU (l.length:Int) (hid h) (cs.drop (i+1))):=rfl;rw [e] at ht;rw [if_pos (by simp [len]<;>omega),Zah (by omega),zG,Zjq hlt,Zar,ZeV,ZaJ (by omega) (by omega)];by_cases h1:(cs[i].Height==(l.length:Int))=true
  ·rw [if_pos h1,Zjr hN h hw,Zaa];by_cases h2:(cs[i].Id==hid h)=true
   ·rw [if_neg (by simp [h2])];exact hG (m-1) _ (by omega) ⟨i+1,by omega,rfl,by rw [ht];simp [h2]⟩
   rw [if_pos (by simpa using h2),ht];simp [h1,h2]
  rw [if_neg h1];exact hG (m-1) _ (by omega) ⟨i+1,by omega,rfl,by rw [ht];simp [h1]⟩
 rw [if_neg (by simp [len]<;>omega),ht,xY (by omega)];rfl
theorem ref11_p5 (hN:600≤N) (l:List Zak) (hl:l.length≤800) {p:Zae} {gs:List ZcN} {cs:List Zco} (hg:p.Gates=Zmp gs) (lg:gs.length≤400) (hc:p.Checks=ZjN cs) (lc:cs.length≤400) {h:Zak} (hw:wfH h=true) (hv : -2147483648≤h.Version) :
  Zau.p4 N (ZjV l) p h=some (if h.Version<ZhO (l.length:Int) gs then 7 else if ZfU (l.length:Int) (hid h) cs=false then 8 else 0):=by
 unfold Zau.p4;refine Zcd (fun m (x:Int)=>∃i:Nat,i+m=gs.length∧x=(i:Int)∧∀g∈gs.take i,¬ (g.Height≤(l.length:Int)∧h.Version<g.Version)) ?_ N gs.length _ ⟨0,by omega,rfl,fun g hg=>by simp at hg⟩ (by omega);rintro G m _ ⟨i,hi,rfl,ht⟩ hG;unfold Zau.p5;have e:len (ZjV l)=(l.length:Int):=by simp [len]
 rw [hg,e];by_cases hlt:i<gs.length
 ·have next : ¬ (gs[i].Height≤(l.length:Int)∧h.Version<gs[i].Version)→∀g∈gs.take (i+1),¬ (g.Height≤(l.length:Int)∧h.Version<g.Version):=fun hn g hgm=>by
   rw [yG hlt] at hgm;rcases List.mem_append.1 hgm with k | k
   ·exact ht g k
   cases List.mem_singleton.1 k;exact hn
  rw [if_pos (by simp [len]<;>omega),Zah (by omega),zG,Zjp hlt,Zar,Zfn,ZaJ (by omega) (by omega)];by_cases h1:gs[i].Height≤(l.length:Int)
  ·rw [if_pos (by simpa using h1)];by_cases h2:h.Version<gs[i].Version
   ·rw [if_pos (by simpa using h2),if_pos ((ZqO _ gs _ hv).2 ⟨gs[i],List.getElem_mem hlt,h1,h2⟩)]
   rw [if_neg (by simpa using h2)];exact hG (m-1) _ (by omega) ⟨i+1,by omega,rfl,next fun k=>h2 k.2⟩
  rw [if_neg (by simpa using h1)];exact hG (m-1) _ (by omega) ⟨i+1,by omega,rfl,next fun k=>h1 k.1⟩
 rw [if_neg (by simp [len]<;>omega),ref11_p6 hN l hl hc lc hw,if_neg (c:=h.Version<ZhO (l.length:Int) gs)];intro k;obtain ⟨g,h1,h2⟩:=(ZqO _ gs _ hv).1 k;rw [zX (by omega)] at ht;exact ht g h1 h2
theorem Zms (hN:900≤N) {p:Zae} {gs:List ZcN} {cs:List Zco} (hg:p.Gates=Zmp gs) (lg:gs.length≤400) (hc:p.Checks=ZjN cs) (lc:cs.length≤400)
  (l:List Zak) (h0:0<l.length) (hl:l.length≤800) (hw2 : ∀x∈l,wfH x=true) {h:Zak} (hw:wfH h=true) (now:Int) (hnow:0≤now∧now≤9223372036854775807) :
  Zau N p (ZjV l) h now=some (ZfD p gs cs (Zdn p l) h now):=by
 unfold Zau;have e:len (ZjV l)=(l.length:Int):=by simp [len]
 obtain ⟨b1,b2,b3⟩:=ZmJ p l h0;have hh:=ZhT p l (by omega);rw [ZiB,Zaa];unfold ZfD;cases hgd:Zgv h with
 | false=>rfl
 | true=>
  have tr:=(Zpy h).1 hgd;rw [if_neg (c:=(!true)=true) (by simp),if_neg (c:=true=false) (by simp),e,if_pos (by simp only [decide_eq_true_eq,gt_iff_lt];omega),show ((l.length:Int)-1)=((l.length-1:Nat):Int) by omega,ZaJ (n:=((l.length-1:Nat):Int)) (by omega) (by omega),Zah (by omega),Zah (by omega),zG,Zjo (by omega),Zar,ZeK,Zjr (by omega) _ (hw2 _ (List.getElem_mem _)),Zaa,←b3];by_cases h2:h.Prev=(Zdn p l).Prev
  ·rw [if_neg (c:=(!(h.Prev==(Zdn p l).Prev))=true) (by simp [h2]),if_neg (c:=h.Prev≠(Zdn p l).Prev) (by simp [h2])];unfold Zau.p1;rw [ZnH (by omega) p l h0 hl,Zaa];by_cases h3:h.Bits=ZkE p (Zdn p l).Point h.Time
   ·rw [if_neg (c:=(h.Bits != ZkE p (Zdn p l).Point h.Time)=true) (by simpa using h3),if_neg (c:=h.Bits≠ZkE p (Zdn p l).Point h.Time) (by simpa using h3),ZnF (by omega) p hw,Zaa];have it:Zkw p h=if ((tgt h.Bits p.Limit).2&&decide (hv (hid h)≤(tgt h.Bits p.Limit).1))=true then 0 else 4:=by
     unfold Zkw;rw [hgd,if_neg (c:=true=false) (by simp)];cases (tgt h.Bits p.Limit).2
     ·rfl
     by_cases k:hv (hid h)≤(tgt h.Bits p.Limit).1<;>simp [k]
    cases h4:((tgt h.Bits p.Limit).2&&decide (hv (hid h)≤(tgt h.Bits p.Limit).1)) with
    | false=>
     rw [h4] at it;rw [if_pos (by rfl),if_pos (c:=Zkw p h≠0) (by rw [it];decide)]
    | true=>
     rw [h4] at it;rw [if_neg (c:=(!true)=true) (by simp),if_neg (c:=Zkw p h≠0) (by rw [it];decide)];have tm:=Zqc p l;have tl:0<((l.map (·.Time)).reverse.take 11).length:=by rw [xO,List.length_reverse,wB];omega
     refine Zcd (fun m (x:LL×Int)=>∃i:Nat,i+m=l.length∧x=(Zed ((l.take i).map (·.Time)),(i:Int))) ?_ N l.length _ ⟨0,by omega,rfl⟩ (by omega);rintro G m _ ⟨i,hi,rfl⟩ hG;unfold Zau.p2;dsimp only;rw [e];by_cases hlt:i<l.length
     ·rw [if_pos (by simp<;>omega),Zah (by omega),zG,Zjo hlt,Zar,ZeK,ZkK,Zhu,Zah (by rw [ZdL,zT,wB,xO];simp<;>omega),ZaJ (by omega) (by omega)];refine hG (m-1) _ (by omega) ⟨i+1,by omega,?_⟩;rw [yG hlt,List.map_append];rfl
     rw [if_neg (by simp<;>omega),zX (by omega),if_pos (by simp only [decide_eq_true_eq,gt_iff_lt];omega),ZnJ _ (by rw [wB];omega) (by rw [wB];omega),Zaa,Zah (ZmM _),Zsa N (by omega),Zaa,←tm];rw [←tm] at tl;by_cases h5:h.Time≤M (Zmi (Zdn p l).Times)
     ·rw [if_pos (by simpa using h5),if_pos (c:=((Zmi (Zdn p l).Times).length==0||decide (h.Time>M (Zmi (Zdn p l).Times)))=false) (by
       simp only [Bool.or_eq_false_iff,beq_eq_false_iff_ne,decide_eq_false_iff_not];omega)]
     rw [if_neg (by simpa using h5),if_neg (c:=((Zmi (Zdn p l).Times).length==0||decide (h.Time>M (Zmi (Zdn p l).Times)))=false) (by
      simp only [Bool.or_eq_false_iff,beq_eq_false_iff_ne,decide_eq_false_iff_not];omega)]
     unfold Zau.p3;rw [ref11_p5 (by omega) l hl hg lg hc lc hw tr.1,hh];have nr:near h.Time now p.Future=decide (0≤p.Future∧(h.Time≤now∨h.Time-now≤p.Future)):=rfl;by_cases f:p.Future<0
     ·rw [if_pos (by simpa using f),if_pos (c:=near h.Time now p.Future=false) (by rw [nr];simp only [decide_eq_false_iff_not];omega)]
     rw [if_neg (by simpa using f)];by_cases g:h.Time>now
     ·rw [if_pos (by simpa using g),ZaJ (by omega) (by omega)];by_cases k:h.Time-now>p.Future
      ·rw [if_pos (by simpa using k),if_pos (c:=near h.Time now p.Future=false) (by rw [nr];simp only [decide_eq_false_iff_not];omega)]
      rw [if_neg (by simpa using k),if_neg (c:=near h.Time now p.Future=false) (by rw [nr];simp only [decide_eq_false_iff_not];omega)]
     rw [if_neg (by simpa using g),if_neg (c:=near h.Time now p.Future=false) (by rw [nr];simp only [decide_eq_false_iff_not];omega)]
   rw [if_pos (by simpa using h3),if_pos h3]
  rw [if_pos (by simpa using h2),if_pos h2]
def Zmk (last:Int):List Int→Bool
 | []=>true
 | x::l=>decide (last<x)&&Zmk x l
def Zmq (p:Zae) (gs:List ZcN) (cs:List Zco):Bool:=ZiM p&&Zgv p.Genesis&&Zmk (-1) (gs.map (·.Height))&&Zmk 0 (cs.map (·.Height))
theorem ZnG (hN:500≤N) {p:Zae} {gs:List ZcN} {cs:List Zco} (hg:p.Gates=Zmp gs) (lg:gs.length≤400) (hc:p.Checks=ZjN cs) (lc:cs.length≤400) :
  Zbt N p=some (Zmq p gs cs):=by
 unfold Zbt Zmq;rw [Zjt (by omega),Zaa,ZiB,Zaa];cases ZiM p
 ·rfl
 cases Zgv p.Genesis
 ·rfl
 rw [if_neg (by simp),if_neg (by simp)];have p2:loopN (Zbt.p2 N p) N (0,0)=some (Zmk 0 (cs.map (·.Height))):=by
  refine Zcd (fun m (x:Int×Int)=>∃(i:Nat) (last:Int),i+m=cs.length∧x=(last,(i:Int))∧Zmk 0 (cs.map (·.Height))=Zmk last ((cs.drop i).map (·.Height))) ?_ N cs.length _ ⟨0,0,by omega,rfl,rfl⟩ (by omega);rintro G m _ ⟨i,last,hi,rfl,hI⟩ hG;unfold Zbt.p2;dsimp only;have e:len (ZjN cs)=(cs.length:Int):=by simp [len]
  rw [hc,e];by_cases hlt:i<cs.length
  ·rw [yQ hlt,xA] at hI;simp only [Zmk] at hI;rw [if_pos (by simp<;>omega),Zah (by omega),zG,Zjq hlt,Zar,ZeV,ZaJ (by omega) (by omega)];by_cases h1:cs[i].Height≤last
   ·rw [if_pos (by simpa using h1),hI,show decide (last<cs[i].Height)=false by simp;omega];rfl
   rw [if_neg (by simpa using h1)];exact hG (m-1) _ (by omega) ⟨i+1,_,by omega,rfl,by rw [hI,show decide (last<cs[i].Height)=true by simp;omega];rfl⟩
  rw [if_neg (by simp<;>omega),hI,xY (by omega)];rfl
 refine Zcd (fun m (x:Int×Int)=>∃(i:Nat) (last:Int),i+m=gs.length∧x=(last,(i:Int))∧Zmk (-1) (gs.map (·.Height))=Zmk last ((gs.drop i).map (·.Height))) ?_ N gs.length _ ⟨0,-1,by omega,rfl,rfl⟩ (by omega);rintro G m _ ⟨i,last,hi,rfl,hI⟩ hG;unfold Zbt.p1;dsimp only;have e:len (Zmp gs)=(gs.length:Int):=by simp [len]
 rw [hg,e];by_cases hlt:i<gs.length
 ·rw [yQ hlt,xA] at hI;simp only [Zmk] at hI;rw [if_pos (by simp<;>omega),Zah (by omega),zG,Zjp hlt,Zar,Zfn,ZaJ (by omega) (by omega)];by_cases h1:gs[i].Height≤last
  ·rw [if_pos (by simpa using h1),hI,show decide (last<gs[i].Height)=false by simp;omega];rfl
  rw [if_neg (by simpa using h1)];exact hG (m-1) _ (by omega) ⟨i+1,_,by omega,rfl,by rw [hI,show decide (last<gs[i].Height)=true by simp;omega];rfl⟩
 rw [if_neg (by simp<;>omega),hI,xY (by omega),p2];rfl
theorem ZoP (hN:500≤N) {p:Zae} {gs:List ZcN} {cs:List Zco} (hg:p.Gates=Zmp gs) (lg:gs.length≤400) (hc:p.Checks=ZjN cs) (lc:cs.length≤400) :
  Zce N p=some (Zmq p gs cs):=by
 unfold Zce Zmq;rw [Zku (by omega),Zaa,Zfb,Zaa];cases ZiM p
 ·rfl
 cases Zgv p.Genesis
 ·rfl
 rw [if_neg (by simp),if_neg (by simp)];have p2:loopN (Zce.p2 N p) N 0=some (Zmk 0 (cs.map (·.Height))):=by
  refine Zcd (fun m (x:Int)=>∃(i:Nat) (last:Int),i+m=cs.length∧x=(i:Int)∧0≤last∧(i=0→last=0)∧(∀h:0<i∧i-1<cs.length,last=cs[i-1].Height)∧Zmk 0 (cs.map (·.Height))=Zmk last ((cs.drop i).map (·.Height))) ?_ N cs.length _ ⟨0,0,by omega,rfl,by omega,fun _=>rfl,fun h=>by omega,rfl⟩ (by omega);rintro G m _ ⟨i,last,hi,rfl,h0,hz,hp,hI⟩ hG;unfold Zce.p2;have e:len (ZjN cs)=(cs.length:Int):=by simp [len]
  rw [hc,e];by_cases hlt:i<cs.length
  ·rw [yQ hlt,xA] at hI;simp only [Zmk] at hI;have nx:last<cs[i].Height→G ((i:Int)+1)=some (true&&true&&true&&Zmk 0 (cs.map (·.Height))):=fun k=>
    hG (m-1) _ (by omega) ⟨i+1,cs[i].Height,by omega,by omega,by omega,by omega,fun _=>rfl,by rw [hI,show decide (last<cs[i].Height)=true by simp;omega];rfl⟩
   have bad : ¬ last<cs[i].Height→Zmk 0 (cs.map (·.Height))=false:=fun k=>by rw [hI,show decide (last<cs[i].Height)=false by simp;omega];rfl
   rw [if_pos (by simp<;>omega),Zah (by omega),zG,Zjq hlt,Zar,ZeV,ZaJ (n:=(i:Int)+1) (by omega) (by omega)];by_cases h1:cs[i].Height<1
   ·rw [if_pos (by simpa using h1),bad (by omega)]
   rw [if_neg (by simpa using h1)];by_cases hi0:i=0
   ·have:=hz hi0;rw [if_neg (by simp [hi0])];exact nx (by omega)
   have:=hp ⟨by omega,by omega⟩;rw [if_pos (by simp<;>omega),show (i:Int)-1=((i-1:Nat):Int) by omega,ZaJ (n:=((i-1:Nat):Int)) (by omega) (by omega),Zah (by omega),Zah (by omega),zG,Zjq (show i-1<cs.length by omega),Zar,ZeV,←this];by_cases h2:cs[i].Height≤last
   ·rw [if_pos (by simpa using h2),bad (by omega)]
   rw [if_neg (by simpa using h2)];exact nx (by omega)
  rw [if_neg (by simp<;>omega),hI,xY (by omega)];rfl
 refine Zcd (fun m (x:Int)=>∃(i:Nat) (last:Int),i+m=gs.length∧x=(i:Int)∧-1≤last∧(i=0→last = -1)∧(∀h:0<i∧i-1<gs.length,last=gs[i-1].Height)∧Zmk (-1) (gs.map (·.Height))=Zmk last ((gs.drop i).map (·.Height))) ?_ N gs.length _ ⟨0,-1,by omega,rfl,by omega,fun _=>rfl,fun h=>by omega,rfl⟩ (by omega);rintro G m _ ⟨i,last,hi,rfl,h0,hz,hp,hI⟩ hG;unfold Zce.p1;have e:len (Zmp gs)=(gs.length:Int):=by simp [len]
 rw [hg,e];by_cases hlt:i<gs.length
 ·rw [yQ hlt,xA] at hI;simp only [Zmk] at hI;have nx:last<gs[i].Height→0≤gs[i].Height→G ((i:Int)+1)=some (true&&true&&Zmk (-1) (gs.map (·.Height))&&Zmk 0 (cs.map (·.Height))):=fun k k2=>
   hG (m-1) _ (by omega) ⟨i+1,gs[i].Height,by omega,by omega,by omega,by omega,fun _=>rfl,by rw [hI,show decide (last<gs[i].Height)=true by simp;omega];rfl⟩
  have bad : ¬ last<gs[i].Height→Zmk (-1) (gs.map (·.Height))=false:=fun k=>by rw [hI,show decide (last<gs[i].Height)=false by simp;omega];rfl
  rw [if_pos (by simp<;>omega),Zah (by omega),zG,Zjp hlt,Zar,Zfn,ZaJ (n:=(i:Int)+1) (by omega) (by omega)];by_cases h1:gs[i].Height<0
  ·rw [if_pos (by simpa using h1),bad (by omega)];rfl
  rw [if_neg (by simpa using h1)];by_cases hi0:i=0
  ·have:=hz hi0;rw [if_neg (by simp [hi0])];exact nx (by omega) (by omega)
  have:=hp ⟨by omega,by omega⟩;rw [if_pos (by simp<;>omega),show (i:Int)-1=((i-1:Nat):Int) by omega,ZaJ (n:=((i-1:Nat):Int)) (by omega) (by omega),Zah (by omega),Zah (by omega),zG,Zjp (show i-1<gs.length by omega),Zar,Zfn,←this];by_cases h2:gs[i].Height≤last
  ·rw [if_pos (by simpa using h2),bad (by omega)];rfl
  rw [if_neg (by simpa using h2)];exact nx (by omega) (by omega)
 rw [if_neg (by simp<;>omega),hI,xY (by omega),p2];rfl
end Go.Dn.F
