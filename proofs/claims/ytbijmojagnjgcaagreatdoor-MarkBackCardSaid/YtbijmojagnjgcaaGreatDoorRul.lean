import Derived.Test.YtbijmojagnjgcaaGreatDoorNum
set_option linter.all false
open Bool renaming eq_iff_iff→xK
open Int renaming toNat_natCast→zG,tmod→zX
open List renaming take_succ_eq_append_getElem→yJ,foldl_append→vQ,take_of_length_le→zY,drop_eq_getElem_cons→yQ,drop_of_length_le→wH,length_append→zU,length_take→xY,length_map→wC,map_cons→xD
set_option maxRecDepth 40000
namespace Go.Dn.F
open Go.Dn Go.Proofs
variable {N:Nat}
theorem Zue (h:Zak):(hid h).length=32∧bys (hid h):=by
 obtain ⟨b,e,l⟩:=hid_by h;rw [e];refine ⟨by simpa using l,fun x hx=>?_⟩;obtain ⟨y,_,rfl⟩:=List.mem_map.1 hx;exact ⟨Zuy y,Zuz y⟩
def ZkQ (p:Zae) (h:Zak):Int:=
 if ZgG h=false then 1 else if (tgt h.Bits p.Limit).2=false then 4 else if hv (hid h)≤(tgt h.Bits p.Limit).1 then 0 else 4
theorem ZmE (hN:500≤N) (p:Zae) {h:Zak} (hw:wfH h=true):Zez N p h=some (ZkQ p h):=by
 unfold Zez ZkQ;rw [Zfl,Zaa,ZfF (by omega),Zaa];dsimp only;have hb:=Zue h;rw [ZgH hN hw,Zaa,Zlb (by omega) hb.1 hb.2 (Zki _ _),Zaa];cases ZgG h
 ·rfl
 cases (tgt h.Bits p.Limit).2
 ·rfl
 by_cases k:hv (hid h)≤(tgt h.Bits p.Limit).1<;>simp [k]
def Zid (height:Int) (gs:List ZcY):Int:=gs.foldl (fun l g=>if height≥g.Height∧g.Version>l then g.Version else l) (-2147483648)
noncomputable def ZmG (l:List ZcY):LL:=l.map ZcY.ls
noncomputable def Zke (l:List Zcw):LL:=l.map Zcw.ls
theorem ZjD {l:List ZcY} {i:Nat} (h:i<l.length):(ZmG l)[i]? = some l[i].ls:=by simp [ZmG,h]
theorem ZjE {l:List Zcw} {i:Nat} (h:i<l.length):(Zke l)[i]? = some l[i].ls:=by simp [Zke,h]
@[simp] theorem Zqv (l:List ZcY):(ZmG l).length=l.length:=by simp [ZmG]
@[simp] theorem Zqw (l:List Zcw):(Zke l).length=l.length:=by simp [Zke]
theorem open_G {xs:LL} (h : ∀x∈xs,ZhW [.int .i64,.int .i64] x) : ∃l:List ZcY,xs=ZmG l:=
 let ⟨l,h,_⟩:=ZrL (e:=ZcY.ls) (good:=fun _=>True) fun x hx=>by
  obtain ⟨_,_,rfl,h1,h⟩:=(h x hx).cons_inv;obtain ⟨_,_,rfl,h2,h⟩:=h.cons_inv;cases h.nil_inv;obtain ⟨a,rfl,_⟩:=h1.int_inv;obtain ⟨b,rfl,_⟩:=h2.int_inv;exact ⟨⟨a,b⟩,rfl,trivial⟩
 ⟨l,h⟩
theorem open_K {xs:LL} (h : ∀x∈xs,ZhW [.int .i64,.arr .u8 32] x) : ∃l:List Zcw,xs=Zke l:=
 let ⟨l,h,_⟩:=ZrL (e:=Zcw.ls) (good:=fun _=>True) fun x hx=>by
  obtain ⟨_,_,rfl,h1,h⟩:=(h x hx).cons_inv;obtain ⟨_,_,rfl,h2,h⟩:=h.cons_inv;cases h.nil_inv;obtain ⟨a,rfl,_⟩:=h1.int_inv;obtain ⟨b,rfl,_⟩:=h2.arr_inv;exact ⟨⟨a,b⟩,rfl,trivial⟩
 ⟨l,h⟩
theorem ZlA (height:Int) (gs:List ZcY) (hg:gs.length<N) (hb:gs.length<1000000):Zbv N height (ZmG gs)=some (Zid height gs):=by
 unfold Zbv;refine ZbZ (fun m (x:Int×Int)=>∃i:Nat,i+m=gs.length∧x=(Zid height (gs.take i),(i:Int))) ?_ N gs.length _ ⟨0,by omega,rfl⟩ hg;rintro G m _ ⟨i,hi,rfl⟩ hG;unfold Zbv.p1 Zbv.p2;dsimp only;by_cases hlt:i<gs.length
 ·rw [aD (by simp [len];omega),Zaf (by omega),zG,ZjD hlt,Zam,Zfx,ZaL (by omega) (by omega)];have st:Zid height (gs.take (i+1))=if height≥gs[i].Height∧gs[i].Version>Zid height (gs.take i) then gs[i].Version else Zid height (gs.take i):=by
   unfold Zid;rw [yJ hlt,vQ];rfl
  have hn:=hG (m-1) (Zid height (gs.take (i+1)),((i+1:Nat):Int)) (by omega) ⟨i+1,by omega,rfl⟩;rw [st] at hn;by_cases h1:height≥gs[i].Height
  ·rw [aD (by simpa using h1)];by_cases h2:gs[i].Version>Zid height (gs.take i)
   ·rw [aD ⟨h1,h2⟩] at hn;rw [aD h2];exact hn
   rw [aE (fun h=>h2 h.2)] at hn;rw [aE h2];exact hn
  rw [aE (by simpa using h1)];rw [aE (fun h=>h1 h.1)] at hn;exact hn
 rw [aE (by simp [len];omega),zY (by omega)]
def Zge (height:Int) (id:List Int) (cs:List Zcw):Bool:=cs.all fun c=>!(c.Height==height)||c.Id==id
theorem ZlB (height:Int) (id:List Int) (cs:List Zcw) (hg:cs.length<N) (hb:cs.length<1000000):Zcu N height id (Zke cs)=some (Zge height id cs):=by
 unfold Zcu;refine ZbZ (fun m (x:Int)=>∃i:Nat,i+m=cs.length∧x=(i:Int)∧Zge height id cs=Zge height id (cs.drop i)) ?_ N cs.length _ ⟨0,by omega,rfl,by rw [List.drop_zero]⟩ hg;rintro G m _ ⟨i,hi,rfl,ht⟩ hG;unfold Zcu.p1;by_cases hlt:i<cs.length
 ·rw [yQ hlt] at ht;have e:Zge height id (cs[i]::cs.drop (i+1))=((!(cs[i].Height==height)||cs[i].Id==id)&&Zge height id (cs.drop (i+1))):=rfl;rw [e] at ht;rw [aD (by simp [len];omega),Zaf (by omega),zG,ZjE hlt,Zam,Zfg,ZaL (by omega) (by omega)];by_cases h1:(cs[i].Height==height)=true
  ·rw [aD h1];by_cases h2:(cs[i].Id==id)=true
   ·rw [aE (by simp [h2])];exact hG (m-1) _ (by omega) ⟨i+1,by omega,rfl,by rw [ht];simp [h2]⟩
   rw [aD (by simpa using h2),ht];simp [h1,h2]
  rw [aE h1];exact hG (m-1) _ (by omega) ⟨i+1,by omega,rfl,by rw [ht];simp [h1]⟩
 rw [aE (by simp [len];omega),ht,wH (by omega)];rfl
def near (t now f:Int):Bool:=decide (0≤f∧(t≤now∨t-now≤f))
theorem ZmM {t now:Int} (f:Int) (h1:0≤t∧t≤1152921504606846976) (h2 : -1152921504606846976≤now∧now≤9223372036854775807):ZeA N t now f=some (near t now f):=by
 unfold ZeA near;rw [ZaL (by omega) (by omega)]
 repeat' split
 all_goals (refine ZgC ⟨fun h=>?_,fun h=>?_⟩<;>simp only [decide_eq_true_eq,Bool.false_eq_true] at * <;> first | trivial | omega)
def ZfM (p:Zae) (gs:List ZcY) (cs:List Zcw) (s:Zbc) (h:Zak) (now:Int):Int:=
 if ZgG h=false then 1
 else if h.Prev≠s.Prev then 2
 else if h.Bits≠ZkY p s.Point h.Time then 3
 else if ZkQ p h≠0 then 4
 else if ((Zmz s.Times).length==0||decide (h.Time>M (Zmz s.Times)))=false then 5
 else if near h.Time now p.Future=false then 6
 else if h.Version<Zid s.Point.Height gs then 7
 else if Zge s.Point.Height (hid h) cs=false then 8 else 0
theorem ZnL (hN:500≤N) {p:Zae} {gs:List ZcY} {cs:List Zcw} (hg:p.Gates=ZmG gs) (hc:p.Checks=Zke cs) (lg:gs.length≤400) (lc:cs.length≤400)
  {s:Zbc} {h:Zak} (hw:wfH h=true) (hs:isI s.Times=true) (now:Int) (hnow : -1152921504606846976≤now∧now≤9223372036854775807) :
  ZeQ N p s h now=some (ZfM p gs cs s h now):=by
 unfold ZeQ ZfM;rw [Zfl,Zaa];cases hgd:ZgG h with
 | false=>rfl
 | true=>
  have tr:=(ZpN h).1 hgd;have ht:s.Times=Zei (Zmz s.Times):=Zlk hs;rw [aE (c:=(!true)=true) (by simp),aE (c:=true=false) (by simp)];by_cases h2:h.Prev=s.Prev
  ·rw [aE (by simp [h2]),aE (by simp [h2]),Zpx (by omega),Zaa];by_cases h3:h.Bits=ZkY p s.Point h.Time
   ·rw [aE (by simp [h3]),aE (by simp [h3]),ZmE hN p hw,Zaa];by_cases h4:ZkQ p h=0
    ·rw [aE (by simp [h4]),aE (by simp [h4]),show ZdW N h.Time s.Times=_ from (congrArg (ZdW N h.Time) ht).trans (ZqJ N h.Time (Zmz s.Times)),Zaa];cases h5:((Zmz s.Times).length==0||decide (h.Time>M (Zmz s.Times)))
     ·rfl
     rw [aE (by simp),aE (by simp),ZmM _ (by omega) hnow,Zaa];cases h6:near h.Time now p.Future
     ·rfl
     rw [aE (by simp),aE (by simp),hg,ZlA _ gs (by omega) (by omega),Zaa];by_cases h7:h.Version<Zid s.Point.Height gs
     ·rw [aD (by simpa using h7),aD h7]
     rw [aE (by simpa using h7),aE h7,ZgH hN hw,Zaa,hc,ZlB _ _ cs (by omega) (by omega),Zaa];cases Zge s.Point.Height (hid h) cs<;>rfl
    rw [aD (by simpa using h4),aD h4]
   rw [aD (by simpa using h3),aD h3]
  rw [aD (by simpa using h2),aD h2]
theorem Zko (hN:300≤N) (p:Zae) (b f t:Int):ZaB N p b f t=some (retg p b f t):=by
 unfold ZaB retg;rw [ZgE hN,Zaa];dsimp only;rw [ZjH hN,Zaa];cases hg:Zja p with
 | false=>rw [aD (by rfl),aE (by simp)]
 | true=>
  rw [aE (by simp)];cases ht:(tgt b p.Limit).2 with
  | false=>rw [aD (by rfl),aE (by simp)]
  | true=>
   rw [aE (by simp)];have hn:=Zki b p.Limit;have hL:=Zki p.Limit p.Limit;have D:=Zhy hg;have S:=ZlN hg f t;have enc : ∀{x:Int},isN x→ZaB.p3 N (nw x)=some (ZsR x):=fun h=>by
    unfold ZaB.p3;rw [ZnW hN h,Zaa]
   have p2:ZaB.p2 N p (Zgc p f t) (nw (tgt b p.Limit).1)=some (if (tgt b p.Limit).1*Zgc p f t/ZhP p<2^256∧(tgt b p.Limit).1*Zgc p f t/ZhP p≤(tgt p.Limit p.Limit).1
     then ZsR (if (tgt b p.Limit).1*Zgc p f t/ZhP p=0 then 1 else (tgt b p.Limit).1*Zgc p f t/ZhP p) else p.Limit):=by
    have hLt:=ZgE hN p.Limit p.Limit;unfold ZaB.p2;rw [Zls hg,Ztm hN hn S (by omega),Zaa];dsimp only;rw [hLt,Zaa];dsimp only;have q0:0≤(tgt b p.Limit).1*Zgc p f t/ZhP p:=Int.ediv_nonneg (Int.mul_nonneg hn.1 S.1) (by omega);generalize (tgt b p.Limit).1*Zgc p f t/ZhP p=Q at *;by_cases big:Q<2^256
    ·have hQ:isN Q:=⟨q0,big⟩
     rw [aE (by simpa using big),Int.emod_eq_of_lt q0 big,ZfP hN hL hQ,Zaa];by_cases hl:(tgt p.Limit p.Limit).1<Q
     ·rw [aD (by simpa using hl),aE (by omega)]
     rw [aE (by simpa using hl)];have z:(nw Q==List.replicate 4 0)=decide (Q=0):=Option.some.inj (ZeJ (N:=0) hQ);rw [z,aD (c:=Q<2^256∧Q≤(tgt p.Limit p.Limit).1) ⟨big,by omega⟩];by_cases h0:Q=0
     ·rw [aD (by simpa using h0),aD h0,ZqF (by unfold isW;omega),enc (by unfold isN;omega)]
     rw [aE (by simpa using h0),aE h0,enc hQ]
    rw [aD (by simpa using big),aE (by omega)]
   have fin:ZaB.p2 N p (Zgc p f t) (nw (tgt b p.Limit).1)=some (if Zja p=true∧(tgt b p.Limit).2=true∧(tgt b p.Limit).1*Zgc p f t/ZhP p<2^256∧(tgt b p.Limit).1*Zgc p f t/ZhP p≤(tgt p.Limit p.Limit).1
     then ZsR (if (tgt b p.Limit).1*Zgc p f t/ZhP p=0 then 1 else (tgt b p.Limit).1*Zgc p f t/ZhP p) else p.Limit):=by
    rw [p2,hg,ht];simp only [true_and]
   rw [hg,ht] at fin;refine Eq.trans ?_ fin;have p1 : ∀y:Int,Zgc p f t=(if ZhP p*4<y then ZhP p*4 else y)→ZaB.p1 N p y (nw (tgt b p.Limit).1)=ZaB.p2 N p (Zgc p f t) (nw (tgt b p.Limit).1):=fun y hy=>by
    unfold ZaB.p1;rw [Zls hg,ZaL (n:=ZhP p*4) (by omega) (by omega),hy];by_cases h:ZhP p*4<y
    ·rw [aD (by simpa using h),aD h]
    rw [aE (by simpa using h),aE h]
   rw [Zls hg,Zfa (by omega),ZaL (n:=ZhP p/4) (by omega) (by omega)];by_cases h:w64 (t-f)<ZhP p/4
   ·rw [aD (by simpa using h)];exact p1 _ (by unfold Zgc;rw [aD (show ZhP p/4>w64 (t-f) from h)])
   rw [aE (by simpa using h)];exact p1 _ (by unfold Zgc;rw [aE (show ¬ ZhP p/4>w64 (t-f) from h)])
theorem Zoa (hN:300≤N) (p:Zae) (a:ZdV) (own:Int):ZcN N p a.Height a.Bits a.Time a.First a.Hard own=some (ZkY p a own):=by
 unfold ZcN ZkY;have p1:ZcN.p1 N a.Bits a.Time a.Hard own p=some (if p.Easy=false then a.Bits else if w64 (own-a.Time)>w64 (2*p.Spacing) then p.Limit else a.Hard):=by
  unfold ZcN.p1;cases p.Easy
  ·rfl
  rw [aE (c:=(!true)=true) (by simp),aE (c:=true=false) (by simp)];by_cases h:w64 (own-a.Time)>w64 (2*p.Spacing)
  ·rw [aD (by simpa using h),aD h]
  rw [aE (by simpa using h),aE h]
 by_cases h0:a.Height≤0
 ·rw [aD (by simpa using h0),aD h0]
 rw [aE (by simpa using h0),aE h0,p1,Zko hN,Zaa];unfold ZfH;by_cases hi:p.Interval>0
 ·rw [aD (by simpa using hi),Zaf (by omega)];by_cases hm:zX a.Height p.Interval=0
  ·rw [aD (by simpa using hm),aD (c:=decide (0<p.Interval∧zX a.Height p.Interval=0)=true) (by simp [hm]<;>omega)]
  rw [aE (by simpa using hm),aE (c:=decide (0<p.Interval∧zX a.Height p.Interval=0)=true) (by simp [hm])]
 rw [aE (by simpa using hi),aE (c:=decide (0<p.Interval∧zX a.Height p.Interval=0)=true) (by simp<;>omega)]
def s0 (p:Zae):Zbc:=⟨⟨0,0,0,0,p.Limit⟩,List.replicate 32 0,[]⟩
def Zdv (p:Zae) (l:List Zak):Zbc:=l.foldl (ZfZ p) (s0 p)
theorem ZmZ (p:Zae) (l:List Zak) {i:Nat} (h:i<l.length):Zdv p (l.take (i+1))=ZfZ p (Zdv p (l.take i)) l[i]:=by
 unfold Zdv;rw [yJ h,vQ];rfl
theorem Zij (p:Zae) : ∀l:List Zak,l.length<1000000→(Zdv p l).Point.Height=l.length:=by
 refine ZnS (fun _=>rfl) (fun l h ih hl=>?_);unfold Zdv at *;rw [vQ];show w64 ((List.foldl (ZfZ p) (s0 p) l).Point.Height+1)=_;rw [zU,List.length_singleton] at *;rw [ih (by omega),ZaL (by omega) (by omega)];omega
theorem Znb (p:Zae) (l:List Zak) (h:0<l.length):(Zdv p l).Point.Bits=(l[l.length-1]).Bits∧(Zdv p l).Point.Time=(l[l.length-1]).Time∧(Zdv p l).Prev=hid l[l.length-1]:=by
 have:=ZmZ p l (i:=l.length-1) (by omega);rw [zY (by omega)] at this;rw [this];exact ⟨rfl,rfl,rfl⟩
theorem Zqq (p:Zae) : ∀l:List Zak,Zmz (Zdv p l).Times=((l.map (·.Time)).reverse).take 11:=by
 refine ZnS rfl (fun l h ih=>?_);unfold Zdv at *;rw [vQ];show Zmz (Zei (h.Time::(Zmz (List.foldl (ZfZ p) (s0 p) l).Times).take 10))=_;rw [ZsY,ih,List.map_append,List.reverse_append,List.take_take];rfl
theorem ZnZ (hN:850≤N) (p:Zae) (l:List Zak) (h0:0<l.length) (hl:l.length≤800) (time:Int):ZaF N p (Zkm l) time=some (ZkY p (Zdv p l).Point time):=by
 unfold ZaF;have e:len (Zkm l)=(l.length:Int):=by simp [len]
 obtain ⟨b1,b2,_⟩:=Znb p l h0;have hh:=Zij p l (by omega);rw [e,aE (by simp only [beq_iff_eq];omega),show ((l.length:Int)-1)=((l.length-1:Nat):Int) by omega,ZaL (n:=((l.length-1:Nat):Int)) (by omega) (by omega),Zaf (by omega),Zaf (by omega),zG,ZjC (by omega),Zam,ZeV];refine ZbZ (fun m (x:Int×Int×Int)=>∃i:Nat,i+m=l.length∧x=((Zdv p (l.take i)).Point.First,(Zdv p (l.take i)).Point.Hard,(i:Int))) ?_ N l.length _ ⟨0,by omega,rfl⟩ (by omega);rintro G m _ ⟨i,hi,rfl⟩ hG;unfold ZaF.p1;dsimp only;rw [e];by_cases hlt:i<l.length
 ·have hst:=ZmZ p l hlt;have ht:=Zij p (l.take i) (by rw [xY];omega);rw [xY,Nat.min_eq_left (by omega)] at ht;have hn:=hG (m-1) _ (by omega) ⟨i+1,by omega,rfl⟩;rw [hst] at hn;have p3 : ∀first:Int,first=(ZfZ p (Zdv p (l.take i)) l[i]).Point.First→ZaF.p3 N G time (Zkm l) first (Zdv p (l.take i)).Point.Hard (ZfH p (i:Int)) (i:Int) p l[l.length-1] l[i]=some (ZkY p (Zdv p l).Point time):=fun first hf=>by
   subst hf;have hd:(ZfZ p (Zdv p (l.take i)) l[i]).Point.Hard=if (p.Easy&&l[i].Bits==p.Limit && !ZfH p (i:Int))=true then (Zdv p (l.take i)).Point.Hard else l[i].Bits:=by
    show (if (p.Easy&&l[i].Bits==p.Limit && !ZfH p (Zdv p (l.take i)).Point.Height)=true then _ else _)=_;rw [ht]
   rw [hd] at hn;unfold ZaF.p3 ZaF.p4;rw [ZaL (by omega) (by omega)];have c:((i+1:Nat):Int)=(i:Int)+1:=by omega
   rw [c] at hn;cases h1:p.Easy with
   | false=>rw [h1] at hn;simpa using hn
   | true=>
    rw [h1] at hn;by_cases h2:l[i].Bits=p.Limit
    ·cases h3:ZfH p (i:Int) with
     | true=>rw [h3] at hn;simp [h2] at hn ⊢;exact hn
     | false=>rw [h3] at hn;simp [h2] at hn ⊢;exact hn
    simp [h2] at hn ⊢;exact hn
  have p2:ZaF.p2 N G time (Zkm l) (Zdv p (l.take i)).Point.First (Zdv p (l.take i)).Point.Hard (ZfH p (i:Int)) (i:Int) p l[l.length-1] l[i]=some (ZkY p (Zdv p l).Point time):=by
   unfold ZaF.p2;have hf:(ZfZ p (Zdv p (l.take i)) l[i]).Point.First=if ZfH p (i:Int)=true then l[i].Time else (Zdv p (l.take i)).Point.First:=by
    show (if ZfH p (Zdv p (l.take i)).Point.Height=true then _ else _)=_;rw [ht]
   cases h3:ZfH p (i:Int) with
   | true=>rw [h3] at hf p3;rw [aD rfl];exact p3 _ (by rw [hf];rfl)
   | false=>rw [h3] at hf p3;rw [aE (by simp)];exact p3 _ (by rw [hf];rfl)
  rw [aD (by simp<;>omega),Zaf (by omega),zG,ZjC hlt,Zam,ZeV];by_cases hI:p.Interval>0
  ·have:(zX (i:Int) p.Interval==0)=ZfH p (i:Int):=by
    unfold ZfH;rw [xK];simp [hI]
   rw [aD (by simpa using hI),Zaf (by omega),this];exact p2
  have:false=ZfH p (i:Int):=by
   unfold ZfH;rw [xK];simp;omega
  rw [aE (by simpa using hI),this];exact p2
 rw [aE (by simp<;>omega),zY (by omega),←b1,←b2,←hh,Zoa (by omega),Zaa]
theorem ZnX (hN:600≤N) (p:Zae) {h:Zak} (hw:wfH h=true):Zen N p h=some ((tgt h.Bits p.Limit).2&&decide (hv (hid h)≤(tgt h.Bits p.Limit).1)):=by
 unfold Zen;have hb:=Zue h;rw [ZgE (by omega),Zaa];dsimp only;rw [ZjF hN h hw,Zaa,ZnV (by omega) hb.1 hb.2,Zaa,ZfP (by omega) (Zki _ _) (hv_isN hb.1 hb.2),Zaa];cases (tgt h.Bits p.Limit).2
 ·rfl
 rw [aD rfl]
 congr 1
 rw [xK];simp
theorem Zob (zs:List Int) (hN:zs.length+2≤N) (hz:zs.length≤1000):ZcO N (Zei zs)=some (Zei (zs.reverse.take 11)):=by
 unfold ZcO;rw [ZeP,ZaL (by omega) (by omega)];refine ZbZ (fun m (x:LL×Int)=>∃i:Nat,i+m=zs.length∧i≤11∧x=(Zei (zs.reverse.take i),(zs.length:Int)-1-(i:Int))) ?_ N zs.length _ ⟨0,by omega,by omega,by simp;rfl⟩ (by omega);rintro G m _ ⟨i,hi,h11,rfl⟩ hG;unfold ZcO.p1;dsimp only;by_cases hlt:i<zs.length
 ·rw [aD (by simp<;>omega)];have ll:(zs.reverse.take i).length=i:=by rw [xY,List.length_reverse];omega
  by_cases h:i<11
  ·have hr:zs.length-1-i<zs.length:=by omega
   have t:zs.reverse.take (i+1)=zs.reverse.take i ++ [zs[zs.length-1-i]]:=by
    rw [yJ (by simp;omega),List.getElem_reverse]
   rw [aD (by rw [ZeP,ll];simp<;>omega),ZeP,Zaf (by omega),Zaf (by omega),show Int.toNat ((zs.length:Int)-1-(i:Int))=zs.length-1-i by omega,ZjB hr,Zam,Zek,Zld,ZhK,Zaf (by rw [ZdT,zU,ll];simp<;>omega),←t,ZaL (by omega) (by omega)];exact hG (m-1) _ (by omega) ⟨i+1,by omega,by omega,by congr 1;omega⟩
  have:i=11:=by omega
  subst this;rw [aE (by rw [ZeP,ll];simp)]
 rw [aE (by simp<;>omega),zY (by simp;omega),zY (by simp;omega)]
theorem Zrd (height:Int) (gs:List ZcY) (v:Int) (hv : -2147483648≤v):v<Zid height gs↔∃g∈gs,g.Height≤height∧v<g.Version:=by
 revert gs;refine ZnS ?_ (fun gs g ih=>?_)
 ·simp [Zid];omega
 have e:Zid height (gs ++ [g])=if height≥g.Height∧g.Version>Zid height gs then g.Version else Zid height gs:=by unfold Zid;rw [vQ];rfl
 rw [e];constructor
 ·intro h;split at h
  ·rename_i hc;exact ⟨g,by simp,hc.1,h⟩
  obtain ⟨g',h1,h2⟩:=ih.1 h;exact ⟨g',by simp [h1],h2⟩
 rintro ⟨g',h1,h2,h3⟩;rcases List.mem_append.1 h1 with h1 | h1
 ·have:=ih.2 ⟨g',h1,h2,h3⟩;split<;>omega
 cases List.mem_singleton.1 h1;split
 ·exact h3
 rename_i hc;omega
theorem ref11_p6 (hN:600≤N) (l:List Zak) (hl:l.length≤800) {p:Zae} {cs:List Zcw} (hc:p.Checks=Zke cs) (lc:cs.length≤400) {h:Zak} (hw:wfH h=true) :
  loopN (Zau.p6 N (Zkm l) p h) N 0=some (if Zge (l.length:Int) (hid h) cs=false then 8 else 0):=by
 refine ZbZ (fun m (x:Int)=>∃i:Nat,i+m=cs.length∧x=(i:Int)∧Zge (l.length:Int) (hid h) cs=Zge (l.length:Int) (hid h) (cs.drop i)) ?_ N cs.length _ ⟨0,by omega,rfl,by rw [List.drop_zero]⟩ (by omega);rintro G m _ ⟨i,hi,rfl,ht⟩ hG;unfold Zau.p6;have e:len (Zkm l)=(l.length:Int):=by simp [len]
 rw [hc,e];by_cases hlt:i<cs.length
 ·rw [yQ hlt] at ht;have e:Zge (l.length:Int) (hid h) (cs[i]::cs.drop (i+1))=((!(cs[i].Height==(l.length:Int))||cs[i].Id==hid h)&&Zge (l.length:Int) (hid h) (cs.drop (i+1))):=rfl;rw [e] at ht;rw [aD (by simp [len]<;>omega),Zaf (by omega),zG,ZjE hlt,Zam,Zfg,ZaL (by omega) (by omega)];by_cases h1:(cs[i].Height==(l.length:Int))=true
  ·rw [aD h1,ZjF hN h hw,Zaa];by_cases h2:(cs[i].Id==hid h)=true
   ·rw [aE (by simp [h2])];exact hG (m-1) _ (by omega) ⟨i+1,by omega,rfl,by rw [ht];simp [h2]⟩
   rw [aD (by simpa using h2),ht];simp [h1,h2]
  rw [aE h1];exact hG (m-1) _ (by omega) ⟨i+1,by omega,rfl,by rw [ht];simp [h1]⟩
 rw [aE (by simp [len]<;>omega),ht,wH (by omega)];rfl
theorem ref11_p5 (hN:600≤N) (l:List Zak) (hl:l.length≤800) {p:Zae} {gs:List ZcY} {cs:List Zcw} (hg:p.Gates=ZmG gs) (lg:gs.length≤400) (hc:p.Checks=Zke cs) (lc:cs.length≤400) {h:Zak} (hw:wfH h=true) (hv : -2147483648≤h.Version) :
  Zau.p4 N (Zkm l) p h=some (if h.Version<Zid (l.length:Int) gs then 7 else if Zge (l.length:Int) (hid h) cs=false then 8 else 0):=by
 unfold Zau.p4;refine ZbZ (fun m (x:Int)=>∃i:Nat,i+m=gs.length∧x=(i:Int)∧∀g∈gs.take i,¬ (g.Height≤(l.length:Int)∧h.Version<g.Version)) ?_ N gs.length _ ⟨0,by omega,rfl,fun g hg=>by simp at hg⟩ (by omega);rintro G m _ ⟨i,hi,rfl,ht⟩ hG;unfold Zau.p5;have e:len (Zkm l)=(l.length:Int):=by simp [len]
 rw [hg,e];by_cases hlt:i<gs.length
 ·have next : ¬ (gs[i].Height≤(l.length:Int)∧h.Version<gs[i].Version)→∀g∈gs.take (i+1),¬ (g.Height≤(l.length:Int)∧h.Version<g.Version):=fun hn g hgm=>by
   rw [yJ hlt] at hgm;rcases List.mem_append.1 hgm with k | k
   ·exact ht g k
   cases List.mem_singleton.1 k;exact hn
  rw [aD (by simp [len]<;>omega),Zaf (by omega),zG,ZjD hlt,Zam,Zfx,ZaL (by omega) (by omega)];by_cases h1:gs[i].Height≤(l.length:Int)
  ·rw [aD (by simpa using h1)];by_cases h2:h.Version<gs[i].Version
   ·rw [aD (by simpa using h2),aD ((Zrd _ gs _ hv).2 ⟨gs[i],List.getElem_mem hlt,h1,h2⟩)]
   rw [aE (by simpa using h2)];exact hG (m-1) _ (by omega) ⟨i+1,by omega,rfl,next fun k=>h2 k.2⟩
  rw [aE (by simpa using h1)];exact hG (m-1) _ (by omega) ⟨i+1,by omega,rfl,next fun k=>h1 k.1⟩
 rw [aE (by simp [len]<;>omega),ref11_p6 hN l hl hc lc hw,aE (c:=h.Version<Zid (l.length:Int) gs)];intro k;obtain ⟨g,h1,h2⟩:=(Zrd _ gs _ hv).1 k;rw [zY (by omega)] at ht;exact ht g h1 h2
theorem ZmJ (hN:900≤N) {p:Zae} {gs:List ZcY} {cs:List Zcw} (hg:p.Gates=ZmG gs) (lg:gs.length≤400) (hc:p.Checks=Zke cs) (lc:cs.length≤400)
  (l:List Zak) (h0:0<l.length) (hl:l.length≤800) (hw2 : ∀x∈l,wfH x=true) {h:Zak} (hw:wfH h=true) (now:Int) (hnow:0≤now∧now≤9223372036854775807) :
  Zau N p (Zkm l) h now=some (ZfM p gs cs (Zdv p l) h now):=by
 unfold Zau;have e:len (Zkm l)=(l.length:Int):=by simp [len]
 obtain ⟨b1,b2,b3⟩:=Znb p l h0;have hh:=Zij p l (by omega);rw [ZiP,Zaa];unfold ZfM;cases hgd:ZgG h with
 | false=>rfl
 | true=>
  have tr:=(ZpN h).1 hgd;rw [aE (c:=(!true)=true) (by simp),aE (c:=true=false) (by simp),e,aD (by simp only [decide_eq_true_eq,gt_iff_lt];omega),show ((l.length:Int)-1)=((l.length-1:Nat):Int) by omega,ZaL (n:=((l.length-1:Nat):Int)) (by omega) (by omega),Zaf (by omega),Zaf (by omega),zG,ZjC (by omega),Zam,ZeV,ZjF (by omega) _ (hw2 _ (List.getElem_mem _)),Zaa,←b3];by_cases h2:h.Prev=(Zdv p l).Prev
  ·rw [aE (c:=(!(h.Prev==(Zdv p l).Prev))=true) (by simp [h2]),aE (c:=h.Prev≠(Zdv p l).Prev) (by simp [h2])];unfold Zau.p1;rw [ZnZ (by omega) p l h0 hl,Zaa];by_cases h3:h.Bits=ZkY p (Zdv p l).Point h.Time
   ·rw [aE (c:=(h.Bits != ZkY p (Zdv p l).Point h.Time)=true) (by simpa using h3),aE (c:=h.Bits≠ZkY p (Zdv p l).Point h.Time) (by simpa using h3),ZnX (by omega) p hw,Zaa];have it:ZkQ p h=if ((tgt h.Bits p.Limit).2&&decide (hv (hid h)≤(tgt h.Bits p.Limit).1))=true then 0 else 4:=by
     unfold ZkQ;rw [hgd,aE (c:=true=false) (by simp)];cases (tgt h.Bits p.Limit).2
     ·rfl
     by_cases k:hv (hid h)≤(tgt h.Bits p.Limit).1<;>simp [k]
    cases h4:((tgt h.Bits p.Limit).2&&decide (hv (hid h)≤(tgt h.Bits p.Limit).1)) with
    | false=>
     rw [h4] at it;rw [aD (by rfl),aD (c:=ZkQ p h≠0) (by rw [it];decide)]
    | true=>
     rw [h4] at it;rw [aE (c:=(!true)=true) (by simp),aE (c:=ZkQ p h≠0) (by rw [it];decide)];have tm:=Zqq p l;have tl:0<((l.map (·.Time)).reverse.take 11).length:=by rw [xY,List.length_reverse,wC];omega
     refine ZbZ (fun m (x:LL×Int)=>∃i:Nat,i+m=l.length∧x=(Zei ((l.take i).map (·.Time)),(i:Int))) ?_ N l.length _ ⟨0,by omega,rfl⟩ (by omega);rintro G m _ ⟨i,hi,rfl⟩ hG;unfold Zau.p2;dsimp only;rw [e];by_cases hlt:i<l.length
     ·rw [aD (by simp<;>omega),Zaf (by omega),zG,ZjC hlt,Zam,ZeV,Zld,ZhK,Zaf (by rw [ZdT,zU,wC,xY];simp<;>omega),ZaL (by omega) (by omega)];refine hG (m-1) _ (by omega) ⟨i+1,by omega,?_⟩;rw [yJ hlt,List.map_append];rfl
     rw [aE (by simp<;>omega),zY (by omega),aD (by simp only [decide_eq_true_eq,gt_iff_lt];omega),Zob _ (by rw [wC];omega) (by rw [wC];omega),Zaa,Zaf (Zne _),Zsu N (by omega),Zaa,←tm];rw [←tm] at tl;by_cases h5:h.Time≤M (Zmz (Zdv p l).Times)
     ·rw [aD (by simpa using h5),aD (c:=((Zmz (Zdv p l).Times).length==0||decide (h.Time>M (Zmz (Zdv p l).Times)))=false) (by
       simp only [Bool.or_eq_false_iff,beq_eq_false_iff_ne,decide_eq_false_iff_not];omega)]
     rw [aE (by simpa using h5),aE (c:=((Zmz (Zdv p l).Times).length==0||decide (h.Time>M (Zmz (Zdv p l).Times)))=false) (by
      simp only [Bool.or_eq_false_iff,beq_eq_false_iff_ne,decide_eq_false_iff_not];omega)]
     unfold Zau.p3;rw [ref11_p5 (by omega) l hl hg lg hc lc hw tr.1,hh];have nr:near h.Time now p.Future=decide (0≤p.Future∧(h.Time≤now∨h.Time-now≤p.Future)):=rfl;by_cases f:p.Future<0
     ·rw [aD (by simpa using f),aD (c:=near h.Time now p.Future=false) (by rw [nr];simp only [decide_eq_false_iff_not];omega)]
     rw [aE (by simpa using f)];by_cases g:h.Time>now
     ·rw [aD (by simpa using g),ZaL (by omega) (by omega)];by_cases k:h.Time-now>p.Future
      ·rw [aD (by simpa using k),aD (c:=near h.Time now p.Future=false) (by rw [nr];simp only [decide_eq_false_iff_not];omega)]
      rw [aE (by simpa using k),aE (c:=near h.Time now p.Future=false) (by rw [nr];simp only [decide_eq_false_iff_not];omega)]
     rw [aE (by simpa using g),aE (c:=near h.Time now p.Future=false) (by rw [nr];simp only [decide_eq_false_iff_not];omega)]
   rw [aD (by simpa using h3),aD h3]
  rw [aD (by simpa using h2),aD h2]
def ZmB (last:Int):List Int→Bool
 | []=>true
 | x::l=>decide (last<x)&&ZmB x l
def ZmH (p:Zae) (gs:List ZcY) (cs:List Zcw):Bool:=Zja p&&ZgG p.Genesis&&ZmB (-1) (gs.map (·.Height))&&ZmB 0 (cs.map (·.Height))
theorem ZnY (hN:500≤N) {p:Zae} {gs:List ZcY} {cs:List Zcw} (hg:p.Gates=ZmG gs) (lg:gs.length≤400) (hc:p.Checks=Zke cs) (lc:cs.length≤400) :
  ZbC N p=some (ZmH p gs cs):=by
 unfold ZbC ZmH;rw [ZjH (by omega),Zaa,ZiP,Zaa];cases Zja p
 ·rfl
 cases ZgG p.Genesis
 ·rfl
 rw [aE (by simp),aE (by simp)];have p2:loopN (ZbC.p2 N p) N (0,0)=some (ZmB 0 (cs.map (·.Height))):=by
  refine ZbZ (fun m (x:Int×Int)=>∃(i:Nat) (last:Int),i+m=cs.length∧x=(last,(i:Int))∧ZmB 0 (cs.map (·.Height))=ZmB last ((cs.drop i).map (·.Height))) ?_ N cs.length _ ⟨0,0,by omega,rfl,rfl⟩ (by omega);rintro G m _ ⟨i,last,hi,rfl,hI⟩ hG;unfold ZbC.p2;dsimp only;have e:len (Zke cs)=(cs.length:Int):=by simp [len]
  rw [hc,e];by_cases hlt:i<cs.length
  ·rw [yQ hlt,xD] at hI;simp only [ZmB] at hI;rw [aD (by simp<;>omega),Zaf (by omega),zG,ZjE hlt,Zam,Zfg,ZaL (by omega) (by omega)];by_cases h1:cs[i].Height≤last
   ·rw [aD (by simpa using h1),hI,show decide (last<cs[i].Height)=false by simp;omega];rfl
   rw [aE (by simpa using h1)];exact hG (m-1) _ (by omega) ⟨i+1,_,by omega,rfl,by rw [hI,show decide (last<cs[i].Height)=true by simp;omega];rfl⟩
  rw [aE (by simp<;>omega),hI,wH (by omega)];rfl
 refine ZbZ (fun m (x:Int×Int)=>∃(i:Nat) (last:Int),i+m=gs.length∧x=(last,(i:Int))∧ZmB (-1) (gs.map (·.Height))=ZmB last ((gs.drop i).map (·.Height))) ?_ N gs.length _ ⟨0,-1,by omega,rfl,rfl⟩ (by omega);rintro G m _ ⟨i,last,hi,rfl,hI⟩ hG;unfold ZbC.p1;dsimp only;have e:len (ZmG gs)=(gs.length:Int):=by simp [len]
 rw [hg,e];by_cases hlt:i<gs.length
 ·rw [yQ hlt,xD] at hI;simp only [ZmB] at hI;rw [aD (by simp<;>omega),Zaf (by omega),zG,ZjD hlt,Zam,Zfx,ZaL (by omega) (by omega)];by_cases h1:gs[i].Height≤last
  ·rw [aD (by simpa using h1),hI,show decide (last<gs[i].Height)=false by simp;omega];rfl
  rw [aE (by simpa using h1)];exact hG (m-1) _ (by omega) ⟨i+1,_,by omega,rfl,by rw [hI,show decide (last<gs[i].Height)=true by simp;omega];rfl⟩
 rw [aE (by simp<;>omega),hI,wH (by omega),p2];rfl
theorem Zpe (hN:500≤N) {p:Zae} {gs:List ZcY} {cs:List Zcw} (hg:p.Gates=ZmG gs) (lg:gs.length≤400) (hc:p.Checks=Zke cs) (lc:cs.length≤400) :
  Zcl N p=some (ZmH p gs cs):=by
 unfold Zcl ZmH;rw [ZkO (by omega),Zaa,Zfl,Zaa];cases Zja p
 ·rfl
 cases ZgG p.Genesis
 ·rfl
 rw [aE (by simp),aE (by simp)];have p2:loopN (Zcl.p2 N p) N 0=some (ZmB 0 (cs.map (·.Height))):=by
  refine ZbZ (fun m (x:Int)=>∃(i:Nat) (last:Int),i+m=cs.length∧x=(i:Int)∧0≤last∧(i=0→last=0)∧(∀h:0<i∧i-1<cs.length,last=cs[i-1].Height)∧ZmB 0 (cs.map (·.Height))=ZmB last ((cs.drop i).map (·.Height))) ?_ N cs.length _ ⟨0,0,by omega,rfl,by omega,fun _=>rfl,fun h=>by omega,rfl⟩ (by omega);rintro G m _ ⟨i,last,hi,rfl,h0,hz,hp,hI⟩ hG;unfold Zcl.p2;have e:len (Zke cs)=(cs.length:Int):=by simp [len]
  rw [hc,e];by_cases hlt:i<cs.length
  ·rw [yQ hlt,xD] at hI;simp only [ZmB] at hI;have nx:last<cs[i].Height→G ((i:Int)+1)=some (true&&true&&true&&ZmB 0 (cs.map (·.Height))):=fun k=>
    hG (m-1) _ (by omega) ⟨i+1,cs[i].Height,by omega,by omega,by omega,by omega,fun _=>rfl,by rw [hI,show decide (last<cs[i].Height)=true by simp;omega];rfl⟩
   have bad : ¬ last<cs[i].Height→ZmB 0 (cs.map (·.Height))=false:=fun k=>by rw [hI,show decide (last<cs[i].Height)=false by simp;omega];rfl
   rw [aD (by simp<;>omega),Zaf (by omega),zG,ZjE hlt,Zam,Zfg,ZaL (n:=(i:Int)+1) (by omega) (by omega)];by_cases h1:cs[i].Height<1
   ·rw [aD (by simpa using h1),bad (by omega)]
   rw [aE (by simpa using h1)];by_cases hi0:i=0
   ·have:=hz hi0;rw [aE (by simp [hi0])];exact nx (by omega)
   have:=hp ⟨by omega,by omega⟩;rw [aD (by simp<;>omega),show (i:Int)-1=((i-1:Nat):Int) by omega,ZaL (n:=((i-1:Nat):Int)) (by omega) (by omega),Zaf (by omega),Zaf (by omega),zG,ZjE (show i-1<cs.length by omega),Zam,Zfg,←this];by_cases h2:cs[i].Height≤last
   ·rw [aD (by simpa using h2),bad (by omega)]
   rw [aE (by simpa using h2)];exact nx (by omega)
  rw [aE (by simp<;>omega),hI,wH (by omega)];rfl
 refine ZbZ (fun m (x:Int)=>∃(i:Nat) (last:Int),i+m=gs.length∧x=(i:Int)∧-1≤last∧(i=0→last = -1)∧(∀h:0<i∧i-1<gs.length,last=gs[i-1].Height)∧ZmB (-1) (gs.map (·.Height))=ZmB last ((gs.drop i).map (·.Height))) ?_ N gs.length _ ⟨0,-1,by omega,rfl,by omega,fun _=>rfl,fun h=>by omega,rfl⟩ (by omega);rintro G m _ ⟨i,last,hi,rfl,h0,hz,hp,hI⟩ hG;unfold Zcl.p1;have e:len (ZmG gs)=(gs.length:Int):=by simp [len]
 rw [hg,e];by_cases hlt:i<gs.length
 ·rw [yQ hlt,xD] at hI;simp only [ZmB] at hI;have nx:last<gs[i].Height→0≤gs[i].Height→G ((i:Int)+1)=some (true&&true&&ZmB (-1) (gs.map (·.Height))&&ZmB 0 (cs.map (·.Height))):=fun k k2=>
   hG (m-1) _ (by omega) ⟨i+1,gs[i].Height,by omega,by omega,by omega,by omega,fun _=>rfl,by rw [hI,show decide (last<gs[i].Height)=true by simp;omega];rfl⟩
  have bad : ¬ last<gs[i].Height→ZmB (-1) (gs.map (·.Height))=false:=fun k=>by rw [hI,show decide (last<gs[i].Height)=false by simp;omega];rfl
  rw [aD (by simp<;>omega),Zaf (by omega),zG,ZjD hlt,Zam,Zfx,ZaL (n:=(i:Int)+1) (by omega) (by omega)];by_cases h1:gs[i].Height<0
  ·rw [aD (by simpa using h1),bad (by omega)];rfl
  rw [aE (by simpa using h1)];by_cases hi0:i=0
  ·have:=hz hi0;rw [aE (by simp [hi0])];exact nx (by omega) (by omega)
  have:=hp ⟨by omega,by omega⟩;rw [aD (by simp<;>omega),show (i:Int)-1=((i-1:Nat):Int) by omega,ZaL (n:=((i-1:Nat):Int)) (by omega) (by omega),Zaf (by omega),Zaf (by omega),zG,ZjD (show i-1<gs.length by omega),Zam,Zfx,←this];by_cases h2:gs[i].Height≤last
  ·rw [aD (by simpa using h2),bad (by omega)];rfl
  rw [aE (by simpa using h2)];exact nx (by omega) (by omega)
 rw [aE (by simp<;>omega),hI,wH (by omega),p2];rfl
end Go.Dn.F
