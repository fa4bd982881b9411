import Derived.Test.YtlofpeadcmldhaaGreatDoorNum
set_option linter.all false
open Bool renaming eq_iff_iff→wA
open Int renaming toNat_natCast→zH,tmod→yA
open List renaming take_succ_eq_append_getElem→zZ,foldl_append→vY,take_of_length_le→zW,drop_eq_getElem_cons→xE,drop_of_length_le→wL,length_append→zT,length_take→xY,length_map→wI,map_cons→xF
set_option maxRecDepth 40000
namespace Go.Dn.F
open Go.Dn Go.Proofs
variable {N:Nat}
theorem ZsO (h:Zal):(hid h).length=32∧bys (hid h):=by
 obtain ⟨b,e,l⟩:=hid_by h;rw [e];refine ⟨by simpa using l,fun x hx=>?_⟩;obtain ⟨y,_,rfl⟩:=List.mem_map.1 hx;exact ⟨Ztp y,Ztq y⟩
def Zkr (p:Zah) (h:Zal):Int:=
 if Zgd h=false then 1 else if (tgt h.Bits p.Limit).2=false then 4 else if hv (hid h)≤(tgt h.Bits p.Limit).1 then 0 else 4
theorem ZlT (hN:500≤N) (p:Zah) {h:Zal} (hw:wfH h=true):Zeb N p h=some (Zkr p h):=by
 unfold Zeb Zkr;rw [ZeK,Zab,Zfd aC,Zab];dsimp only;have hb:=ZsO h;rw [Zge hN hw,Zab,ZkC aC hb.1 hb.2 (ZjM _ _),Zab];cases Zgd h
 ·rfl
 cases (tgt h.Bits p.Limit).2
 ·rfl
 by_cases k:hv (hid h)≤(tgt h.Bits p.Limit).1<;>simp [k]
def ZhC (height:Int) (gs:List Zcy):Int:=gs.foldl (fun l g=>if height≥g.Height∧g.Version>l then g.Version else l) (-2147483648)
noncomputable def Zmo (l:List Zcy):LL:=l.map Zcy.ls
noncomputable def ZjG (l:List Zcb):LL:=l.map Zcb.ls
theorem Zjc {l:List Zcy} {i:Nat} (h:i<l.length):(Zmo l)[i]? = some l[i].ls:=by simp [Zmo,h]
theorem Zjd {l:List Zcb} {i:Nat} (h:i<l.length):(ZjG l)[i]? = some l[i].ls:=by simp [ZjG,h]
@[simp] theorem Zpl (l:List Zcy):(Zmo l).length=l.length:=by simp [Zmo]
@[simp] theorem Zpm (l:List Zcb):(ZjG l).length=l.length:=by simp [ZjG]
theorem open_G {xs:LL} (h : ∀x∈xs,Zhs [.int .i64,.int .i64] x) : ∃l:List Zcy,xs=Zmo l:=
 let ⟨l,h,_⟩:=ZqI (e:=Zcy.ls) (good:=fun _=>True) fun x hx=>by
  obtain ⟨_,_,rfl,h1,h⟩:=(h x hx).cons_inv;obtain ⟨_,_,rfl,h2,h⟩:=h.cons_inv;cases h.nil_inv;obtain ⟨a,rfl,_⟩:=h1.int_inv;obtain ⟨b,rfl,_⟩:=h2.int_inv;exact ⟨⟨a,b⟩,rfl,trivial⟩
 ⟨l,h⟩
theorem open_K {xs:LL} (h : ∀x∈xs,Zhs [.int .i64,.arr .u8 32] x) : ∃l:List Zcb,xs=ZjG l:=
 let ⟨l,h,_⟩:=ZqI (e:=Zcb.ls) (good:=fun _=>True) fun x hx=>by
  obtain ⟨_,_,rfl,h1,h⟩:=(h x hx).cons_inv;obtain ⟨_,_,rfl,h2,h⟩:=h.cons_inv;cases h.nil_inv;obtain ⟨a,rfl,_⟩:=h1.int_inv;obtain ⟨b,rfl,_⟩:=h2.arr_inv;exact ⟨⟨a,b⟩,rfl,trivial⟩
 ⟨l,h⟩
theorem Zla (height:Int) (gs:List Zcy) (hg:gs.length<N) (hb:gs.length<1000000):Zbd N height (Zmo gs)=some (ZhC height gs):=by
 unfold Zbd;refine ZbZ (fun m (x:Int×Int)=>∃i:Nat,i+m=gs.length∧x=(ZhC height (gs.take i),(i:Int))) ?_ N gs.length _ ⟨0,aC,rfl⟩ hg;rintro G m _ ⟨i,hi,rfl⟩ hG;unfold Zbd.p1 Zbd.p2;dsimp only;by_cases hlt:i<gs.length
 ·rw [aA (by simp [len];omega),Zag aC,zH,Zjc hlt,Zax,ZeX,ZaH aC aC];have st:ZhC height (gs.take (i+1))=if height≥gs[i].Height∧gs[i].Version>ZhC height (gs.take i) then gs[i].Version else ZhC height (gs.take i):=by
   unfold ZhC;rw [zZ hlt,vY];rfl
  have hn:=hG (m-1) (ZhC height (gs.take (i+1)),((i+1:Nat):Int)) aC ⟨i+1,aC,rfl⟩;rw [st] at hn;by_cases h1:height≥gs[i].Height
  ·rw [aA (aH h1)];by_cases h2:gs[i].Version>ZhC height (gs.take i)
   ·rw [aA ⟨h1,h2⟩] at hn;rw [aA h2];exact hn
   rw [aB (fun h=>h2 h.2)] at hn;rw [aB h2];exact hn
  rw [aB (aH h1)];rw [aB (fun h=>h1 h.1)] at hn;exact hn
 rw [aB (by simp [len];omega),zW aC]
def ZfD (height:Int) (id:List Int) (cs:List Zcb):Bool:=cs.all fun c=>!(c.Height==height)||c.Id==id
theorem Zlb (height:Int) (id:List Int) (cs:List Zcb) (hg:cs.length<N) (hb:cs.length<1000000):ZbU N height id (ZjG cs)=some (ZfD height id cs):=by
 unfold ZbU;refine ZbZ (fun m (x:Int)=>∃i:Nat,i+m=cs.length∧x=(i:Int)∧ZfD height id cs=ZfD height id (cs.drop i)) ?_ N cs.length _ ⟨0,aC,rfl,by rw [List.drop_zero]⟩ hg;rintro G m _ ⟨i,hi,rfl,ht⟩ hG;unfold ZbU.p1;by_cases hlt:i<cs.length
 ·rw [xE hlt] at ht;have e:ZfD height id (cs[i]::cs.drop (i+1))=((!(cs[i].Height==height)||cs[i].Id==id)&&ZfD height id (cs.drop (i+1))):=rfl;rw [e] at ht;rw [aA (by simp [len];omega),Zag aC,zH,Zjd hlt,Zax,ZeF,ZaH aC aC];by_cases h1:(cs[i].Height==height)=true
  ·rw [aA h1];by_cases h2:(cs[i].Id==id)=true
   ·rw [aB (by simp [h2])];exact hG (m-1) _ aC ⟨i+1,aC,rfl,by rw [ht];simp [h2]⟩
   rw [aA (aH h2),ht];simp [h1,h2]
  rw [aB h1];exact hG (m-1) _ aC ⟨i+1,aC,rfl,by rw [ht];simp [h1]⟩
 rw [aB (by simp [len];omega),ht,wL aC];rfl
def near (t now f:Int):Bool:=decide (0≤f∧(t≤now∨t-now≤f))
theorem ZlX {t now:Int} (f:Int) (h1:0≤t∧t≤1152921504606846976) (h2 : -1152921504606846976≤now∧now≤9223372036854775807):Zec N t now f=some (near t now f):=by
 unfold Zec near;rw [ZaH aC aC]
 repeat' split
 all_goals (refine ZfZ ⟨fun h=>?_,fun h=>?_⟩<;>simp only [decide_eq_true_eq,Bool.false_eq_true] at * <;> first | trivial | omega)
def Zfl (p:Zah) (gs:List Zcy) (cs:List Zcb) (s:ZaT) (h:Zal) (now:Int):Int:=
 if Zgd h=false then 1
 else if h.Prev≠s.Prev then 2
 else if h.Bits≠Zkz p s.Point h.Time then 3
 else if Zkr p h≠0 then 4
 else if ((ZlN s.Times).length==0||decide (h.Time>M (ZlN s.Times)))=false then 5
 else if near h.Time now p.Future=false then 6
 else if h.Version<ZhC s.Point.Height gs then 7
 else if ZfD s.Point.Height (hid h) cs=false then 8 else 0
theorem ZmP (hN:500≤N) {p:Zah} {gs:List Zcy} {cs:List Zcb} (hg:p.Gates=Zmo gs) (hc:p.Checks=ZjG cs) (lg:gs.length≤400) (lc:cs.length≤400)
  {s:ZaT} {h:Zal} (hw:wfH h=true) (hs:isI s.Times=true) (now:Int) (hnow : -1152921504606846976≤now∧now≤9223372036854775807) :
  Zep N p s h now=some (Zfl p gs cs s h now):=by
 unfold Zep Zfl;rw [ZeK,Zab];cases hgd:Zgd h with
 | false=>rfl
 | true=>
  have tr:=(ZoJ h).1 hgd;have ht:s.Times=ZdL (ZlN s.Times):=Zis hs;rw [aB (c:=(!true)=true) aD,aB (c:=true=false) aD];by_cases h2:h.Prev=s.Prev
  ·rw [aB (by simp [h2]),aB (by simp [h2]),Zou aC,Zab];by_cases h3:h.Bits=Zkz p s.Point h.Time
   ·rw [aB (by simp [h3]),aB (by simp [h3]),ZlT hN p hw,Zab];by_cases h4:Zkr p h=0
    ·rw [aB (by simp [h4]),aB (by simp [h4]),show Zdz N h.Time s.Times=_ from (congrArg (Zdz N h.Time) ht).trans (ZpA N h.Time (ZlN s.Times)),Zab];cases h5:((ZlN s.Times).length==0||decide (h.Time>M (ZlN s.Times)))
     ·rfl
     rw [aB aD,aB aD,ZlX _ aC hnow,Zab];cases h6:near h.Time now p.Future
     ·rfl
     rw [aB aD,aB aD,hg,Zla _ gs aC aC,Zab];by_cases h7:h.Version<ZhC s.Point.Height gs
     ·rw [aA (aH h7),aA h7]
     rw [aB (aH h7),aB h7,Zge hN hw,Zab,hc,Zlb _ _ cs aC aC,Zab];cases ZfD s.Point.Height (hid h) cs<;>rfl
    rw [aA (aH h4),aA h4]
   rw [aA (aH h3),aA h3]
  rw [aA (aH h2),aA h2]
theorem ZjT (hN:300≤N) (p:Zah) (b f t:Int):ZaC N p b f t=some (retg p b f t):=by
 unfold ZaC retg;rw [Zgb hN,Zab];dsimp only;rw [Zji hN,Zab];cases hg:Ziz p with
 | false=>rw [aA (by rfl),aB aD]
 | true=>
  rw [aB aD];cases ht:(tgt b p.Limit).2 with
  | false=>rw [aA (by rfl),aB aD]
  | true=>
   rw [aB aD];have hn:=ZjM b p.Limit;have hL:=ZjM p.Limit p.Limit;have D:=ZgR hg;have S:=Zli hg f t;have enc : ∀{x:Int},isN x→ZaC.p3 N (nw x)=some (Zrz x):=fun h=>by
    unfold ZaC.p3;rw [Zna hN h,Zab]
   have p2:ZaC.p2 N p (ZfB p f t) (nw (tgt b p.Limit).1)=some (if (tgt b p.Limit).1*ZfB p f t/Zhm p<2^256∧(tgt b p.Limit).1*ZfB p f t/Zhm p≤(tgt p.Limit p.Limit).1
     then Zrz (if (tgt b p.Limit).1*ZfB p f t/Zhm p=0 then 1 else (tgt b p.Limit).1*ZfB p f t/Zhm p) else p.Limit):=by
    have hLt:=Zgb hN p.Limit p.Limit;unfold ZaC.p2;rw [ZkT hg,ZrY hN hn S aC,Zab];dsimp only;rw [hLt,Zab];dsimp only;have q0:0≤(tgt b p.Limit).1*ZfB p f t/Zhm p:=Int.ediv_nonneg (Int.mul_nonneg hn.1 S.1) aC;generalize (tgt b p.Limit).1*ZfB p f t/Zhm p=Q at *;by_cases big:Q<2^256
    ·have hQ:isN Q:=⟨q0,big⟩
     rw [aB (aH big),Int.emod_eq_of_lt q0 big,Zfn hN hL hQ,Zab];by_cases hl:(tgt p.Limit p.Limit).1<Q
     ·rw [aA (aH hl),aB aC]
     rw [aB (aH hl)];have z:(nw Q==List.replicate 4 0)=decide (Q=0):=Option.some.inj (Zej (N:=0) hQ);rw [z,aA (c:=Q<2^256∧Q≤(tgt p.Limit p.Limit).1) ⟨big,aC⟩];by_cases h0:Q=0
     ·rw [aA (aH h0),aA h0,Zpv (by unfold isW;omega),enc (by unfold isN;omega)]
     rw [aB (aH h0),aB h0,enc hQ]
    rw [aA (aH big),aB aC]
   have fin:ZaC.p2 N p (ZfB p f t) (nw (tgt b p.Limit).1)=some (if Ziz p=true∧(tgt b p.Limit).2=true∧(tgt b p.Limit).1*ZfB p f t/Zhm p<2^256∧(tgt b p.Limit).1*ZfB p f t/Zhm p≤(tgt p.Limit p.Limit).1
     then Zrz (if (tgt b p.Limit).1*ZfB p f t/Zhm p=0 then 1 else (tgt b p.Limit).1*ZfB p f t/Zhm p) else p.Limit):=by
    rw [p2,hg,ht];simp only [true_and]
   rw [hg,ht] at fin;refine Eq.trans ?_ fin;have p1 : ∀y:Int,ZfB p f t=(if Zhm p*4<y then Zhm p*4 else y)→ZaC.p1 N p y (nw (tgt b p.Limit).1)=ZaC.p2 N p (ZfB p f t) (nw (tgt b p.Limit).1):=fun y hy=>by
    unfold ZaC.p1;rw [ZkT hg,ZaH (n:=Zhm p*4) aC aC,hy];by_cases h:Zhm p*4<y
    ·rw [aA (aH h),aA h]
    rw [aB (aH h),aB h]
   rw [ZkT hg,ZeB aC,ZaH (n:=Zhm p/4) aC aC];by_cases h:w64 (t-f)<Zhm p/4
   ·rw [aA (aH h)];exact p1 _ (by unfold ZfB;rw [aA (show Zhm p/4>w64 (t-f) from h)])
   rw [aB (aH h)];exact p1 _ (by unfold ZfB;rw [aB (show ¬ Zhm p/4>w64 (t-f) from h)])
theorem Zne (hN:300≤N) (p:Zah) (a:Zdy) (own:Int):Zco N p a.Height a.Bits a.Time a.First a.Hard own=some (Zkz p a own):=by
 unfold Zco Zkz;have p1:Zco.p1 N a.Bits a.Time a.Hard own p=some (if p.Easy=false then a.Bits else if w64 (own-a.Time)>w64 (2*p.Spacing) then p.Limit else a.Hard):=by
  unfold Zco.p1;cases p.Easy
  ·rfl
  rw [aB (c:=(!true)=true) aD,aB (c:=true=false) aD];by_cases h:w64 (own-a.Time)>w64 (2*p.Spacing)
  ·rw [aA (aH h),aA h]
  rw [aB (aH h),aB h]
 by_cases h0:a.Height≤0
 ·rw [aA (aH h0),aA h0]
 rw [aB (aH h0),aB h0,p1,ZjT hN,Zab];unfold Zff;by_cases hi:p.Interval>0
 ·rw [aA (aH hi),Zag aC];by_cases hm:yA a.Height p.Interval=0
  ·rw [aA (aH hm),aA (c:=decide (0<p.Interval∧yA a.Height p.Interval=0)=true) (by simp [hm]<;>omega)]
  rw [aB (aH hm),aB (c:=decide (0<p.Interval∧yA a.Height p.Interval=0)=true) (by simp [hm])]
 rw [aB (aH hi),aB (c:=decide (0<p.Interval∧yA a.Height p.Interval=0)=true) aF]
def s0 (p:Zah):ZaT:=⟨⟨0,0,0,0,p.Limit⟩,List.replicate 32 0,[]⟩
def ZcU (p:Zah) (l:List Zal):ZaT:=l.foldl (Zfx p) (s0 p)
theorem Zmh (p:Zah) (l:List Zal) {i:Nat} (h:i<l.length):ZcU p (l.take (i+1))=Zfx p (ZcU p (l.take i)) l[i]:=by
 unfold ZcU;rw [zZ h,vY];rfl
theorem ZhF (p:Zah) : ∀l:List Zal,l.length<1000000→(ZcU p l).Point.Height=l.length:=by
 refine ZmX (fun _=>rfl) (fun l h ih hl=>?_);unfold ZcU at *;rw [vY];show w64 ((List.foldl (Zfx p) (s0 p) l).Point.Height+1)=_;rw [zT,List.length_singleton] at *;rw [ih aC,ZaH aC aC];omega
theorem Zmj (p:Zah) (l:List Zal) (h:0<l.length):(ZcU p l).Point.Bits=(l[l.length-1]).Bits∧(ZcU p l).Point.Time=(l[l.length-1]).Time∧(ZcU p l).Prev=hid l[l.length-1]:=by
 have:=Zmh p l (i:=l.length-1) aC;rw [zW aC] at this;rw [this];exact ⟨rfl,rfl,rfl⟩
theorem Zpg (p:Zah) : ∀l:List Zal,ZlN (ZcU p l).Times=((l.map (·.Time)).reverse).take 11:=by
 refine ZmX rfl (fun l h ih=>?_);unfold ZcU at *;rw [vY];show ZlN (ZdL (h.Time::(ZlN (List.foldl (Zfx p) (s0 p) l).Times).take 10))=_;rw [ZrF,ih,List.map_append,List.reverse_append,List.take_take];rfl
theorem Znd (hN:850≤N) (p:Zah) (l:List Zal) (h0:0<l.length) (hl:l.length≤800) (time:Int):ZaE N p (ZjQ l) time=some (Zkz p (ZcU p l).Point time):=by
 unfold ZaE;have e:len (ZjQ l)=(l.length:Int):=by simp [len]
 obtain ⟨b1,b2,_⟩:=Zmj p l h0;have hh:=ZhF p l aC;rw [e,aB (by simp only [beq_iff_eq];omega),show ((l.length:Int)-1)=((l.length-1:Nat):Int) by omega,ZaH (n:=((l.length-1:Nat):Int)) aC aC,Zag aC,Zag aC,zH,Zjb aC,Zax,Zeu];refine ZbZ (fun m (x:Int×Int×Int)=>∃i:Nat,i+m=l.length∧x=((ZcU p (l.take i)).Point.First,(ZcU p (l.take i)).Point.Hard,(i:Int))) ?_ N l.length _ ⟨0,aC,rfl⟩ aC;rintro G m _ ⟨i,hi,rfl⟩ hG;unfold ZaE.p1;dsimp only;rw [e];by_cases hlt:i<l.length
 ·have hst:=Zmh p l hlt;have ht:=ZhF p (l.take i) (by rw [xY];omega);rw [xY,Nat.min_eq_left aC] at ht;have hn:=hG (m-1) _ aC ⟨i+1,aC,rfl⟩;rw [hst] at hn;have p3 : ∀first:Int,first=(Zfx p (ZcU p (l.take i)) l[i]).Point.First→ZaE.p3 N G time (ZjQ l) first (ZcU p (l.take i)).Point.Hard (Zff p (i:Int)) (i:Int) p l[l.length-1] l[i]=some (Zkz p (ZcU p l).Point time):=fun first hf=>by
   subst hf;have hd:(Zfx p (ZcU p (l.take i)) l[i]).Point.Hard=if (p.Easy&&l[i].Bits==p.Limit && !Zff p (i:Int))=true then (ZcU p (l.take i)).Point.Hard else l[i].Bits:=by
    show (if (p.Easy&&l[i].Bits==p.Limit && !Zff p (ZcU p (l.take i)).Point.Height)=true then _ else _)=_;rw [ht]
   rw [hd] at hn;unfold ZaE.p3 ZaE.p4;rw [ZaH aC aC];have c:((i+1:Nat):Int)=(i:Int)+1:=aC
   rw [c] at hn;cases h1:p.Easy with
   | false=>rw [h1] at hn;simpa using hn
   | true=>
    rw [h1] at hn;by_cases h2:l[i].Bits=p.Limit
    ·cases h3:Zff p (i:Int) with
     | true=>rw [h3] at hn;simp [h2] at hn ⊢;exact hn
     | false=>rw [h3] at hn;simp [h2] at hn ⊢;exact hn
    simp [h2] at hn ⊢;exact hn
  have p2:ZaE.p2 N G time (ZjQ l) (ZcU p (l.take i)).Point.First (ZcU p (l.take i)).Point.Hard (Zff p (i:Int)) (i:Int) p l[l.length-1] l[i]=some (Zkz p (ZcU p l).Point time):=by
   unfold ZaE.p2;have hf:(Zfx p (ZcU p (l.take i)) l[i]).Point.First=if Zff p (i:Int)=true then l[i].Time else (ZcU p (l.take i)).Point.First:=by
    show (if Zff p (ZcU p (l.take i)).Point.Height=true then _ else _)=_;rw [ht]
   cases h3:Zff p (i:Int) with
   | true=>rw [h3] at hf p3;rw [aA rfl];exact p3 _ (by rw [hf];rfl)
   | false=>rw [h3] at hf p3;rw [aB aD];exact p3 _ (by rw [hf];rfl)
  rw [aA aF,Zag aC,zH,Zjb hlt,Zax,Zeu];by_cases hI:p.Interval>0
  ·have:(yA (i:Int) p.Interval==0)=Zff p (i:Int):=by
    unfold Zff;rw [wA];simp [hI]
   rw [aA (aH hI),Zag aC,this];exact p2
  have:false=Zff p (i:Int):=by
   unfold Zff;rw [wA];simp;omega
  rw [aB (aH hI),this];exact p2
 rw [aB aF,zW aC,←b1,←b2,←hh,Zne aC,Zab]
theorem Znb (hN:600≤N) (p:Zah) {h:Zal} (hw:wfH h=true):ZdM N p h=some ((tgt h.Bits p.Limit).2&&decide (hv (hid h)≤(tgt h.Bits p.Limit).1)):=by
 unfold ZdM;have hb:=ZsO h;rw [Zgb aC,Zab];dsimp only;rw [Zjg hN h hw,Zab,ZmZ aC hb.1 hb.2,Zab,Zfn aC (ZjM _ _) (hv_isN hb.1 hb.2),Zab];cases (tgt h.Bits p.Limit).2
 ·rfl
 rw [aA rfl]
 congr 1
 rw [wA];simp
theorem Znf (zs:List Int) (hN:zs.length+2≤N) (hz:zs.length≤1000):Zcp N (ZdL zs)=some (ZdL (zs.reverse.take 11)):=by
 unfold Zcp;rw [Zel,ZaH aC aC];refine ZbZ (fun m (x:LL×Int)=>∃i:Nat,i+m=zs.length∧i≤11∧x=(ZdL (zs.reverse.take i),(zs.length:Int)-1-(i:Int))) ?_ N zs.length _ ⟨0,aC,aC,by simp;rfl⟩ aC;rintro G m _ ⟨i,hi,h11,rfl⟩ hG;unfold Zcp.p1;dsimp only;by_cases hlt:i<zs.length
 ·rw [aA aF];have ll:(zs.reverse.take i).length=i:=by rw [xY,List.length_reverse];omega
  by_cases h:i<11
  ·have hr:zs.length-1-i<zs.length:=by omega
   have t:zs.reverse.take (i+1)=zs.reverse.take i ++ [zs[zs.length-1-i]]:=by
    rw [zZ aE,List.getElem_reverse]
   rw [aA (by rw [Zel,ll];simp<;>omega),Zel,Zag aC,Zag aC,show Int.toNat ((zs.length:Int)-1-(i:Int))=zs.length-1-i by omega,Zin hr,Zax,ZdV,ZmU,ZiH,Zag (by rw [ZdK,zT,ll];simp<;>omega),←t,ZaH aC aC];exact hG (m-1) _ aC ⟨i+1,aC,aC,by congr 1;omega⟩
  have:i=11:=aC
  subst this;rw [aB (by rw [Zel,ll];simp)]
 rw [aB aF,zW aE,zW aE]
theorem ZpT (height:Int) (gs:List Zcy) (v:Int) (hv : -2147483648≤v):v<ZhC height gs↔∃g∈gs,g.Height≤height∧v<g.Version:=by
 revert gs;refine ZmX ?_ (fun gs g ih=>?_)
 ·simp [ZhC];omega
 have e:ZhC height (gs ++ [g])=if height≥g.Height∧g.Version>ZhC height gs then g.Version else ZhC height gs:=by unfold ZhC;rw [vY];rfl
 rw [e];constructor
 ·intro h;split at h
  ·rename_i hc;exact ⟨g,by simp,hc.1,h⟩
  obtain ⟨g',h1,h2⟩:=ih.1 h;exact ⟨g',by simp [h1],h2⟩
 rintro ⟨g',h1,h2,h3⟩;rcases List.mem_append.1 h1 with h1 | h1
 ·have:=ih.2 ⟨g',h1,h2,h3⟩;split<;>omega
 cases List.mem_singleton.1 h1;split
 ·exact h3
 rename_i hc;omega
theorem ref11_p6 (hN:600≤N) (l:List Zal) (hl:l.length≤800) {p:Zah} {cs:List Zcb} (hc:p.Checks=ZjG cs) (lc:cs.length≤400) {h:Zal} (hw:wfH h=true) :
  loopN (Zat.p6 N (ZjQ l) p h) N 0=some (if ZfD (l.length:Int) (hid h) cs=false then 8 else 0):=by
 refine ZbZ (fun m (x:Int)=>∃i:Nat,i+m=cs.length∧x=(i:Int)∧ZfD (l.length:Int) (hid h) cs=ZfD (l.length:Int) (hid h) (cs.drop i)) ?_ N cs.length _ ⟨0,aC,rfl,by rw [List.drop_zero]⟩ aC;rintro G m _ ⟨i,hi,rfl,ht⟩ hG;unfold Zat.p6;have e:len (ZjQ l)=(l.length:Int):=by simp [len]
 rw [hc,e];by_cases hlt:i<cs.length
 ·rw [xE hlt] at ht;have e:ZfD (l.length:Int) (hid h) (cs[i]::cs.drop (i+1))=((!(cs[i].Height==(l.length:Int))||cs[i].Id==hid h)&&ZfD (l.length:Int) (hid h) (cs.drop (i+1))):=rfl;rw [e] at ht;rw [aA (by simp [len]<;>omega),Zag aC,zH,Zjd hlt,Zax,ZeF,ZaH aC aC];by_cases h1:(cs[i].Height==(l.length:Int))=true
  ·rw [aA h1,Zjg hN h hw,Zab];by_cases h2:(cs[i].Id==hid h)=true
   ·rw [aB (by simp [h2])];exact hG (m-1) _ aC ⟨i+1,aC,rfl,by rw [ht];simp [h2]⟩
   rw [aA (aH h2),ht];simp [h1,h2]
  rw [aB h1];exact hG (m-1) _ aC ⟨i+1,aC,rfl,by rw [ht];simp [h1]⟩
 rw [aB (by simp [len]<;>omega),ht,wL aC];rfl
theorem ref11_p5 (hN:600≤N) (l:List Zal) (hl:l.length≤800) {p:Zah} {gs:List Zcy} {cs:List Zcb} (hg:p.Gates=Zmo gs) (lg:gs.length≤400) (hc:p.Checks=ZjG cs) (lc:cs.length≤400) {h:Zal} (hw:wfH h=true) (hv : -2147483648≤h.Version) :
  Zat.p4 N (ZjQ l) p h=some (if h.Version<ZhC (l.length:Int) gs then 7 else if ZfD (l.length:Int) (hid h) cs=false then 8 else 0):=by
 unfold Zat.p4;refine ZbZ (fun m (x:Int)=>∃i:Nat,i+m=gs.length∧x=(i:Int)∧∀g∈gs.take i,¬ (g.Height≤(l.length:Int)∧h.Version<g.Version)) ?_ N gs.length _ ⟨0,aC,rfl,fun g hg=>by simp at hg⟩ aC;rintro G m _ ⟨i,hi,rfl,ht⟩ hG;unfold Zat.p5;have e:len (ZjQ l)=(l.length:Int):=by simp [len]
 rw [hg,e];by_cases hlt:i<gs.length
 ·have next : ¬ (gs[i].Height≤(l.length:Int)∧h.Version<gs[i].Version)→∀g∈gs.take (i+1),¬ (g.Height≤(l.length:Int)∧h.Version<g.Version):=fun hn g hgm=>by
   rw [zZ hlt] at hgm;rcases List.mem_append.1 hgm with k | k
   ·exact ht g k
   cases List.mem_singleton.1 k;exact hn
  rw [aA (by simp [len]<;>omega),Zag aC,zH,Zjc hlt,Zax,ZeX,ZaH aC aC];by_cases h1:gs[i].Height≤(l.length:Int)
  ·rw [aA (aH h1)];by_cases h2:h.Version<gs[i].Version
   ·rw [aA (aH h2),aA ((ZpT _ gs _ hv).2 ⟨gs[i],List.getElem_mem hlt,h1,h2⟩)]
   rw [aB (aH h2)];exact hG (m-1) _ aC ⟨i+1,aC,rfl,next fun k=>h2 k.2⟩
  rw [aB (aH h1)];exact hG (m-1) _ aC ⟨i+1,aC,rfl,next fun k=>h1 k.1⟩
 rw [aB (by simp [len]<;>omega),ref11_p6 hN l hl hc lc hw,aB (c:=h.Version<ZhC (l.length:Int) gs)];intro k;obtain ⟨g,h1,h2⟩:=(ZpT _ gs _ hv).1 k;rw [zW aC] at ht;exact ht g h1 h2
theorem ZlW (hN:900≤N) {p:Zah} {gs:List Zcy} {cs:List Zcb} (hg:p.Gates=Zmo gs) (lg:gs.length≤400) (hc:p.Checks=ZjG cs) (lc:cs.length≤400)
  (l:List Zal) (h0:0<l.length) (hl:l.length≤800) (hw2 : ∀x∈l,wfH x=true) {h:Zal} (hw:wfH h=true) (now:Int) (hnow:0≤now∧now≤9223372036854775807) :
  Zat N p (ZjQ l) h now=some (Zfl p gs cs (ZcU p l) h now):=by
 unfold Zat;have e:len (ZjQ l)=(l.length:Int):=by simp [len]
 obtain ⟨b1,b2,b3⟩:=Zmj p l h0;have hh:=ZhF p l aC;rw [Zio,Zab];unfold Zfl;cases hgd:Zgd h with
 | false=>rfl
 | true=>
  have tr:=(ZoJ h).1 hgd;rw [aB (c:=(!true)=true) aD,aB (c:=true=false) aD,e,aA (by simp only [decide_eq_true_eq,gt_iff_lt];omega),show ((l.length:Int)-1)=((l.length-1:Nat):Int) by omega,ZaH (n:=((l.length-1:Nat):Int)) aC aC,Zag aC,Zag aC,zH,Zjb aC,Zax,Zeu,Zjg aC _ (hw2 _ (List.getElem_mem _)),Zab,←b3];by_cases h2:h.Prev=(ZcU p l).Prev
  ·rw [aB (c:=(!(h.Prev==(ZcU p l).Prev))=true) (by simp [h2]),aB (c:=h.Prev≠(ZcU p l).Prev) (by simp [h2])];unfold Zat.p1;rw [Znd aC p l h0 hl,Zab];by_cases h3:h.Bits=Zkz p (ZcU p l).Point h.Time
   ·rw [aB (c:=(h.Bits != Zkz p (ZcU p l).Point h.Time)=true) (aH h3),aB (c:=h.Bits≠Zkz p (ZcU p l).Point h.Time) (aH h3),Znb aC p hw,Zab];have it:Zkr p h=if ((tgt h.Bits p.Limit).2&&decide (hv (hid h)≤(tgt h.Bits p.Limit).1))=true then 0 else 4:=by
     unfold Zkr;rw [hgd,aB (c:=true=false) aD];cases (tgt h.Bits p.Limit).2
     ·rfl
     by_cases k:hv (hid h)≤(tgt h.Bits p.Limit).1<;>simp [k]
    cases h4:((tgt h.Bits p.Limit).2&&decide (hv (hid h)≤(tgt h.Bits p.Limit).1)) with
    | false=>
     rw [h4] at it;rw [aA (by rfl),aA (c:=Zkr p h≠0) (by rw [it];decide)]
    | true=>
     rw [h4] at it;rw [aB (c:=(!true)=true) aD,aB (c:=Zkr p h≠0) (by rw [it];decide)];have tm:=Zpg p l;have tl:0<((l.map (·.Time)).reverse.take 11).length:=by rw [xY,List.length_reverse,wI];omega
     refine ZbZ (fun m (x:LL×Int)=>∃i:Nat,i+m=l.length∧x=(ZdL ((l.take i).map (·.Time)),(i:Int))) ?_ N l.length _ ⟨0,aC,rfl⟩ aC;rintro G m _ ⟨i,hi,rfl⟩ hG;unfold Zat.p2;dsimp only;rw [e];by_cases hlt:i<l.length
     ·rw [aA aF,Zag aC,zH,Zjb hlt,Zax,Zeu,ZmU,ZiH,Zag (by rw [ZdK,zT,wI,xY];simp<;>omega),ZaH aC aC];refine hG (m-1) _ aC ⟨i+1,aC,?_⟩;rw [zZ hlt,List.map_append];rfl
     rw [aB aF,zW aC,aA (by simp only [decide_eq_true_eq,gt_iff_lt];omega),Znf _ (by rw [wI];omega) (by rw [wI];omega),Zab,Zag (Zmn _),Zri N aC,Zab,←tm];rw [←tm] at tl;by_cases h5:h.Time≤M (ZlN (ZcU p l).Times)
     ·rw [aA (aH h5),aA (c:=((ZlN (ZcU p l).Times).length==0||decide (h.Time>M (ZlN (ZcU p l).Times)))=false) (by
       simp only [Bool.or_eq_false_iff,beq_eq_false_iff_ne,decide_eq_false_iff_not];omega)]
     rw [aB (aH h5),aB (c:=((ZlN (ZcU p l).Times).length==0||decide (h.Time>M (ZlN (ZcU p l).Times)))=false) (by
      simp only [Bool.or_eq_false_iff,beq_eq_false_iff_ne,decide_eq_false_iff_not];omega)]
     unfold Zat.p3;rw [ref11_p5 aC l hl hg lg hc lc hw tr.1,hh];have nr:near h.Time now p.Future=decide (0≤p.Future∧(h.Time≤now∨h.Time-now≤p.Future)):=rfl;by_cases f:p.Future<0
     ·rw [aA (aH f),aA (c:=near h.Time now p.Future=false) (by rw [nr];simp only [decide_eq_false_iff_not];omega)]
     rw [aB (aH f)];by_cases g:h.Time>now
     ·rw [aA (aH g),ZaH aC aC];by_cases k:h.Time-now>p.Future
      ·rw [aA (aH k),aA (c:=near h.Time now p.Future=false) (by rw [nr];simp only [decide_eq_false_iff_not];omega)]
      rw [aB (aH k),aB (c:=near h.Time now p.Future=false) (by rw [nr];simp only [decide_eq_false_iff_not];omega)]
     rw [aB (aH g),aB (c:=near h.Time now p.Future=false) (by rw [nr];simp only [decide_eq_false_iff_not];omega)]
   rw [aA (aH h3),aA h3]
  rw [aA (aH h2),aA h2]
def ZlO (last:Int):List Int→Bool
 | []=>true
 | x::l=>decide (last<x)&&ZlO x l
def ZmW (p:Zah) (gs:List Zcy) (cs:List Zcb):Bool:=Ziz p&&Zgd p.Genesis&&ZlO (-1) (gs.map (·.Height))&&ZlO 0 (cs.map (·.Height))
theorem Znc (hN:500≤N) {p:Zah} {gs:List Zcy} {cs:List Zcb} (hg:p.Gates=Zmo gs) (lg:gs.length≤400) (hc:p.Checks=ZjG cs) (lc:cs.length≤400) :
  Zbq N p=some (ZmW p gs cs):=by
 unfold Zbq ZmW;rw [Zji aC,Zab,Zio,Zab];cases Ziz p
 ·rfl
 cases Zgd p.Genesis
 ·rfl
 rw [aB aD,aB aD];have p2:loopN (Zbq.p2 N p) N (0,0)=some (ZlO 0 (cs.map (·.Height))):=by
  refine ZbZ (fun m (x:Int×Int)=>∃(i:Nat) (last:Int),i+m=cs.length∧x=(last,(i:Int))∧ZlO 0 (cs.map (·.Height))=ZlO last ((cs.drop i).map (·.Height))) ?_ N cs.length _ ⟨0,0,aC,rfl,rfl⟩ aC;rintro G m _ ⟨i,last,hi,rfl,hI⟩ hG;unfold Zbq.p2;dsimp only;have e:len (ZjG cs)=(cs.length:Int):=by simp [len]
  rw [hc,e];by_cases hlt:i<cs.length
  ·rw [xE hlt,xF] at hI;simp only [ZlO] at hI;rw [aA aF,Zag aC,zH,Zjd hlt,Zax,ZeF,ZaH aC aC];by_cases h1:cs[i].Height≤last
   ·rw [aA (aH h1),hI,show decide (last<cs[i].Height)=false by simp;omega];rfl
   rw [aB (aH h1)];exact hG (m-1) _ aC ⟨i+1,_,aC,rfl,by rw [hI,show decide (last<cs[i].Height)=true by simp;omega];rfl⟩
  rw [aB aF,hI,wL aC];rfl
 refine ZbZ (fun m (x:Int×Int)=>∃(i:Nat) (last:Int),i+m=gs.length∧x=(last,(i:Int))∧ZlO (-1) (gs.map (·.Height))=ZlO last ((gs.drop i).map (·.Height))) ?_ N gs.length _ ⟨0,-1,aC,rfl,rfl⟩ aC;rintro G m _ ⟨i,last,hi,rfl,hI⟩ hG;unfold Zbq.p1;dsimp only;have e:len (Zmo gs)=(gs.length:Int):=by simp [len]
 rw [hg,e];by_cases hlt:i<gs.length
 ·rw [xE hlt,xF] at hI;simp only [ZlO] at hI;rw [aA aF,Zag aC,zH,Zjc hlt,Zax,ZeX,ZaH aC aC];by_cases h1:gs[i].Height≤last
  ·rw [aA (aH h1),hI,show decide (last<gs[i].Height)=false by simp;omega];rfl
  rw [aB (aH h1)];exact hG (m-1) _ aC ⟨i+1,_,aC,rfl,by rw [hI,show decide (last<gs[i].Height)=true by simp;omega];rfl⟩
 rw [aB aF,hI,wL aC,p2];rfl
theorem Zod (hN:500≤N) {p:Zah} {gs:List Zcy} {cs:List Zcb} (hg:p.Gates=Zmo gs) (lg:gs.length≤400) (hc:p.Checks=ZjG cs) (lc:cs.length≤400) :
  ZbM N p=some (ZmW p gs cs):=by
 unfold ZbM ZmW;rw [Zkp aC,Zab,ZeK,Zab];cases Ziz p
 ·rfl
 cases Zgd p.Genesis
 ·rfl
 rw [aB aD,aB aD];have p2:loopN (ZbM.p2 N p) N 0=some (ZlO 0 (cs.map (·.Height))):=by
  refine ZbZ (fun m (x:Int)=>∃(i:Nat) (last:Int),i+m=cs.length∧x=(i:Int)∧0≤last∧(i=0→last=0)∧(∀h:0<i∧i-1<cs.length,last=cs[i-1].Height)∧ZlO 0 (cs.map (·.Height))=ZlO last ((cs.drop i).map (·.Height))) ?_ N cs.length _ ⟨0,0,aC,rfl,aC,fun _=>rfl,fun h=>aC,rfl⟩ aC;rintro G m _ ⟨i,last,hi,rfl,h0,hz,hp,hI⟩ hG;unfold ZbM.p2;have e:len (ZjG cs)=(cs.length:Int):=by simp [len]
  rw [hc,e];by_cases hlt:i<cs.length
  ·rw [xE hlt,xF] at hI;simp only [ZlO] at hI;have nx:last<cs[i].Height→G ((i:Int)+1)=some (true&&true&&true&&ZlO 0 (cs.map (·.Height))):=fun k=>
    hG (m-1) _ aC ⟨i+1,cs[i].Height,aC,aC,aC,aC,fun _=>rfl,by rw [hI,show decide (last<cs[i].Height)=true by simp;omega];rfl⟩
   have bad : ¬ last<cs[i].Height→ZlO 0 (cs.map (·.Height))=false:=fun k=>by rw [hI,show decide (last<cs[i].Height)=false by simp;omega];rfl
   rw [aA aF,Zag aC,zH,Zjd hlt,Zax,ZeF,ZaH (n:=(i:Int)+1) aC aC];by_cases h1:cs[i].Height<1
   ·rw [aA (aH h1),bad aC]
   rw [aB (aH h1)];by_cases hi0:i=0
   ·have:=hz hi0;rw [aB (by simp [hi0])];exact nx aC
   have:=hp ⟨aC,aC⟩;rw [aA aF,show (i:Int)-1=((i-1:Nat):Int) by omega,ZaH (n:=((i-1:Nat):Int)) aC aC,Zag aC,Zag aC,zH,Zjd (show i-1<cs.length by omega),Zax,ZeF,←this];by_cases h2:cs[i].Height≤last
   ·rw [aA (aH h2),bad aC]
   rw [aB (aH h2)];exact nx aC
  rw [aB aF,hI,wL aC];rfl
 refine ZbZ (fun m (x:Int)=>∃(i:Nat) (last:Int),i+m=gs.length∧x=(i:Int)∧-1≤last∧(i=0→last = -1)∧(∀h:0<i∧i-1<gs.length,last=gs[i-1].Height)∧ZlO (-1) (gs.map (·.Height))=ZlO last ((gs.drop i).map (·.Height))) ?_ N gs.length _ ⟨0,-1,aC,rfl,aC,fun _=>rfl,fun h=>aC,rfl⟩ aC;rintro G m _ ⟨i,last,hi,rfl,h0,hz,hp,hI⟩ hG;unfold ZbM.p1;have e:len (Zmo gs)=(gs.length:Int):=by simp [len]
 rw [hg,e];by_cases hlt:i<gs.length
 ·rw [xE hlt,xF] at hI;simp only [ZlO] at hI;have nx:last<gs[i].Height→0≤gs[i].Height→G ((i:Int)+1)=some (true&&true&&ZlO (-1) (gs.map (·.Height))&&ZlO 0 (cs.map (·.Height))):=fun k k2=>
   hG (m-1) _ aC ⟨i+1,gs[i].Height,aC,aC,aC,aC,fun _=>rfl,by rw [hI,show decide (last<gs[i].Height)=true by simp;omega];rfl⟩
  have bad : ¬ last<gs[i].Height→ZlO (-1) (gs.map (·.Height))=false:=fun k=>by rw [hI,show decide (last<gs[i].Height)=false by simp;omega];rfl
  rw [aA aF,Zag aC,zH,Zjc hlt,Zax,ZeX,ZaH (n:=(i:Int)+1) aC aC];by_cases h1:gs[i].Height<0
  ·rw [aA (aH h1),bad aC];rfl
  rw [aB (aH h1)];by_cases hi0:i=0
  ·have:=hz hi0;rw [aB (by simp [hi0])];exact nx aC aC
  have:=hp ⟨aC,aC⟩;rw [aA aF,show (i:Int)-1=((i-1:Nat):Int) by omega,ZaH (n:=((i-1:Nat):Int)) aC aC,Zag aC,Zag aC,zH,Zjc (show i-1<gs.length by omega),Zax,ZeX,←this];by_cases h2:gs[i].Height≤last
  ·rw [aA (aH h2),bad aC];rfl
  rw [aB (aH h2)];exact nx aC aC
 rw [aB aF,hI,wL aC,p2];rfl
end Go.Dn.F
