import Derived.Test.YtbijmojagnjgcaaGreatDoorNum
set_option linter.all false
open Bool renaming eq_iff_iff→xH
open Int renaming toNat_natCast→zG,tmod→zW
open List renaming take_succ_eq_append_getElem→yG,foldl_append→vH,take_of_length_le→zX,drop_eq_getElem_cons→yU,drop_of_length_le→xY,length_append→zT,length_take→xO,length_map→wA,map_cons→xA
set_option maxRecDepth 40000
namespace Go.Dn.F
open Go.Dn Go.Proofs
variable {N:Nat}
theorem Ztv (h:Zak):(hid h).length=32∧bys (hid h):=by
 obtain ⟨b,e,l⟩:=hid_by h;rw [e];refine ⟨by simpa using l,fun x hx=>?_⟩;obtain ⟨y,_,rfl⟩:=List.mem_map.1 hx;exact ⟨ZtO y,ZtP y⟩
def Zkt (p:Zae) (h:Zak):Int:=
 if Zgq h=false then 1 else if (tgt h.Bits p.Limit).2=false then 4 else if hv (hid h)≤(tgt h.Bits p.Limit).1 then 0 else 4
theorem Zmg (hN:500≤N) (p:Zae) {h:Zak} (hw:wfH h=true):Zel N p h=some (Zkt p h):=by
 unfold Zel Zkt;rw [ZeW,Zaa,Zfr (by omega),Zaa];dsimp only;have hb:=Ztv h;rw [Zgr hN hw,Zaa,ZkE (by omega) hb.1 hb.2 (ZjM _ _),Zaa];cases Zgq h
 ·rfl
 cases (tgt h.Bits p.Limit).2
 ·rfl
 by_cases k:hv (hid h)≤(tgt h.Bits p.Limit).1<;>simp [k]
def ZhI (height:Int) (gs:List ZcI):Int:=gs.foldl (fun l g=>if height≥g.Height∧g.Version>l then g.Version else l) (-2147483648)
noncomputable def Zmi (l:List ZcI):LL:=l.map ZcI.ls
noncomputable def ZjH (l:List Zcj):LL:=l.map Zcj.ls
theorem Zjh {l:List ZcI} {i:Nat} (h:i<l.length):(Zmi l)[i]? = some l[i].ls:=by simp [Zmi,h]
theorem Zji {l:List Zcj} {i:Nat} (h:i<l.length):(ZjH l)[i]? = some l[i].ls:=by simp [ZjH,h]
@[simp] theorem ZpS (l:List ZcI):(Zmi l).length=l.length:=by simp [Zmi]
@[simp] theorem ZpT (l:List Zcj):(ZjH l).length=l.length:=by simp [ZjH]
theorem open_G {xs:LL} (h : ∀x∈xs,ZhB [.int .i64,.int .i64] x) : ∃l:List ZcI,xs=Zmi l:=
 let ⟨l,h,_⟩:=Zrh (e:=ZcI.ls) (good:=fun _=>True) fun x hx=>by
  obtain ⟨_,_,rfl,h1,h⟩:=(h x hx).cons_inv;obtain ⟨_,_,rfl,h2,h⟩:=h.cons_inv;cases h.nil_inv;obtain ⟨a,rfl,_⟩:=h1.int_inv;obtain ⟨b,rfl,_⟩:=h2.int_inv;exact ⟨⟨a,b⟩,rfl,trivial⟩
 ⟨l,h⟩
theorem open_K {xs:LL} (h : ∀x∈xs,ZhB [.int .i64,.arr .u8 32] x) : ∃l:List Zcj,xs=ZjH l:=
 let ⟨l,h,_⟩:=Zrh (e:=Zcj.ls) (good:=fun _=>True) fun x hx=>by
  obtain ⟨_,_,rfl,h1,h⟩:=(h x hx).cons_inv;obtain ⟨_,_,rfl,h2,h⟩:=h.cons_inv;cases h.nil_inv;obtain ⟨a,rfl,_⟩:=h1.int_inv;obtain ⟨b,rfl,_⟩:=h2.arr_inv;exact ⟨⟨a,b⟩,rfl,trivial⟩
 ⟨l,h⟩
theorem Zld (height:Int) (gs:List ZcI) (hg:gs.length<N) (hb:gs.length<1000000):Zbi N height (Zmi gs)=some (ZhI height gs):=by
 unfold Zbi;refine Zcd (fun m (x:Int×Int)=>∃i:Nat,i+m=gs.length∧x=(ZhI height (gs.take i),(i:Int))) ?_ N gs.length _ ⟨0,by omega,rfl⟩ hg;rintro G m _ ⟨i,hi,rfl⟩ hG;unfold Zbi.p1 Zbi.p2;dsimp only;by_cases hlt:i<gs.length
 ·rw [if_pos (by simp [len];omega),Zah (by omega),zG,Zjh hlt,Zau,Zfj,ZaI (by omega) (by omega)];have st:ZhI height (gs.take (i+1))=if height≥gs[i].Height∧gs[i].Version>ZhI height (gs.take i) then gs[i].Version else ZhI height (gs.take i):=by
   unfold ZhI;rw [yG hlt,vH];rfl
  have hn:=hG (m-1) (ZhI height (gs.take (i+1)),((i+1:Nat):Int)) (by omega) ⟨i+1,by omega,rfl⟩;rw [st] at hn;by_cases h1:height≥gs[i].Height
  ·rw [if_pos (by simpa using h1)];by_cases h2:gs[i].Version>ZhI height (gs.take i)
   ·rw [if_pos ⟨h1,h2⟩] at hn;rw [if_pos h2];exact hn
   rw [if_neg (fun h=>h2 h.2)] at hn;rw [if_neg h2];exact hn
  rw [if_neg (by simpa using h1)];rw [if_neg (fun h=>h1 h.1)] at hn;exact hn
 rw [if_neg (by simp [len];omega),zX (by omega)]
def ZfO (height:Int) (id:List Int) (cs:List Zcj):Bool:=cs.all fun c=>!(c.Height==height)||c.Id==id
theorem Zle (height:Int) (id:List Int) (cs:List Zcj) (hg:cs.length<N) (hb:cs.length<1000000):Zch N height id (ZjH cs)=some (ZfO height id cs):=by
 unfold Zch;refine Zcd (fun m (x:Int)=>∃i:Nat,i+m=cs.length∧x=(i:Int)∧ZfO height id cs=ZfO height id (cs.drop i)) ?_ N cs.length _ ⟨0,by omega,rfl,by rw [List.drop_zero]⟩ hg;rintro G m _ ⟨i,hi,rfl,ht⟩ hG;unfold Zch.p1;by_cases hlt:i<cs.length
 ·rw [yU hlt] at ht;have e:ZfO height id (cs[i]::cs.drop (i+1))=((!(cs[i].Height==height)||cs[i].Id==id)&&ZfO height id (cs.drop (i+1))):=rfl;rw [e] at ht;rw [if_pos (by simp [len];omega),Zah (by omega),zG,Zji hlt,Zau,ZeR,ZaI (by omega) (by omega)];by_cases h1:(cs[i].Height==height)=true
  ·rw [if_pos h1];by_cases h2:(cs[i].Id==id)=true
   ·rw [if_neg (by simp [h2])];exact hG (m-1) _ (by omega) ⟨i+1,by omega,rfl,by rw [ht];simp [h2]⟩
   rw [if_pos (by simpa using h2),ht];simp [h1,h2]
  rw [if_neg h1];exact hG (m-1) _ (by omega) ⟨i+1,by omega,rfl,by rw [ht];simp [h1]⟩
 rw [if_neg (by simp [len];omega),ht,xY (by omega)];rfl
def near (t now f:Int):Bool:=decide (0≤f∧(t≤now∨t-now≤f))
theorem Zmo {t now:Int} (f:Int) (h1:0≤t∧t≤1152921504606846976) (h2 : -1152921504606846976≤now∧now≤9223372036854775807):Zem N t now f=some (near t now f):=by
 unfold Zem near;rw [ZaI (by omega) (by omega)]
 repeat' split
 all_goals (refine Zgm ⟨fun h=>?_,fun h=>?_⟩<;>simp only [decide_eq_true_eq,Bool.false_eq_true] at * <;> first | trivial | omega)
def Zfy (p:Zae) (gs:List ZcI) (cs:List Zcj) (s:ZaU) (h:Zak) (now:Int):Int:=
 if Zgq h=false then 1
 else if h.Prev≠s.Prev then 2
 else if h.Bits≠ZkB p s.Point h.Time then 3
 else if Zkt p h≠0 then 4
 else if ((Zmb s.Times).length==0||decide (h.Time>M (Zmb s.Times)))=false then 5
 else if near h.Time now p.Future=false then 6
 else if h.Version<ZhI s.Point.Height gs then 7
 else if ZfO s.Point.Height (hid h) cs=false then 8 else 0
theorem Znj (hN:500≤N) {p:Zae} {gs:List ZcI} {cs:List Zcj} (hg:p.Gates=Zmi gs) (hc:p.Checks=ZjH cs) (lg:gs.length≤400) (lc:cs.length≤400)
  {s:ZaU} {h:Zak} (hw:wfH h=true) (hs:isI s.Times=true) (now:Int) (hnow : -1152921504606846976≤now∧now≤9223372036854775807) :
  ZeA N p s h now=some (Zfy p gs cs s h now):=by
 unfold ZeA Zfy;rw [ZeW,Zaa];cases hgd:Zgq h with
 | false=>rfl
 | true=>
  have tr:=(Zpj h).1 hgd;have ht:s.Times=ZdX (Zmb s.Times):=ZkN hs;rw [if_neg (c:=(!true)=true) (by simp),if_neg (c:=true=false) (by simp)];by_cases h2:h.Prev=s.Prev
  ·rw [if_neg (by simp [h2]),if_neg (by simp [h2]),ZoT (by omega),Zaa];by_cases h3:h.Bits=ZkB p s.Point h.Time
   ·rw [if_neg (by simp [h3]),if_neg (by simp [h3]),Zmg hN p hw,Zaa];by_cases h4:Zkt p h=0
    ·rw [if_neg (by simp [h4]),if_neg (by simp [h4]),show ZdL N h.Time s.Times=_ from (congrArg (ZdL N h.Time) ht).trans (Zqg N h.Time (Zmb s.Times)),Zaa];cases h5:((Zmb s.Times).length==0||decide (h.Time>M (Zmb s.Times)))
     ·rfl
     rw [if_neg (by simp),if_neg (by simp),Zmo _ (by omega) hnow,Zaa];cases h6:near h.Time now p.Future
     ·rfl
     rw [if_neg (by simp),if_neg (by simp),hg,Zld _ gs (by omega) (by omega),Zaa];by_cases h7:h.Version<ZhI s.Point.Height gs
     ·rw [if_pos (by simpa using h7),if_pos h7]
     rw [if_neg (by simpa using h7),if_neg h7,Zgr hN hw,Zaa,hc,Zle _ _ cs (by omega) (by omega),Zaa];cases ZfO s.Point.Height (hid h) cs<;>rfl
    rw [if_pos (by simpa using h4),if_pos h4]
   rw [if_pos (by simpa using h3),if_pos h3]
  rw [if_pos (by simpa using h2),if_pos h2]
theorem ZjR (hN:300≤N) (p:Zae) (b f t:Int):ZaB N p b f t=some (retg p b f t):=by
 unfold ZaB retg;rw [Zgo hN,Zaa];dsimp only;rw [Zjl hN,Zaa];cases hg:ZiC p with
 | false=>rw [if_pos (by rfl),if_neg (by simp)]
 | true=>
  rw [if_neg (by simp)];cases ht:(tgt b p.Limit).2 with
  | false=>rw [if_pos (by rfl),if_neg (by simp)]
  | true=>
   rw [if_neg (by simp)];have hn:=ZjM b p.Limit;have hL:=ZjM p.Limit p.Limit;have D:=Zhe hg;have S:=Zlq hg f t;have enc : ∀{x:Int},isN x→ZaB.p3 N (nw x)=some (Zsl x):=fun h=>by
    unfold ZaB.p3;rw [Znt hN h,Zaa]
   have p2:ZaB.p2 N p (ZfM p f t) (nw (tgt b p.Limit).1)=some (if (tgt b p.Limit).1*ZfM p f t/Zhv p<2^256∧(tgt b p.Limit).1*ZfM p f t/Zhv p≤(tgt p.Limit p.Limit).1
     then Zsl (if (tgt b p.Limit).1*ZfM p f t/Zhv p=0 then 1 else (tgt b p.Limit).1*ZfM p f t/Zhv p) else p.Limit):=by
    have hLt:=Zgo hN p.Limit p.Limit;unfold ZaB.p2;rw [ZkV hg,ZsH hN hn S (by omega),Zaa];dsimp only;rw [hLt,Zaa];dsimp only;have q0:0≤(tgt b p.Limit).1*ZfM p f t/Zhv p:=Int.ediv_nonneg (Int.mul_nonneg hn.1 S.1) (by omega);generalize (tgt b p.Limit).1*ZfM p f t/Zhv p=Q at *;by_cases big:Q<2^256
    ·have hQ:isN Q:=⟨q0,big⟩
     rw [if_neg (by simpa using big),Int.emod_eq_of_lt q0 big,ZfR hN hL hQ,Zaa];by_cases hl:(tgt p.Limit p.Limit).1<Q
     ·rw [if_pos (by simpa using hl),if_neg (by omega)]
     rw [if_neg (by simpa using hl)];have z:(nw Q==List.replicate 4 0)=decide (Q=0):=Option.some.inj (Zet (N:=0) hQ);rw [z,if_pos (c:=Q<2^256∧Q≤(tgt p.Limit p.Limit).1) ⟨big,by omega⟩];by_cases h0:Q=0
     ·rw [if_pos (by simpa using h0),if_pos h0,Zqc (by unfold isW;omega),enc (by unfold isN;omega)]
     rw [if_neg (by simpa using h0),if_neg h0,enc hQ]
    rw [if_pos (by simpa using big),if_neg (by omega)]
   have fin:ZaB.p2 N p (ZfM p f t) (nw (tgt b p.Limit).1)=some (if ZiC p=true∧(tgt b p.Limit).2=true∧(tgt b p.Limit).1*ZfM p f t/Zhv p<2^256∧(tgt b p.Limit).1*ZfM p f t/Zhv p≤(tgt p.Limit p.Limit).1
     then Zsl (if (tgt b p.Limit).1*ZfM p f t/Zhv p=0 then 1 else (tgt b p.Limit).1*ZfM p f t/Zhv p) else p.Limit):=by
    rw [p2,hg,ht];simp only [true_and]
   rw [hg,ht] at fin;refine Eq.trans ?_ fin;have p1 : ∀y:Int,ZfM p f t=(if Zhv p*4<y then Zhv p*4 else y)→ZaB.p1 N p y (nw (tgt b p.Limit).1)=ZaB.p2 N p (ZfM p f t) (nw (tgt b p.Limit).1):=fun y hy=>by
    unfold ZaB.p1;rw [ZkV hg,ZaI (n:=Zhv p*4) (by omega) (by omega),hy];by_cases h:Zhv p*4<y
    ·rw [if_pos (by simpa using h),if_pos h]
    rw [if_neg (by simpa using h),if_neg h]
   rw [ZkV hg,ZeL (by omega),ZaI (n:=Zhv p/4) (by omega) (by omega)];by_cases h:w64 (t-f)<Zhv p/4
   ·rw [if_pos (by simpa using h)];exact p1 _ (by unfold ZfM;rw [if_pos (show Zhv p/4>w64 (t-f) from h)])
   rw [if_neg (by simpa using h)];exact p1 _ (by unfold ZfM;rw [if_neg (show ¬ Zhv p/4>w64 (t-f) from h)])
theorem Znx (hN:300≤N) (p:Zae) (a:ZdK) (own:Int):ZcB N p a.Height a.Bits a.Time a.First a.Hard own=some (ZkB p a own):=by
 unfold ZcB ZkB;have p1:ZcB.p1 N a.Bits a.Time a.Hard own p=some (if p.Easy=false then a.Bits else if w64 (own-a.Time)>w64 (2*p.Spacing) then p.Limit else a.Hard):=by
  unfold ZcB.p1;cases p.Easy
  ·rfl
  rw [if_neg (c:=(!true)=true) (by simp),if_neg (c:=true=false) (by simp)];by_cases h:w64 (own-a.Time)>w64 (2*p.Spacing)
  ·rw [if_pos (by simpa using h),if_pos h]
  rw [if_neg (by simpa using h),if_neg h]
 by_cases h0:a.Height≤0
 ·rw [if_pos (by simpa using h0),if_pos h0]
 rw [if_neg (by simpa using h0),if_neg h0,p1,ZjR hN,Zaa];unfold Zft;by_cases hi:p.Interval>0
 ·rw [if_pos (by simpa using hi),Zah (by omega)];by_cases hm:zW a.Height p.Interval=0
  ·rw [if_pos (by simpa using hm),if_pos (c:=decide (0<p.Interval∧zW a.Height p.Interval=0)=true) (by simp [hm]<;>omega)]
  rw [if_neg (by simpa using hm),if_neg (c:=decide (0<p.Interval∧zW a.Height p.Interval=0)=true) (by simp [hm])]
 rw [if_neg (by simpa using hi),if_neg (c:=decide (0<p.Interval∧zW a.Height p.Interval=0)=true) (by simp<;>omega)]
def s0 (p:Zae):ZaU:=⟨⟨0,0,0,0,p.Limit⟩,List.replicate 32 0,[]⟩
def Zdi (p:Zae) (l:List Zak):ZaU:=l.foldl (ZfJ p) (s0 p)
theorem ZmA (p:Zae) (l:List Zak) {i:Nat} (h:i<l.length):Zdi p (l.take (i+1))=ZfJ p (Zdi p (l.take i)) l[i]:=by
 unfold Zdi;rw [yG h,vH];rfl
theorem ZhN (p:Zae) : ∀l:List Zak,l.length<1000000→(Zdi p l).Point.Height=l.length:=by
 refine Znp (fun _=>rfl) (fun l h ih hl=>?_);unfold Zdi at *;rw [vH];show w64 ((List.foldl (ZfJ p) (s0 p) l).Point.Height+1)=_;rw [zT,List.length_singleton] at *;rw [ih (by omega),ZaI (by omega) (by omega)];omega
theorem ZmC (p:Zae) (l:List Zak) (h:0<l.length):(Zdi p l).Point.Bits=(l[l.length-1]).Bits∧(Zdi p l).Point.Time=(l[l.length-1]).Time∧(Zdi p l).Prev=hid l[l.length-1]:=by
 have:=ZmA p l (i:=l.length-1) (by omega);rw [zX (by omega)] at this;rw [this];exact ⟨rfl,rfl,rfl⟩
theorem ZpM (p:Zae) : ∀l:List Zak,Zmb (Zdi p l).Times=((l.map (·.Time)).reverse).take 11:=by
 refine Znp rfl (fun l h ih=>?_);unfold Zdi at *;rw [vH];show Zmb (ZdX (h.Time::(Zmb (List.foldl (ZfJ p) (s0 p) l).Times).take 10))=_;rw [Zst,ih,List.map_append,List.reverse_append,List.take_take];rfl
theorem Znw (hN:850≤N) (p:Zae) (l:List Zak) (h0:0<l.length) (hl:l.length≤800) (time:Int):ZaD N p (ZjP l) time=some (ZkB p (Zdi p l).Point time):=by
 unfold ZaD;have e:len (ZjP l)=(l.length:Int):=by simp [len]
 obtain ⟨b1,b2,_⟩:=ZmC p l h0;have hh:=ZhN p l (by omega);rw [e,if_neg (by simp only [beq_iff_eq];omega),show ((l.length:Int)-1)=((l.length-1:Nat):Int) by omega,ZaI (n:=((l.length-1:Nat):Int)) (by omega) (by omega),Zah (by omega),Zah (by omega),zG,Zjg (by omega),Zau,ZeF];refine Zcd (fun m (x:Int×Int×Int)=>∃i:Nat,i+m=l.length∧x=((Zdi p (l.take i)).Point.First,(Zdi p (l.take i)).Point.Hard,(i:Int))) ?_ N l.length _ ⟨0,by omega,rfl⟩ (by omega);rintro G m _ ⟨i,hi,rfl⟩ hG;unfold ZaD.p1;dsimp only;rw [e];by_cases hlt:i<l.length
 ·have hst:=ZmA p l hlt;have ht:=ZhN p (l.take i) (by rw [xO];omega);rw [xO,Nat.min_eq_left (by omega)] at ht;have hn:=hG (m-1) _ (by omega) ⟨i+1,by omega,rfl⟩;rw [hst] at hn;have p3 : ∀first:Int,first=(ZfJ p (Zdi p (l.take i)) l[i]).Point.First→ZaD.p3 N G time (ZjP l) first (Zdi p (l.take i)).Point.Hard (Zft p (i:Int)) (i:Int) p l[l.length-1] l[i]=some (ZkB p (Zdi p l).Point time):=fun first hf=>by
   subst hf;have hd:(ZfJ p (Zdi p (l.take i)) l[i]).Point.Hard=if (p.Easy&&l[i].Bits==p.Limit && !Zft p (i:Int))=true then (Zdi p (l.take i)).Point.Hard else l[i].Bits:=by
    show (if (p.Easy&&l[i].Bits==p.Limit && !Zft p (Zdi p (l.take i)).Point.Height)=true then _ else _)=_;rw [ht]
   rw [hd] at hn;unfold ZaD.p3 ZaD.p4;rw [ZaI (by omega) (by omega)];have c:((i+1:Nat):Int)=(i:Int)+1:=by omega
   rw [c] at hn;cases h1:p.Easy with
   | false=>rw [h1] at hn;simpa using hn
   | true=>
    rw [h1] at hn;by_cases h2:l[i].Bits=p.Limit
    ·cases h3:Zft p (i:Int) with
     | true=>rw [h3] at hn;simp [h2] at hn ⊢;exact hn
     | false=>rw [h3] at hn;simp [h2] at hn ⊢;exact hn
    simp [h2] at hn ⊢;exact hn
  have p2:ZaD.p2 N G time (ZjP l) (Zdi p (l.take i)).Point.First (Zdi p (l.take i)).Point.Hard (Zft p (i:Int)) (i:Int) p l[l.length-1] l[i]=some (ZkB p (Zdi p l).Point time):=by
   unfold ZaD.p2;have hf:(ZfJ p (Zdi p (l.take i)) l[i]).Point.First=if Zft p (i:Int)=true then l[i].Time else (Zdi p (l.take i)).Point.First:=by
    show (if Zft p (Zdi p (l.take i)).Point.Height=true then _ else _)=_;rw [ht]
   cases h3:Zft p (i:Int) with
   | true=>rw [h3] at hf p3;rw [if_pos rfl];exact p3 _ (by rw [hf];rfl)
   | false=>rw [h3] at hf p3;rw [if_neg (by simp)];exact p3 _ (by rw [hf];rfl)
  rw [if_pos (by simp<;>omega),Zah (by omega),zG,Zjg hlt,Zau,ZeF];by_cases hI:p.Interval>0
  ·have:(zW (i:Int) p.Interval==0)=Zft p (i:Int):=by
    unfold Zft;rw [xH];simp [hI]
   rw [if_pos (by simpa using hI),Zah (by omega),this];exact p2
  have:false=Zft p (i:Int):=by
   unfold Zft;rw [xH];simp;omega
  rw [if_neg (by simpa using hI),this];exact p2
 rw [if_neg (by simp<;>omega),zX (by omega),←b1,←b2,←hh,Znx (by omega),Zaa]
theorem Znu (hN:600≤N) (p:Zae) {h:Zak} (hw:wfH h=true):ZdZ N p h=some ((tgt h.Bits p.Limit).2&&decide (hv (hid h)≤(tgt h.Bits p.Limit).1)):=by
 unfold ZdZ;have hb:=Ztv h;rw [Zgo (by omega),Zaa];dsimp only;rw [Zjj hN h hw,Zaa,Zns (by omega) hb.1 hb.2,Zaa,ZfR (by omega) (ZjM _ _) (hv_isN hb.1 hb.2),Zaa];cases (tgt h.Bits p.Limit).2
 ·rfl
 rw [if_pos rfl]
 congr 1
 rw [xH];simp
theorem Zny (zs:List Int) (hN:zs.length+2≤N) (hz:zs.length≤1000):ZcC N (ZdX zs)=some (ZdX (zs.reverse.take 11)):=by
 unfold ZcC;rw [Zez,ZaI (by omega) (by omega)];refine Zcd (fun m (x:LL×Int)=>∃i:Nat,i+m=zs.length∧i≤11∧x=(ZdX (zs.reverse.take i),(zs.length:Int)-1-(i:Int))) ?_ N zs.length _ ⟨0,by omega,by omega,by simp;rfl⟩ (by omega);rintro G m _ ⟨i,hi,h11,rfl⟩ hG;unfold ZcC.p1;dsimp only;by_cases hlt:i<zs.length
 ·rw [if_pos (by simp<;>omega)];have ll:(zs.reverse.take i).length=i:=by rw [xO,List.length_reverse];omega
  by_cases h:i<11
  ·have hr:zs.length-1-i<zs.length:=by omega
   have t:zs.reverse.take (i+1)=zs.reverse.take i ++ [zs[zs.length-1-i]]:=by
    rw [yG (by simp;omega),List.getElem_reverse]
   rw [if_pos (by rw [Zez,ll];simp<;>omega),Zez,Zah (by omega),Zah (by omega),show Int.toNat ((zs.length:Int)-1-(i:Int))=zs.length-1-i by omega,Zjf hr,Zau,ZdV,ZkG,Zhq,Zah (by rw [ZdI,zT,ll];simp<;>omega),←t,ZaI (by omega) (by omega)];exact hG (m-1) _ (by omega) ⟨i+1,by omega,by omega,by congr 1;omega⟩
  have:i=11:=by omega
  subst this;rw [if_neg (by rw [Zez,ll];simp)]
 rw [if_neg (by simp<;>omega),zX (by simp;omega),zX (by simp;omega)]
theorem ZqE (height:Int) (gs:List ZcI) (v:Int) (hv : -2147483648≤v):v<ZhI height gs↔∃g∈gs,g.Height≤height∧v<g.Version:=by
 revert gs;refine Znp ?_ (fun gs g ih=>?_)
 ·simp [ZhI];omega
 have e:ZhI height (gs ++ [g])=if height≥g.Height∧g.Version>ZhI height gs then g.Version else ZhI height gs:=by unfold ZhI;rw [vH];rfl
 rw [e];constructor
 ·intro h;split at h
  ·rename_i hc;exact ⟨g,by simp,hc.1,h⟩
  obtain ⟨g',h1,h2⟩:=ih.1 h;exact ⟨g',by simp [h1],h2⟩
 rintro ⟨g',h1,h2,h3⟩;rcases List.mem_append.1 h1 with h1 | h1
 ·have:=ih.2 ⟨g',h1,h2,h3⟩;split<;>omega
 cases List.mem_singleton.1 h1;split
 ·exact h3
 rename_i hc;omega
theorem ref11_p6 (hN:600≤N) (l:List Zak) (hl:l.length≤800) {p:Zae} {cs:List Zcj} (hc:p.Checks=ZjH cs) (lc:cs.length≤400) {h:Zak} (hw:wfH h=true) :
  loopN (Zat.p6 N (ZjP l) p h) N 0=some (if ZfO (l.length:Int) (hid h) cs=false then 8 else 0):=by
 refine Zcd (fun m (x:Int)=>∃i:Nat,i+m=cs.length∧x=(i:Int)∧ZfO (l.length:Int) (hid h) cs=ZfO (l.length:Int) (hid h) (cs.drop i)) ?_ N cs.length _ ⟨0,by omega,rfl,by rw [List.drop_zero]⟩ (by omega);rintro G m _ ⟨i,hi,rfl,ht⟩ hG;unfold Zat.p6;have e:len (ZjP l)=(l.length:Int):=by simp [len]
 rw [hc,e];by_cases hlt:i<cs.length
 ·rw [yU hlt] at ht;have e:ZfO (l.length:Int) (hid h) (cs[i]::cs.drop (i+1))=((!(cs[i].Height==(l.length:Int))||cs[i].Id==hid h)&&ZfO (l.length:Int) (hid h) (cs.drop (i+1))):=rfl;rw [e] at ht;rw [if_pos (by simp [len]<;>omega),Zah (by omega),zG,Zji hlt,Zau,ZeR,ZaI (by omega) (by omega)];by_cases h1:(cs[i].Height==(l.length:Int))=true
  ·rw [if_pos h1,Zjj hN h hw,Zaa];by_cases h2:(cs[i].Id==hid h)=true
   ·rw [if_neg (by simp [h2])];exact hG (m-1) _ (by omega) ⟨i+1,by omega,rfl,by rw [ht];simp [h2]⟩
   rw [if_pos (by simpa using h2),ht];simp [h1,h2]
  rw [if_neg h1];exact hG (m-1) _ (by omega) ⟨i+1,by omega,rfl,by rw [ht];simp [h1]⟩
 rw [if_neg (by simp [len]<;>omega),ht,xY (by omega)];rfl
theorem ref11_p5 (hN:600≤N) (l:List Zak) (hl:l.length≤800) {p:Zae} {gs:List ZcI} {cs:List Zcj} (hg:p.Gates=Zmi gs) (lg:gs.length≤400) (hc:p.Checks=ZjH cs) (lc:cs.length≤400) {h:Zak} (hw:wfH h=true) (hv : -2147483648≤h.Version) :
  Zat.p4 N (ZjP l) p h=some (if h.Version<ZhI (l.length:Int) gs then 7 else if ZfO (l.length:Int) (hid h) cs=false then 8 else 0):=by
 unfold Zat.p4;refine Zcd (fun m (x:Int)=>∃i:Nat,i+m=gs.length∧x=(i:Int)∧∀g∈gs.take i,¬ (g.Height≤(l.length:Int)∧h.Version<g.Version)) ?_ N gs.length _ ⟨0,by omega,rfl,fun g hg=>by simp at hg⟩ (by omega);rintro G m _ ⟨i,hi,rfl,ht⟩ hG;unfold Zat.p5;have e:len (ZjP l)=(l.length:Int):=by simp [len]
 rw [hg,e];by_cases hlt:i<gs.length
 ·have next : ¬ (gs[i].Height≤(l.length:Int)∧h.Version<gs[i].Version)→∀g∈gs.take (i+1),¬ (g.Height≤(l.length:Int)∧h.Version<g.Version):=fun hn g hgm=>by
   rw [yG hlt] at hgm;rcases List.mem_append.1 hgm with k | k
   ·exact ht g k
   cases List.mem_singleton.1 k;exact hn
  rw [if_pos (by simp [len]<;>omega),Zah (by omega),zG,Zjh hlt,Zau,Zfj,ZaI (by omega) (by omega)];by_cases h1:gs[i].Height≤(l.length:Int)
  ·rw [if_pos (by simpa using h1)];by_cases h2:h.Version<gs[i].Version
   ·rw [if_pos (by simpa using h2),if_pos ((ZqE _ gs _ hv).2 ⟨gs[i],List.getElem_mem hlt,h1,h2⟩)]
   rw [if_neg (by simpa using h2)];exact hG (m-1) _ (by omega) ⟨i+1,by omega,rfl,next fun k=>h2 k.2⟩
  rw [if_neg (by simpa using h1)];exact hG (m-1) _ (by omega) ⟨i+1,by omega,rfl,next fun k=>h1 k.1⟩
 rw [if_neg (by simp [len]<;>omega),ref11_p6 hN l hl hc lc hw,if_neg (c:=h.Version<ZhI (l.length:Int) gs)];intro k;obtain ⟨g,h1,h2⟩:=(ZqE _ gs _ hv).1 k;rw [zX (by omega)] at ht;exact ht g h1 h2
theorem Zml (hN:900≤N) {p:Zae} {gs:List ZcI} {cs:List Zcj} (hg:p.Gates=Zmi gs) (lg:gs.length≤400) (hc:p.Checks=ZjH cs) (lc:cs.length≤400)
  (l:List Zak) (h0:0<l.length) (hl:l.length≤800) (hw2 : ∀x∈l,wfH x=true) {h:Zak} (hw:wfH h=true) (now:Int) (hnow:0≤now∧now≤9223372036854775807) :
  Zat N p (ZjP l) h now=some (Zfy p gs cs (Zdi p l) h now):=by
 unfold Zat;have e:len (ZjP l)=(l.length:Int):=by simp [len]
 obtain ⟨b1,b2,b3⟩:=ZmC p l h0;have hh:=ZhN p l (by omega);rw [Zit,Zaa];unfold Zfy;cases hgd:Zgq h with
 | false=>rfl
 | true=>
  have tr:=(Zpj h).1 hgd;rw [if_neg (c:=(!true)=true) (by simp),if_neg (c:=true=false) (by simp),e,if_pos (by simp only [decide_eq_true_eq,gt_iff_lt];omega),show ((l.length:Int)-1)=((l.length-1:Nat):Int) by omega,ZaI (n:=((l.length-1:Nat):Int)) (by omega) (by omega),Zah (by omega),Zah (by omega),zG,Zjg (by omega),Zau,ZeF,Zjj (by omega) _ (hw2 _ (List.getElem_mem _)),Zaa,←b3];by_cases h2:h.Prev=(Zdi p l).Prev
  ·rw [if_neg (c:=(!(h.Prev==(Zdi p l).Prev))=true) (by simp [h2]),if_neg (c:=h.Prev≠(Zdi p l).Prev) (by simp [h2])];unfold Zat.p1;rw [Znw (by omega) p l h0 hl,Zaa];by_cases h3:h.Bits=ZkB p (Zdi p l).Point h.Time
   ·rw [if_neg (c:=(h.Bits != ZkB p (Zdi p l).Point h.Time)=true) (by simpa using h3),if_neg (c:=h.Bits≠ZkB p (Zdi p l).Point h.Time) (by simpa using h3),Znu (by omega) p hw,Zaa];have it:Zkt p h=if ((tgt h.Bits p.Limit).2&&decide (hv (hid h)≤(tgt h.Bits p.Limit).1))=true then 0 else 4:=by
     unfold Zkt;rw [hgd,if_neg (c:=true=false) (by simp)];cases (tgt h.Bits p.Limit).2
     ·rfl
     by_cases k:hv (hid h)≤(tgt h.Bits p.Limit).1<;>simp [k]
    cases h4:((tgt h.Bits p.Limit).2&&decide (hv (hid h)≤(tgt h.Bits p.Limit).1)) with
    | false=>
     rw [h4] at it;rw [if_pos (by rfl),if_pos (c:=Zkt p h≠0) (by rw [it];decide)]
    | true=>
     rw [h4] at it;rw [if_neg (c:=(!true)=true) (by simp),if_neg (c:=Zkt p h≠0) (by rw [it];decide)];have tm:=ZpM p l;have tl:0<((l.map (·.Time)).reverse.take 11).length:=by rw [xO,List.length_reverse,wA];omega
     refine Zcd (fun m (x:LL×Int)=>∃i:Nat,i+m=l.length∧x=(ZdX ((l.take i).map (·.Time)),(i:Int))) ?_ N l.length _ ⟨0,by omega,rfl⟩ (by omega);rintro G m _ ⟨i,hi,rfl⟩ hG;unfold Zat.p2;dsimp only;rw [e];by_cases hlt:i<l.length
     ·rw [if_pos (by simp<;>omega),Zah (by omega),zG,Zjg hlt,Zau,ZeF,ZkG,Zhq,Zah (by rw [ZdI,zT,wA,xO];simp<;>omega),ZaI (by omega) (by omega)];refine hG (m-1) _ (by omega) ⟨i+1,by omega,?_⟩;rw [yG hlt,List.map_append];rfl
     rw [if_neg (by simp<;>omega),zX (by omega),if_pos (by simp only [decide_eq_true_eq,gt_iff_lt];omega),Zny _ (by rw [wA];omega) (by rw [wA];omega),Zaa,Zah (ZmF _),ZrQ N (by omega),Zaa,←tm];rw [←tm] at tl;by_cases h5:h.Time≤M (Zmb (Zdi p l).Times)
     ·rw [if_pos (by simpa using h5),if_pos (c:=((Zmb (Zdi p l).Times).length==0||decide (h.Time>M (Zmb (Zdi p l).Times)))=false) (by
       simp only [Bool.or_eq_false_iff,beq_eq_false_iff_ne,decide_eq_false_iff_not];omega)]
     rw [if_neg (by simpa using h5),if_neg (c:=((Zmb (Zdi p l).Times).length==0||decide (h.Time>M (Zmb (Zdi p l).Times)))=false) (by
      simp only [Bool.or_eq_false_iff,beq_eq_false_iff_ne,decide_eq_false_iff_not];omega)]
     unfold Zat.p3;rw [ref11_p5 (by omega) l hl hg lg hc lc hw tr.1,hh];have nr:near h.Time now p.Future=decide (0≤p.Future∧(h.Time≤now∨h.Time-now≤p.Future)):=rfl;by_cases f:p.Future<0
     ·rw [if_pos (by simpa using f),if_pos (c:=near h.Time now p.Future=false) (by rw [nr];simp only [decide_eq_false_iff_not];omega)]
     rw [if_neg (by simpa using f)];by_cases g:h.Time>now
     ·rw [if_pos (by simpa using g),ZaI (by omega) (by omega)];by_cases k:h.Time-now>p.Future
      ·rw [if_pos (by simpa using k),if_pos (c:=near h.Time now p.Future=false) (by rw [nr];simp only [decide_eq_false_iff_not];omega)]
      rw [if_neg (by simpa using k),if_neg (c:=near h.Time now p.Future=false) (by rw [nr];simp only [decide_eq_false_iff_not];omega)]
     rw [if_neg (by simpa using g),if_neg (c:=near h.Time now p.Future=false) (by rw [nr];simp only [decide_eq_false_iff_not];omega)]
   rw [if_pos (by simpa using h3),if_pos h3]
  rw [if_pos (by simpa using h2),if_pos h2]
def Zmd (last:Int):List Int→Bool
 | []=>true
 | x::l=>decide (last<x)&&Zmd x l
def Zmj (p:Zae) (gs:List ZcI) (cs:List Zcj):Bool:=ZiC p&&Zgq p.Genesis&&Zmd (-1) (gs.map (·.Height))&&Zmd 0 (cs.map (·.Height))
theorem Znv (hN:500≤N) {p:Zae} {gs:List ZcI} {cs:List Zcj} (hg:p.Gates=Zmi gs) (lg:gs.length≤400) (hc:p.Checks=ZjH cs) (lc:cs.length≤400) :
  Zbq N p=some (Zmj p gs cs):=by
 unfold Zbq Zmj;rw [Zjl (by omega),Zaa,Zit,Zaa];cases ZiC p
 ·rfl
 cases Zgq p.Genesis
 ·rfl
 rw [if_neg (by simp),if_neg (by simp)];have p2:loopN (Zbq.p2 N p) N (0,0)=some (Zmd 0 (cs.map (·.Height))):=by
  refine Zcd (fun m (x:Int×Int)=>∃(i:Nat) (last:Int),i+m=cs.length∧x=(last,(i:Int))∧Zmd 0 (cs.map (·.Height))=Zmd last ((cs.drop i).map (·.Height))) ?_ N cs.length _ ⟨0,0,by omega,rfl,rfl⟩ (by omega);rintro G m _ ⟨i,last,hi,rfl,hI⟩ hG;unfold Zbq.p2;dsimp only;have e:len (ZjH cs)=(cs.length:Int):=by simp [len]
  rw [hc,e];by_cases hlt:i<cs.length
  ·rw [yU hlt,xA] at hI;simp only [Zmd] at hI;rw [if_pos (by simp<;>omega),Zah (by omega),zG,Zji hlt,Zau,ZeR,ZaI (by omega) (by omega)];by_cases h1:cs[i].Height≤last
   ·rw [if_pos (by simpa using h1),hI,show decide (last<cs[i].Height)=false by simp;omega];rfl
   rw [if_neg (by simpa using h1)];exact hG (m-1) _ (by omega) ⟨i+1,_,by omega,rfl,by rw [hI,show decide (last<cs[i].Height)=true by simp;omega];rfl⟩
  rw [if_neg (by simp<;>omega),hI,xY (by omega)];rfl
 refine Zcd (fun m (x:Int×Int)=>∃(i:Nat) (last:Int),i+m=gs.length∧x=(last,(i:Int))∧Zmd (-1) (gs.map (·.Height))=Zmd last ((gs.drop i).map (·.Height))) ?_ N gs.length _ ⟨0,-1,by omega,rfl,rfl⟩ (by omega);rintro G m _ ⟨i,last,hi,rfl,hI⟩ hG;unfold Zbq.p1;dsimp only;have e:len (Zmi gs)=(gs.length:Int):=by simp [len]
 rw [hg,e];by_cases hlt:i<gs.length
 ·rw [yU hlt,xA] at hI;simp only [Zmd] at hI;rw [if_pos (by simp<;>omega),Zah (by omega),zG,Zjh hlt,Zau,Zfj,ZaI (by omega) (by omega)];by_cases h1:gs[i].Height≤last
  ·rw [if_pos (by simpa using h1),hI,show decide (last<gs[i].Height)=false by simp;omega];rfl
  rw [if_neg (by simpa using h1)];exact hG (m-1) _ (by omega) ⟨i+1,_,by omega,rfl,by rw [hI,show decide (last<gs[i].Height)=true by simp;omega];rfl⟩
 rw [if_neg (by simp<;>omega),hI,xY (by omega),p2];rfl
theorem ZoB (hN:500≤N) {p:Zae} {gs:List ZcI} {cs:List Zcj} (hg:p.Gates=Zmi gs) (lg:gs.length≤400) (hc:p.Checks=ZjH cs) (lc:cs.length≤400) :
  ZbX N p=some (Zmj p gs cs):=by
 unfold ZbX Zmj;rw [Zkr (by omega),Zaa,ZeW,Zaa];cases ZiC p
 ·rfl
 cases Zgq p.Genesis
 ·rfl
 rw [if_neg (by simp),if_neg (by simp)];have p2:loopN (ZbX.p2 N p) N 0=some (Zmd 0 (cs.map (·.Height))):=by
  refine Zcd (fun m (x:Int)=>∃(i:Nat) (last:Int),i+m=cs.length∧x=(i:Int)∧0≤last∧(i=0→last=0)∧(∀h:0<i∧i-1<cs.length,last=cs[i-1].Height)∧Zmd 0 (cs.map (·.Height))=Zmd last ((cs.drop i).map (·.Height))) ?_ N cs.length _ ⟨0,0,by omega,rfl,by omega,fun _=>rfl,fun h=>by omega,rfl⟩ (by omega);rintro G m _ ⟨i,last,hi,rfl,h0,hz,hp,hI⟩ hG;unfold ZbX.p2;have e:len (ZjH cs)=(cs.length:Int):=by simp [len]
  rw [hc,e];by_cases hlt:i<cs.length
  ·rw [yU hlt,xA] at hI;simp only [Zmd] at hI;have nx:last<cs[i].Height→G ((i:Int)+1)=some (true&&true&&true&&Zmd 0 (cs.map (·.Height))):=fun k=>
    hG (m-1) _ (by omega) ⟨i+1,cs[i].Height,by omega,by omega,by omega,by omega,fun _=>rfl,by rw [hI,show decide (last<cs[i].Height)=true by simp;omega];rfl⟩
   have bad : ¬ last<cs[i].Height→Zmd 0 (cs.map (·.Height))=false:=fun k=>by rw [hI,show decide (last<cs[i].Height)=false by simp;omega];rfl
   rw [if_pos (by simp<;>omega),Zah (by omega),zG,Zji hlt,Zau,ZeR,ZaI (n:=(i:Int)+1) (by omega) (by omega)];by_cases h1:cs[i].Height<1
   ·rw [if_pos (by simpa using h1),bad (by omega)]
   rw [if_neg (by simpa using h1)];by_cases hi0:i=0
   ·have:=hz hi0;rw [if_neg (by simp [hi0])];exact nx (by omega)
   have:=hp ⟨by omega,by omega⟩;rw [if_pos (by simp<;>omega),show (i:Int)-1=((i-1:Nat):Int) by omega,ZaI (n:=((i-1:Nat):Int)) (by omega) (by omega),Zah (by omega),Zah (by omega),zG,Zji (show i-1<cs.length by omega),Zau,ZeR,←this];by_cases h2:cs[i].Height≤last
   ·rw [if_pos (by simpa using h2),bad (by omega)]
   rw [if_neg (by simpa using h2)];exact nx (by omega)
  rw [if_neg (by simp<;>omega),hI,xY (by omega)];rfl
 refine Zcd (fun m (x:Int)=>∃(i:Nat) (last:Int),i+m=gs.length∧x=(i:Int)∧-1≤last∧(i=0→last = -1)∧(∀h:0<i∧i-1<gs.length,last=gs[i-1].Height)∧Zmd (-1) (gs.map (·.Height))=Zmd last ((gs.drop i).map (·.Height))) ?_ N gs.length _ ⟨0,-1,by omega,rfl,by omega,fun _=>rfl,fun h=>by omega,rfl⟩ (by omega);rintro G m _ ⟨i,last,hi,rfl,h0,hz,hp,hI⟩ hG;unfold ZbX.p1;have e:len (Zmi gs)=(gs.length:Int):=by simp [len]
 rw [hg,e];by_cases hlt:i<gs.length
 ·rw [yU hlt,xA] at hI;simp only [Zmd] at hI;have nx:last<gs[i].Height→0≤gs[i].Height→G ((i:Int)+1)=some (true&&true&&Zmd (-1) (gs.map (·.Height))&&Zmd 0 (cs.map (·.Height))):=fun k k2=>
   hG (m-1) _ (by omega) ⟨i+1,gs[i].Height,by omega,by omega,by omega,by omega,fun _=>rfl,by rw [hI,show decide (last<gs[i].Height)=true by simp;omega];rfl⟩
  have bad : ¬ last<gs[i].Height→Zmd (-1) (gs.map (·.Height))=false:=fun k=>by rw [hI,show decide (last<gs[i].Height)=false by simp;omega];rfl
  rw [if_pos (by simp<;>omega),Zah (by omega),zG,Zjh hlt,Zau,Zfj,ZaI (n:=(i:Int)+1) (by omega) (by omega)];by_cases h1:gs[i].Height<0
  ·rw [if_pos (by simpa using h1),bad (by omega)];rfl
  rw [if_neg (by simpa using h1)];by_cases hi0:i=0
  ·have:=hz hi0;rw [if_neg (by simp [hi0])];exact nx (by omega) (by omega)
  have:=hp ⟨by omega,by omega⟩;rw [if_pos (by simp<;>omega),show (i:Int)-1=((i-1:Nat):Int) by omega,ZaI (n:=((i-1:Nat):Int)) (by omega) (by omega),Zah (by omega),Zah (by omega),zG,Zjh (show i-1<gs.length by omega),Zau,Zfj,←this];by_cases h2:gs[i].Height≤last
  ·rw [if_pos (by simpa using h2),bad (by omega)];rfl
  rw [if_neg (by simpa using h2)];exact nx (by omega) (by omega)
 rw [if_neg (by simp<;>omega),hI,xY (by omega),p2];rfl
end Go.Dn.F
