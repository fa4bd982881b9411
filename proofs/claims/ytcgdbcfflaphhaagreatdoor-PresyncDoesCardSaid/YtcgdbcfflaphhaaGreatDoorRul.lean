/- Whether a header may stand behind a spot, as a plain function. -/
import Derived.Test.YtcgdbcfflaphhaaGreatDoorNum
open Bool renaming eq_iff_iff→xJ
open Int renaming toNat_natCast→zJ,tmod→zR
open List renaming take_succ_eq_append_getElem→yH,foldl_append→uC,take_of_length_le→zX,drop_eq_getElem_cons→yN,drop_of_length_le→xY,length_append→zL,length_take→yT,length_map→vF,map_cons→xA
set_option linter.unusedSimpArgs false
set_option linter.unusedVariables false
set_option maxRecDepth 40000
namespace Go.Dn.F
open Go.Dn Go.Proofs
variable {N:Nat}
theorem Znu (h:Zaa):(hid h).length=32∧bys (hid h):=by
 obtain ⟨b,e,l⟩:=hid_by h
 rw [e]
 refine ⟨by simpa using l,fun x hx=>?_⟩
 obtain ⟨y,_,rfl⟩:=List.mem_map.1 hx
 exact ⟨ZnI y,ZnJ y⟩
def itself (p:Zak) (h:Zaa):Int:=
 if hgood h=false then 1 else if (tgt h.Bits p.Limit).2=false then 4 else if hv (hid h)≤(tgt h.Bits p.Limit).1 then 0 else 4
theorem ZiH (hN:500≤N) (p:Zak) {h:Zaa} (hw:wfH h=true):Zdw N p h=some (itself p h):=by
 unfold Zdw itself
 rw [Zeq,Zad,Zem (by omega),Zad]
 dsimp only
 have hb:=Znu h
 rw [ZeC hN hw,Zad,ZhI (by omega) hb.1 hb.2 (Zhc _ _),Zad]
 cases hgood h
 ·rfl
 ·cases (tgt h.Bits p.Limit).2
  ·rfl
  ·by_cases k:hv (hid h)≤(tgt h.Bits p.Limit).1<;>simp [k]
def verOf (height:Int) (gs:List Zck):Int:=gs.foldl (fun l g=>if height≥g.Height∧g.Version>l then g.Version else l) (-2147483648)
noncomputable def rowG (l:List Zck):LL:=l.map Zck.ls
noncomputable def rowC (l:List ZbO):LL:=l.map ZbO.ls
theorem ZgD {l:List Zck} {i:Nat} (h:i<l.length):(rowG l)[i]? = some l[i].ls:=by simp [rowG,h]
theorem ZgE {l:List ZbO} {i:Nat} (h:i<l.length):(rowC l)[i]? = some l[i].ls:=by simp [rowC,h]
@[simp] theorem Zlh (l:List Zck):(rowG l).length=l.length:=by simp [rowG]
@[simp] theorem Zli (l:List ZbO):(rowC l).length=l.length:=by simp [rowC]
theorem open_G {xs:LL} (h : ∀x∈xs,LTys [.int .i64,.int .i64] x) : ∃l:List Zck,xs=rowG l:=
 let ⟨l,h,_⟩:=decode (e:=Zck.ls) (good:=fun _=>True) fun x hx=>by
  obtain ⟨_,_,rfl,h1,h⟩:=(h x hx).cons_inv
  obtain ⟨_,_,rfl,h2,h⟩:=h.cons_inv
  cases h.nil_inv
  obtain ⟨a,rfl,_⟩:=h1.int_inv
  obtain ⟨b,rfl,_⟩:=h2.int_inv
  exact ⟨⟨a,b⟩,rfl,trivial⟩
 ⟨l,h⟩
theorem open_K {xs:LL} (h : ∀x∈xs,LTys [.int .i64,.arr .u8 32] x) : ∃l:List ZbO,xs=rowC l:=
 let ⟨l,h,_⟩:=decode (e:=ZbO.ls) (good:=fun _=>True) fun x hx=>by
  obtain ⟨_,_,rfl,h1,h⟩:=(h x hx).cons_inv
  obtain ⟨_,_,rfl,h2,h⟩:=h.cons_inv
  cases h.nil_inv
  obtain ⟨a,rfl,_⟩:=h1.int_inv
  obtain ⟨b,rfl,_⟩:=h2.arr_inv
  exact ⟨⟨a,b⟩,rfl,trivial⟩
 ⟨l,h⟩
theorem Zic (height:Int) (gs:List Zck) (hg:gs.length<N) (hb:gs.length<1000000):ZaW N height (rowG gs)=some (verOf height gs):=by
 unfold ZaW
 refine Zcd (fun m (x:Int×Int)=>∃i:Nat,i+m=gs.length∧x=(verOf height (gs.take i),(i:Int))) ?_ N gs.length _ ⟨0,by omega,rfl⟩ hg
 rintro G m _ ⟨i,hi,rfl⟩ hG
 unfold ZaW.p1 ZaW.p2
 dsimp only
 by_cases hlt:i<gs.length
 ·rw [if_pos (by simp [len];omega),Zah (by omega),zJ,ZgD hlt,ZaC,Zei,ZaE (by omega) (by omega)]
  have st:verOf height (gs.take (i+1))=if height≥gs[i].Height∧gs[i].Version>verOf height (gs.take i) then gs[i].Version else verOf height (gs.take i):=by
   unfold verOf
   rw [yH hlt,uC];rfl
  have hn:=hG (m-1) (verOf height (gs.take (i+1)),((i+1:Nat):Int)) (by omega) ⟨i+1,by omega,rfl⟩
  rw [st] at hn
  by_cases h1:height≥gs[i].Height
  ·rw [if_pos (by simpa using h1)]
   by_cases h2:gs[i].Version>verOf height (gs.take i)
   ·rw [if_pos ⟨h1,h2⟩] at hn
    rw [if_pos h2];exact hn
   ·rw [if_neg (fun h=>h2 h.2)] at hn
    rw [if_neg h2];exact hn
  ·rw [if_neg (by simpa using h1)]
   rw [if_neg (fun h=>h1 h.1)] at hn
   exact hn
 ·rw [if_neg (by simp [len];omega),zX (by omega)]
def tracked (height:Int) (id:List Int) (cs:List ZbO):Bool:=cs.all fun c=>!(c.Height==height)||c.Id==id
theorem Zid (height:Int) (id:List Int) (cs:List ZbO) (hg:cs.length<N) (hb:cs.length<1000000):ZbN N height id (rowC cs)=some (tracked height id cs):=by
 unfold ZbN
 refine Zcd (fun m (x:Int)=>∃i:Nat,i+m=cs.length∧x=(i:Int)∧tracked height id cs=tracked height id (cs.drop i)) ?_ N cs.length _ ⟨0,by omega,rfl,by rw [List.drop_zero]⟩ hg
 rintro G m _ ⟨i,hi,rfl,ht⟩ hG
 unfold ZbN.p1
 by_cases hlt:i<cs.length
 ·rw [yN hlt] at ht
  have e:tracked height id (cs[i]::cs.drop (i+1))=((!(cs[i].Height==height)||cs[i].Id==id)&&tracked height id (cs.drop (i+1))):=rfl
  rw [e] at ht
  rw [if_pos (by simp [len];omega),Zah (by omega),zJ,ZgE hlt,ZaC,ZdY,ZaE (by omega) (by omega)]
  by_cases h1:(cs[i].Height==height)=true
  ·rw [if_pos h1]
   by_cases h2:(cs[i].Id==id)=true
   ·rw [if_neg (by simp [h2])]
    exact hG (m-1) _ (by omega) ⟨i+1,by omega,rfl,by rw [ht];simp [h2]⟩
   ·rw [if_pos (by simpa using h2),ht];simp [h1,h2]
  ·rw [if_neg h1]
   exact hG (m-1) _ (by omega) ⟨i+1,by omega,rfl,by rw [ht];simp [h1]⟩
 ·rw [if_neg (by simp [len];omega),ht,xY (by omega)];rfl
def near (t now f:Int):Bool:=decide (0≤f∧(t≤now∨t-now≤f))
theorem ZiL {t now:Int} (f:Int) (h1:0≤t∧t≤1152921504606846976) (h2 : -1152921504606846976≤now∧now≤9223372036854775807):Zdz N t now f=some (near t now f):=by
 unfold Zdz near
 rw [ZaE (by omega) (by omega)]
 repeat' split
 all_goals (refine ZeS ⟨fun h=>?_,fun h=>?_⟩<;>simp only [decide_eq_true_eq,Bool.false_eq_true] at * <;> first | trivial | omega)
def checkS (p:Zak) (gs:List Zck) (cs:List ZbO) (s:Zat) (h:Zaa) (now:Int):Int:=
 if hgood h=false then 1
 else if h.Prev≠s.Prev then 2
 else if h.Bits≠nextB p s.Point h.Time then 3
 else if itself p h≠0 then 4
 else if ((tims s.Times).length==0||decide (h.Time>M (tims s.Times)))=false then 5
 else if near h.Time now p.Future=false then 6
 else if h.Version<verOf s.Point.Height gs then 7
 else if tracked s.Point.Height (hid h) cs=false then 8 else 0
theorem ZgC (hN:500≤N) {p:Zak} {gs:List Zck} {cs:List ZbO} (hg:p.Gates=rowG gs) (hc:p.Checks=rowC cs) (lg:gs.length≤400) (lc:cs.length≤400)
  {s:Zat} {h:Zaa} (hw:wfH h=true) (hs:isI s.Times=true) (now:Int) (hnow : -1152921504606846976≤now∧now≤9223372036854775807) :
  Zdq N p s h now=some (checkS p gs cs s h now):=by
 unfold Zdq checkS
 rw [Zeq,Zad]
 cases hgd:hgood h with
 | false=>rfl
 | true=>
  have tr:=(ZkL h).1 hgd
  have ht:s.Times=rowI (tims s.Times):=ZgL hs
  rw [if_neg (c:=(!true)=true) (by simp),if_neg (c:=true=false) (by simp)]
  by_cases h2:h.Prev=s.Prev
  ·rw [if_neg (by simp [h2]),if_neg (by simp [h2]),Zkz (by omega),Zad]
   by_cases h3:h.Bits=nextB p s.Point h.Time
   ·rw [if_neg (by simp [h3]),if_neg (by simp [h3]),ZiH hN p hw,Zad]
    by_cases h4:itself p h=0
    ·rw [if_neg (by simp [h4]),if_neg (by simp [h4]),show Zde N h.Time s.Times=_ from (congrArg (Zde N h.Time) ht).trans (Zlv N h.Time (tims s.Times)),Zad]
     cases h5:((tims s.Times).length==0||decide (h.Time>M (tims s.Times)))
     ·rfl
     ·rw [if_neg (by simp),if_neg (by simp),ZiL _ (by omega) hnow,Zad]
      cases h6:near h.Time now p.Future
      ·rfl
      ·rw [if_neg (by simp),if_neg (by simp),hg,Zic _ gs (by omega) (by omega),Zad]
       by_cases h7:h.Version<verOf s.Point.Height gs
       ·rw [if_pos (by simpa using h7),if_pos h7]
       ·rw [if_neg (by simpa using h7),if_neg h7,ZeC hN hw,Zad,hc,Zid _ _ cs (by omega) (by omega),Zad]
        cases tracked s.Point.Height (hid h) cs<;>rfl
    ·rw [if_pos (by simpa using h4),if_pos h4]
   ·rw [if_pos (by simpa using h3),if_pos h3]
  ·rw [if_pos (by simpa using h2),if_pos h2]
theorem Zhi (hN:300≤N) (p:Zak) (b f t:Int):ZaA N p b f t=some (retg p b f t):=by
 unfold ZaA retg
 rw [ZeT hN,Zad]
 dsimp only
 rw [ZgI hN,Zad]
 cases hg:pgood p with
 | false=>rw [if_pos (by rfl),if_neg (by simp)]
 | true=>
  rw [if_neg (by simp)]
  cases ht:(tgt b p.Limit).2 with
  | false=>rw [if_pos (by rfl),if_neg (by simp)]
  | true=>
   rw [if_neg (by simp)]
   have hn:=Zhc b p.Limit
   have hL:=Zhc p.Limit p.Limit
   have D:=Zfo hg
   have S:=Zik hg f t
   have enc : ∀{x:Int},isN x→ZaA.p3 N (nw x)=some (cEnc x):=fun h=>by
    unfold ZaA.p3
    rw [ZjA hN h,Zad]
   have p2:ZaA.p2 N p (pspan p f t) (nw (tgt b p.Limit).1)=some (if (tgt b p.Limit).1*pspan p f t/pdue p<115792089237316195423570985008687907853269984665640564039457584007913129639936∧(tgt b p.Limit).1*pspan p f t/pdue p≤(tgt p.Limit p.Limit).1
     then cEnc (if (tgt b p.Limit).1*pspan p f t/pdue p=0 then 1 else (tgt b p.Limit).1*pspan p f t/pdue p) else p.Limit):=by
    have hLt:=ZeT hN p.Limit p.Limit
    unfold ZaA.p2
    rw [ZhX hg,ZmW hN hn S (by omega),Zad]
    dsimp only
    rw [hLt,Zad]
    dsimp only
    have q0:0≤(tgt b p.Limit).1*pspan p f t/pdue p:=Int.ediv_nonneg (Int.mul_nonneg hn.1 S.1) (by omega)
    generalize (tgt b p.Limit).1*pspan p f t/pdue p=Q at *
    by_cases big:Q<115792089237316195423570985008687907853269984665640564039457584007913129639936
    ·have hQ:isN Q:=⟨q0,big⟩
     rw [if_neg (by simpa using big),Int.emod_eq_of_lt q0 big,Zet hN hL hQ,Zad]
     by_cases hl:(tgt p.Limit p.Limit).1<Q
     ·rw [if_pos (by simpa using hl),if_neg (by omega)]
     ·rw [if_neg (by simpa using hl)]
      have z:(nw Q==List.replicate 4 0)=decide (Q=0):=Option.some.inj (ZdD (N:=0) hQ)
      rw [z,if_pos (c:=Q<115792089237316195423570985008687907853269984665640564039457584007913129639936∧Q≤(tgt p.Limit p.Limit).1) ⟨big,by omega⟩]
      by_cases h0:Q=0
      ·rw [if_pos (by simpa using h0),if_pos h0,Zlq (by unfold isW;omega),enc (by unfold isN;omega)]
      ·rw [if_neg (by simpa using h0),if_neg h0,enc hQ]
    ·rw [if_pos (by simpa using big),if_neg (by omega)]
   have fin:ZaA.p2 N p (pspan p f t) (nw (tgt b p.Limit).1)=some (if pgood p=true∧(tgt b p.Limit).2=true∧(tgt b p.Limit).1*pspan p f t/pdue p<115792089237316195423570985008687907853269984665640564039457584007913129639936∧(tgt b p.Limit).1*pspan p f t/pdue p≤(tgt p.Limit p.Limit).1
     then cEnc (if (tgt b p.Limit).1*pspan p f t/pdue p=0 then 1 else (tgt b p.Limit).1*pspan p f t/pdue p) else p.Limit):=by
    rw [p2,hg,ht];simp only [true_and]
   rw [hg,ht] at fin
   refine Eq.trans ?_ fin
   have p1 : ∀y:Int,pspan p f t=(if pdue p*4<y then pdue p*4 else y)→ZaA.p1 N p y (nw (tgt b p.Limit).1)=ZaA.p2 N p (pspan p f t) (nw (tgt b p.Limit).1):=fun y hy=>by
    unfold ZaA.p1
    rw [ZhX hg,ZaE (n:=pdue p*4) (by omega) (by omega),hy]
    by_cases h:pdue p*4<y
    ·rw [if_pos (by simpa using h),if_pos h]
    ·rw [if_neg (by simpa using h),if_neg h]
   rw [ZhX hg,ZdU (by omega),ZaE (n:=pdue p/4) (by omega) (by omega)]
   by_cases h:w64 (t-f)<pdue p/4
   ·rw [if_pos (by simpa using h)]
    exact p1 _ (by unfold pspan;rw [if_pos (show pdue p/4>w64 (t-f) from h)])
   ·rw [if_neg (by simpa using h)]
    exact p1 _ (by unfold pspan;rw [if_neg (show ¬ pdue p/4>w64 (t-f) from h)])
theorem ZjG (hN:300≤N) (p:Zak) (a:ZaQ) (own:Int):Zcb N p a.Height a.Bits a.Time a.First a.Hard own=some (nextB p a own):=by
 unfold Zcb nextB
 have p1:Zcb.p1 N a.Bits a.Time a.Hard own p=some (if p.Easy=false then a.Bits else if w64 (own-a.Time)>w64 (2*p.Spacing) then p.Limit else a.Hard):=by
  unfold Zcb.p1
  cases p.Easy
  ·rfl
  ·rw [if_neg (c:=(!true)=true) (by simp),if_neg (c:=true=false) (by simp)]
   by_cases h:w64 (own-a.Time)>w64 (2*p.Spacing)
   ·rw [if_pos (by simpa using h),if_pos h]
   ·rw [if_neg (by simpa using h),if_neg h]
 by_cases h0:a.Height≤0
 ·rw [if_pos (by simpa using h0),if_pos h0]
 rw [if_neg (by simpa using h0),if_neg h0,p1,Zhi hN,Zad]
 unfold starts
 by_cases hi:p.Interval>0
 ·rw [if_pos (by simpa using hi),Zah (by omega)]
  by_cases hm:zR a.Height p.Interval=0
  ·rw [if_pos (by simpa using hm),if_pos (c:=decide (0<p.Interval∧zR a.Height p.Interval=0)=true) (by simp [hm]<;>omega)]
  ·rw [if_neg (by simpa using hm),if_neg (c:=decide (0<p.Interval∧zR a.Height p.Interval=0)=true) (by simp [hm])]
 ·rw [if_neg (by simpa using hi),if_neg (c:=decide (0<p.Interval∧zR a.Height p.Interval=0)=true) (by simp<;>omega)]
def s0 (p:Zak):Zat:=⟨⟨0,0,0,0,p.Limit⟩,List.replicate 32 0,[]⟩
def spotA (p:Zak) (l:List Zaa):Zat:=l.foldl (behind p) (s0 p)
theorem ZiT (p:Zak) (l:List Zaa) {i:Nat} (h:i<l.length):spotA p (l.take (i+1))=behind p (spotA p (l.take i)) l[i]:=by
 unfold spotA
 rw [yH h,uC];rfl
theorem ZeN (p:Zak) : ∀l:List Zaa,l.length<1000000→(spotA p l).Point.Height=l.length:=by
 refine Zjx (fun _=>rfl) (fun l h ih hl=>?_)
 unfold spotA at *
 rw [uC]
 show w64 ((List.foldl (behind p) (s0 p) l).Point.Height+1)=_
 rw [zL,List.length_singleton] at *
 rw [ih (by omega),ZaE (by omega) (by omega)]
 omega
theorem Zhd (p:Zak) (l:List Zaa) (h:0<l.length):(spotA p l).Point.Bits=(l[l.length-1]).Bits∧(spotA p l).Point.Time=(l[l.length-1]).Time∧(spotA p l).Prev=hid l[l.length-1]:=by
 have:=ZiT p l (i:=l.length-1) (by omega)
 rw [zX (by omega)] at this
 rw [this]
 exact ⟨rfl,rfl,rfl⟩
theorem Zle (p:Zak) : ∀l:List Zaa,tims (spotA p l).Times=((l.map (·.Time)).reverse).take 11:=by
 refine Zjx rfl (fun l h ih=>?_)
 unfold spotA at *
 rw [uC]
 show tims (rowI (h.Time::(tims (List.foldl (behind p) (s0 p) l).Times).take 10))=_
 rw [ZmN,ih,List.map_append,List.reverse_append,List.take_take]
 rfl
theorem ZjF (hN:850≤N) (p:Zak) (l:List Zaa) (h0:0<l.length) (hl:l.length≤800) (time:Int):ZaD N p (rowH l) time=some (nextB p (spotA p l).Point time):=by
 unfold ZaD
 have e:len (rowH l)=(l.length:Int):=by simp [len]
 obtain ⟨b1,b2,_⟩:=Zhd p l h0
 have hh:=ZeN p l (by omega)
 rw [e,if_neg (by simp only [beq_iff_eq];omega),show ((l.length:Int)-1)=((l.length-1:Nat):Int) by omega,ZaE (n:=((l.length-1:Nat):Int)) (by omega) (by omega),Zah (by omega),Zah (by omega),zJ,Zee (by omega),ZaC,ZbU]
 refine Zcd (fun m (x:Int×Int×Int)=>∃i:Nat,i+m=l.length∧x=((spotA p (l.take i)).Point.First,(spotA p (l.take i)).Point.Hard,(i:Int))) ?_ N l.length _ ⟨0,by omega,rfl⟩ (by omega)
 rintro G m _ ⟨i,hi,rfl⟩ hG
 unfold ZaD.p1
 dsimp only
 rw [e]
 by_cases hlt:i<l.length
 ·have hst:=ZiT p l hlt
  have ht:=ZeN p (l.take i) (by rw [yT];omega)
  rw [yT,Nat.min_eq_left (by omega)] at ht
  have hn:=hG (m-1) _ (by omega) ⟨i+1,by omega,rfl⟩
  rw [hst] at hn
  have p3 : ∀first:Int,first=(behind p (spotA p (l.take i)) l[i]).Point.First→ZaD.p3 N G time (rowH l) first (spotA p (l.take i)).Point.Hard (starts p (i:Int)) (i:Int) p l[l.length-1] l[i]=some (nextB p (spotA p l).Point time):=fun first hf=>by
   subst hf
   have hd:(behind p (spotA p (l.take i)) l[i]).Point.Hard=if (p.Easy&&l[i].Bits==p.Limit && !starts p (i:Int))=true then (spotA p (l.take i)).Point.Hard else l[i].Bits:=by
    show (if (p.Easy&&l[i].Bits==p.Limit && !starts p (spotA p (l.take i)).Point.Height)=true then _ else _)=_
    rw [ht]
   rw [hd] at hn
   unfold ZaD.p3 ZaD.p4
   rw [ZaE (by omega) (by omega)]
   have c:((i+1:Nat):Int)=(i:Int)+1:=by omega
   rw [c] at hn
   cases h1:p.Easy with
   | false=>rw [h1] at hn;simpa using hn
   | true=>
    rw [h1] at hn
    by_cases h2:l[i].Bits=p.Limit
    ·cases h3:starts p (i:Int) with
     | true=>rw [h3] at hn;simp [h2] at hn ⊢;exact hn
     | false=>rw [h3] at hn;simp [h2] at hn ⊢;exact hn
    ·simp [h2] at hn ⊢;exact hn
  have p2:ZaD.p2 N G time (rowH l) (spotA p (l.take i)).Point.First (spotA p (l.take i)).Point.Hard (starts p (i:Int)) (i:Int) p l[l.length-1] l[i]=some (nextB p (spotA p l).Point time):=by
   unfold ZaD.p2
   have hf:(behind p (spotA p (l.take i)) l[i]).Point.First=if starts p (i:Int)=true then l[i].Time else (spotA p (l.take i)).Point.First:=by
    show (if starts p (spotA p (l.take i)).Point.Height=true then _ else _)=_
    rw [ht]
   cases h3:starts p (i:Int) with
   | true=>rw [h3] at hf p3;rw [if_pos rfl];exact p3 _ (by rw [hf];rfl)
   | false=>rw [h3] at hf p3;rw [if_neg (by simp)];exact p3 _ (by rw [hf];rfl)
  rw [if_pos (by simp<;>omega),Zah (by omega),zJ,Zee hlt,ZaC,ZbU]
  by_cases hI:p.Interval>0
  ·have:(zR (i:Int) p.Interval==0)=starts p (i:Int):=by
    unfold starts;rw [xJ];simp [hI]
   rw [if_pos (by simpa using hI),Zah (by omega),this];exact p2
  ·have:false=starts p (i:Int):=by
    unfold starts;rw [xJ];simp;omega
   rw [if_neg (by simpa using hI),this];exact p2
 ·rw [if_neg (by simp<;>omega),zX (by omega),←b1,←b2,←hh,ZjG (by omega),Zad]
theorem ZjD (hN:600≤N) (p:Zak) {h:Zaa} (hw:wfH h=true):Zdm N p h=some ((tgt h.Bits p.Limit).2&&decide (hv (hid h)≤(tgt h.Bits p.Limit).1)):=by
 unfold Zdm
 have hb:=Znu h
 rw [ZeT (by omega),Zad]
 dsimp only
 rw [ZgG hN h hw,Zad,Zjz (by omega) hb.1 hb.2,Zad,Zet (by omega) (Zhc _ _) (hv_isN hb.1 hb.2),Zad]
 cases (tgt h.Bits p.Limit).2
 ·rfl
 ·rw [if_pos rfl]
  congr 1
  rw [xJ];simp
theorem ZjH (zs:List Int) (hN:zs.length+2≤N) (hz:zs.length≤1000):Zcc N (rowI zs)=some (rowI (zs.reverse.take 11)):=by
 unfold Zcc
 rw [ZeB,ZaE (by omega) (by omega)]
 refine Zcd (fun m (x:LL×Int)=>∃i:Nat,i+m=zs.length∧i≤11∧x=(rowI (zs.reverse.take i),(zs.length:Int)-1-(i:Int))) ?_ N zs.length _ ⟨0,by omega,by omega,by simp;rfl⟩ (by omega)
 rintro G m _ ⟨i,hi,h11,rfl⟩ hG
 unfold Zcc.p1
 dsimp only
 by_cases hlt:i<zs.length
 ·rw [if_pos (by simp<;>omega)]
  have ll:(zs.reverse.take i).length=i:=by rw [yT,List.length_reverse];omega
  by_cases h:i<11
  ·have hr:zs.length-1-i<zs.length:=by omega
   have t:zs.reverse.take (i+1)=zs.reverse.take i ++ [zs[zs.length-1-i]]:=by
    rw [yH (by simp;omega),List.getElem_reverse]
   rw [if_pos (by rw [ZeB,ll];simp<;>omega),ZeB,Zah (by omega),Zah (by omega),show Int.toNat ((zs.length:Int)-1-(i:Int))=zs.length-1-i by omega,ZlM hr,ZaC,ZdO,ZlL,Zig,Zah (by rw [Zdx,zL,ll];simp<;>omega),←t,ZaE (by omega) (by omega)]
   exact hG (m-1) _ (by omega) ⟨i+1,by omega,by omega,by congr 1;omega⟩
  ·have:i=11:=by omega
   subst this
   rw [if_neg (by rw [ZeB,ll];simp)]
 ·rw [if_neg (by simp<;>omega),zX (by simp;omega),zX (by simp;omega)]
theorem ZlC (height:Int) (gs:List Zck) (v:Int) (hv : -2147483648≤v):v<verOf height gs↔∃g∈gs,g.Height≤height∧v<g.Version:=by
 revert gs
 refine Zjx ?_ (fun gs g ih=>?_)
 ·simp [verOf];omega
 ·have e:verOf height (gs ++ [g])=if height≥g.Height∧g.Version>verOf height gs then g.Version else verOf height gs:=by unfold verOf;rw [uC];rfl
  rw [e]
  constructor
  ·intro h
   split at h
   ·rename_i hc;exact ⟨g,by simp,hc.1,h⟩
   ·obtain ⟨g',h1,h2⟩:=ih.1 h
    exact ⟨g',by simp [h1],h2⟩
  ·rintro ⟨g',h1,h2,h3⟩
   rcases List.mem_append.1 h1 with h1 | h1
   ·have:=ih.2 ⟨g',h1,h2,h3⟩
    split<;>omega
   ·cases List.mem_singleton.1 h1
    split
    ·exact h3
    ·rename_i hc
     omega
theorem ref11_p6 (hN:600≤N) (l:List Zaa) (hl:l.length≤800) {p:Zak} {cs:List ZbO} (hc:p.Checks=rowC cs) (lc:cs.length≤400) {h:Zaa} (hw:wfH h=true) :
  loopN (Zaq.p6 N (rowH l) p h) N 0=some (if tracked (l.length:Int) (hid h) cs=false then 8 else 0):=by
 refine Zcd (fun m (x:Int)=>∃i:Nat,i+m=cs.length∧x=(i:Int)∧tracked (l.length:Int) (hid h) cs=tracked (l.length:Int) (hid h) (cs.drop i)) ?_ N cs.length _ ⟨0,by omega,rfl,by rw [List.drop_zero]⟩ (by omega)
 rintro G m _ ⟨i,hi,rfl,ht⟩ hG
 unfold Zaq.p6
 have e:len (rowH l)=(l.length:Int):=by simp [len]
 rw [hc,e]
 by_cases hlt:i<cs.length
 ·rw [yN hlt] at ht
  have e:tracked (l.length:Int) (hid h) (cs[i]::cs.drop (i+1))=((!(cs[i].Height==(l.length:Int))||cs[i].Id==hid h)&&tracked (l.length:Int) (hid h) (cs.drop (i+1))):=rfl
  rw [e] at ht
  rw [if_pos (by simp [len]<;>omega),Zah (by omega),zJ,ZgE hlt,ZaC,ZdY,ZaE (by omega) (by omega)]
  by_cases h1:(cs[i].Height==(l.length:Int))=true
  ·rw [if_pos h1,ZgG hN h hw,Zad]
   by_cases h2:(cs[i].Id==hid h)=true
   ·rw [if_neg (by simp [h2])]
    exact hG (m-1) _ (by omega) ⟨i+1,by omega,rfl,by rw [ht];simp [h2]⟩
   ·rw [if_pos (by simpa using h2),ht];simp [h1,h2]
  ·rw [if_neg h1]
   exact hG (m-1) _ (by omega) ⟨i+1,by omega,rfl,by rw [ht];simp [h1]⟩
 ·rw [if_neg (by simp [len]<;>omega),ht,xY (by omega)];rfl
theorem ref11_p5 (hN:600≤N) (l:List Zaa) (hl:l.length≤800) {p:Zak} {gs:List Zck} {cs:List ZbO} (hg:p.Gates=rowG gs) (lg:gs.length≤400) (hc:p.Checks=rowC cs) (lc:cs.length≤400) {h:Zaa} (hw:wfH h=true) (hv : -2147483648≤h.Version) :
  Zaq.p4 N (rowH l) p h=some (if h.Version<verOf (l.length:Int) gs then 7 else if tracked (l.length:Int) (hid h) cs=false then 8 else 0):=by
 unfold Zaq.p4
 refine Zcd (fun m (x:Int)=>∃i:Nat,i+m=gs.length∧x=(i:Int)∧∀g∈gs.take i,¬ (g.Height≤(l.length:Int)∧h.Version<g.Version)) ?_ N gs.length _ ⟨0,by omega,rfl,fun g hg=>by simp at hg⟩ (by omega)
 rintro G m _ ⟨i,hi,rfl,ht⟩ hG
 unfold Zaq.p5
 have e:len (rowH l)=(l.length:Int):=by simp [len]
 rw [hg,e]
 by_cases hlt:i<gs.length
 ·have next : ¬ (gs[i].Height≤(l.length:Int)∧h.Version<gs[i].Version)→∀g∈gs.take (i+1),¬ (g.Height≤(l.length:Int)∧h.Version<g.Version):=fun hn g hgm=>by
   rw [yH hlt] at hgm
   rcases List.mem_append.1 hgm with k | k
   ·exact ht g k
   ·cases List.mem_singleton.1 k;exact hn
  rw [if_pos (by simp [len]<;>omega),Zah (by omega),zJ,ZgD hlt,ZaC,Zei,ZaE (by omega) (by omega)]
  by_cases h1:gs[i].Height≤(l.length:Int)
  ·rw [if_pos (by simpa using h1)]
   by_cases h2:h.Version<gs[i].Version
   ·rw [if_pos (by simpa using h2),if_pos ((ZlC _ gs _ hv).2 ⟨gs[i],List.getElem_mem hlt,h1,h2⟩)]
   ·rw [if_neg (by simpa using h2)]
    exact hG (m-1) _ (by omega) ⟨i+1,by omega,rfl,next fun k=>h2 k.2⟩
  ·rw [if_neg (by simpa using h1)]
   exact hG (m-1) _ (by omega) ⟨i+1,by omega,rfl,next fun k=>h1 k.1⟩
 ·rw [if_neg (by simp [len]<;>omega),ref11_p6 hN l hl hc lc hw,if_neg (c:=h.Version<verOf (l.length:Int) gs)]
  intro k
  obtain ⟨g,h1,h2⟩:=(ZlC _ gs _ hv).1 k
  rw [zX (by omega)] at ht
  exact ht g h1 h2
theorem ZiK (hN:900≤N) {p:Zak} {gs:List Zck} {cs:List ZbO} (hg:p.Gates=rowG gs) (lg:gs.length≤400) (hc:p.Checks=rowC cs) (lc:cs.length≤400)
  (l:List Zaa) (h0:0<l.length) (hl:l.length≤800) (hw2 : ∀x∈l,wfH x=true) {h:Zaa} (hw:wfH h=true) (now:Int) (hnow:0≤now∧now≤9223372036854775807) :
  Zaq N p (rowH l) h now=some (checkS p gs cs (spotA p l) h now):=by
 unfold Zaq
 have e:len (rowH l)=(l.length:Int):=by simp [len]
 obtain ⟨b1,b2,b3⟩:=Zhd p l h0
 have hh:=ZeN p l (by omega)
 rw [Zgb,Zad]
 unfold checkS
 cases hgd:hgood h with
 | false=>rfl
 | true=>
  have tr:=(ZkL h).1 hgd
  rw [if_neg (c:=(!true)=true) (by simp),if_neg (c:=true=false) (by simp),e,if_pos (by simp only [decide_eq_true_eq,gt_iff_lt];omega),show ((l.length:Int)-1)=((l.length-1:Nat):Int) by omega,ZaE (n:=((l.length-1:Nat):Int)) (by omega) (by omega),Zah (by omega),Zah (by omega),zJ,Zee (by omega),ZaC,ZbU,ZgG (by omega) _ (hw2 _ (List.getElem_mem _)),Zad,←b3]
  by_cases h2:h.Prev=(spotA p l).Prev
  ·rw [if_neg (c:=(!(h.Prev==(spotA p l).Prev))=true) (by simp [h2]),if_neg (c:=h.Prev≠(spotA p l).Prev) (by simp [h2])]
   unfold Zaq.p1
   rw [ZjF (by omega) p l h0 hl,Zad]
   by_cases h3:h.Bits=nextB p (spotA p l).Point h.Time
   ·rw [if_neg (c:=(h.Bits != nextB p (spotA p l).Point h.Time)=true) (by simpa using h3),if_neg (c:=h.Bits≠nextB p (spotA p l).Point h.Time) (by simpa using h3),ZjD (by omega) p hw,Zad]
    have it:itself p h=if ((tgt h.Bits p.Limit).2&&decide (hv (hid h)≤(tgt h.Bits p.Limit).1))=true then 0 else 4:=by
     unfold itself
     rw [hgd,if_neg (c:=true=false) (by simp)]
     cases (tgt h.Bits p.Limit).2
     ·rfl
     ·by_cases k:hv (hid h)≤(tgt h.Bits p.Limit).1<;>simp [k]
    cases h4:((tgt h.Bits p.Limit).2&&decide (hv (hid h)≤(tgt h.Bits p.Limit).1)) with
    | false=>
     rw [h4] at it
     rw [if_pos (by rfl),if_pos (c:=itself p h≠0) (by rw [it];decide)]
    | true=>
     rw [h4] at it
     rw [if_neg (c:=(!true)=true) (by simp),if_neg (c:=itself p h≠0) (by rw [it];decide)]
     have tm:=Zle p l
     have tl:0<((l.map (·.Time)).reverse.take 11).length:=by rw [yT,List.length_reverse,vF];omega
     refine Zcd (fun m (x:LL×Int)=>∃i:Nat,i+m=l.length∧x=(rowI ((l.take i).map (·.Time)),(i:Int))) ?_ N l.length _ ⟨0,by omega,rfl⟩ (by omega)
     rintro G m _ ⟨i,hi,rfl⟩ hG
     unfold Zaq.p2
     dsimp only
     rw [e]
     by_cases hlt:i<l.length
     ·rw [if_pos (by simp<;>omega),Zah (by omega),zJ,Zee hlt,ZaC,ZbU,ZlL,Zig,Zah (by rw [Zdx,zL,vF,yT];simp<;>omega),ZaE (by omega) (by omega)]
      refine hG (m-1) _ (by omega) ⟨i+1,by omega,?_⟩
      rw [yH hlt,List.map_append];rfl
     ·rw [if_neg (by simp<;>omega),zX (by omega),if_pos (by simp only [decide_eq_true_eq,gt_iff_lt];omega),ZjH _ (by rw [vF];omega) (by rw [vF];omega),Zad,Zah (ZiW _),Zjh N (by omega),Zad,←tm]
      rw [←tm] at tl
      by_cases h5:h.Time≤M (tims (spotA p l).Times)
      ·rw [if_pos (by simpa using h5),if_pos (c:=((tims (spotA p l).Times).length==0||decide (h.Time>M (tims (spotA p l).Times)))=false) (by
        simp only [Bool.or_eq_false_iff,beq_eq_false_iff_ne,decide_eq_false_iff_not];omega)]
      ·rw [if_neg (by simpa using h5),if_neg (c:=((tims (spotA p l).Times).length==0||decide (h.Time>M (tims (spotA p l).Times)))=false) (by
        simp only [Bool.or_eq_false_iff,beq_eq_false_iff_ne,decide_eq_false_iff_not];omega)]
       unfold Zaq.p3
       rw [ref11_p5 (by omega) l hl hg lg hc lc hw tr.1,hh]
       have nr:near h.Time now p.Future=decide (0≤p.Future∧(h.Time≤now∨h.Time-now≤p.Future)):=rfl
       by_cases f:p.Future<0
       ·rw [if_pos (by simpa using f),if_pos (c:=near h.Time now p.Future=false) (by rw [nr];simp only [decide_eq_false_iff_not];omega)]
       ·rw [if_neg (by simpa using f)]
        by_cases g:h.Time>now
        ·rw [if_pos (by simpa using g),ZaE (by omega) (by omega)]
         by_cases k:h.Time-now>p.Future
         ·rw [if_pos (by simpa using k),if_pos (c:=near h.Time now p.Future=false) (by rw [nr];simp only [decide_eq_false_iff_not];omega)]
         ·rw [if_neg (by simpa using k),if_neg (c:=near h.Time now p.Future=false) (by rw [nr];simp only [decide_eq_false_iff_not];omega)]
        ·rw [if_neg (by simpa using g),if_neg (c:=near h.Time now p.Future=false) (by rw [nr];simp only [decide_eq_false_iff_not];omega)]
   ·rw [if_pos (by simpa using h3),if_pos h3]
  ·rw [if_pos (by simpa using h2),if_pos h2]
def incr (last:Int):List Int→Bool
 | []=>true
 | x::l=>decide (last<x)&&incr x l
def rgood (p:Zak) (gs:List Zck) (cs:List ZbO):Bool:=pgood p&&hgood p.Genesis&&incr (-1) (gs.map (·.Height))&&incr 0 (cs.map (·.Height))
theorem ZjE (hN:500≤N) {p:Zak} {gs:List Zck} {cs:List ZbO} (hg:p.Gates=rowG gs) (lg:gs.length≤400) (hc:p.Checks=rowC cs) (lc:cs.length≤400) :
  Zbl N p=some (rgood p gs cs):=by
 unfold Zbl rgood
 rw [ZgI (by omega),Zad,Zgb,Zad]
 cases pgood p
 ·rfl
 cases hgood p.Genesis
 ·rfl
 rw [if_neg (by simp),if_neg (by simp)]
 have p2:loopN (Zbl.p2 N p) N (0,0)=some (incr 0 (cs.map (·.Height))):=by
  refine Zcd (fun m (x:Int×Int)=>∃(i:Nat) (last:Int),i+m=cs.length∧x=(last,(i:Int))∧incr 0 (cs.map (·.Height))=incr last ((cs.drop i).map (·.Height))) ?_ N cs.length _ ⟨0,0,by omega,rfl,rfl⟩ (by omega)
  rintro G m _ ⟨i,last,hi,rfl,hI⟩ hG
  unfold Zbl.p2
  dsimp only
  have e:len (rowC cs)=(cs.length:Int):=by simp [len]
  rw [hc,e]
  by_cases hlt:i<cs.length
  ·rw [yN hlt,xA] at hI
   simp only [incr] at hI
   rw [if_pos (by simp<;>omega),Zah (by omega),zJ,ZgE hlt,ZaC,ZdY,ZaE (by omega) (by omega)]
   by_cases h1:cs[i].Height≤last
   ·rw [if_pos (by simpa using h1),hI,show decide (last<cs[i].Height)=false by simp;omega];rfl
   ·rw [if_neg (by simpa using h1)]
    exact hG (m-1) _ (by omega) ⟨i+1,_,by omega,rfl,by rw [hI,show decide (last<cs[i].Height)=true by simp;omega];rfl⟩
  ·rw [if_neg (by simp<;>omega),hI,xY (by omega)];rfl
 refine Zcd (fun m (x:Int×Int)=>∃(i:Nat) (last:Int),i+m=gs.length∧x=(last,(i:Int))∧incr (-1) (gs.map (·.Height))=incr last ((gs.drop i).map (·.Height))) ?_ N gs.length _ ⟨0,-1,by omega,rfl,rfl⟩ (by omega)
 rintro G m _ ⟨i,last,hi,rfl,hI⟩ hG
 unfold Zbl.p1
 dsimp only
 have e:len (rowG gs)=(gs.length:Int):=by simp [len]
 rw [hg,e]
 by_cases hlt:i<gs.length
 ·rw [yN hlt,xA] at hI
  simp only [incr] at hI
  rw [if_pos (by simp<;>omega),Zah (by omega),zJ,ZgD hlt,ZaC,Zei,ZaE (by omega) (by omega)]
  by_cases h1:gs[i].Height≤last
  ·rw [if_pos (by simpa using h1),hI,show decide (last<gs[i].Height)=false by simp;omega];rfl
  ·rw [if_neg (by simpa using h1)]
   exact hG (m-1) _ (by omega) ⟨i+1,_,by omega,rfl,by rw [hI,show decide (last<gs[i].Height)=true by simp;omega];rfl⟩
 ·rw [if_neg (by simp<;>omega),hI,xY (by omega),p2];rfl
theorem Zkk (hN:500≤N) {p:Zak} {gs:List Zck} {cs:List ZbO} (hg:p.Gates=rowG gs) (lg:gs.length≤400) (hc:p.Checks=rowC cs) (lc:cs.length≤400) :
  ZbG N p=some (rgood p gs cs):=by
 unfold ZbG rgood
 rw [ZhB (by omega),Zad,Zeq,Zad]
 cases pgood p
 ·rfl
 cases hgood p.Genesis
 ·rfl
 rw [if_neg (by simp),if_neg (by simp)]
 have p2:loopN (ZbG.p2 N p) N 0=some (incr 0 (cs.map (·.Height))):=by
  refine Zcd (fun m (x:Int)=>∃(i:Nat) (last:Int),i+m=cs.length∧x=(i:Int)∧0≤last∧(i=0→last=0)∧(∀h:0<i∧i-1<cs.length,last=cs[i-1].Height)∧incr 0 (cs.map (·.Height))=incr last ((cs.drop i).map (·.Height))) ?_ N cs.length _ ⟨0,0,by omega,rfl,by omega,fun _=>rfl,fun h=>by omega,rfl⟩ (by omega)
  rintro G m _ ⟨i,last,hi,rfl,h0,hz,hp,hI⟩ hG
  unfold ZbG.p2
  have e:len (rowC cs)=(cs.length:Int):=by simp [len]
  rw [hc,e]
  by_cases hlt:i<cs.length
  ·rw [yN hlt,xA] at hI
   simp only [incr] at hI
   have nx:last<cs[i].Height→G ((i:Int)+1)=some (true&&true&&true&&incr 0 (cs.map (·.Height))):=fun k=>
    hG (m-1) _ (by omega) ⟨i+1,cs[i].Height,by omega,by omega,by omega,by omega,fun _=>rfl,by rw [hI,show decide (last<cs[i].Height)=true by simp;omega];rfl⟩
   have bad : ¬ last<cs[i].Height→incr 0 (cs.map (·.Height))=false:=fun k=>by rw [hI,show decide (last<cs[i].Height)=false by simp;omega];rfl
   rw [if_pos (by simp<;>omega),Zah (by omega),zJ,ZgE hlt,ZaC,ZdY,ZaE (n:=(i:Int)+1) (by omega) (by omega)]
   by_cases h1:cs[i].Height<1
   ·rw [if_pos (by simpa using h1),bad (by omega)]
   ·rw [if_neg (by simpa using h1)]
    by_cases hi0:i=0
    ·have:=hz hi0
     rw [if_neg (by simp [hi0])]
     exact nx (by omega)
    ·have:=hp ⟨by omega,by omega⟩
     rw [if_pos (by simp<;>omega),show (i:Int)-1=((i-1:Nat):Int) by omega,ZaE (n:=((i-1:Nat):Int)) (by omega) (by omega),Zah (by omega),Zah (by omega),zJ,ZgE (show i-1<cs.length by omega),ZaC,ZdY,←this]
     by_cases h2:cs[i].Height≤last
     ·rw [if_pos (by simpa using h2),bad (by omega)]
     ·rw [if_neg (by simpa using h2)];exact nx (by omega)
  ·rw [if_neg (by simp<;>omega),hI,xY (by omega)];rfl
 refine Zcd (fun m (x:Int)=>∃(i:Nat) (last:Int),i+m=gs.length∧x=(i:Int)∧-1≤last∧(i=0→last = -1)∧(∀h:0<i∧i-1<gs.length,last=gs[i-1].Height)∧incr (-1) (gs.map (·.Height))=incr last ((gs.drop i).map (·.Height))) ?_ N gs.length _ ⟨0,-1,by omega,rfl,by omega,fun _=>rfl,fun h=>by omega,rfl⟩ (by omega)
 rintro G m _ ⟨i,last,hi,rfl,h0,hz,hp,hI⟩ hG
 unfold ZbG.p1
 have e:len (rowG gs)=(gs.length:Int):=by simp [len]
 rw [hg,e]
 by_cases hlt:i<gs.length
 ·rw [yN hlt,xA] at hI
  simp only [incr] at hI
  have nx:last<gs[i].Height→0≤gs[i].Height→G ((i:Int)+1)=some (true&&true&&incr (-1) (gs.map (·.Height))&&incr 0 (cs.map (·.Height))):=fun k k2=>
   hG (m-1) _ (by omega) ⟨i+1,gs[i].Height,by omega,by omega,by omega,by omega,fun _=>rfl,by rw [hI,show decide (last<gs[i].Height)=true by simp;omega];rfl⟩
  have bad : ¬ last<gs[i].Height→incr (-1) (gs.map (·.Height))=false:=fun k=>by rw [hI,show decide (last<gs[i].Height)=false by simp;omega];rfl
  rw [if_pos (by simp<;>omega),Zah (by omega),zJ,ZgD hlt,ZaC,Zei,ZaE (n:=(i:Int)+1) (by omega) (by omega)]
  by_cases h1:gs[i].Height<0
  ·rw [if_pos (by simpa using h1),bad (by omega)];rfl
  ·rw [if_neg (by simpa using h1)]
   by_cases hi0:i=0
   ·have:=hz hi0
    rw [if_neg (by simp [hi0])]
    exact nx (by omega) (by omega)
   ·have:=hp ⟨by omega,by omega⟩
    rw [if_pos (by simp<;>omega),show (i:Int)-1=((i-1:Nat):Int) by omega,ZaE (n:=((i-1:Nat):Int)) (by omega) (by omega),Zah (by omega),Zah (by omega),zJ,ZgD (show i-1<gs.length by omega),ZaC,Zei,←this]
    by_cases h2:gs[i].Height≤last
    ·rw [if_pos (by simpa using h2),bad (by omega)];rfl
    ·rw [if_neg (by simpa using h2)];exact nx (by omega) (by omega)
 ·rw [if_neg (by simp<;>omega),hI,xY (by omega),p2];rfl
end Go.Dn.F
