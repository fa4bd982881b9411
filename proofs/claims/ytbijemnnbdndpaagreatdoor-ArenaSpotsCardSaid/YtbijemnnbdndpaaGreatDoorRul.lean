import Derived.Test.YtbijemnnbdndpaaGreatDoorNum
set_option linter.all false
open Bool renaming eq_iff_iff→xI
open Int renaming toNat_natCast→zJ,tmod→zT
open List renaming take_succ_eq_append_getElem→yH,foldl_append→wW,take_of_length_le→zY,drop_eq_getElem_cons→yR,drop_of_length_le→xQ,length_append→zR,length_take→xW,length_map→xM,map_cons→yO
set_option maxRecDepth 40000
namespace Go.Dn.F
open Go.Dn Go.Proofs
variable {N:Nat}
theorem Zqv (h:Zaj):(hid h).length=32∧bys (hid h):=by
 obtain ⟨b,e,l⟩:=hid_by h
 rw [e]
 refine ⟨by simpa using l,fun x hx=>?_⟩
 obtain ⟨y,_,rfl⟩:=List.mem_map.1 hx
 exact ⟨ZqL y,ZqM y⟩
def ZiM (p:Zae) (h:Zaj):Int:=
 if Zfq h=false then 1 else if (tgt h.Bits p.Limit).2=false then 4 else if hv (hid h)≤(tgt h.Bits p.Limit).1 then 0 else 4
theorem Zkp (hN:500≤N) (p:Zae) {h:Zaj} (hw:wfH h=true):Zdo N p h=some (ZiM p h):=by
 unfold Zdo ZiM
 rw [ZdQ,Zad,Zef (by omega),Zad]
 dsimp only
 have hb:=Zqv h
 rw [Zfd hN hw,Zad,Zja (by omega) hb.1 hb.2 (Zij _ _),Zad]
 cases Zfq h
 ·rfl
 ·cases (tgt h.Bits p.Limit).2
  ·rfl
  ·by_cases k:hv (hid h)≤(tgt h.Bits p.Limit).1<;>simp [k]
def Zgo (height:Int) (gs:List ZbR):Int:=gs.foldl (fun l g=>if height≥g.Height∧g.Version>l then g.Version else l) (-2147483648)
noncomputable def Zkq (l:List ZbR):LL:=l.map ZbR.ls
noncomputable def ZiH (l:List ZbH):LL:=l.map ZbH.ls
theorem ZfX {l:List ZbR} {i:Nat} (h:i<l.length):(Zkq l)[i]? = some l[i].ls:=by simp [Zkq,h]
theorem ZhG {l:List ZbH} {i:Nat} (h:i<l.length):(ZiH l)[i]? = some l[i].ls:=by simp [ZiH,h]
@[simp] theorem ZeJ (l:List ZbR):(Zkq l).length=l.length:=by simp [Zkq]
@[simp] theorem Zhq (l:List ZbH):(ZiH l).length=l.length:=by simp [ZiH]
theorem open_G {xs:LL} (h : ∀x∈xs,Zgg [.int .i64,.int .i64] x) : ∃l:List ZbR,xs=Zkq l:=
 let ⟨l,h,_⟩:=ZoF (e:=ZbR.ls) (good:=fun _=>True) fun x hx=>by
  obtain ⟨_,_,rfl,h1,h⟩:=(h x hx).cons_inv
  obtain ⟨_,_,rfl,h2,h⟩:=h.cons_inv
  cases h.nil_inv
  obtain ⟨a,rfl,_⟩:=h1.int_inv
  obtain ⟨b,rfl,_⟩:=h2.int_inv
  exact ⟨⟨a,b⟩,rfl,trivial⟩
 ⟨l,h⟩
theorem open_K {xs:LL} (h : ∀x∈xs,Zgg [.int .i64,.arr .u8 32] x) : ∃l:List ZbH,xs=ZiH l:=
 let ⟨l,h,_⟩:=ZoF (e:=ZbH.ls) (good:=fun _=>True) fun x hx=>by
  obtain ⟨_,_,rfl,h1,h⟩:=(h x hx).cons_inv
  obtain ⟨_,_,rfl,h2,h⟩:=h.cons_inv
  cases h.nil_inv
  obtain ⟨a,rfl,_⟩:=h1.int_inv
  obtain ⟨b,rfl,_⟩:=h2.arr_inv
  exact ⟨⟨a,b⟩,rfl,trivial⟩
 ⟨l,h⟩
theorem ZjA (height:Int) (gs:List ZbR) (hg:gs.length<N) (hb:gs.length<1000000):ZaR N height (Zkq gs)=some (Zgo height gs):=by
 unfold ZaR
 refine Zbz (fun m (x:Int×Int)=>∃i:Nat,i+m=gs.length∧x=(Zgo height (gs.take i),(i:Int))) ?_ N gs.length _ ⟨0,by omega,rfl⟩ hg
 rintro G m _ ⟨i,hi,rfl⟩ hG
 unfold ZaR.p1 ZaR.p2
 dsimp only
 by_cases hlt:i<gs.length
 ·rw [if_pos (by simp [len];omega),Zai (by omega),zJ,ZfX hlt,ZaJ,ZcV,ZaA (by omega) (by omega)]
  have st:Zgo height (gs.take (i+1))=if height≥gs[i].Height∧gs[i].Version>Zgo height (gs.take i) then gs[i].Version else Zgo height (gs.take i):=by
   unfold Zgo
   rw [yH hlt,wW];rfl
  have hn:=hG (m-1) (Zgo height (gs.take (i+1)),((i+1:Nat):Int)) (by omega) ⟨i+1,by omega,rfl⟩
  rw [st] at hn
  by_cases h1:height≥gs[i].Height
  ·rw [if_pos (by simpa using h1)]
   by_cases h2:gs[i].Version>Zgo height (gs.take i)
   ·rw [if_pos ⟨h1,h2⟩] at hn
    rw [if_pos h2];exact hn
   ·rw [if_neg (fun h=>h2 h.2)] at hn
    rw [if_neg h2];exact hn
  ·rw [if_neg (by simpa using h1)]
   rw [if_neg (fun h=>h1 h.1)] at hn
   exact hn
 ·rw [if_neg (by simp [len];omega),zY (by omega)]
def ZeH (height:Int) (id:List Int) (cs:List ZbH):Bool:=cs.all fun c=>!(c.Height==height)||c.Id==id
theorem ZjB (height:Int) (id:List Int) (cs:List ZbH) (hg:cs.length<N) (hb:cs.length<1000000):ZbA N height id (ZiH cs)=some (ZeH height id cs):=by
 unfold ZbA
 refine Zbz (fun m (x:Int)=>∃i:Nat,i+m=cs.length∧x=(i:Int)∧ZeH height id cs=ZeH height id (cs.drop i)) ?_ N cs.length _ ⟨0,by omega,rfl,by rw [List.drop_zero]⟩ hg
 rintro G m _ ⟨i,hi,rfl,ht⟩ hG
 unfold ZbA.p1
 by_cases hlt:i<cs.length
 ·rw [yR hlt] at ht
  have e:ZeH height id (cs[i]::cs.drop (i+1))=((!(cs[i].Height==height)||cs[i].Id==id)&&ZeH height id (cs.drop (i+1))):=rfl
  rw [e] at ht
  rw [if_pos (by simp [len];omega),Zai (by omega),zJ,ZhG hlt,ZaJ,ZdN,ZaA (by omega) (by omega)]
  by_cases h1:(cs[i].Height==height)=true
  ·rw [if_pos h1]
   by_cases h2:(cs[i].Id==id)=true
   ·rw [if_neg (by simp [h2])]
    exact hG (m-1) _ (by omega) ⟨i+1,by omega,rfl,by rw [ht];simp [h2]⟩
   ·rw [if_pos (by simpa using h2),ht];simp [h1,h2]
  ·rw [if_neg h1]
   exact hG (m-1) _ (by omega) ⟨i+1,by omega,rfl,by rw [ht];simp [h1]⟩
 ·rw [if_neg (by simp [len];omega),ht,xQ (by omega)];rfl
def near (t now f:Int):Bool:=decide (0≤f∧(t≤now∨t-now≤f))
theorem Zkt {t now:Int} (f:Int) (h1:0≤t∧t≤1152921504606846976) (h2 : -1152921504606846976≤now∧now≤9223372036854775807):Zdp N t now f=some (near t now f):=by
 unfold Zdp near
 rw [ZaA (by omega) (by omega)]
 repeat' split
 all_goals (refine ZeZ ⟨fun h=>?_,fun h=>?_⟩<;>simp only [decide_eq_true_eq,Bool.false_eq_true] at * <;> first | trivial | omega)
def Zes (p:Zae) (gs:List ZbR) (cs:List ZbH) (s:Zaz) (h:Zaj) (now:Int):Int:=
 if Zfq h=false then 1
 else if h.Prev≠s.Prev then 2
 else if h.Bits≠ZiY p s.Point h.Time then 3
 else if ZiM p h≠0 then 4
 else if ((Zkk s.Times).length==0||decide (h.Time>M (Zkk s.Times)))=false then 5
 else if near h.Time now p.Future=false then 6
 else if h.Version<Zgo s.Point.Height gs then 7
 else if ZeH s.Point.Height (hid h) cs=false then 8 else 0
theorem Zlm (hN:500≤N) {p:Zae} {gs:List ZbR} {cs:List ZbH} (hg:p.Gates=Zkq gs) (hc:p.Checks=ZiH cs) (lg:gs.length≤400) (lc:cs.length≤400)
  {s:Zaz} {h:Zaj} (hw:wfH h=true) (hs:isI s.Times=true) (now:Int) (hnow : -1152921504606846976≤now∧now≤9223372036854775807) :
  ZdC N p s h now=some (Zes p gs cs s h now):=by
 unfold ZdC Zes
 rw [ZdQ,Zad]
 cases hgd:Zfq h with
 | false=>rfl
 | true=>
  have tr:=(ZmV h).1 hgd
  have ht:s.Times=ZdD (Zkk s.Times):=Zjj hs
  rw [if_neg (c:=(!true)=true) (by simp),if_neg (c:=true=false) (by simp)]
  by_cases h2:h.Prev=s.Prev
  ·rw [if_neg (by simp [h2]),if_neg (by simp [h2]),ZmG (by omega),Zad]
   by_cases h3:h.Bits=ZiY p s.Point h.Time
   ·rw [if_neg (by simp [h3]),if_neg (by simp [h3]),Zkp hN p hw,Zad]
    by_cases h4:ZiM p h=0
    ·rw [if_neg (by simp [h4]),if_neg (by simp [h4]),show ZcR N h.Time s.Times=_ from (congrArg (ZcR N h.Time) ht).trans (ZnM N h.Time (Zkk s.Times)),Zad]
     cases h5:((Zkk s.Times).length==0||decide (h.Time>M (Zkk s.Times)))
     ·rfl
     ·rw [if_neg (by simp),if_neg (by simp),Zkt _ (by omega) hnow,Zad]
      cases h6:near h.Time now p.Future
      ·rfl
      ·rw [if_neg (by simp),if_neg (by simp),hg,ZjA _ gs (by omega) (by omega),Zad]
       by_cases h7:h.Version<Zgo s.Point.Height gs
       ·rw [if_pos (by simpa using h7),if_pos h7]
       ·rw [if_neg (by simpa using h7),if_neg h7,Zfd hN hw,Zad,hc,ZjB _ _ cs (by omega) (by omega),Zad]
        cases ZeH s.Point.Height (hid h) cs<;>rfl
    ·rw [if_pos (by simpa using h4),if_pos h4]
   ·rw [if_pos (by simpa using h3),if_pos h3]
  ·rw [if_pos (by simpa using h2),if_pos h2]
theorem Zin (hN:300≤N) (p:Zae) (b f t:Int):Zav N p b f t=some (retg p b f t):=by
 unfold Zav retg
 rw [Zfc hN,Zad]
 dsimp only
 rw [ZhJ hN,Zad]
 cases hg:Zhg p with
 | false=>rw [if_pos (by rfl),if_neg (by simp)]
 | true=>
  rw [if_neg (by simp)]
  cases ht:(tgt b p.Limit).2 with
  | false=>rw [if_pos (by rfl),if_neg (by simp)]
  | true=>
   rw [if_neg (by simp)]
   have hn:=Zij b p.Limit
   have hL:=Zij p.Limit p.Limit
   have D:=ZfO hg
   have S:=ZjI hg f t
   have enc : ∀{x:Int},isN x→Zav.p3 N (nw x)=some (Zpz x):=fun h=>by
    unfold Zav.p3
    rw [Zlr hN h,Zad]
   have p2:Zav.p2 N p (ZeF p f t) (nw (tgt b p.Limit).1)=some (if (tgt b p.Limit).1*ZeF p f t/Zga p<2^256∧(tgt b p.Limit).1*ZeF p f t/Zga p≤(tgt p.Limit p.Limit).1
     then Zpz (if (tgt b p.Limit).1*ZeF p f t/Zga p=0 then 1 else (tgt b p.Limit).1*ZeF p f t/Zga p) else p.Limit):=by
    have hLt:=Zfc hN p.Limit p.Limit
    unfold Zav.p2
    rw [Zjq hg,ZpT hN hn S (by omega),Zad]
    dsimp only
    rw [hLt,Zad]
    dsimp only
    have q0:0≤(tgt b p.Limit).1*ZeF p f t/Zga p:=Int.ediv_nonneg (Int.mul_nonneg hn.1 S.1) (by omega)
    generalize (tgt b p.Limit).1*ZeF p f t/Zga p=Q at *
    by_cases big:Q<2^256
    ·have hQ:isN Q:=⟨q0,big⟩
     rw [if_neg (by simpa using big),Int.emod_eq_of_lt q0 big,ZeK hN hL hQ,Zad]
     by_cases hl:(tgt p.Limit p.Limit).1<Q
     ·rw [if_pos (by simpa using hl),if_neg (by omega)]
     ·rw [if_neg (by simpa using hl)]
      have z:(nw Q==List.replicate 4 0)=decide (Q=0):=Option.some.inj (Zdw (N:=0) hQ)
      rw [z,if_pos (c:=Q<2^256∧Q≤(tgt p.Limit p.Limit).1) ⟨big,by omega⟩]
      by_cases h0:Q=0
      ·rw [if_pos (by simpa using h0),if_pos h0,ZnI (by unfold isW;omega),enc (by unfold isN;omega)]
      ·rw [if_neg (by simpa using h0),if_neg h0,enc hQ]
    ·rw [if_pos (by simpa using big),if_neg (by omega)]
   have fin:Zav.p2 N p (ZeF p f t) (nw (tgt b p.Limit).1)=some (if Zhg p=true∧(tgt b p.Limit).2=true∧(tgt b p.Limit).1*ZeF p f t/Zga p<2^256∧(tgt b p.Limit).1*ZeF p f t/Zga p≤(tgt p.Limit p.Limit).1
     then Zpz (if (tgt b p.Limit).1*ZeF p f t/Zga p=0 then 1 else (tgt b p.Limit).1*ZeF p f t/Zga p) else p.Limit):=by
    rw [p2,hg,ht];simp only [true_and]
   rw [hg,ht] at fin
   refine Eq.trans ?_ fin
   have p1 : ∀y:Int,ZeF p f t=(if Zga p*4<y then Zga p*4 else y)→Zav.p1 N p y (nw (tgt b p.Limit).1)=Zav.p2 N p (ZeF p f t) (nw (tgt b p.Limit).1):=fun y hy=>by
    unfold Zav.p1
    rw [Zjq hg,ZaA (n:=Zga p*4) (by omega) (by omega),hy]
    by_cases h:Zga p*4<y
    ·rw [if_pos (by simpa using h),if_pos h]
    ·rw [if_neg (by simpa using h),if_neg h]
   rw [Zjq hg,ZdM (by omega),ZaA (n:=Zga p/4) (by omega) (by omega)]
   by_cases h:w64 (t-f)<Zga p/4
   ·rw [if_pos (by simpa using h)]
    exact p1 _ (by unfold ZeF;rw [if_pos (show Zga p/4>w64 (t-f) from h)])
   ·rw [if_neg (by simpa using h)]
    exact p1 _ (by unfold ZeF;rw [if_neg (show ¬ Zga p/4>w64 (t-f) from h)])
theorem Zlv (hN:300≤N) (p:Zae) (a:ZcN) (own:Int):ZbO N p a.Height a.Bits a.Time a.First a.Hard own=some (ZiY p a own):=by
 unfold ZbO ZiY
 have p1:ZbO.p1 N a.Bits a.Time a.Hard own p=some (if p.Easy=false then a.Bits else if w64 (own-a.Time)>w64 (2*p.Spacing) then p.Limit else a.Hard):=by
  unfold ZbO.p1
  cases p.Easy
  ·rfl
  ·rw [if_neg (c:=(!true)=true) (by simp),if_neg (c:=true=false) (by simp)]
   by_cases h:w64 (own-a.Time)>w64 (2*p.Spacing)
   ·rw [if_pos (by simpa using h),if_pos h]
   ·rw [if_neg (by simpa using h),if_neg h]
 by_cases h0:a.Height≤0
 ·rw [if_pos (by simpa using h0),if_pos h0]
 rw [if_neg (by simpa using h0),if_neg h0,p1,Zin hN,Zad]
 unfold Zei
 by_cases hi:p.Interval>0
 ·rw [if_pos (by simpa using hi),Zai (by omega)]
  by_cases hm:zT a.Height p.Interval=0
  ·rw [if_pos (by simpa using hm),if_pos (c:=decide (0<p.Interval∧zT a.Height p.Interval=0)=true) (by simp [hm]<;>omega)]
  ·rw [if_neg (by simpa using hm),if_neg (c:=decide (0<p.Interval∧zT a.Height p.Interval=0)=true) (by simp [hm])]
 ·rw [if_neg (by simpa using hi),if_neg (c:=decide (0<p.Interval∧zT a.Height p.Interval=0)=true) (by simp<;>omega)]
def s0 (p:Zae):Zaz:=⟨⟨0,0,0,0,p.Limit⟩,List.replicate 32 0,[]⟩
def Zcl (p:Zae) (l:List Zaj):Zaz:=l.foldl (ZeD p) (s0 p)
theorem Zik (p:Zae) (l:List Zaj) {i:Nat} (h:i<l.length):Zcl p (l.take (i+1))=ZeD p (Zcl p (l.take i)) l[i]:=by
 unfold Zcl
 rw [yH h,wW];rfl
theorem Zgt (p:Zae) : ∀l:List Zaj,l.length<1000000→(Zcl p l).Point.Height=l.length:=by
 refine ZjF (fun _=>rfl) (fun l h ih hl=>?_)
 unfold Zcl at *
 rw [wW]
 show w64 ((List.foldl (ZeD p) (s0 p) l).Point.Height+1)=_
 rw [zR,List.length_singleton] at *
 rw [ih (by omega),ZaA (by omega) (by omega)]
 omega
theorem ZkF (p:Zae) (l:List Zaj) (h:0<l.length):(Zcl p l).Point.Bits=(l[l.length-1]).Bits∧(Zcl p l).Point.Time=(l[l.length-1]).Time∧(Zcl p l).Prev=hid l[l.length-1]:=by
 have:=Zik p l (i:=l.length-1) (by omega)
 rw [zY (by omega)] at this
 rw [this]
 exact ⟨rfl,rfl,rfl⟩
theorem Znu (p:Zae) : ∀l:List Zaj,Zkk (Zcl p l).Times=((l.map (·.Time)).reverse).take 11:=by
 refine ZjF rfl (fun l h ih=>?_)
 unfold Zcl at *
 rw [wW]
 show Zkk (ZdD (h.Time::(Zkk (List.foldl (ZeD p) (s0 p) l).Times).take 10))=_
 rw [ZpG,ih,List.map_append,List.reverse_append,List.take_take]
 rfl
theorem Zlu (hN:850≤N) (p:Zae) (l:List Zaj) (h0:0<l.length) (hl:l.length≤800) (time:Int):Zax N p (ZhA l) time=some (ZiY p (Zcl p l).Point time):=by
 unfold Zax
 have e:len (ZhA l)=(l.length:Int):=by simp [len]
 obtain ⟨b1,b2,_⟩:=ZkF p l h0
 have hh:=Zgt p l (by omega)
 rw [e,if_neg (by simp only [beq_iff_eq];omega),show ((l.length:Int)-1)=((l.length-1:Nat):Int) by omega,ZaA (n:=((l.length-1:Nat):Int)) (by omega) (by omega),Zai (by omega),Zai (by omega),zJ,ZgU (by omega),ZaJ,Zdj]
 refine Zbz (fun m (x:Int×Int×Int)=>∃i:Nat,i+m=l.length∧x=((Zcl p (l.take i)).Point.First,(Zcl p (l.take i)).Point.Hard,(i:Int))) ?_ N l.length _ ⟨0,by omega,rfl⟩ (by omega)
 rintro G m _ ⟨i,hi,rfl⟩ hG
 unfold Zax.p1
 dsimp only
 rw [e]
 by_cases hlt:i<l.length
 ·have hst:=Zik p l hlt
  have ht:=Zgt p (l.take i) (by rw [xW];omega)
  rw [xW,Nat.min_eq_left (by omega)] at ht
  have hn:=hG (m-1) _ (by omega) ⟨i+1,by omega,rfl⟩
  rw [hst] at hn
  have p3 : ∀first:Int,first=(ZeD p (Zcl p (l.take i)) l[i]).Point.First→Zax.p3 N G time (ZhA l) first (Zcl p (l.take i)).Point.Hard (Zei p (i:Int)) (i:Int) p l[l.length-1] l[i]=some (ZiY p (Zcl p l).Point time):=fun first hf=>by
   subst hf
   have hd:(ZeD p (Zcl p (l.take i)) l[i]).Point.Hard=if (p.Easy&&l[i].Bits==p.Limit && !Zei p (i:Int))=true then (Zcl p (l.take i)).Point.Hard else l[i].Bits:=by
    show (if (p.Easy&&l[i].Bits==p.Limit && !Zei p (Zcl p (l.take i)).Point.Height)=true then _ else _)=_
    rw [ht]
   rw [hd] at hn
   unfold Zax.p3 Zax.p4
   rw [ZaA (by omega) (by omega)]
   have c:((i+1:Nat):Int)=(i:Int)+1:=by omega
   rw [c] at hn
   cases h1:p.Easy with
   | false=>rw [h1] at hn;simpa using hn
   | true=>
    rw [h1] at hn
    by_cases h2:l[i].Bits=p.Limit
    ·cases h3:Zei p (i:Int) with
     | true=>rw [h3] at hn;simp [h2] at hn ⊢;exact hn
     | false=>rw [h3] at hn;simp [h2] at hn ⊢;exact hn
    ·simp [h2] at hn ⊢;exact hn
  have p2:Zax.p2 N G time (ZhA l) (Zcl p (l.take i)).Point.First (Zcl p (l.take i)).Point.Hard (Zei p (i:Int)) (i:Int) p l[l.length-1] l[i]=some (ZiY p (Zcl p l).Point time):=by
   unfold Zax.p2
   have hf:(ZeD p (Zcl p (l.take i)) l[i]).Point.First=if Zei p (i:Int)=true then l[i].Time else (Zcl p (l.take i)).Point.First:=by
    show (if Zei p (Zcl p (l.take i)).Point.Height=true then _ else _)=_
    rw [ht]
   cases h3:Zei p (i:Int) with
   | true=>rw [h3] at hf p3;rw [if_pos rfl];exact p3 _ (by rw [hf];rfl)
   | false=>rw [h3] at hf p3;rw [if_neg (by simp)];exact p3 _ (by rw [hf];rfl)
  rw [if_pos (by simp<;>omega),Zai (by omega),zJ,ZgU hlt,ZaJ,Zdj]
  by_cases hI:p.Interval>0
  ·have:(zT (i:Int) p.Interval==0)=Zei p (i:Int):=by
    unfold Zei;rw [xI];simp [hI]
   rw [if_pos (by simpa using hI),Zai (by omega),this];exact p2
  ·have:false=Zei p (i:Int):=by
    unfold Zei;rw [xI];simp;omega
   rw [if_neg (by simpa using hI),this];exact p2
 ·rw [if_neg (by simp<;>omega),zY (by omega),←b1,←b2,←hh,Zlv (by omega),Zad]
theorem Zls (hN:600≤N) (p:Zae) {h:Zaj} (hw:wfH h=true):Zdd N p h=some ((tgt h.Bits p.Limit).2&&decide (hv (hid h)≤(tgt h.Bits p.Limit).1)):=by
 unfold Zdd
 have hb:=Zqv h
 rw [Zfc (by omega),Zad]
 dsimp only
 rw [ZgW hN h hw,Zad,Zlq (by omega) hb.1 hb.2,Zad,ZeK (by omega) (Zij _ _) (hv_isN hb.1 hb.2),Zad]
 cases (tgt h.Bits p.Limit).2
 ·rfl
 ·rw [if_pos rfl]
  congr 1
  rw [xI];simp
theorem Zlw (zs:List Int) (hN:zs.length+2≤N) (hz:zs.length≤1000):ZbP N (ZdD zs)=some (ZdD (zs.reverse.take 11)):=by
 unfold ZbP
 rw [Zen,ZaA (by omega) (by omega)]
 refine Zbz (fun m (x:LL×Int)=>∃i:Nat,i+m=zs.length∧i≤11∧x=(ZdD (zs.reverse.take i),(zs.length:Int)-1-(i:Int))) ?_ N zs.length _ ⟨0,by omega,by omega,by simp;rfl⟩ (by omega)
 rintro G m _ ⟨i,hi,h11,rfl⟩ hG
 unfold ZbP.p1
 dsimp only
 by_cases hlt:i<zs.length
 ·rw [if_pos (by simp<;>omega)]
  have ll:(zs.reverse.take i).length=i:=by rw [xW,List.length_reverse];omega
  by_cases h:i<11
  ·have hr:zs.length-1-i<zs.length:=by omega
   have t:zs.reverse.take (i+1)=zs.reverse.take i ++ [zs[zs.length-1-i]]:=by
    rw [yH (by simp;omega),List.getElem_reverse]
   rw [if_pos (by rw [Zen,ll];simp<;>omega),Zen,Zai (by omega),Zai (by omega),show Int.toNat ((zs.length:Int)-1-(i:Int))=zs.length-1-i by omega,Zjc hr,ZaJ,ZcZ,Zol,ZjD,Zai (by rw [Zdc,zR,ll];simp<;>omega),←t,ZaA (by omega) (by omega)]
   exact hG (m-1) _ (by omega) ⟨i+1,by omega,by omega,by congr 1;omega⟩
  ·have:i=11:=by omega
   subst this
   rw [if_neg (by rw [Zen,ll];simp)]
 ·rw [if_neg (by simp<;>omega),zY (by simp;omega),zY (by simp;omega)]
theorem Zoc (height:Int) (gs:List ZbR) (v:Int) (hv : -2147483648≤v):v<Zgo height gs↔∃g∈gs,g.Height≤height∧v<g.Version:=by
 revert gs
 refine ZjF ?_ (fun gs g ih=>?_)
 ·simp [Zgo];omega
 ·have e:Zgo height (gs ++ [g])=if height≥g.Height∧g.Version>Zgo height gs then g.Version else Zgo height gs:=by unfold Zgo;rw [wW];rfl
  rw [e]
  constructor
  ·intro h
   split at h
   ·rename_i hc;exact ⟨g,by simp,hc.1,h⟩
   ·obtain ⟨g',h1,h2⟩:=ih.1 h
    exact ⟨g',by simp [h1],h2⟩
  ·rintro ⟨g',h1,h2,h3⟩
   rcases List.mem_append.1 h1 with h1 | h1
   ·have:=ih.2 ⟨g',h1,h2,h3⟩
    split<;>omega
   ·cases List.mem_singleton.1 h1
    split
    ·exact h3
    ·rename_i hc
     omega
theorem ref11_p6 (hN:600≤N) (l:List Zaj) (hl:l.length≤800) {p:Zae} {cs:List ZbH} (hc:p.Checks=ZiH cs) (lc:cs.length≤400) {h:Zaj} (hw:wfH h=true) :
  loopN (Zap.p6 N (ZhA l) p h) N 0=some (if ZeH (l.length:Int) (hid h) cs=false then 8 else 0):=by
 refine Zbz (fun m (x:Int)=>∃i:Nat,i+m=cs.length∧x=(i:Int)∧ZeH (l.length:Int) (hid h) cs=ZeH (l.length:Int) (hid h) (cs.drop i)) ?_ N cs.length _ ⟨0,by omega,rfl,by rw [List.drop_zero]⟩ (by omega)
 rintro G m _ ⟨i,hi,rfl,ht⟩ hG
 unfold Zap.p6
 have e:len (ZhA l)=(l.length:Int):=by simp [len]
 rw [hc,e]
 by_cases hlt:i<cs.length
 ·rw [yR hlt] at ht
  have e:ZeH (l.length:Int) (hid h) (cs[i]::cs.drop (i+1))=((!(cs[i].Height==(l.length:Int))||cs[i].Id==hid h)&&ZeH (l.length:Int) (hid h) (cs.drop (i+1))):=rfl
  rw [e] at ht
  rw [if_pos (by simp [len]<;>omega),Zai (by omega),zJ,ZhG hlt,ZaJ,ZdN,ZaA (by omega) (by omega)]
  by_cases h1:(cs[i].Height==(l.length:Int))=true
  ·rw [if_pos h1,ZgW hN h hw,Zad]
   by_cases h2:(cs[i].Id==hid h)=true
   ·rw [if_neg (by simp [h2])]
    exact hG (m-1) _ (by omega) ⟨i+1,by omega,rfl,by rw [ht];simp [h2]⟩
   ·rw [if_pos (by simpa using h2),ht];simp [h1,h2]
  ·rw [if_neg h1]
   exact hG (m-1) _ (by omega) ⟨i+1,by omega,rfl,by rw [ht];simp [h1]⟩
 ·rw [if_neg (by simp [len]<;>omega),ht,xQ (by omega)];rfl
theorem ref11_p5 (hN:600≤N) (l:List Zaj) (hl:l.length≤800) {p:Zae} {gs:List ZbR} {cs:List ZbH} (hg:p.Gates=Zkq gs) (lg:gs.length≤400) (hc:p.Checks=ZiH cs) (lc:cs.length≤400) {h:Zaj} (hw:wfH h=true) (hv : -2147483648≤h.Version) :
  Zap.p4 N (ZhA l) p h=some (if h.Version<Zgo (l.length:Int) gs then 7 else if ZeH (l.length:Int) (hid h) cs=false then 8 else 0):=by
 unfold Zap.p4
 refine Zbz (fun m (x:Int)=>∃i:Nat,i+m=gs.length∧x=(i:Int)∧∀g∈gs.take i,¬ (g.Height≤(l.length:Int)∧h.Version<g.Version)) ?_ N gs.length _ ⟨0,by omega,rfl,fun g hg=>by simp at hg⟩ (by omega)
 rintro G m _ ⟨i,hi,rfl,ht⟩ hG
 unfold Zap.p5
 have e:len (ZhA l)=(l.length:Int):=by simp [len]
 rw [hg,e]
 by_cases hlt:i<gs.length
 ·have next : ¬ (gs[i].Height≤(l.length:Int)∧h.Version<gs[i].Version)→∀g∈gs.take (i+1),¬ (g.Height≤(l.length:Int)∧h.Version<g.Version):=fun hn g hgm=>by
   rw [yH hlt] at hgm
   rcases List.mem_append.1 hgm with k | k
   ·exact ht g k
   ·cases List.mem_singleton.1 k;exact hn
  rw [if_pos (by simp [len]<;>omega),Zai (by omega),zJ,ZfX hlt,ZaJ,ZcV,ZaA (by omega) (by omega)]
  by_cases h1:gs[i].Height≤(l.length:Int)
  ·rw [if_pos (by simpa using h1)]
   by_cases h2:h.Version<gs[i].Version
   ·rw [if_pos (by simpa using h2),if_pos ((Zoc _ gs _ hv).2 ⟨gs[i],List.getElem_mem hlt,h1,h2⟩)]
   ·rw [if_neg (by simpa using h2)]
    exact hG (m-1) _ (by omega) ⟨i+1,by omega,rfl,next fun k=>h2 k.2⟩
  ·rw [if_neg (by simpa using h1)]
   exact hG (m-1) _ (by omega) ⟨i+1,by omega,rfl,next fun k=>h1 k.1⟩
 ·rw [if_neg (by simp [len]<;>omega),ref11_p6 hN l hl hc lc hw,if_neg (c:=h.Version<Zgo (l.length:Int) gs)]
  intro k
  obtain ⟨g,h1,h2⟩:=(Zoc _ gs _ hv).1 k
  rw [zY (by omega)] at ht
  exact ht g h1 h2
theorem Zks (hN:900≤N) {p:Zae} {gs:List ZbR} {cs:List ZbH} (hg:p.Gates=Zkq gs) (lg:gs.length≤400) (hc:p.Checks=ZiH cs) (lc:cs.length≤400)
  (l:List Zaj) (h0:0<l.length) (hl:l.length≤800) (hw2 : ∀x∈l,wfH x=true) {h:Zaj} (hw:wfH h=true) (now:Int) (hnow:0≤now∧now≤9223372036854775807) :
  Zap N p (ZhA l) h now=some (Zes p gs cs (Zcl p l) h now):=by
 unfold Zap
 have e:len (ZhA l)=(l.length:Int):=by simp [len]
 obtain ⟨b1,b2,b3⟩:=ZkF p l h0
 have hh:=Zgt p l (by omega)
 rw [ZgX,Zad]
 unfold Zes
 cases hgd:Zfq h with
 | false=>rfl
 | true=>
  have tr:=(ZmV h).1 hgd
  rw [if_neg (c:=(!true)=true) (by simp),if_neg (c:=true=false) (by simp),e,if_pos (by simp only [decide_eq_true_eq,gt_iff_lt];omega),show ((l.length:Int)-1)=((l.length-1:Nat):Int) by omega,ZaA (n:=((l.length-1:Nat):Int)) (by omega) (by omega),Zai (by omega),Zai (by omega),zJ,ZgU (by omega),ZaJ,Zdj,ZgW (by omega) _ (hw2 _ (List.getElem_mem _)),Zad,←b3]
  by_cases h2:h.Prev=(Zcl p l).Prev
  ·rw [if_neg (c:=(!(h.Prev==(Zcl p l).Prev))=true) (by simp [h2]),if_neg (c:=h.Prev≠(Zcl p l).Prev) (by simp [h2])]
   unfold Zap.p1
   rw [Zlu (by omega) p l h0 hl,Zad]
   by_cases h3:h.Bits=ZiY p (Zcl p l).Point h.Time
   ·rw [if_neg (c:=(h.Bits != ZiY p (Zcl p l).Point h.Time)=true) (by simpa using h3),if_neg (c:=h.Bits≠ZiY p (Zcl p l).Point h.Time) (by simpa using h3),Zls (by omega) p hw,Zad]
    have it:ZiM p h=if ((tgt h.Bits p.Limit).2&&decide (hv (hid h)≤(tgt h.Bits p.Limit).1))=true then 0 else 4:=by
     unfold ZiM
     rw [hgd,if_neg (c:=true=false) (by simp)]
     cases (tgt h.Bits p.Limit).2
     ·rfl
     ·by_cases k:hv (hid h)≤(tgt h.Bits p.Limit).1<;>simp [k]
    cases h4:((tgt h.Bits p.Limit).2&&decide (hv (hid h)≤(tgt h.Bits p.Limit).1)) with
    | false=>
     rw [h4] at it
     rw [if_pos (by rfl),if_pos (c:=ZiM p h≠0) (by rw [it];decide)]
    | true=>
     rw [h4] at it
     rw [if_neg (c:=(!true)=true) (by simp),if_neg (c:=ZiM p h≠0) (by rw [it];decide)]
     have tm:=Znu p l
     have tl:0<((l.map (·.Time)).reverse.take 11).length:=by rw [xW,List.length_reverse,xM];omega
     refine Zbz (fun m (x:LL×Int)=>∃i:Nat,i+m=l.length∧x=(ZdD ((l.take i).map (·.Time)),(i:Int))) ?_ N l.length _ ⟨0,by omega,rfl⟩ (by omega)
     rintro G m _ ⟨i,hi,rfl⟩ hG
     unfold Zap.p2
     dsimp only
     rw [e]
     by_cases hlt:i<l.length
     ·rw [if_pos (by simp<;>omega),Zai (by omega),zJ,ZgU hlt,ZaJ,Zdj,Zol,ZjD,Zai (by rw [Zdc,zR,xM,xW];simp<;>omega),ZaA (by omega) (by omega)]
      refine hG (m-1) _ (by omega) ⟨i+1,by omega,?_⟩
      rw [yH hlt,List.map_append];rfl
     ·rw [if_neg (by simp<;>omega),zY (by omega),if_pos (by simp only [decide_eq_true_eq,gt_iff_lt];omega),Zlw _ (by rw [xM];omega) (by rw [xM];omega),Zad,Zai (ZkI _),Zpk N (by omega),Zad,←tm]
      rw [←tm] at tl
      by_cases h5:h.Time≤M (Zkk (Zcl p l).Times)
      ·rw [if_pos (by simpa using h5),if_pos (c:=((Zkk (Zcl p l).Times).length==0||decide (h.Time>M (Zkk (Zcl p l).Times)))=false) (by
        simp only [Bool.or_eq_false_iff,beq_eq_false_iff_ne,decide_eq_false_iff_not];omega)]
      ·rw [if_neg (by simpa using h5),if_neg (c:=((Zkk (Zcl p l).Times).length==0||decide (h.Time>M (Zkk (Zcl p l).Times)))=false) (by
        simp only [Bool.or_eq_false_iff,beq_eq_false_iff_ne,decide_eq_false_iff_not];omega)]
       unfold Zap.p3
       rw [ref11_p5 (by omega) l hl hg lg hc lc hw tr.1,hh]
       have nr:near h.Time now p.Future=decide (0≤p.Future∧(h.Time≤now∨h.Time-now≤p.Future)):=rfl
       by_cases f:p.Future<0
       ·rw [if_pos (by simpa using f),if_pos (c:=near h.Time now p.Future=false) (by rw [nr];simp only [decide_eq_false_iff_not];omega)]
       ·rw [if_neg (by simpa using f)]
        by_cases g:h.Time>now
        ·rw [if_pos (by simpa using g),ZaA (by omega) (by omega)]
         by_cases k:h.Time-now>p.Future
         ·rw [if_pos (by simpa using k),if_pos (c:=near h.Time now p.Future=false) (by rw [nr];simp only [decide_eq_false_iff_not];omega)]
         ·rw [if_neg (by simpa using k),if_neg (c:=near h.Time now p.Future=false) (by rw [nr];simp only [decide_eq_false_iff_not];omega)]
        ·rw [if_neg (by simpa using g),if_neg (c:=near h.Time now p.Future=false) (by rw [nr];simp only [decide_eq_false_iff_not];omega)]
   ·rw [if_pos (by simpa using h3),if_pos h3]
  ·rw [if_pos (by simpa using h2),if_pos h2]
def Zkl (last:Int):List Int→Bool
 | []=>true
 | x::l=>decide (last<x)&&Zkl x l
def ZnA (p:Zae) (gs:List ZbR) (cs:List ZbH):Bool:=Zhg p&&Zfq p.Genesis&&Zkl (-1) (gs.map (·.Height))&&Zkl 0 (cs.map (·.Height))
theorem Zlt (hN:500≤N) {p:Zae} {gs:List ZbR} {cs:List ZbH} (hg:p.Gates=Zkq gs) (lg:gs.length≤400) (hc:p.Checks=ZiH cs) (lc:cs.length≤400) :
  ZaW N p=some (ZnA p gs cs):=by
 unfold ZaW ZnA
 rw [ZhJ (by omega),Zad,ZgX,Zad]
 cases Zhg p
 ·rfl
 cases Zfq p.Genesis
 ·rfl
 rw [if_neg (by simp),if_neg (by simp)]
 have p2:loopN (ZaW.p2 N p) N (0,0)=some (Zkl 0 (cs.map (·.Height))):=by
  refine Zbz (fun m (x:Int×Int)=>∃(i:Nat) (last:Int),i+m=cs.length∧x=(last,(i:Int))∧Zkl 0 (cs.map (·.Height))=Zkl last ((cs.drop i).map (·.Height))) ?_ N cs.length _ ⟨0,0,by omega,rfl,rfl⟩ (by omega)
  rintro G m _ ⟨i,last,hi,rfl,hI⟩ hG
  unfold ZaW.p2
  dsimp only
  have e:len (ZiH cs)=(cs.length:Int):=by simp [len]
  rw [hc,e]
  by_cases hlt:i<cs.length
  ·rw [yR hlt,yO] at hI
   simp only [Zkl] at hI
   rw [if_pos (by simp<;>omega),Zai (by omega),zJ,ZhG hlt,ZaJ,ZdN,ZaA (by omega) (by omega)]
   by_cases h1:cs[i].Height≤last
   ·rw [if_pos (by simpa using h1),hI,show decide (last<cs[i].Height)=false by simp;omega];rfl
   ·rw [if_neg (by simpa using h1)]
    exact hG (m-1) _ (by omega) ⟨i+1,_,by omega,rfl,by rw [hI,show decide (last<cs[i].Height)=true by simp;omega];rfl⟩
  ·rw [if_neg (by simp<;>omega),hI,xQ (by omega)];rfl
 refine Zbz (fun m (x:Int×Int)=>∃(i:Nat) (last:Int),i+m=gs.length∧x=(last,(i:Int))∧Zkl (-1) (gs.map (·.Height))=Zkl last ((gs.drop i).map (·.Height))) ?_ N gs.length _ ⟨0,-1,by omega,rfl,rfl⟩ (by omega)
 rintro G m _ ⟨i,last,hi,rfl,hI⟩ hG
 unfold ZaW.p1
 dsimp only
 have e:len (Zkq gs)=(gs.length:Int):=by simp [len]
 rw [hg,e]
 by_cases hlt:i<gs.length
 ·rw [yR hlt,yO] at hI
  simp only [Zkl] at hI
  rw [if_pos (by simp<;>omega),Zai (by omega),zJ,ZfX hlt,ZaJ,ZcV,ZaA (by omega) (by omega)]
  by_cases h1:gs[i].Height≤last
  ·rw [if_pos (by simpa using h1),hI,show decide (last<gs[i].Height)=false by simp;omega];rfl
  ·rw [if_neg (by simpa using h1)]
   exact hG (m-1) _ (by omega) ⟨i+1,_,by omega,rfl,by rw [hI,show decide (last<gs[i].Height)=true by simp;omega];rfl⟩
 ·rw [if_neg (by simp<;>omega),hI,xQ (by omega),p2];rfl
theorem Zms (hN:500≤N) {p:Zae} {gs:List ZbR} {cs:List ZbH} (hg:p.Gates=Zkq gs) (lg:gs.length≤400) (hc:p.Checks=ZiH cs) (lc:cs.length≤400) :
  Zbu N p=some (ZnA p gs cs):=by
 unfold Zbu ZnA
 rw [ZiI (by omega),Zad,ZdQ,Zad]
 cases Zhg p
 ·rfl
 cases Zfq p.Genesis
 ·rfl
 rw [if_neg (by simp),if_neg (by simp)]
 have p2:loopN (Zbu.p2 N p) N 0=some (Zkl 0 (cs.map (·.Height))):=by
  refine Zbz (fun m (x:Int)=>∃(i:Nat) (last:Int),i+m=cs.length∧x=(i:Int)∧0≤last∧(i=0→last=0)∧(∀h:0<i∧i-1<cs.length,last=cs[i-1].Height)∧Zkl 0 (cs.map (·.Height))=Zkl last ((cs.drop i).map (·.Height))) ?_ N cs.length _ ⟨0,0,by omega,rfl,by omega,fun _=>rfl,fun h=>by omega,rfl⟩ (by omega)
  rintro G m _ ⟨i,last,hi,rfl,h0,hz,hp,hI⟩ hG
  unfold Zbu.p2
  have e:len (ZiH cs)=(cs.length:Int):=by simp [len]
  rw [hc,e]
  by_cases hlt:i<cs.length
  ·rw [yR hlt,yO] at hI
   simp only [Zkl] at hI
   have nx:last<cs[i].Height→G ((i:Int)+1)=some (true&&true&&true&&Zkl 0 (cs.map (·.Height))):=fun k=>
    hG (m-1) _ (by omega) ⟨i+1,cs[i].Height,by omega,by omega,by omega,by omega,fun _=>rfl,by rw [hI,show decide (last<cs[i].Height)=true by simp;omega];rfl⟩
   have bad : ¬ last<cs[i].Height→Zkl 0 (cs.map (·.Height))=false:=fun k=>by rw [hI,show decide (last<cs[i].Height)=false by simp;omega];rfl
   rw [if_pos (by simp<;>omega),Zai (by omega),zJ,ZhG hlt,ZaJ,ZdN,ZaA (n:=(i:Int)+1) (by omega) (by omega)]
   by_cases h1:cs[i].Height<1
   ·rw [if_pos (by simpa using h1),bad (by omega)]
   ·rw [if_neg (by simpa using h1)]
    by_cases hi0:i=0
    ·have:=hz hi0
     rw [if_neg (by simp [hi0])]
     exact nx (by omega)
    ·have:=hp ⟨by omega,by omega⟩
     rw [if_pos (by simp<;>omega),show (i:Int)-1=((i-1:Nat):Int) by omega,ZaA (n:=((i-1:Nat):Int)) (by omega) (by omega),Zai (by omega),Zai (by omega),zJ,ZhG (show i-1<cs.length by omega),ZaJ,ZdN,←this]
     by_cases h2:cs[i].Height≤last
     ·rw [if_pos (by simpa using h2),bad (by omega)]
     ·rw [if_neg (by simpa using h2)];exact nx (by omega)
  ·rw [if_neg (by simp<;>omega),hI,xQ (by omega)];rfl
 refine Zbz (fun m (x:Int)=>∃(i:Nat) (last:Int),i+m=gs.length∧x=(i:Int)∧-1≤last∧(i=0→last = -1)∧(∀h:0<i∧i-1<gs.length,last=gs[i-1].Height)∧Zkl (-1) (gs.map (·.Height))=Zkl last ((gs.drop i).map (·.Height))) ?_ N gs.length _ ⟨0,-1,by omega,rfl,by omega,fun _=>rfl,fun h=>by omega,rfl⟩ (by omega)
 rintro G m _ ⟨i,last,hi,rfl,h0,hz,hp,hI⟩ hG
 unfold Zbu.p1
 have e:len (Zkq gs)=(gs.length:Int):=by simp [len]
 rw [hg,e]
 by_cases hlt:i<gs.length
 ·rw [yR hlt,yO] at hI
  simp only [Zkl] at hI
  have nx:last<gs[i].Height→0≤gs[i].Height→G ((i:Int)+1)=some (true&&true&&Zkl (-1) (gs.map (·.Height))&&Zkl 0 (cs.map (·.Height))):=fun k k2=>
   hG (m-1) _ (by omega) ⟨i+1,gs[i].Height,by omega,by omega,by omega,by omega,fun _=>rfl,by rw [hI,show decide (last<gs[i].Height)=true by simp;omega];rfl⟩
  have bad : ¬ last<gs[i].Height→Zkl (-1) (gs.map (·.Height))=false:=fun k=>by rw [hI,show decide (last<gs[i].Height)=false by simp;omega];rfl
  rw [if_pos (by simp<;>omega),Zai (by omega),zJ,ZfX hlt,ZaJ,ZcV,ZaA (n:=(i:Int)+1) (by omega) (by omega)]
  by_cases h1:gs[i].Height<0
  ·rw [if_pos (by simpa using h1),bad (by omega)];rfl
  ·rw [if_neg (by simpa using h1)]
   by_cases hi0:i=0
   ·have:=hz hi0
    rw [if_neg (by simp [hi0])]
    exact nx (by omega) (by omega)
   ·have:=hp ⟨by omega,by omega⟩
    rw [if_pos (by simp<;>omega),show (i:Int)-1=((i-1:Nat):Int) by omega,ZaA (n:=((i-1:Nat):Int)) (by omega) (by omega),Zai (by omega),Zai (by omega),zJ,ZfX (show i-1<gs.length by omega),ZaJ,ZcV,←this]
    by_cases h2:gs[i].Height≤last
    ·rw [if_pos (by simpa using h2),bad (by omega)];rfl
    ·rw [if_neg (by simpa using h2)];exact nx (by omega) (by omega)
 ·rw [if_neg (by simp<;>omega),hI,xQ (by omega),p2];rfl
end Go.Dn.F
