import Derived.Test.YtlofpeadcmldhaaGreatDoorNum
set_option linter.all false
open Int renaming toNat_natCast→zI
open List renaming drop_eq_getElem_cons→xZ,drop_of_length_le→wY,map_cons→yK
set_option maxRecDepth 40000
namespace Go.Dn.F
open Go.Dn Go.Proofs
variable {N:Nat}
theorem hid_bys (h:Zan):(hid h).length=32∧bys (hid h):=by
 obtain ⟨b,e,l⟩:=hid_by h
 rw [e]
 refine ⟨by simpa using l,fun x hx=>?_⟩
 obtain ⟨y,_,rfl⟩:=List.mem_map.1 hx
 exact ⟨ZpY y,ZpZ y⟩
def Znm (p:Zaj) (h:Zan):Int:=
 if Zfe h=false then 1 else if (tgt h.Bits p.Limit).2=false then 4 else if hv (hid h)≤(tgt h.Bits p.Limit).1 then 0 else 4
theorem Zjy (hN:500≤N) (p:Zaj) {h:Zan} (hw:wfH h=true):ZcV N p h=some (Znm p h):=by
 unfold ZcV Znm
 rw [Zds,Zab,ZdN (by omega),Zab]
 dsimp only
 have hb:=hid_bys h
 rw [ZeG hN hw,Zab,Zio (by omega) hb.1 hb.2 (Zmk _ _),Zab]
 cases Zfe h
 ·rfl
 ·cases (tgt h.Bits p.Limit).2
  ·rfl
  ·by_cases k:hv (hid h)≤(tgt h.Bits p.Limit).1<;>simp [k]
def Zjw (height:Int) (gs:List ZbW):Int:=gs.foldl (fun l g=>if height≥g.Height∧g.Version>l then g.Version else l) (-2147483648)
noncomputable def Zme (l:List ZbW):LL:=l.map ZbW.ls
noncomputable def ZiL (l:List ZbM):LL:=l.map ZbM.ls
theorem Zir {l:List ZbW} {i:Nat} (h:i<l.length):(Zme l)[i]? = some l[i].ls:=by simp [Zme,h]
theorem Zit {l:List ZbM} {i:Nat} (h:i<l.length):(ZiL l)[i]? = some l[i].ls:=by simp [ZiL,h]
@[simp] theorem Zmt (l:List ZbW):(Zme l).length=l.length:=by simp [Zme]
@[simp] theorem Zmu (l:List ZbM):(ZiL l).length=l.length:=by simp [ZiL]
theorem open_G {xs:LL} (h : ∀x∈xs,Zfg [.int .i64,.int .i64] x) : ∃l:List ZbW,xs=Zme l:=
 let ⟨l,h,_⟩:=ZlT (e:=ZbW.ls) (good:=fun _=>True) fun x hx=>by
  obtain ⟨_,_,rfl,h1,h⟩:=(h x hx).cons_inv
  obtain ⟨_,_,rfl,h2,h⟩:=h.cons_inv
  cases h.nil_inv
  obtain ⟨a,rfl,_⟩:=h1.int_inv
  obtain ⟨b,rfl,_⟩:=h2.int_inv
  exact ⟨⟨a,b⟩,rfl,trivial⟩
 ⟨l,h⟩
theorem open_K {xs:LL} (h : ∀x∈xs,Zfg [.int .i64,.arr .u8 32] x) : ∃l:List ZbM,xs=ZiL l:=
 let ⟨l,h,_⟩:=ZlT (e:=ZbM.ls) (good:=fun _=>True) fun x hx=>by
  obtain ⟨_,_,rfl,h1,h⟩:=(h x hx).cons_inv
  obtain ⟨_,_,rfl,h2,h⟩:=h.cons_inv
  cases h.nil_inv
  obtain ⟨a,rfl,_⟩:=h1.int_inv
  obtain ⟨b,rfl,_⟩:=h2.arr_inv
  exact ⟨⟨a,b⟩,rfl,trivial⟩
 ⟨l,h⟩
theorem ZiI (height:Int) (gs:List ZbW) (hg:gs.length<N) (hb:gs.length<1000000):ZaI N height (Zme gs)=some (Zjw height gs):=by
 unfold ZaI
 refine ZcC (fun m (x:Int×Int)=>∃i:Nat,i+m=gs.length∧x=(Zjw height (gs.take i),(i:Int))) ?_ N gs.length _ ⟨0,by omega,rfl⟩ hg
 rintro G m _ ⟨i,hi,rfl⟩ hG
 unfold ZaI.p1 ZaI.p2
 dsimp only
 by_cases hlt:i<gs.length
 ·rw [if_pos (by simp [len];omega),Zal (by omega),zI,Zir hlt,Zaw,Zeg,ZaJ (by omega) (by omega)]
  have st:Zjw height (gs.take (i+1))=if height≥gs[i].Height∧gs[i].Version>Zjw height (gs.take i) then gs[i].Version else Zjw height (gs.take i):=by
   unfold Zjw
   rw [List.take_succ_eq_append_getElem hlt,List.foldl_append];rfl
  have hn:=hG (m-1) (Zjw height (gs.take (i+1)),((i+1:Nat):Int)) (by omega) ⟨i+1,by omega,rfl⟩
  rw [st] at hn
  by_cases h1:height≥gs[i].Height
  ·rw [if_pos (by simpa using h1)]
   by_cases h2:gs[i].Version>Zjw height (gs.take i)
   ·rw [if_pos ⟨h1,h2⟩] at hn
    rw [if_pos h2];exact hn
   ·rw [if_neg (fun h=>h2 h.2)] at hn
    rw [if_neg h2];exact hn
  ·rw [if_neg (by simpa using h1)]
   rw [if_neg (fun h=>h1 h.1)] at hn
   exact hn
 ·rw [if_neg (by simp [len];omega),List.take_of_length_le (by omega)]
def ZgG (height:Int) (id:List Int) (cs:List ZbM):Bool:=cs.all fun c=>!(c.Height==height)||c.Id==id
theorem ZiJ (height:Int) (id:List Int) (cs:List ZbM) (hg:cs.length<N) (hb:cs.length<1000000):Zbp N height id (ZiL cs)=some (ZgG height id cs):=by
 unfold Zbp
 refine ZcC (fun m (x:Int)=>∃i:Nat,i+m=cs.length∧x=(i:Int)∧ZgG height id cs=ZgG height id (cs.drop i)) ?_ N cs.length _ ⟨0,by omega,rfl,by rw [List.drop_zero]⟩ hg
 rintro G m _ ⟨i,hi,rfl,ht⟩ hG
 unfold Zbp.p1
 by_cases hlt:i<cs.length
 ·rw [xZ hlt] at ht
  have e:ZgG height id (cs[i]::cs.drop (i+1))=((!(cs[i].Height==height)||cs[i].Id==id)&&ZgG height id (cs.drop (i+1))):=rfl
  rw [e] at ht
  rw [if_pos (by simp [len];omega),Zal (by omega),zI,Zit hlt,Zaw,ZdT,ZaJ (by omega) (by omega)]
  by_cases h1:(cs[i].Height==height)=true
  ·rw [if_pos h1]
   by_cases h2:(cs[i].Id==id)=true
   ·rw [if_neg (by simp [h2])]
    exact hG (m-1) _ (by omega) ⟨i+1,by omega,rfl,by rw [ht];simp [h2]⟩
   ·rw [if_pos (by simpa using h2),ht];simp [h1,h2]
  ·rw [if_neg h1]
   exact hG (m-1) _ (by omega) ⟨i+1,by omega,rfl,by rw [ht];simp [h1]⟩
 ·rw [if_neg (by simp [len];omega),ht,wY (by omega)];rfl
def near (t now f:Int):Bool:=decide (0≤f∧(t≤now∨t-now≤f))
theorem ZjB {t now:Int} (f:Int) (h1:0≤t∧t≤1152921504606846976) (h2 : -1152921504606846976≤now∧now≤9223372036854775807):ZcW N t now f=some (near t now f):=by
 unfold ZcW near
 rw [ZaJ (by omega) (by omega)]
 repeat' split
 all_goals (refine ZeC ⟨fun h=>?_,fun h=>?_⟩<;>simp only [decide_eq_true_eq,Bool.false_eq_true] at * <;> first | trivial | omega)
def ZfP (p:Zaj) (gs:List ZbW) (cs:List ZbM) (s:ZaE) (h:Zan) (now:Int):Int:=
 if Zfe h=false then 1
 else if h.Prev≠s.Prev then 2
 else if h.Bits≠nextB p s.Point h.Time then 3
 else if Znm p h≠0 then 4
 else if ((Zom s.Times).length==0||decide (h.Time>M (Zom s.Times)))=false then 5
 else if near h.Time now p.Future=false then 6
 else if h.Version<Zjw s.Point.Height gs then 7
 else if ZgG s.Point.Height (hid h) cs=false then 8 else 0
theorem Zke (hN:500≤N) {p:Zaj} {gs:List ZbW} {cs:List ZbM} (hg:p.Gates=Zme gs) (hc:p.Checks=ZiL cs) (lg:gs.length≤400) (lc:cs.length≤400)
  {s:ZaE} {h:Zan} (hw:wfH h=true) (hs:isI s.Times=true) (now:Int) (hnow : -1152921504606846976≤now∧now≤9223372036854775807) :
  Zdf N p s h now=some (ZfP p gs cs s h now):=by
 unfold Zdf ZfP
 rw [Zds,Zab]
 cases hgd:Zfe h with
 | false=>rfl
 | true=>
  have tr:=(Zpz h).1 hgd
  have ht:s.Times=Zda (Zom s.Times):=Zhn hs
  rw [if_neg (c:=(!true)=true) (by simp),if_neg (c:=true=false) (by simp)]
  by_cases h2:h.Prev=s.Prev
  ·rw [if_neg (by simp [h2]),if_neg (by simp [h2]),Zlw (by omega),Zab]
   by_cases h3:h.Bits=nextB p s.Point h.Time
   ·rw [if_neg (by simp [h3]),if_neg (by simp [h3]),Zjy hN p hw,Zab]
    by_cases h4:Znm p h=0
    ·rw [if_neg (by simp [h4]),if_neg (by simp [h4]),show ZcA N h.Time s.Times=_ from (congrArg (ZcA N h.Time) ht).trans (ZmE N h.Time (Zom s.Times)),Zab]
     cases h5:((Zom s.Times).length==0||decide (h.Time>M (Zom s.Times)))
     ·rfl
     ·rw [if_neg (by simp),if_neg (by simp),ZjB _ (by omega) hnow,Zab]
      cases h6:near h.Time now p.Future
      ·rfl
      ·rw [if_neg (by simp),if_neg (by simp),hg,ZiI _ gs (by omega) (by omega),Zab]
       by_cases h7:h.Version<Zjw s.Point.Height gs
       ·rw [if_pos (by simpa using h7),if_pos h7]
       ·rw [if_neg (by simpa using h7),if_neg h7,ZeG hN hw,Zab,hc,ZiJ _ _ cs (by omega) (by omega),Zab]
        cases ZgG s.Point.Height (hid h) cs<;>rfl
    ·rw [if_pos (by simpa using h4),if_pos h4]
   ·rw [if_pos (by simpa using h3),if_pos h3]
  ·rw [if_pos (by simpa using h2),if_pos h2]
def s0 (p:Zaj):ZaE:=⟨⟨0,0,0,0,p.Limit⟩,List.replicate 32 0,[]⟩
def Zeb (p:Zaj) (l:List Zan):ZaE:=l.foldl (Zft p) (s0 p)
def Zju (last:Int):List Int→Bool
 | []=>true
 | x::l=>decide (last<x)&&Zju x l
def Zki (p:Zaj) (gs:List ZbW) (cs:List ZbM):Bool:=Zhf p&&Zfe p.Genesis&&Zju (-1) (gs.map (·.Height))&&Zju 0 (cs.map (·.Height))
theorem Zkl (hN:500≤N) {p:Zaj} {gs:List ZbW} {cs:List ZbM} (hg:p.Gates=Zme gs) (lg:gs.length≤400) (hc:p.Checks=ZiL cs) (lc:cs.length≤400) :
  ZaR N p=some (Zki p gs cs):=by
 unfold ZaR Zki
 rw [Zkm (by omega),Zab,ZnO,Zab]
 cases Zhf p
 ·rfl
 cases Zfe p.Genesis
 ·rfl
 rw [if_neg (by simp),if_neg (by simp)]
 have p2:loopN (ZaR.p2 N p) N (0,0)=some (Zju 0 (cs.map (·.Height))):=by
  refine ZcC (fun m (x:Int×Int)=>∃(i:Nat) (last:Int),i+m=cs.length∧x=(last,(i:Int))∧Zju 0 (cs.map (·.Height))=Zju last ((cs.drop i).map (·.Height))) ?_ N cs.length _ ⟨0,0,by omega,rfl,rfl⟩ (by omega)
  rintro G m _ ⟨i,last,hi,rfl,hI⟩ hG
  unfold ZaR.p2
  dsimp only
  have e:len (ZiL cs)=(cs.length:Int):=by simp [len]
  rw [hc,e]
  by_cases hlt:i<cs.length
  ·rw [xZ hlt,yK] at hI
   simp only [Zju] at hI
   rw [if_pos (by simp<;>omega),Zal (by omega),zI,Zit hlt,Zaw,ZdT,ZaJ (by omega) (by omega)]
   by_cases h1:cs[i].Height≤last
   ·rw [if_pos (by simpa using h1),hI,show decide (last<cs[i].Height)=false by simp;omega];rfl
   ·rw [if_neg (by simpa using h1)]
    exact hG (m-1) _ (by omega) ⟨i+1,_,by omega,rfl,by rw [hI,show decide (last<cs[i].Height)=true by simp;omega];rfl⟩
  ·rw [if_neg (by simp<;>omega),hI,wY (by omega)];rfl
 refine ZcC (fun m (x:Int×Int)=>∃(i:Nat) (last:Int),i+m=gs.length∧x=(last,(i:Int))∧Zju (-1) (gs.map (·.Height))=Zju last ((gs.drop i).map (·.Height))) ?_ N gs.length _ ⟨0,-1,by omega,rfl,rfl⟩ (by omega)
 rintro G m _ ⟨i,last,hi,rfl,hI⟩ hG
 unfold ZaR.p1
 dsimp only
 have e:len (Zme gs)=(gs.length:Int):=by simp [len]
 rw [hg,e]
 by_cases hlt:i<gs.length
 ·rw [xZ hlt,yK] at hI
  simp only [Zju] at hI
  rw [if_pos (by simp<;>omega),Zal (by omega),zI,Zir hlt,Zaw,Zeg,ZaJ (by omega) (by omega)]
  by_cases h1:gs[i].Height≤last
  ·rw [if_pos (by simpa using h1),hI,show decide (last<gs[i].Height)=false by simp;omega];rfl
  ·rw [if_neg (by simpa using h1)]
   exact hG (m-1) _ (by omega) ⟨i+1,_,by omega,rfl,by rw [hI,show decide (last<gs[i].Height)=true by simp;omega];rfl⟩
 ·rw [if_neg (by simp<;>omega),hI,wY (by omega),p2];rfl
theorem Zll (hN:500≤N) {p:Zaj} {gs:List ZbW} {cs:List ZbM} (hg:p.Gates=Zme gs) (lg:gs.length≤400) (hc:p.Checks=ZiL cs) (lc:cs.length≤400) :
  Zbj N p=some (Zki p gs cs):=by
 unfold Zbj Zki
 rw [Zih (by omega),Zab,Zds,Zab]
 cases Zhf p
 ·rfl
 cases Zfe p.Genesis
 ·rfl
 rw [if_neg (by simp),if_neg (by simp)]
 have p2:loopN (Zbj.p2 N p) N 0=some (Zju 0 (cs.map (·.Height))):=by
  refine ZcC (fun m (x:Int)=>∃(i:Nat) (last:Int),i+m=cs.length∧x=(i:Int)∧0≤last∧(i=0→last=0)∧(∀h:0<i∧i-1<cs.length,last=cs[i-1].Height)∧Zju 0 (cs.map (·.Height))=Zju last ((cs.drop i).map (·.Height))) ?_ N cs.length _ ⟨0,0,by omega,rfl,by omega,fun _=>rfl,fun h=>by omega,rfl⟩ (by omega)
  rintro G m _ ⟨i,last,hi,rfl,h0,hz,hp,hI⟩ hG
  unfold Zbj.p2
  have e:len (ZiL cs)=(cs.length:Int):=by simp [len]
  rw [hc,e]
  by_cases hlt:i<cs.length
  ·rw [xZ hlt,yK] at hI
   simp only [Zju] at hI
   have nx:last<cs[i].Height→G ((i:Int)+1)=some (true&&true&&true&&Zju 0 (cs.map (·.Height))):=fun k=>
    hG (m-1) _ (by omega) ⟨i+1,cs[i].Height,by omega,by omega,by omega,by omega,fun _=>rfl,by rw [hI,show decide (last<cs[i].Height)=true by simp;omega];rfl⟩
   have bad : ¬ last<cs[i].Height→Zju 0 (cs.map (·.Height))=false:=fun k=>by rw [hI,show decide (last<cs[i].Height)=false by simp;omega];rfl
   rw [if_pos (by simp<;>omega),Zal (by omega),zI,Zit hlt,Zaw,ZdT,ZaJ (n:=(i:Int)+1) (by omega) (by omega)]
   by_cases h1:cs[i].Height<1
   ·rw [if_pos (by simpa using h1),bad (by omega)]
   ·rw [if_neg (by simpa using h1)]
    by_cases hi0:i=0
    ·have:=hz hi0
     rw [if_neg (by simp [hi0])]
     exact nx (by omega)
    ·have:=hp ⟨by omega,by omega⟩
     rw [if_pos (by simp<;>omega),show (i:Int)-1=((i-1:Nat):Int) by omega,ZaJ (n:=((i-1:Nat):Int)) (by omega) (by omega),Zal (by omega),Zal (by omega),zI,Zit (show i-1<cs.length by omega),Zaw,ZdT,←this]
     by_cases h2:cs[i].Height≤last
     ·rw [if_pos (by simpa using h2),bad (by omega)]
     ·rw [if_neg (by simpa using h2)];exact nx (by omega)
  ·rw [if_neg (by simp<;>omega),hI,wY (by omega)];rfl
 refine ZcC (fun m (x:Int)=>∃(i:Nat) (last:Int),i+m=gs.length∧x=(i:Int)∧-1≤last∧(i=0→last = -1)∧(∀h:0<i∧i-1<gs.length,last=gs[i-1].Height)∧Zju (-1) (gs.map (·.Height))=Zju last ((gs.drop i).map (·.Height))) ?_ N gs.length _ ⟨0,-1,by omega,rfl,by omega,fun _=>rfl,fun h=>by omega,rfl⟩ (by omega)
 rintro G m _ ⟨i,last,hi,rfl,h0,hz,hp,hI⟩ hG
 unfold Zbj.p1
 have e:len (Zme gs)=(gs.length:Int):=by simp [len]
 rw [hg,e]
 by_cases hlt:i<gs.length
 ·rw [xZ hlt,yK] at hI
  simp only [Zju] at hI
  have nx:last<gs[i].Height→0≤gs[i].Height→G ((i:Int)+1)=some (true&&true&&Zju (-1) (gs.map (·.Height))&&Zju 0 (cs.map (·.Height))):=fun k k2=>
   hG (m-1) _ (by omega) ⟨i+1,gs[i].Height,by omega,by omega,by omega,by omega,fun _=>rfl,by rw [hI,show decide (last<gs[i].Height)=true by simp;omega];rfl⟩
  have bad : ¬ last<gs[i].Height→Zju (-1) (gs.map (·.Height))=false:=fun k=>by rw [hI,show decide (last<gs[i].Height)=false by simp;omega];rfl
  rw [if_pos (by simp<;>omega),Zal (by omega),zI,Zir hlt,Zaw,Zeg,ZaJ (n:=(i:Int)+1) (by omega) (by omega)]
  by_cases h1:gs[i].Height<0
  ·rw [if_pos (by simpa using h1),bad (by omega)];rfl
  ·rw [if_neg (by simpa using h1)]
   by_cases hi0:i=0
   ·have:=hz hi0
    rw [if_neg (by simp [hi0])]
    exact nx (by omega) (by omega)
   ·have:=hp ⟨by omega,by omega⟩
    rw [if_pos (by simp<;>omega),show (i:Int)-1=((i-1:Nat):Int) by omega,ZaJ (n:=((i-1:Nat):Int)) (by omega) (by omega),Zal (by omega),Zal (by omega),zI,Zir (show i-1<gs.length by omega),Zaw,Zeg,←this]
    by_cases h2:gs[i].Height≤last
    ·rw [if_pos (by simpa using h2),bad (by omega)];rfl
    ·rw [if_neg (by simpa using h2)];exact nx (by omega) (by omega)
 ·rw [if_neg (by simp<;>omega),hI,wY (by omega),p2];rfl
end Go.Dn.F
