import Derived.Test.YtlofpeadcmldhaaGreatDoorNum
set_option linter.all false
open Int renaming toNat_natCast→zH
open List renaming drop_eq_getElem_cons→wI,drop_of_length_le→vK,map_cons→yP
set_option maxRecDepth 40000
namespace Go.Dn.F
open Go.Dn Go.Proofs
variable {N:Nat}
theorem hid_bys (h:Zap):(hid h).length=32∧bys (hid h):=by
 obtain ⟨b,e,l⟩:=hid_by h
 rw [e]
 refine ⟨by simpa using l,fun x hx=>?_⟩
 obtain ⟨y,_,rfl⟩:=List.mem_map.1 hx
 exact ⟨ZpY y,ZpZ y⟩
def Znl (p:Zaj) (h:Zap):Int:=
 if Zfg h=false then 1 else if (tgt h.Bits p.Limit).2=false then 4 else if hv (hid h)≤(tgt h.Bits p.Limit).1 then 0 else 4
theorem Zjv (hN:500≤N) (p:Zaj) {h:Zap} (hw:wfH h=true):ZcZ N p h=some (Znl p h):=by
 unfold ZcZ Znl
 rw [Zdx,Zac,ZdR (by omega),Zac]
 dsimp only
 have hb:=hid_bys h
 rw [ZeH hN hw,Zac,Zil (by omega) hb.1 hb.2 (Zmh _ _),Zac]
 cases Zfg h
 ·rfl
 ·cases (tgt h.Bits p.Limit).2
  ·rfl
  ·by_cases k:hv (hid h)≤(tgt h.Bits p.Limit).1<;>simp [k]
def Zju (height:Int) (gs:List ZbZ):Int:=gs.foldl (fun l g=>if height≥g.Height∧g.Version>l then g.Version else l) (-2147483648)
noncomputable def Zmb (l:List ZbZ):LL:=l.map ZbZ.ls
noncomputable def Zjr (l:List ZbO):LL:=l.map ZbO.ls
theorem Zip {l:List ZbZ} {i:Nat} (h:i<l.length):(Zmb l)[i]? = some l[i].ls:=by simp [Zmb,h]
theorem Zir {l:List ZbO} {i:Nat} (h:i<l.length):(Zjr l)[i]? = some l[i].ls:=by simp [Zjr,h]
@[simp] theorem Zmn (l:List ZbZ):(Zmb l).length=l.length:=by simp [Zmb]
@[simp] theorem Zmo (l:List ZbO):(Zjr l).length=l.length:=by simp [Zjr]
theorem open_G {xs:LL} (h : ∀x∈xs,Zfw [.int .i64,.int .i64] x) : ∃l:List ZbZ,xs=Zmb l:=
 let ⟨l,h,_⟩:=ZlS (e:=ZbZ.ls) (good:=fun _=>True) fun x hx=>by
  obtain ⟨_,_,rfl,h1,h⟩:=(h x hx).cons_inv
  obtain ⟨_,_,rfl,h2,h⟩:=h.cons_inv
  cases h.nil_inv
  obtain ⟨a,rfl,_⟩:=h1.int_inv
  obtain ⟨b,rfl,_⟩:=h2.int_inv
  exact ⟨⟨a,b⟩,rfl,trivial⟩
 ⟨l,h⟩
theorem open_K {xs:LL} (h : ∀x∈xs,Zfw [.int .i64,.arr .u8 32] x) : ∃l:List ZbO,xs=Zjr l:=
 let ⟨l,h,_⟩:=ZlS (e:=ZbO.ls) (good:=fun _=>True) fun x hx=>by
  obtain ⟨_,_,rfl,h1,h⟩:=(h x hx).cons_inv
  obtain ⟨_,_,rfl,h2,h⟩:=h.cons_inv
  cases h.nil_inv
  obtain ⟨a,rfl,_⟩:=h1.int_inv
  obtain ⟨b,rfl,_⟩:=h2.arr_inv
  exact ⟨⟨a,b⟩,rfl,trivial⟩
 ⟨l,h⟩
theorem ZiE (height:Int) (gs:List ZbZ) (hg:gs.length<N) (hb:gs.length<1000000):ZaL N height (Zmb gs)=some (Zju height gs):=by
 unfold ZaL
 refine ZcB (fun m (x:Int×Int)=>∃i:Nat,i+m=gs.length∧x=(Zju height (gs.take i),(i:Int))) ?_ N gs.length _ ⟨0,by omega,rfl⟩ hg
 rintro G m _ ⟨i,hi,rfl⟩ hG
 unfold ZaL.p1 ZaL.p2
 dsimp only
 by_cases hlt:i<gs.length
 ·rw [if_pos (by simp [len];omega),Zan (by omega),zH,Zip hlt,Zax,Zej,ZaK (by omega) (by omega)]
  have st:Zju height (gs.take (i+1))=if height≥gs[i].Height∧gs[i].Version>Zju height (gs.take i) then gs[i].Version else Zju height (gs.take i):=by
   unfold Zju
   rw [List.take_succ_eq_append_getElem hlt,List.foldl_append];rfl
  have hn:=hG (m-1) (Zju height (gs.take (i+1)),((i+1:Nat):Int)) (by omega) ⟨i+1,by omega,rfl⟩
  rw [st] at hn
  by_cases h1:height≥gs[i].Height
  ·rw [if_pos (by simpa using h1)]
   by_cases h2:gs[i].Version>Zju height (gs.take i)
   ·rw [if_pos ⟨h1,h2⟩] at hn
    rw [if_pos h2];exact hn
   ·rw [if_neg (fun h=>h2 h.2)] at hn
    rw [if_neg h2];exact hn
  ·rw [if_neg (by simpa using h1)]
   rw [if_neg (fun h=>h1 h.1)] at hn
   exact hn
 ·rw [if_neg (by simp [len];omega),List.take_of_length_le (by omega)]
def ZgH (height:Int) (id:List Int) (cs:List ZbO):Bool:=cs.all fun c=>!(c.Height==height)||c.Id==id
theorem ZiF (height:Int) (id:List Int) (cs:List ZbO) (hg:cs.length<N) (hb:cs.length<1000000):Zbu N height id (Zjr cs)=some (ZgH height id cs):=by
 unfold Zbu
 refine ZcB (fun m (x:Int)=>∃i:Nat,i+m=cs.length∧x=(i:Int)∧ZgH height id cs=ZgH height id (cs.drop i)) ?_ N cs.length _ ⟨0,by omega,rfl,by rw [List.drop_zero]⟩ hg
 rintro G m _ ⟨i,hi,rfl,ht⟩ hG
 unfold Zbu.p1
 by_cases hlt:i<cs.length
 ·rw [wI hlt] at ht
  have e:ZgH height id (cs[i]::cs.drop (i+1))=((!(cs[i].Height==height)||cs[i].Id==id)&&ZgH height id (cs.drop (i+1))):=rfl
  rw [e] at ht
  rw [if_pos (by simp [len];omega),Zan (by omega),zH,Zir hlt,Zax,Zea,ZaK (by omega) (by omega)]
  by_cases h1:(cs[i].Height==height)=true
  ·rw [if_pos h1]
   by_cases h2:(cs[i].Id==id)=true
   ·rw [if_neg (by simp [h2])]
    exact hG (m-1) _ (by omega) ⟨i+1,by omega,rfl,by rw [ht];simp [h2]⟩
   ·rw [if_pos (by simpa using h2),ht];simp [h1,h2]
  ·rw [if_neg h1]
   exact hG (m-1) _ (by omega) ⟨i+1,by omega,rfl,by rw [ht];simp [h1]⟩
 ·rw [if_neg (by simp [len];omega),ht,vK (by omega)];rfl
def near (t now f:Int):Bool:=decide (0≤f∧(t≤now∨t-now≤f))
theorem Zjy {t now:Int} (f:Int) (h1:0≤t∧t≤1152921504606846976) (h2 : -1152921504606846976≤now∧now≤9223372036854775807):Zda N t now f=some (near t now f):=by
 unfold Zda near
 rw [ZaK (by omega) (by omega)]
 repeat' split
 all_goals (refine ZeE ⟨fun h=>?_,fun h=>?_⟩<;>simp only [decide_eq_true_eq,Bool.false_eq_true] at * <;> first | trivial | omega)
def ZfL (p:Zaj) (gs:List ZbZ) (cs:List ZbO) (s:ZaE) (h:Zap) (now:Int):Int:=
 if Zfg h=false then 1
 else if h.Prev≠s.Prev then 2
 else if h.Bits≠nextB p s.Point h.Time then 3
 else if Znl p h≠0 then 4
 else if ((Zon s.Times).length==0||decide (h.Time>M (Zon s.Times)))=false then 5
 else if near h.Time now p.Future=false then 6
 else if h.Version<Zju s.Point.Height gs then 7
 else if ZgH s.Point.Height (hid h) cs=false then 8 else 0
theorem Zkh (hN:500≤N) {p:Zaj} {gs:List ZbZ} {cs:List ZbO} (hg:p.Gates=Zmb gs) (hc:p.Checks=Zjr cs) (lg:gs.length≤400) (lc:cs.length≤400)
  {s:ZaE} {h:Zap} (hw:wfH h=true) (hs:isI s.Times=true) (now:Int) (hnow : -1152921504606846976≤now∧now≤9223372036854775807) :
  Zdi N p s h now=some (ZfL p gs cs s h now):=by
 unfold Zdi ZfL
 rw [Zdx,Zac]
 cases hgd:Zfg h with
 | false=>rfl
 | true=>
  have tr:=(ZpC h).1 hgd
  have ht:s.Times=Zdp (Zon s.Times):=Zgt hs
  rw [if_neg (c:=(!true)=true) (by simp),if_neg (c:=true=false) (by simp)]
  by_cases h2:h.Prev=s.Prev
  ·rw [if_neg (by simp [h2]),if_neg (by simp [h2]),Zlw (by omega),Zac]
   by_cases h3:h.Bits=nextB p s.Point h.Time
   ·rw [if_neg (by simp [h3]),if_neg (by simp [h3]),Zjv hN p hw,Zac]
    by_cases h4:Znl p h=0
    ·rw [if_neg (by simp [h4]),if_neg (by simp [h4]),show ZcG N h.Time s.Times=_ from (congrArg (ZcG N h.Time) ht).trans (Zmy N h.Time (Zon s.Times)),Zac]
     cases h5:((Zon s.Times).length==0||decide (h.Time>M (Zon s.Times)))
     ·rfl
     ·rw [if_neg (by simp),if_neg (by simp),Zjy _ (by omega) hnow,Zac]
      cases h6:near h.Time now p.Future
      ·rfl
      ·rw [if_neg (by simp),if_neg (by simp),hg,ZiE _ gs (by omega) (by omega),Zac]
       by_cases h7:h.Version<Zju s.Point.Height gs
       ·rw [if_pos (by simpa using h7),if_pos h7]
       ·rw [if_neg (by simpa using h7),if_neg h7,ZeH hN hw,Zac,hc,ZiF _ _ cs (by omega) (by omega),Zac]
        cases ZgH s.Point.Height (hid h) cs<;>rfl
    ·rw [if_pos (by simpa using h4),if_pos h4]
   ·rw [if_pos (by simpa using h3),if_pos h3]
  ·rw [if_pos (by simpa using h2),if_pos h2]
def s0 (p:Zaj):ZaE:=⟨⟨0,0,0,0,p.Limit⟩,List.replicate 32 0,[]⟩
def Zef (p:Zaj) (l:List Zap):ZaE:=l.foldl (Zfs p) (s0 p)
def Zjs (last:Int):List Int→Bool
 | []=>true
 | x::l=>decide (last<x)&&Zjs x l
def Zkm (p:Zaj) (gs:List ZbZ) (cs:List ZbO):Bool:=Zhd p&&Zfg p.Genesis&&Zjs (-1) (gs.map (·.Height))&&Zjs 0 (cs.map (·.Height))
theorem Zkp (hN:500≤N) {p:Zaj} {gs:List ZbZ} {cs:List ZbO} (hg:p.Gates=Zmb gs) (lg:gs.length≤400) (hc:p.Checks=Zjr cs) (lc:cs.length≤400) :
  ZaS N p=some (Zkm p gs cs):=by
 unfold ZaS Zkm
 rw [Zkq (by omega),Zac,ZnP,Zac]
 cases Zhd p
 ·rfl
 cases Zfg p.Genesis
 ·rfl
 rw [if_neg (by simp),if_neg (by simp)]
 have p2:loopN (ZaS.p2 N p) N (0,0)=some (Zjs 0 (cs.map (·.Height))):=by
  refine ZcB (fun m (x:Int×Int)=>∃(i:Nat) (last:Int),i+m=cs.length∧x=(last,(i:Int))∧Zjs 0 (cs.map (·.Height))=Zjs last ((cs.drop i).map (·.Height))) ?_ N cs.length _ ⟨0,0,by omega,rfl,rfl⟩ (by omega)
  rintro G m _ ⟨i,last,hi,rfl,hI⟩ hG
  unfold ZaS.p2
  dsimp only
  have e:len (Zjr cs)=(cs.length:Int):=by simp [len]
  rw [hc,e]
  by_cases hlt:i<cs.length
  ·rw [wI hlt,yP] at hI
   simp only [Zjs] at hI
   rw [if_pos (by simp<;>omega),Zan (by omega),zH,Zir hlt,Zax,Zea,ZaK (by omega) (by omega)]
   by_cases h1:cs[i].Height≤last
   ·rw [if_pos (by simpa using h1),hI,show decide (last<cs[i].Height)=false by simp;omega];rfl
   ·rw [if_neg (by simpa using h1)]
    exact hG (m-1) _ (by omega) ⟨i+1,_,by omega,rfl,by rw [hI,show decide (last<cs[i].Height)=true by simp;omega];rfl⟩
  ·rw [if_neg (by simp<;>omega),hI,vK (by omega)];rfl
 refine ZcB (fun m (x:Int×Int)=>∃(i:Nat) (last:Int),i+m=gs.length∧x=(last,(i:Int))∧Zjs (-1) (gs.map (·.Height))=Zjs last ((gs.drop i).map (·.Height))) ?_ N gs.length _ ⟨0,-1,by omega,rfl,rfl⟩ (by omega)
 rintro G m _ ⟨i,last,hi,rfl,hI⟩ hG
 unfold ZaS.p1
 dsimp only
 have e:len (Zmb gs)=(gs.length:Int):=by simp [len]
 rw [hg,e]
 by_cases hlt:i<gs.length
 ·rw [wI hlt,yP] at hI
  simp only [Zjs] at hI
  rw [if_pos (by simp<;>omega),Zan (by omega),zH,Zip hlt,Zax,Zej,ZaK (by omega) (by omega)]
  by_cases h1:gs[i].Height≤last
  ·rw [if_pos (by simpa using h1),hI,show decide (last<gs[i].Height)=false by simp;omega];rfl
  ·rw [if_neg (by simpa using h1)]
   exact hG (m-1) _ (by omega) ⟨i+1,_,by omega,rfl,by rw [hI,show decide (last<gs[i].Height)=true by simp;omega];rfl⟩
 ·rw [if_neg (by simp<;>omega),hI,vK (by omega),p2];rfl
theorem Zlk (hN:500≤N) {p:Zaj} {gs:List ZbZ} {cs:List ZbO} (hg:p.Gates=Zmb gs) (lg:gs.length≤400) (hc:p.Checks=Zjr cs) (lc:cs.length≤400) :
  Zbn N p=some (Zkm p gs cs):=by
 unfold Zbn Zkm
 rw [Zic (by omega),Zac,Zdx,Zac]
 cases Zhd p
 ·rfl
 cases Zfg p.Genesis
 ·rfl
 rw [if_neg (by simp),if_neg (by simp)]
 have p2:loopN (Zbn.p2 N p) N 0=some (Zjs 0 (cs.map (·.Height))):=by
  refine ZcB (fun m (x:Int)=>∃(i:Nat) (last:Int),i+m=cs.length∧x=(i:Int)∧0≤last∧(i=0→last=0)∧(∀h:0<i∧i-1<cs.length,last=cs[i-1].Height)∧Zjs 0 (cs.map (·.Height))=Zjs last ((cs.drop i).map (·.Height))) ?_ N cs.length _ ⟨0,0,by omega,rfl,by omega,fun _=>rfl,fun h=>by omega,rfl⟩ (by omega)
  rintro G m _ ⟨i,last,hi,rfl,h0,hz,hp,hI⟩ hG
  unfold Zbn.p2
  have e:len (Zjr cs)=(cs.length:Int):=by simp [len]
  rw [hc,e]
  by_cases hlt:i<cs.length
  ·rw [wI hlt,yP] at hI
   simp only [Zjs] at hI
   have nx:last<cs[i].Height→G ((i:Int)+1)=some (true&&true&&true&&Zjs 0 (cs.map (·.Height))):=fun k=>
    hG (m-1) _ (by omega) ⟨i+1,cs[i].Height,by omega,by omega,by omega,by omega,fun _=>rfl,by rw [hI,show decide (last<cs[i].Height)=true by simp;omega];rfl⟩
   have bad : ¬ last<cs[i].Height→Zjs 0 (cs.map (·.Height))=false:=fun k=>by rw [hI,show decide (last<cs[i].Height)=false by simp;omega];rfl
   rw [if_pos (by simp<;>omega),Zan (by omega),zH,Zir hlt,Zax,Zea,ZaK (n:=(i:Int)+1) (by omega) (by omega)]
   by_cases h1:cs[i].Height<1
   ·rw [if_pos (by simpa using h1),bad (by omega)]
   ·rw [if_neg (by simpa using h1)]
    by_cases hi0:i=0
    ·have:=hz hi0
     rw [if_neg (by simp [hi0])]
     exact nx (by omega)
    ·have:=hp ⟨by omega,by omega⟩
     rw [if_pos (by simp<;>omega),show (i:Int)-1=((i-1:Nat):Int) by omega,ZaK (n:=((i-1:Nat):Int)) (by omega) (by omega),Zan (by omega),Zan (by omega),zH,Zir (show i-1<cs.length by omega),Zax,Zea,←this]
     by_cases h2:cs[i].Height≤last
     ·rw [if_pos (by simpa using h2),bad (by omega)]
     ·rw [if_neg (by simpa using h2)];exact nx (by omega)
  ·rw [if_neg (by simp<;>omega),hI,vK (by omega)];rfl
 refine ZcB (fun m (x:Int)=>∃(i:Nat) (last:Int),i+m=gs.length∧x=(i:Int)∧-1≤last∧(i=0→last = -1)∧(∀h:0<i∧i-1<gs.length,last=gs[i-1].Height)∧Zjs (-1) (gs.map (·.Height))=Zjs last ((gs.drop i).map (·.Height))) ?_ N gs.length _ ⟨0,-1,by omega,rfl,by omega,fun _=>rfl,fun h=>by omega,rfl⟩ (by omega)
 rintro G m _ ⟨i,last,hi,rfl,h0,hz,hp,hI⟩ hG
 unfold Zbn.p1
 have e:len (Zmb gs)=(gs.length:Int):=by simp [len]
 rw [hg,e]
 by_cases hlt:i<gs.length
 ·rw [wI hlt,yP] at hI
  simp only [Zjs] at hI
  have nx:last<gs[i].Height→0≤gs[i].Height→G ((i:Int)+1)=some (true&&true&&Zjs (-1) (gs.map (·.Height))&&Zjs 0 (cs.map (·.Height))):=fun k k2=>
   hG (m-1) _ (by omega) ⟨i+1,gs[i].Height,by omega,by omega,by omega,by omega,fun _=>rfl,by rw [hI,show decide (last<gs[i].Height)=true by simp;omega];rfl⟩
  have bad : ¬ last<gs[i].Height→Zjs (-1) (gs.map (·.Height))=false:=fun k=>by rw [hI,show decide (last<gs[i].Height)=false by simp;omega];rfl
  rw [if_pos (by simp<;>omega),Zan (by omega),zH,Zip hlt,Zax,Zej,ZaK (n:=(i:Int)+1) (by omega) (by omega)]
  by_cases h1:gs[i].Height<0
  ·rw [if_pos (by simpa using h1),bad (by omega)];rfl
  ·rw [if_neg (by simpa using h1)]
   by_cases hi0:i=0
   ·have:=hz hi0
    rw [if_neg (by simp [hi0])]
    exact nx (by omega) (by omega)
   ·have:=hp ⟨by omega,by omega⟩
    rw [if_pos (by simp<;>omega),show (i:Int)-1=((i-1:Nat):Int) by omega,ZaK (n:=((i-1:Nat):Int)) (by omega) (by omega),Zan (by omega),Zan (by omega),zH,Zip (show i-1<gs.length by omega),Zax,Zej,←this]
    by_cases h2:gs[i].Height≤last
    ·rw [if_pos (by simpa using h2),bad (by omega)];rfl
    ·rw [if_neg (by simpa using h2)];exact nx (by omega) (by omega)
 ·rw [if_neg (by simp<;>omega),hI,vK (by omega),p2];rfl
end Go.Dn.F
