/- Whether a header may stand behind a spot, as a plain function. -/
import Derived.Test.YtcgdbcfflaphhaaGreatDoorNum
set_option linter.unusedSimpArgs false
set_option linter.unusedVariables false
set_option maxRecDepth 40000
namespace Go.Dn.F
open Go.Dn Go.Proofs
variable {N:Nat}
theorem hid_bys (h:Zah):(hid h).length=32∧bys (hid h):=by
 obtain ⟨b,e,l⟩:=hid_by h
 rw [e]
 refine ⟨by simpa using l,fun x hx=>?_⟩
 obtain ⟨y,_,rfl⟩:=List.mem_map.1 hx
 exact ⟨Zlq y,Zlr y⟩
def itself (p:Zan) (h:Zah):Int:=
 if hgood h=false then 1 else if (tgt h.Bits p.Limit).2=false then 4 else if hv (hid h)≤(tgt h.Bits p.Limit).1 then 0 else 4
theorem Zhe (hN:500≤N) (p:Zan) {h:Zah} (hw:wfH h=true):ZcL N p h=some (itself p h):=by
 unfold ZcL itself
 rw [ZdB,Zab,Zdy (by omega),Zab]
 dsimp only
 have hb:=hid_bys h
 rw [ZdL hN hw,Zab,Zgr (by omega) hb.1 hb.2 (ZiZ _ _),Zab]
 cases hgood h
 ·rfl
 ·cases (tgt h.Bits p.Limit).2
  ·rfl
  ·by_cases k:hv (hid h)≤(tgt h.Bits p.Limit).1<;>simp [k]
def verOf (height:Int) (gs:List ZbF):Int:=gs.foldl (fun l g=>if height≥g.Height∧g.Version>l then g.Version else l) (-2147483648)
noncomputable def rowG (l:List ZbF):LL:=l.map ZbF.ls
noncomputable def rowC (l:List Zbo):LL:=l.map Zbo.ls
theorem Zgu {l:List ZbF} {i:Nat} (h:i<l.length):(rowG l)[i]? = some l[i].ls:=by simp [rowG,h]
theorem Zgv {l:List Zbo} {i:Nat} (h:i<l.length):(rowC l)[i]? = some l[i].ls:=by simp [rowC,h]
@[simp] theorem Zjc (l:List ZbF):(rowG l).length=l.length:=by simp [rowG]
@[simp] theorem Zjd (l:List Zbo):(rowC l).length=l.length:=by simp [rowC]
theorem open_G {xs:LL} (h : ∀x∈xs,LTys [.int .i64,.int .i64] x) : ∃l:List ZbF,xs=rowG l:=
 let ⟨l,h,_⟩:=decode (e:=ZbF.ls) (good:=fun _=>True) fun x hx=>by
  obtain ⟨_,_,rfl,h1,h⟩:=(h x hx).cons_inv
  obtain ⟨_,_,rfl,h2,h⟩:=h.cons_inv
  cases h.nil_inv
  obtain ⟨a,rfl,_⟩:=h1.int_inv
  obtain ⟨b,rfl,_⟩:=h2.int_inv
  exact ⟨⟨a,b⟩,rfl,trivial⟩
 ⟨l,h⟩
theorem open_K {xs:LL} (h : ∀x∈xs,LTys [.int .i64,.arr .u8 32] x) : ∃l:List Zbo,xs=rowC l:=
 let ⟨l,h,_⟩:=decode (e:=Zbo.ls) (good:=fun _=>True) fun x hx=>by
  obtain ⟨_,_,rfl,h1,h⟩:=(h x hx).cons_inv
  obtain ⟨_,_,rfl,h2,h⟩:=h.cons_inv
  cases h.nil_inv
  obtain ⟨a,rfl,_⟩:=h1.int_inv
  obtain ⟨b,rfl,_⟩:=h2.arr_inv
  exact ⟨⟨a,b⟩,rfl,trivial⟩
 ⟨l,h⟩
theorem ZgD (height:Int) (gs:List ZbF) (hg:gs.length<N) (hb:gs.length<1000000):ZaI N height (rowG gs)=some (verOf height gs):=by
 unfold ZaI
 refine Zcs (fun m (x:Int×Int)=>∃i:Nat,i+m=gs.length∧x=(verOf height (gs.take i),(i:Int))) ?_ N gs.length _ ⟨0,by omega,rfl⟩ hg
 rintro G m _ ⟨i,hi,rfl⟩ hG
 unfold ZaI.p1 ZaI.p2
 dsimp only
 by_cases hlt:i<gs.length
 ·rw [if_pos (by simp [len];omega),Zam (by omega),Int.toNat_natCast,Zgu hlt,Zaz,ZdM,ZaD (by omega) (by omega)]
  have st:verOf height (gs.take (i+1))=if height≥gs[i].Height∧gs[i].Version>verOf height (gs.take i) then gs[i].Version else verOf height (gs.take i):=by
   unfold verOf
   rw [List.take_succ_eq_append_getElem hlt,List.foldl_append];rfl
  have hn:=hG (m-1) (verOf height (gs.take (i+1)),((i+1:Nat):Int)) (by omega) ⟨i+1,by omega,rfl⟩
  rw [st] at hn
  by_cases h1:height≥gs[i].Height
  ·rw [if_pos (by simpa using h1)]
   by_cases h2:gs[i].Version>verOf height (gs.take i)
   ·rw [if_pos ⟨h1,h2⟩] at hn
    rw [if_pos h2];exact hn
   ·rw [if_neg (fun h=>h2 h.2)] at hn
    rw [if_neg h2];exact hn
  ·rw [if_neg (by simpa using h1)]
   rw [if_neg (fun h=>h1 h.1)] at hn
   exact hn
 ·rw [if_neg (by simp [len];omega),List.take_of_length_le (by omega)]
def tracked (height:Int) (id:List Int) (cs:List Zbo):Bool:=cs.all fun c=>!(c.Height==height)||c.Id==id
theorem ZgE (height:Int) (id:List Int) (cs:List Zbo) (hg:cs.length<N) (hb:cs.length<1000000):Zbp N height id (rowC cs)=some (tracked height id cs):=by
 unfold Zbp
 refine Zcs (fun m (x:Int)=>∃i:Nat,i+m=cs.length∧x=(i:Int)∧tracked height id cs=tracked height id (cs.drop i)) ?_ N cs.length _ ⟨0,by omega,rfl,by rw [List.drop_zero]⟩ hg
 rintro G m _ ⟨i,hi,rfl,ht⟩ hG
 unfold Zbp.p1
 by_cases hlt:i<cs.length
 ·rw [List.drop_eq_getElem_cons hlt] at ht
  have e:tracked height id (cs[i]::cs.drop (i+1))=((!(cs[i].Height==height)||cs[i].Id==id)&&tracked height id (cs.drop (i+1))):=rfl
  rw [e] at ht
  rw [if_pos (by simp [len];omega),Zam (by omega),Int.toNat_natCast,Zgv hlt,Zaz,ZdE,ZaD (by omega) (by omega)]
  by_cases h1:(cs[i].Height==height)=true
  ·rw [if_pos h1]
   by_cases h2:(cs[i].Id==id)=true
   ·rw [if_neg (by simp [h2])]
    exact hG (m-1) _ (by omega) ⟨i+1,by omega,rfl,by rw [ht];simp [h2]⟩
   ·rw [if_pos (by simpa using h2),ht];simp [h1,h2]
  ·rw [if_neg h1]
   exact hG (m-1) _ (by omega) ⟨i+1,by omega,rfl,by rw [ht];simp [h1]⟩
 ·rw [if_neg (by simp [len];omega),ht,List.drop_of_length_le (by omega)];rfl
def near (t now f:Int):Bool:=decide (0≤f∧(t≤now∨t-now≤f))
theorem Zhg {t now:Int} (f:Int) (h1:0≤t∧t≤1152921504606846976) (h2 : -1152921504606846976≤now∧now≤9223372036854775807):ZcM N t now f=some (near t now f):=by
 unfold ZcM near
 rw [ZaD (by omega) (by omega)]
 repeat' split
 all_goals (refine Zea ⟨fun h=>?_,fun h=>?_⟩<;>simp only [decide_eq_true_eq,Bool.false_eq_true] at * <;> first | trivial | omega)
def checkS (p:Zan) (gs:List ZbF) (cs:List Zbo) (s:Zaq) (h:Zah) (now:Int):Int:=
 if hgood h=false then 1
 else if h.Prev≠s.Prev then 2
 else if h.Bits≠nextB p s.Point h.Time then 3
 else if itself p h≠0 then 4
 else if ((tims s.Times).length==0||decide (h.Time>M (tims s.Times)))=false then 5
 else if near h.Time now p.Future=false then 6
 else if h.Version<verOf s.Point.Height gs then 7
 else if tracked s.Point.Height (hid h) cs=false then 8 else 0
theorem ZhI (hN:500≤N) {p:Zan} {gs:List ZbF} {cs:List Zbo} (hg:p.Gates=rowG gs) (hc:p.Checks=rowC cs) (lg:gs.length≤400) (lc:cs.length≤400)
  {s:Zaq} {h:Zah} (hw:wfH h=true) (hs:isI s.Times=true) (now:Int) (hnow : -1152921504606846976≤now∧now≤9223372036854775807) :
  ZcH N p s h now=some (checkS p gs cs s h now):=by
 unfold ZcH checkS
 rw [ZdB,Zab]
 cases hgd:hgood h with
 | false=>rfl
 | true=>
  have tr:=(Zle h).1 hgd
  have ht:s.Times=rowI (tims s.Times):=ZfD hs
  rw [if_neg (c:=(!true)=true) (by simp),if_neg (c:=true=false) (by simp)]
  by_cases h2:h.Prev=s.Prev
  ·rw [if_neg (by simp [h2]),if_neg (by simp [h2]),Zix (by omega),Zab]
   by_cases h3:h.Bits=nextB p s.Point h.Time
   ·rw [if_neg (by simp [h3]),if_neg (by simp [h3]),Zhe hN p hw,Zab]
    by_cases h4:itself p h=0
    ·rw [if_neg (by simp [h4]),if_neg (by simp [h4]),show Zcy N h.Time s.Times=_ from (congrArg (Zcy N h.Time) ht).trans (Zjp N h.Time (tims s.Times)),Zab]
     cases h5:((tims s.Times).length==0||decide (h.Time>M (tims s.Times)))
     ·rfl
     ·rw [if_neg (by simp),if_neg (by simp),Zhg _ (by omega) hnow,Zab]
      cases h6:near h.Time now p.Future
      ·rfl
      ·rw [if_neg (by simp),if_neg (by simp),hg,ZgD _ gs (by omega) (by omega),Zab]
       by_cases h7:h.Version<verOf s.Point.Height gs
       ·rw [if_pos (by simpa using h7),if_pos h7]
       ·rw [if_neg (by simpa using h7),if_neg h7,ZdL hN hw,Zab,hc,ZgE _ _ cs (by omega) (by omega),Zab]
        cases tracked s.Point.Height (hid h) cs<;>rfl
    ·rw [if_pos (by simpa using h4),if_pos h4]
   ·rw [if_pos (by simpa using h3),if_pos h3]
  ·rw [if_pos (by simpa using h2),if_pos h2]
def s0 (p:Zan):Zaq:=⟨⟨0,0,0,0,p.Limit⟩,List.replicate 32 0,[]⟩
def spotA (p:Zan) (l:List Zah):Zaq:=l.foldl (behind p) (s0 p)
def incr (last:Int):List Int→Bool
 | []=>true
 | x::l=>decide (last<x)&&incr x l
def rgood (p:Zan) (gs:List ZbF) (cs:List Zbo):Bool:=pgood p&&hgood p.Genesis&&incr (-1) (gs.map (·.Height))&&incr 0 (cs.map (·.Height))
theorem ZhL (hN:500≤N) {p:Zan} {gs:List ZbF} {cs:List Zbo} (hg:p.Gates=rowG gs) (lg:gs.length≤400) (hc:p.Checks=rowC cs) (lc:cs.length≤400) :
  ZaR N p=some (rgood p gs cs):=by
 unfold ZaR rgood
 rw [ZhM (by omega),Zab,Zht,Zab]
 cases pgood p
 ·rfl
 cases hgood p.Genesis
 ·rfl
 rw [if_neg (by simp),if_neg (by simp)]
 have p2:loopN (ZaR.p2 N p) N (0,0)=some (incr 0 (cs.map (·.Height))):=by
  refine Zcs (fun m (x:Int×Int)=>∃(i:Nat) (last:Int),i+m=cs.length∧x=(last,(i:Int))∧incr 0 (cs.map (·.Height))=incr last ((cs.drop i).map (·.Height))) ?_ N cs.length _ ⟨0,0,by omega,rfl,rfl⟩ (by omega)
  rintro G m _ ⟨i,last,hi,rfl,hI⟩ hG
  unfold ZaR.p2
  dsimp only
  have e:len (rowC cs)=(cs.length:Int):=by simp [len]
  rw [hc,e]
  by_cases hlt:i<cs.length
  ·rw [List.drop_eq_getElem_cons hlt,List.map_cons] at hI
   simp only [incr] at hI
   rw [if_pos (by simp<;>omega),Zam (by omega),Int.toNat_natCast,Zgv hlt,Zaz,ZdE,ZaD (by omega) (by omega)]
   by_cases h1:cs[i].Height≤last
   ·rw [if_pos (by simpa using h1),hI,show decide (last<cs[i].Height)=false by simp;omega];rfl
   ·rw [if_neg (by simpa using h1)]
    exact hG (m-1) _ (by omega) ⟨i+1,_,by omega,rfl,by rw [hI,show decide (last<cs[i].Height)=true by simp;omega];rfl⟩
  ·rw [if_neg (by simp<;>omega),hI,List.drop_of_length_le (by omega)];rfl
 refine Zcs (fun m (x:Int×Int)=>∃(i:Nat) (last:Int),i+m=gs.length∧x=(last,(i:Int))∧incr (-1) (gs.map (·.Height))=incr last ((gs.drop i).map (·.Height))) ?_ N gs.length _ ⟨0,-1,by omega,rfl,rfl⟩ (by omega)
 rintro G m _ ⟨i,last,hi,rfl,hI⟩ hG
 unfold ZaR.p1
 dsimp only
 have e:len (rowG gs)=(gs.length:Int):=by simp [len]
 rw [hg,e]
 by_cases hlt:i<gs.length
 ·rw [List.drop_eq_getElem_cons hlt,List.map_cons] at hI
  simp only [incr] at hI
  rw [if_pos (by simp<;>omega),Zam (by omega),Int.toNat_natCast,Zgu hlt,Zaz,ZdM,ZaD (by omega) (by omega)]
  by_cases h1:gs[i].Height≤last
  ·rw [if_pos (by simpa using h1),hI,show decide (last<gs[i].Height)=false by simp;omega];rfl
  ·rw [if_neg (by simpa using h1)]
   exact hG (m-1) _ (by omega) ⟨i+1,_,by omega,rfl,by rw [hI,show decide (last<gs[i].Height)=true by simp;omega];rfl⟩
 ·rw [if_neg (by simp<;>omega),hI,List.drop_of_length_le (by omega),p2];rfl
theorem Zil (hN:500≤N) {p:Zan} {gs:List ZbF} {cs:List Zbo} (hg:p.Gates=rowG gs) (lg:gs.length≤400) (hc:p.Checks=rowC cs) (lc:cs.length≤400) :
  Zbi N p=some (rgood p gs cs):=by
 unfold Zbi rgood
 rw [Zgl (by omega),Zab,ZdB,Zab]
 cases pgood p
 ·rfl
 cases hgood p.Genesis
 ·rfl
 rw [if_neg (by simp),if_neg (by simp)]
 have p2:loopN (Zbi.p2 N p) N 0=some (incr 0 (cs.map (·.Height))):=by
  refine Zcs (fun m (x:Int)=>∃(i:Nat) (last:Int),i+m=cs.length∧x=(i:Int)∧0≤last∧(i=0→last=0)∧(∀h:0<i∧i-1<cs.length,last=cs[i-1].Height)∧incr 0 (cs.map (·.Height))=incr last ((cs.drop i).map (·.Height))) ?_ N cs.length _ ⟨0,0,by omega,rfl,by omega,fun _=>rfl,fun h=>by omega,rfl⟩ (by omega)
  rintro G m _ ⟨i,last,hi,rfl,h0,hz,hp,hI⟩ hG
  unfold Zbi.p2
  have e:len (rowC cs)=(cs.length:Int):=by simp [len]
  rw [hc,e]
  by_cases hlt:i<cs.length
  ·rw [List.drop_eq_getElem_cons hlt,List.map_cons] at hI
   simp only [incr] at hI
   have nx:last<cs[i].Height→G ((i:Int)+1)=some (true&&true&&true&&incr 0 (cs.map (·.Height))):=fun k=>
    hG (m-1) _ (by omega) ⟨i+1,cs[i].Height,by omega,by omega,by omega,by omega,fun _=>rfl,by rw [hI,show decide (last<cs[i].Height)=true by simp;omega];rfl⟩
   have bad : ¬ last<cs[i].Height→incr 0 (cs.map (·.Height))=false:=fun k=>by rw [hI,show decide (last<cs[i].Height)=false by simp;omega];rfl
   rw [if_pos (by simp<;>omega),Zam (by omega),Int.toNat_natCast,Zgv hlt,Zaz,ZdE,ZaD (n:=(i:Int)+1) (by omega) (by omega)]
   by_cases h1:cs[i].Height<1
   ·rw [if_pos (by simpa using h1),bad (by omega)]
   ·rw [if_neg (by simpa using h1)]
    by_cases hi0:i=0
    ·have:=hz hi0
     rw [if_neg (by simp [hi0])]
     exact nx (by omega)
    ·have:=hp ⟨by omega,by omega⟩
     rw [if_pos (by simp<;>omega),show (i:Int)-1=((i-1:Nat):Int) by omega,ZaD (n:=((i-1:Nat):Int)) (by omega) (by omega),Zam (by omega),Zam (by omega),Int.toNat_natCast,Zgv (show i-1<cs.length by omega),Zaz,ZdE,←this]
     by_cases h2:cs[i].Height≤last
     ·rw [if_pos (by simpa using h2),bad (by omega)]
     ·rw [if_neg (by simpa using h2)];exact nx (by omega)
  ·rw [if_neg (by simp<;>omega),hI,List.drop_of_length_le (by omega)];rfl
 refine Zcs (fun m (x:Int)=>∃(i:Nat) (last:Int),i+m=gs.length∧x=(i:Int)∧-1≤last∧(i=0→last = -1)∧(∀h:0<i∧i-1<gs.length,last=gs[i-1].Height)∧incr (-1) (gs.map (·.Height))=incr last ((gs.drop i).map (·.Height))) ?_ N gs.length _ ⟨0,-1,by omega,rfl,by omega,fun _=>rfl,fun h=>by omega,rfl⟩ (by omega)
 rintro G m _ ⟨i,last,hi,rfl,h0,hz,hp,hI⟩ hG
 unfold Zbi.p1
 have e:len (rowG gs)=(gs.length:Int):=by simp [len]
 rw [hg,e]
 by_cases hlt:i<gs.length
 ·rw [List.drop_eq_getElem_cons hlt,List.map_cons] at hI
  simp only [incr] at hI
  have nx:last<gs[i].Height→0≤gs[i].Height→G ((i:Int)+1)=some (true&&true&&incr (-1) (gs.map (·.Height))&&incr 0 (cs.map (·.Height))):=fun k k2=>
   hG (m-1) _ (by omega) ⟨i+1,gs[i].Height,by omega,by omega,by omega,by omega,fun _=>rfl,by rw [hI,show decide (last<gs[i].Height)=true by simp;omega];rfl⟩
  have bad : ¬ last<gs[i].Height→incr (-1) (gs.map (·.Height))=false:=fun k=>by rw [hI,show decide (last<gs[i].Height)=false by simp;omega];rfl
  rw [if_pos (by simp<;>omega),Zam (by omega),Int.toNat_natCast,Zgu hlt,Zaz,ZdM,ZaD (n:=(i:Int)+1) (by omega) (by omega)]
  by_cases h1:gs[i].Height<0
  ·rw [if_pos (by simpa using h1),bad (by omega)];rfl
  ·rw [if_neg (by simpa using h1)]
   by_cases hi0:i=0
   ·have:=hz hi0
    rw [if_neg (by simp [hi0])]
    exact nx (by omega) (by omega)
   ·have:=hp ⟨by omega,by omega⟩
    rw [if_pos (by simp<;>omega),show (i:Int)-1=((i-1:Nat):Int) by omega,ZaD (n:=((i-1:Nat):Int)) (by omega) (by omega),Zam (by omega),Zam (by omega),Int.toNat_natCast,Zgu (show i-1<gs.length by omega),Zaz,ZdM,←this]
    by_cases h2:gs[i].Height≤last
    ·rw [if_pos (by simpa using h2),bad (by omega)];rfl
    ·rw [if_neg (by simpa using h2)];exact nx (by omega) (by omega)
 ·rw [if_neg (by simp<;>omega),hI,List.drop_of_length_le (by omega),p2];rfl
end Go.Dn.F
