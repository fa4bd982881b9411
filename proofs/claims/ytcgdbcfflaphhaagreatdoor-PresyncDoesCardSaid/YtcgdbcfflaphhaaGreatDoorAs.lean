/- What is told: it hangs on the start. -/
import Derived.Test.YtcgdbcfflaphhaaGreatDoorAr
open Int renaming toNat_natCast→zJ,natCast_add→wW
open List renaming length_append→zL,length_singleton→zZ,take_append_of_le_length→uG,length_cons→yU,length_drop→wA,nil_append→xH,getElem?_append_right→zT,getElem_mem→yQ
set_option linter.unusedSimpArgs false
set_option linter.unusedVariables false
set_option maxRecDepth 100000
namespace Go.Dn.F
open Go.Dn Go.Proofs
variable {N:Nat}
theorem ZkV {p:Zak} {gs:List Zck} {cs:List ZbO} {s:Zat} {h:Zaa} {now more:Int} (h0:checkS p gs cs s h now=0) (hle:now≤more):checkS p gs cs s h more=0:=by
 unfold checkS at h0 ⊢
 by_cases h1:hgood h=false
 ·rw [if_pos h1] at h0;simp at h0
 rw [if_neg h1] at h0 ⊢
 by_cases h2:h.Prev≠s.Prev
 ·rw [if_pos h2] at h0;simp at h0
 rw [if_neg h2] at h0 ⊢
 by_cases h3:h.Bits≠nextB p s.Point h.Time
 ·rw [if_pos h3] at h0;simp at h0
 rw [if_neg h3] at h0 ⊢
 by_cases h4:itself p h≠0
 ·rw [if_pos h4] at h0;simp at h0
 rw [if_neg h4] at h0 ⊢
 by_cases h5:((tims s.Times).length==0||decide (h.Time>M (tims s.Times)))=false
 ·rw [if_pos h5] at h0;simp at h0
 rw [if_neg h5] at h0 ⊢
 by_cases h6:near h.Time now p.Future=false
 ·rw [if_pos h6] at h0;simp at h0
 rw [if_neg h6] at h0
 have h7 : ¬ near h.Time more p.Future=false:=by
  unfold near at h6 ⊢;simp only [decide_eq_false_iff_not,Decidable.not_not] at h6 ⊢;omega
 rw [if_neg h7];exact h0
structure TwOk (k:Lk) (tw:List Zaa):Prop where
 c : ∀i (h:i<tw.length),checkS k.p k.gs k.cs (spF k.p k.a (tw.take i)) tw[i] 1099511627776=0
 w : ∀x∈tw,WfH x
theorem TwOk.nil (k:Lk):TwOk k []:=⟨fun i h=>by simp at h,fun x h=>by simp at h⟩
theorem TwOk.snoc {k:Lk} {tw:List Zaa} {h:Zaa} (T:TwOk k tw) (hw:WfH h) (hc:checkS k.p k.gs k.cs (spF k.p k.a tw) h 1099511627776=0):TwOk k (tw ++ [h]) where
 c:=fun i hi=>by
  rw [zL,zZ] at hi
  by_cases e:i<tw.length
  ·rw [List.getElem_append_left e,uG (by omega)];exact T.c i e
  ·have:i=tw.length:=by omega
   subst this
   rw [List.take_left' rfl,List.getElem_append_right (Nat.le_refl _)]
   simpa using hc
 w:=fun x hx=>by
  rcases List.mem_append.1 hx with h1 | h1
  ·exact T.w x h1
  ·simp only [List.mem_singleton] at h1;rw [h1];exact hw
theorem Zmi {k:Lk} {now:Int} (hn:now≤4294967296) (seen:List Zaa) : ∀(l:List Zaa) (d:Bool) (tw:List Zaa),TwOk k tw→(∀x∈l,WfH x) →
  TwOk k (againA N k now seen d tw l).2.1∧tw <+: (againA N k now seen d tw l).2.1∧(againA N k now seen d tw l).2.1.length≤tw.length+l.length
 | [],d,tw,T,_=>by unfold againA;exact ⟨T,List.prefix_refl _,by simp⟩
 | h::t,d,tw,T,hl=>by
  unfold againA
  split
  ·rename_i hc
   obtain ⟨k1,k2,k3⟩:=Zmi hn seen t (d || !decide (wkF k.w (tw ++ [h])<k.mw)) (tw ++ [h]) (T.snoc (hl h (by simp)) (ZkV hc.1 (by omega))) (fun x hx=>hl x (by simp [hx]))
   refine ⟨k1,List.IsPrefix.trans (List.prefix_append _ _) k2,?_⟩
   rw [zL,zZ] at k3
   rw [yU];omega
  ·exact ⟨T,List.prefix_refl _,by simp⟩
structure StOk (k:Lk) (A:Ab):Prop where
 t:TwOk k A.tw
 l:A.told≤A.tw.length
 one:A.ph=1→A.tw = []
theorem feed_ok {k:Lk} {size now:Int} {more:Bool} {l:List Zaa} {A:Ab} (S:StOk k A) (hl : ∀x∈l,WfH x) :
  StOk k (feedA N k size now more l A).2.2∧(feedA N k size now more l A).2.2.tw.take (feedA N k size now more l A).2.2.told=A.tw.take A.told++(feedA N k size now more l A).1 ∧
   ((feedA N k size now more l A).2.1≠0→(feedA N k size now more l A).1 = [])∧(feedA N k size now more l A).2.2.tw.length≤A.tw.length+64∧(feedA N k size now more l A).2.2.told=A.told+(feedA N k size now more l A).1.length:=by
 have same : ∀e:Int,StOk k A∧A.tw.take A.told=A.tw.take A.told++([]:List Zaa)∧(e≠0→([]:List Zaa) = [])∧A.tw.length≤A.tw.length+64∧A.told=A.told+([]:List Zaa).length:=fun e=>⟨S,by simp,fun _=>rfl,by omega,by simp⟩
 have dead : ∀e:Int,StOk k {A with ph:=0}∧A.tw.take A.told=A.tw.take A.told++([]:List Zaa)∧(e≠0→([]:List Zaa) = [])∧A.tw.length≤A.tw.length+64∧A.told=A.told+([]:List Zaa).length:=fun e=>⟨⟨S.t,S.l,fun h=>by cases h⟩,by simp,fun _=>rfl,by omega,by simp⟩
 unfold feedA
 by_cases h1:A.ph=0∨A.ph=3
 ·rw [if_pos h1];exact same 9
 rw [if_neg h1]
 by_cases h2:now<0∨now>4294967296∨l.length>64
 ·rw [if_pos h2];exact same 1
 rw [if_neg h2]
 by_cases h3:A.ph=1
 ·rw [if_pos h3]
  have e:=S.one h3
  have hto:=S.l
  rw [e] at hto
  have hto0:A.told=0:=by simpa using hto
  by_cases h4:(lookA N k now A.seen l).1≠0
  ·rw [if_pos h4];exact dead _
  rw [if_neg h4]
  by_cases h5:more=false∧(lookA N k now A.seen l).2.2=false
  ·rw [if_pos h5];exact dead _
  rw [if_neg h5]
  exact ⟨⟨TwOk.nil k,by simp,fun _=>rfl⟩,by rw [e];simp,fun h=>absurd rfl h,by simp,by rw [hto0];simp⟩
 ·rw [if_neg h3]
  obtain ⟨k1,k2,k3⟩:=Zmi (N:=N) (k:=k) (now:=now) (by omega) A.seen l false A.tw S.t hl
  generalize againA N k now A.seen false A.tw l=R at k1 k2 k3 ⊢
  by_cases h4:R.1≠0
  ·rw [if_pos h4];exact dead _
  rw [if_neg h4]
  by_cases h5:more=false∧R.2.2=false
  ·rw [if_pos h5];exact dead _
  rw [if_neg h5]
  dsimp only
  have hle:tellN size ⟨ph2 R.2.2,A.seen,R.2.1,A.told⟩≤R.2.1.length-A.told:=by
   unfold tellN
   dsimp only
   rw [wA]
   split<;>omega
  generalize tellN size ⟨ph2 R.2.2,A.seen,R.2.1,A.told⟩=t at hle ⊢
  have hp:=k2.length_le
  have ho:=S.l
  obtain ⟨r,hr⟩:=k2
  refine ⟨⟨k1,by dsimp only;omega,fun h=>by exfalso;revert h;cases R.2.2<;>simp [ph2]⟩,?_,fun h=>absurd rfl h,by omega,by rw [List.length_take,wA];omega⟩
  rw [List.take_add,←hr,uG ho]
section
variable {c:Zbc} {k:Lk} {L:List Zaa}
end
end Go.Dn.F
namespace Go.Dn.F
open Go.Dn Go.Proofs
variable {N:Nat}
theorem Zmm {x:Int} (h:isN x):wkAdd 0 x=x:=by unfold wkAdd isN at *;rw [Int.zero_add,if_neg (by omega)]
theorem wkF_cons (w:Int) (x:Zaa) (l:List Zaa):wkF w (x::l)=wkF (wkAdd w (wkBits x.Bits)) l:=rfl
section
variable {k:Lk} {L:List Zaa} {c:Zbc} {st:LL} {i j:Nat} {s:Sy} {b:Zax} {n cc:Nat} {A:Ab} {sz need:Int} {G:(Option Nat)×LL×Int×LL→Option (Bool×LL)}
end
end Go.Dn.F
namespace Go.Dn.F
open Go.Dn Go.Proofs
variable {N:Nat}
def Gd (plan:Zbo) (size now:Int):Prop:=planOk plan∧1≤size∧size≤64∧0≤now∧now≤4294967296
theorem Znf (hN:1000≤N) {p:Zak} {gs:List Zck} {cs:List ZbO} (hg:p.Gates=rowG gs) (hc:p.Checks=rowC cs) (lg:gs.length≤400) (lc:cs.length≤400) (hgd:rgood p gs cs=true) (hp:WfP p) {a:Zat} (ha:wfS a=true) {w:Int} (hw:isN w) (plan:Zbo) (size now:Int) (st:LL) (hh:0≤a.Point.Height∧a.Point.Height≤1000000) :
  (∃st',ZcR N p (ZdE.mk a (nw w)) plan size now st=some (none,1,st')∧¬ Gd plan size now)∨∃(zs:List Int) (m mw:Int) (s:Sy) (b:Zax) (st':LL),a.Times=rowI zs∧ZcR N p (ZdE.mk a (nw w)) plan size now st=some (some (st.length+1),0,st')∧st'.length=st.length+2∧SyF N ⟨p,gs,cs,plan,a,w,mw,m⟩ st' (st.length+1) st.length s b 0 0 ⟨1,[],[],0⟩∧s.size=size∧Gd plan size now ∧
   ZcE N plan (if (0:Int)>(w64 ((w64 (now+p.Future))-M zs)) then 0 else (w64 ((w64 (now+p.Future))-M zs)))=some m∧0≤m∧m≤51539607553:=by
 unfold ZcR Zea
 obtain ⟨b,e,h1,h2⟩:=ZhM (N:=N) plan
 rw [e,Zad]
 cases b with
 | false=>exact .inl ⟨_,rfl,fun g=>by have:=h2 g.1;simp at this⟩
 | true=>
  have ok:=h1 rfl
  rw [if_neg (by simp),Zad]
  dsimp only
  rw [if_neg (by simp)]
  by_cases s1:size<1
  ·rw [if_pos (by simpa using s1)];exact .inl ⟨_,rfl,by unfold Gd;omega⟩
  rw [if_neg (by simpa using s1)]
  by_cases s2:size>64
  ·rw [if_pos (by simpa using s2)];exact .inl ⟨_,rfl,by unfold Gd;omega⟩
  rw [if_neg (by simpa using s2)]
  by_cases n1:now<0
  ·rw [if_pos (by simpa using n1)];exact .inl ⟨_,rfl,by unfold Gd;omega⟩
  rw [if_neg (by simpa using n1)]
  by_cases n2:now>4294967296
  ·rw [if_pos (by simpa using n2)];exact .inl ⟨_,rfl,by unfold Gd;omega⟩
  rw [if_neg (by simpa using n2),Zkk (by omega) hg lg hc lc,hgd,Zad,if_neg (by simp)]
  have isT:isI a.Times=true:=by simp only [wfS,Bool.and_eq_true] at ha;exact ha.1
  have lT:a.Times.length<1000000:=by simp only [wfS,Bool.and_eq_true,decide_eq_true_eq] at ha;exact ha.2
  obtain ⟨zs,ez⟩ : ∃zs,a.Times=rowI zs:=⟨_,ZgL isT⟩
  obtain ⟨m,em,m0,m1⟩:=Most_eq (N:=N) ok (if (0:Int)>(w64 ((w64 (now+p.Future))-M zs)) then 0 else (w64 ((w64 (now+p.Future))-M zs))) (by split<;>omega)
  obtain ⟨mw,hmw,emw⟩:=Zmt hp.m.1 (fun x hx=>isW_of (hp.m.2 x hx))
  rw [Zah (by rw [hg,xH,Zlh];omega),Zah (by rw [hc,xH,Zli];omega),Zah (by rw [xH];omega)]
  rw [ez,ZkD,Zad,em,Zad,List.set_set,List.set_set,←ez]
  have e1:(st ++ [Zax.lo ⟨plan,[],0,0⟩]:LL).length=st.length+1:=by simp
  rw [e1]
  have B:SyB gs cs ((st ++ [Zax.lo ⟨plan,[],0,0⟩]) ++ [Sy.ll ⟨p,a,nw w,a,nw w,some st.length,1,m,size,[]⟩]) (st.length+1) st.length ⟨p,a,nw w,a,nw w,some st.length,1,m,size,[]⟩ ⟨plan,[],0,0⟩ 0 0:=by
   refine ⟨?_,?_,rfl,by omega,hg,hc,⟨mw,hmw,emw⟩,ha,ha,⟨w,hw,rfl⟩,⟨w,hw,rfl⟩,⟨ok,⟨[],rfl,rfl⟩,rfl,by simp⟩,Nat.le_refl _,⟨[],rfl,by simp⟩,by dsimp only;omega⟩
   ·rw [zT (by simp)];simp
   ·rw [List.getElem?_append_left (by simp),zT (by simp)];simp
  refine .inr ⟨zs,m,mw,⟨p,a,nw w,a,nw w,some st.length,1,m,size,[]⟩,⟨plan,[],0,0⟩,((st ++ [Zax.lo ⟨plan,[],0,0⟩]) ++ [Sy.ll ⟨p,a,nw w,a,nw w,some st.length,1,m,size,[]⟩]),ez,?_,by simp,?_,rfl,⟨ok,by omega,by omega,by omega,by omega⟩,em,m0,m1⟩
  ·have hset : ∀(x y:List L),(((st ++ [Zax.lo ⟨plan,[],0,0⟩]) ++ [x]:LL).set (st.length+1) y)=((st ++ [Zax.lo ⟨plan,[],0,0⟩]) ++ [y]):=by
    intro x y
    rw [List.set_append_right _ _ (by simp)];simp
   rw [hset];rfl
  ·exact {
    B:=B,p:=rfl,mw:=⟨emw,hmw⟩,a:=fun _=>⟨rfl,rfl⟩,w:=hw,most:=rfl,ht:=hh,ph:=rfl,ls:=⟨by simp,by simp⟩
    bk:=fun _=>⟨⟨ok,⟨[],rfl,by simp [Lk.bt,btF],by simp,fun i hi=>by simp at hi⟩,rfl,by simp⟩,rfl⟩
    one:=fun _=>⟨rfl,rfl,rfl,rfl,rfl,rfl⟩
    two:=fun h=>by rcases h with h | h<;>cases h
    met:=fun h=>by cases h}
theorem ZnN (hN:1000≤N) {c:Zbc} {base:List Zaa} (hc:WfCase c base) (h20:base.length≤20) {gs:List Zck} {cs:List ZbO} (hg:c.P.Gates=rowG gs) (hk:c.P.Checks=rowC cs) (lg:gs.length≤400) (lc:cs.length≤400) (hgd:rgood c.P gs cs=true) (st:LL) :
  (∃st',ZbI N c st=some (none,none,st')∧¬ Gd c.Plan c.Size c.Now)∨∃(i j im:Nat) (s:Sy) (b:Zax) (mo:Zab) (mw m:Int) (st':LL),ZbI N c st=some (some i,some im,st')∧SyF N ⟨c.P,gs,cs,c.Plan,spotA c.P (c.P.Genesis::base),wkF (wkBits c.P.Genesis.Bits) base,mw,m⟩ st' i j s b 0 0 ⟨1,[],[],0⟩∧s.size=c.Size∧st'[im]? = some mo.lo∧mo=⟨c.P,rowH (c.P.Genesis::base),[],[],0,c.Plan.Salt,c.Plan.Period,c.Plan.Offset,c.Size,m,1⟩∧im≠i∧im≠j∧im<st'.length∧Gd c.Plan c.Size c.Now:=by
 unfold ZbI
 rw [ZiI (by omega) hc.p.h.w,Zad,Zfa (by omega),Zad]
 have key : ∃r,loopN (ZbI.p1 N c st) N ([c.P.Genesis.ls],0,begin_ c.P,nw (wkBits c.P.Genesis.Bits))=some r∧(((∃st',r=(none,none,st'))∧¬ Gd c.Plan c.Size c.Now)∨∃(i j im:Nat) (s:Sy) (b:Zax) (mo:Zab) (mw m:Int) (st':LL),r=(some i,some im,st')∧SyF N ⟨c.P,gs,cs,c.Plan,spotA c.P (c.P.Genesis::base),wkF (wkBits c.P.Genesis.Bits) base,mw,m⟩ st' i j s b 0 0 ⟨1,[],[],0⟩∧s.size=c.Size∧st'[im]? = some mo.lo∧mo=⟨c.P,rowH (c.P.Genesis::base),[],[],0,c.Plan.Salt,c.Plan.Period,c.Plan.Offset,c.Size,m,1⟩∧im≠i∧im≠j∧im<st'.length∧Gd c.Plan c.Size c.Now):=by
  refine Zeb (Q:=fun r:(Option Nat)×(Option Nat)×LL=>((∃st',r=(none,none,st'))∧¬ Gd c.Plan c.Size c.Now)∨∃(i j im:Nat) (s:Sy) (b:Zax) (mo:Zab) (mw m:Int) (st':LL),r=(some i,some im,st')∧SyF N ⟨c.P,gs,cs,c.Plan,spotA c.P (c.P.Genesis::base),wkF (wkBits c.P.Genesis.Bits) base,mw,m⟩ st' i j s b 0 0 ⟨1,[],[],0⟩∧s.size=c.Size∧st'[im]? = some mo.lo∧mo=⟨c.P,rowH (c.P.Genesis::base),[],[],0,c.Plan.Salt,c.Plan.Period,c.Plan.Offset,c.Size,m,1⟩∧im≠i∧im≠j∧im<st'.length∧Gd c.Plan c.Size c.Now) (fun m (x:LL×Int×Zat×(List Int))=>∃(k:Nat),k+m=base.length∧x=(rowH (c.P.Genesis::base.take k),(k:Int),spotA c.P (c.P.Genesis::base.take k),nw (wkF (wkBits c.P.Genesis.Bits) (base.take k)))) ?_ N base.length _ ⟨0,by omega,rfl⟩ (by omega)
  rintro G m _ ⟨k,hkm,rfl⟩ hG
  have hw:isN (wkF (wkBits c.P.Genesis.Bits) (base.take k)):=Zfi _ (Zeu _)
  have ha:wfS (spotA c.P (c.P.Genesis::base.take k))=true:=ZmQ _ _
  have lt:(base.take k).length=k:=by rw [List.length_take];omega
  unfold ZbI.p1
  dsimp only
  rw [hc.b,ZdJ]
  by_cases hlt:k<base.length
  ·have wb:=hc.w _ (yQ hlt)
   rw [if_pos (by simp<;>omega),Zah (by omega),zJ,Zee hlt,ZaC,ZbU,Zex (by omega) wb.w ha,Zad,Zah (by rw [zL,zZ,ZcX,yU];omega),Zfa (by omega),Zad,ZhA (by omega) hw (Zeu _),Zad,ZaE (by omega) (by omega)]
   have et:base.take (k+1)=base.take k ++ [base[k]]:=by rw [List.take_add_one,List.getElem?_eq_getElem hlt];rfl
   exact hG (m-1) _ (by omega) ⟨k+1,by omega,by rw [wW,et,←List.cons_append,Zmn,ZhJ];unfold rowH;rw [List.map_append];rfl⟩
  ·rw [if_neg (by simp<;>omega)]
   have ek:base.take k=base:=List.take_of_length_le (by omega)
   have hht:(spotA c.P (c.P.Genesis::base.take k)).Point.Height=base.length+1:=by rw [ZeN _ _ (by rw [yU];omega),yU,ek];omega
   rcases Znf hN hg hk lg lc hgd hc.p ha hw c.Plan c.Size c.Now st (by omega) with ⟨st',e,ng⟩ | ⟨zs,mm,mw,s,b,st',ez,e,el,S,es,gd,eM,m0,m1⟩
   ·rw [e,Zad]
    dsimp only
    rw [if_pos (by rfl)]
    exact ⟨_,rfl,.inl ⟨⟨st',rfl⟩,ng⟩⟩
   ·rw [e,Zad]
    dsimp only
    rw [if_neg (by simp),ez,Zjh N (by omega),Zad,eM,Zad]
    rw [ek] at S ⊢
    exact ⟨_,rfl,.inr ⟨st.length+1,st.length,st'.length,s,b,⟨c.P,rowH (c.P.Genesis::base),[],[],0,c.Plan.Salt,c.Plan.Period,c.Plan.Offset,c.Size,mm,1⟩,mw,mm,_,rfl,S.app _,es,by rw [zT (Nat.le_refl _),Nat.sub_self];rfl,rfl,by omega,by omega,by simp,gd⟩⟩
 obtain ⟨r,e,h⟩:=key
 rw [e]
 rcases h with ⟨⟨st',rfl⟩,ng⟩ | ⟨i,j,im,s,b,mo,mw,m,st',rfl,h⟩
 ·exact .inl ⟨st',rfl,ng⟩
 ·exact .inr ⟨i,j,im,s,b,mo,mw,m,st',rfl,h⟩
theorem ZlT {k:Lk} {now:Int} : ∀(l seen:List Zaa),(∀x∈seen,WfH x)→(∀x∈l,WfH x)→∀x∈(lookA N k now seen l).2.1,WfH x
 | [],seen,h,_=>by unfold lookA;exact h
 | y::t,seen,h,hl=>by
  have h2 : ∀x∈seen ++ [y],WfH x:=fun x hx=>by
   rcases List.mem_append.1 hx with h1 | h1
   ·exact h x h1
   ·simp only [List.mem_singleton] at h1;rw [h1];exact hl y (by simp)
  unfold lookA
  split
  ·split
   ·exact h2
   ·split
    ·exact ZlT t _ h2 (fun x hx=>hl x (by simp [hx]))
    ·exact h2
  ·exact h
theorem ZmC {k:Lk} {size now:Int} {more:Bool} {l:List Zaa} {A:Ab} (h : ∀x∈A.seen,WfH x) (hl : ∀x∈l,WfH x) : ∀x∈(feedA N k size now more l A).2.2.seen,WfH x:=by
 unfold feedA
 split
 ·exact h
 split
 ·exact h
 split
 ·split
  ·exact h
  split
  ·exact h
  ·exact ZlT l _ h hl
 ·split
  ·exact h
  split
  ·exact h
  ·exact h
theorem Zkt (hN:1000≤N) {k:Lk} {size:Int} {bl:Nat} (hg:k.p.Gates=rowG k.gs) (lg:k.gs.length≤400) (hc:k.p.Checks=rowC k.cs) (lc:k.cs.length≤400) {m:Zab} {sn tw:List Zaa} {told:Nat} {A:Ab} (R:RefM k size bl m sn tw told A.ph)
  (hA:A.ph≠0→sn=A.seen∧tw=A.tw∧told=A.told) (hph:A.ph=0∨A.ph=1∨A.ph=2∨A.ph=3) {st:LL} {im c:Nat} (hm:st[im]? = some m.lo) (one:A.ph=1→A.tw = []∧A.told=0) (two:A.ph=2→A.told≤A.tw.length∧k.bt N A.tw <+: k.bt N A.seen)
  (ls:sn.length≤c∧tw.length≤c) (hcc:c≤704) (ws : ∀x∈A.seen,WfH x) (wt : ∀x∈A.tw,WfH x) (l:List Zaa) (hl : ∀x∈l,WfH x) (now:Int) (more:Bool) :
  ∃r,Zaf N (some im) now more (rowH l) st=some r∧FinR k size bl st im (c+64) (feedA N k size now more l A) r:=by
 have same : ∀e:Int,∃r,(some (([]:LL),e,st):Option (LL×Int×LL))=some r∧FinR k size bl st im (c+64) ([],e,A) r:=fun e=>
  ⟨_,rfl,rfl,rfl,m,sn,tw,told,by rw [Zga hm],R,by omega,by omega,hA⟩
 unfold Zaf feedA
 rw [Zad,hm,ZaC,Zbg,R.ph]
 by_cases p0:A.ph=0
 ·rw [if_pos (by simpa using p0),if_pos (.inl p0)];exact same 9
 rw [if_neg (by simpa using p0)]
 by_cases p3:A.ph=3
 ·rw [if_pos (by simpa using p3),if_pos (.inr p3)];exact same 9
 rw [if_neg (by simpa using p3),if_neg (c:=A.ph=0∨A.ph=3) (by simp [p0,p3])]
 by_cases n0:now<0
 ·rw [if_pos (by simpa using n0),if_pos (.inl n0)];exact same 1
 rw [if_neg (by simpa using n0)]
 by_cases n1:now>4294967296
 ·rw [if_pos (by simpa using n1),if_pos (.inr (.inl n1))];exact same 1
 rw [if_neg (by simpa using n1),ZdJ]
 by_cases n2:(l.length:Int)>64
 ·rw [if_pos (by simpa using n2),if_pos (.inr (.inr (by omega)))];exact same 1
 rw [if_neg (by simpa using n2),if_neg (c:=now<0∨now>4294967296∨l.length>64) (by omega)]
 obtain ⟨e1,e2,e3⟩:=hA p0
 subst e1 e2 e3
 by_cases p1:A.ph=1
 ·obtain ⟨o1,o2⟩:=one p1
  rw [p1,o1,o2] at R
  rw [if_pos p1]
  exact ZjC hN hg lg hc lc R hm now (by omega) more l hl (by omega) (by omega) (fun x hx=>(ws x hx).w) (by omega) A
 ·have p2:A.ph=2:=by rcases hph with h | h | h | h<;>first | exact h | contradiction
  obtain ⟨t1,t2⟩:=two p2
  rw [p2] at R
  rw [if_neg p1]
  exact ZiJ hN hg lg hc lc R hm now (by omega) more l hl (by omega) (by omega) (fun x hx=>(ws x hx).w) (by omega) (fun x hx=>(wt x hx).w) t1 t2 ⟨by omega,by omega⟩ A
theorem SyF.seto {k:Lk} {st:LL} {i j im:Nat} {s:Sy} {b:Zax} {n c:Nat} {A:Ab} (S:SyF N k st i j s b n c A) (hi:im≠i) (hj:im≠j) (x:List L):SyF N k (st.set im x) i j s b n c A:=
 ⟨⟨by rw [List.getElem?_set_ne hi];exact S.B.o,by rw [List.getElem?_set_ne hj];exact S.B.k,S.B.bk,S.B.ij,S.B.hg,S.B.hc,S.B.mw,S.B.wa,S.B.wb,S.B.sw,S.B.bw,S.B.bo,S.B.nc,S.B.bu,S.B.sz⟩,S.p,S.mw,S.a,S.w,S.most,S.ht,S.ph,S.ls,S.bk,S.one,S.two,S.met⟩
theorem ask_last {k:Lk} {base l:List Zaa} (ea:k.a=spotA k.p base) (h0:0<base.length) (hl:base.length+l.length≤1000) :
  (spF k.p k.a l).Prev=hid ((base++l)[(base++l).length-1]'(by rw [zL];omega)):=by
 rw [ea,Zkh]
 exact (Zhd _ _ (by rw [zL];omega)).2.2
theorem Znk (st:LL):(optE (ZaP N none 1 true [] st) fun (x300,x301,st302)=>
  if (x301==2)=true then
   optE (Zcv N none st302) fun (x303,st304)=>
   if (x303==0)=true then
    optE (ZcK N none st304) fun (x305,st306)=>
    if (x305==(List.replicate 32 0))=true then
     optE (ZcD N none st306) fun (x307,st308)=>
     optE (ZcC N none st308) fun (x309,st310)=>
     some ((w64 (x307+x309))==0,st310)
    else some (false,st306)
   else some (false,st304)
  else some (false,st302))=some (true,st):=rfl
theorem ZiO {c:Zbc} {base:List Zaa} (hc:WfCase c base) (l:List Zbr) (hl : ∀x∈l,WfMsg x) (hb:l.length≤maxLen) :
  ∃st,Zag (l.length+base.length+1000) c (rowMs l) []=some (true,st):=by
 obtain ⟨s1,al⟩:=alive19 (N:=l.length+base.length+1000) (by omega)
 unfold Zag
 rw [al,Zad]
 dsimp only
 rw [if_neg (by simp)]
 obtain ⟨b,e,hgr⟩:=ZmA (N:=l.length+base.length+1000) hc l hl (by omega) hb
 rw [e,Zad]
 cases b with
 | true=>rw [if_pos rfl];exact ⟨_,rfl⟩
 | false=>
  obtain ⟨h12,h20,gs,cs,eg,ec,lg,lc,hgd⟩:=hgr rfl
  generalize hN:l.length+base.length+1000=N
  rw [if_neg (by simp)]
  obtain ⟨gb,egb,g1,g2⟩:=ZhM (N:=N) c.Plan
  rcases ZnN (N:=N) (by omega) hc h20 eg ec lg lc hgd s1 with ⟨st',e,ng⟩ | ⟨i,j,im,s,bk,mo,mw,m,st',e,S,es,hm,hmb,hi,hj,hml,gd⟩
  ·rw [e,Zad]
   dsimp only
   rw [egb,Zad]
   have fin : ∃st,Zag.p1 N (rowMs l) none none false st'=some (true,st):=by
    unfold Zag.p1
    rw [if_pos (by rfl),if_pos (by rfl)];exact ⟨_,rfl⟩
   cases gb with
   | false=>rw [if_neg (by simp)];exact fin
   | true=>
    rw [if_pos rfl]
    have hp:=g1 rfl
    by_cases z1:c.Size≥1
    ·rw [if_pos (by simpa using z1)]
     by_cases z2:c.Size≤64
     ·rw [if_pos (by simpa using z2)]
      by_cases z3:c.Now≥0
      ·rw [if_pos (by simpa using z3),decide_eq_false (fun h=>ng ⟨hp,by omega,by omega,by omega,h⟩)];exact fin
      ·rw [if_neg (by simpa using z3)];exact fin
     ·rw [if_neg (by simpa using z2)];exact fin
    ·rw [if_neg (by simpa using z1)];exact fin
  ·obtain ⟨gp,z1,z2,n0,n1⟩:=gd
   rw [e,Zad]
   dsimp only
   rw [egb,Zad,g2 gp,if_pos rfl,if_pos (by simpa using z1),if_pos (by simpa using z2),if_pos (by simpa using n0),decide_eq_true n1]
   unfold Zag.p1
   rw [if_neg (by simp),if_neg (by simp)]
   generalize hk:(⟨c.P,gs,cs,c.Plan,spotA c.P (c.P.Genesis::base),wkF (wkBits c.P.Genesis.Bits) base,mw,m⟩:Lk)=k at S
   have kp:k.p=c.P:=by rw [←hk]
   have kg:k.gs=gs:=by rw [←hk]
   have kc:k.cs=cs:=by rw [←hk]
   have ka:k.a=spotA c.P (c.P.Genesis::base):=by rw [←hk]
   have kpl:k.plan=c.Plan:=by rw [←hk]
   have km:k.most=m:=by rw [←hk]
   have kw:k.w=wkF 0 (c.P.Genesis::base):=by rw [wkF_cons,Zmm (Zeu _),←hk]
   have nl:k.gs.length≤400:=by rw [kg];exact lg
   have nc:k.cs.length≤400:=by rw [kc];exact lc
   have pg:k.p.Gates=rowG k.gs:=by rw [kp,kg];exact eg
   have pc:k.p.Checks=rowC k.cs:=by rw [kp,kc];exact ec
   have hmw:k.p.MinWork=nw k.mw∧isN k.mw:=by have:=S.mw;rw [S.p] at this;exact this
   have R0:RefM k c.Size (base.length+1) mo [] [] 0 1:=by
    rw [hmb]
    exact ⟨kp.symm,⟨c.P.Genesis::base,rfl,rfl,by omega,by omega,fun x hx=>by
     rcases List.mem_cons.1 hx with h | h
     ·rw [h];exact hc.p.h.w
     ·exact (hc.w x h).w,by rw [ka,kp],kw⟩,rfl,rfl,rfl,⟨by rw [kpl],by rw [kpl],by rw [kpl],by rw [kpl];exact gp⟩,⟨rfl,by omega,by omega⟩,km.symm,hmw,rfl⟩
   suffices h : ∃r,loopN (Zag.p2 N (rowMs l)) N (some i,some im,0,st')=some r∧r.1=true by
    obtain ⟨⟨r1,r2⟩,h1,h2⟩:=h
    dsimp only at h2
    exact ⟨r2,by rw [h1,h2]⟩
   refine Zeb (Q:=fun r:Bool×LL=>r.1=true) (fun q (x:(Option Nat)×(Option Nat)×Int×LL)=>∃(v:Nat) (st:LL) (s:Sy) (bk:Zax) (n:Nat) (A:Ab) (m:Zab) (sn tw:List Zaa) (told:Nat),
     x=(some i,some im,(v:Int),st)∧v+q=l.length∧SyF N k st i j s bk n (64*v) A∧A.ph∈([0,1,2,3]:List Int)∧StOk k A∧(∀x∈A.seen,WfH x)∧st[im]? = some m.lo∧RefM k c.Size (base.length+1) m sn tw told A.ph∧(A.ph≠0→sn=A.seen∧tw=A.tw∧told=A.told)∧(sn.length≤64*v∧tw.length≤64*v)∧s.size=c.Size) ?_ N l.length _
    ⟨0,st',s,bk,0,_,mo,[],[],0,rfl,by omega,S,by simp,⟨TwOk.nil k,by simp,fun _=>rfl⟩,by simp,hm,R0,fun _=>⟨rfl,rfl,rfl⟩,by simp,es⟩ (by omega)
   clear S hm R0 hml es hk
   rintro G q _ ⟨v,st,s,bk,n,A,m,sn,tw,told,rfl,hv,S,hph,T,ws,hm,R,hA,hls,es⟩ hG
   unfold Zag.p2
   dsimp only
   rw [ZkG]
   by_cases hlt:v<l.length
   ·obtain ⟨hs,eh,wh,lh⟩:=(hl _ (yQ hlt)).l
    obtain ⟨st2,s2,b2,n2,eF,S2,hp2,K,q1,q2,q3⟩:=Feed_F (by omega) nl nc S (by simpa using hph) (by omega) hs wh l[v].Now l[v].More
    obtain ⟨T2,et,ee,lt2,to2⟩:=feed_ok (N:=N) (size:=s.size) (now:=l[v].Now) (more:=l[v].More) T wh
    have ws2:=ZmC (N:=N) (k:=k) (size:=s.size) (now:=l[v].Now) (more:=l[v].More) ws wh
    have hm2:st2[im]? = some m.lo:=by rw [K.2 im hi hj (List.getElem?_eq_some_iff.1 hm).1];exact hm
    obtain ⟨⟨r1,r2,r3⟩,eR,FR⟩:=Zkt (N:=N) (by omega) pg nl pc nc R hA (by simpa using hph) hm2 (fun h=>⟨(S.one h).2.2.2.2.1,(S.one h).2.2.2.2.2⟩) (fun h=>⟨T.l,(S.met h).2⟩) hls (by omega) ws T.t.w hs wh l[v].Now l[v].More
    rw [if_pos (by simp only [decide_eq_true_eq];omega),Zah (by omega),zJ,Zko hlt,ZaC,ZdW,eh,eF,Zad]
    dsimp only
    rw [eR,Zad]
    dsimp only
    rw [es] at S2 hp2 T2 et ee lt2 to2 ws2 ⊢
    generalize feedA N k c.Size l[v].Now l[v].More hs A=X at S2 hp2 T2 et ee lt2 to2 ws2 FR ⊢
    obtain ⟨out,er,A2⟩:=X
    obtain ⟨f1,f2,m2,sn2,tw2,told2,f3,R2,l1,l2,hA2⟩:=FR
    dsimp only at S2 hp2 T2 et ee lt2 to2 ws2 f1 f2 f3 R2 hA2 ⊢
    subst f1 f2 f3
    have S3:=S2.seto hi hj m2.lo
    have hm3:(st2.set im m2.lo)[im]? = some m2.lo:=List.getElem?_set_self (List.getElem?_eq_some_iff.1 hm2).1
    generalize st2.set im m2.lo=st3 at S3 hm3 ⊢
    have eo : ∀{α:Type} (f:Nat→Option α),optE s2.bk f=f j:=fun f=>by rw [S3.B.bk];rfl
    rw [if_neg (by simp),if_neg (by simp),Zad,S3.B.o,ZaC,ZfF,eo,S3.B.k,ZaC,ZbW]
    unfold ZbV
    dsimp only
    rw [Zad,Zad,hm3,ZaC,Zbg,R2.ph,S3.ph,if_neg (by simp)]
    have lout:out.length≤1000:=by
     have h1:=T2.l
     have h2:=S3.ls.2
     omega
    refine Zeb (Q:=fun r:Bool×LL=>r.1=true) (fun q2 (x:Int)=>∃u:Nat,x=(u:Int)∧u+q2=out.length) ?_ N out.length _ ⟨0,rfl,by omega⟩ (by omega)
    rintro G2 q2 _ ⟨u,rfl,hu⟩ hG2
    unfold Zag.p3
    rw [ZdJ]
    by_cases hul:u<out.length
    ·rw [if_pos (by simp only [decide_eq_true_eq];omega),Zah (by omega),Nat.zero_add,zJ,Zee hul,ZaC,ZbU,Zah (by omega),ZaC,ZbU,if_neg (by simp),ZaE (by omega) (by omega)]
     exact hG2 (q2-1) _ (by omega) ⟨u+1,by rw [wW];rfl,by omega⟩
    ·rw [if_neg (by simp only [decide_eq_true_eq];omega)]
     obtain ⟨bs,eb,lb,b0,b30,wb,ea,ew⟩:=R2.base
     have next : ∃r,G (some i,some im,w64 ((v:Int)+1),st3)=some r∧r.1=true:=by
      rw [ZaE (by omega) (by omega)]
      exact hG (q-1) _ (by omega) ⟨v+1,st3,s2,b2,n2,A2,m2,sn2,tw2,told2,by rw [wW];rfl,by omega,S3.more (by omega),hp2,T2,ws2,hm3,R2,hA2,⟨by omega,by omega⟩,q3.trans es⟩
     have p4 : ∃r,Zag.p4 N G i im (rowMs l) (v:Int) (rowH out) (rowH out) A2.ph m2 st3=some r∧r.1=true:=by
      have p5 : ∀L:List Zaa,(A2.ph≠0→s2.b=spF k.p k.a L∧∀x∈L,WfH x)→L.length≤900→∃r,Zag.p5 N G i im (rowH (bs++L)) (rowMs l) (v:Int) (rowH out) (rowH out) A2.ph m2 st3=some r∧r.1=true:=by
       intro L hL lL
       have ll:(bs++L).length=bs.length+L.length:=zL
       unfold Zag.p5
       rw [hm3,ZaC,Zbg,R2.ph]
       by_cases h0:A2.ph>0
       ·obtain ⟨e1,wL⟩:=hL (by omega)
        rw [if_pos (by simpa using h0),S3.B.o,ZaC,ZfF,eo,S3.B.k,ZaC,ZbW]
        unfold Zcw
        dsimp only
        have hlast:(bs++L).length-1<(bs++L).length:=by omega
        have wl:wfH ((bs++L)[(bs++L).length-1])=true:=by
         rcases List.mem_append.1 (yQ hlast) with h | h
         ·exact wb _ h
         ·exact (wL _ h).w
        rw [Zad,ZdJ,ZaE (by omega) (by omega),Zah (by omega),Zah (by omega),show (((bs++L).length:Int)-1).toNat=(bs++L).length-1 by omega,Zee hlast,ZaC,ZbU,ZgG (by omega) _ wl,Zad,e1,ask_last ea (by omega) (by omega),if_neg (by simp)]
        exact next
       ·rw [if_neg (by simpa using h0)]
        exact next
      unfold Zag.p4
      rw [hm3,ZaC,Zbg,R2.ph,R2.seen,R2.tw,eb]
      have ap : ∀L:List Zaa,([]++rowH bs)++rowH L=rowH (bs++L):=fun L=>by rw [xH];simp [rowH]
      rw [ap,ap,xH,Zah (by rw [ZcX];omega),Zah (by rw [ZcX,zL];omega)]
      by_cases h1:A2.ph>1
      ·rw [if_pos (by simpa using h1),Zah (by rw [ZcX,zL];omega)]
       exact p5 tw2 (fun h=>by rw [(hA2 h).2.1];exact ⟨(S3.two (by simp at hp2;omega)).1,T2.t.w⟩) (by omega)
      ·rw [if_neg (by simpa using h1)]
       exact p5 sn2 (fun h=>by rw [(hA2 h).1];exact ⟨(S3.one (by simp at hp2;omega)).1,ws2⟩) (by omega)
     rw [hm3,ZaC,Zbg,R2.ph]
     by_cases h0:A2.ph>0
     ·obtain ⟨a1,a2,a3⟩:=hA2 (by omega)
      have bb:b2.given=((k.bt N sn2).length:Int):=by rw [a1];exact (S3.bk (by omega)).1.g
      have hbuf:s2.buf=rowH (tw2.drop told2):=by
       rw [a2,a3]
       rcases (by simp at hp2;omega:A2.ph=1∨A2.ph=2∨A2.ph=3) with h | h | h
       ·obtain ⟨_,_,h3,_,h5,h6⟩:=S3.one h
        rw [h3,h5,h6];rfl
       ·exact (S3.two (.inl h)).2.2.1
       ·exact (S3.two (.inr h)).2.2.1
      have hto:told2≤tw2.length:=by rw [a2,a3];exact T2.l
      rw [if_pos (by simpa using h0),S3.B.o,ZaC,ZfF,eo,S3.B.k,ZaC,ZbW]
      unfold Zcr Zcq ZbE
      dsimp only
      rw [Zad,Zad,R2.seen,ZeU (by omega) R2 _ (by omega) (by rw [a1];exact fun x hx=>(ws2 x hx).w),Zad,Zah (Zfz _),ZgK,bb,if_neg (by simp),Zad,R2.tw,R2.told,ZdJ,hbuf,ZdJ,wA,ZaE (by omega) (by omega),if_neg (by simp;omega)]
      exact p4
     ·rw [if_neg (by simpa using h0)]
      exact p4
   ·rw [if_neg (by simp only [decide_eq_true_eq];omega)]
    exact ⟨_,Znk st,rfl⟩
theorem PresyncDoes_true {ls:List L} (xs:LL) (h0:LTys tysCase ls) (h1 : ∀x∈xs,LTys tysMsg x) (l1:xs.length≤maxLen) :
  ∃st,Snd Tryz.prog 13 [.agg ls,.one (.sl 3 xs)] [] [.one (.bool true)] st:=by
 obtain ⟨c,base,rfl,hc⟩:=Zni h0
 obtain ⟨l,rfl,hl⟩:=open_Ms h1
 obtain ⟨st,h⟩:=ZiO hc l hl (by rw [Zkn] at l1;exact l1)
 exact ⟨st,Zag.snd h⟩
end Go.Dn.F
