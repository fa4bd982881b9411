import Derived.Test.YthiibbfaabjpgaaGreatDoorAr
set_option linter.all false
open Go.Dn.L renaming ptr->zN
open List renaming getElem?_set_ne->zO,replicate->zB
set_option maxRecDepth 100000
namespace Go.Dn.F
open Go.Dn Go.Proofs
variable {N:Nat}
noncomputable def ch4 (it im is:Nat):List L:=[zN (some it),zN (some im),zN (some is),L.own true 1 (Zgh [0])]
def Zgz {α:Type} (it im is:Nat) (k:Option Nat->Option Nat->Option Nat->LL->Option α):Zct (ch4 it im is) k=k (some it) (some im) (some is) (Zgh [0]):=rfl
structure Zpe (st:LL) (ia it im is ic:Nat) (p:Zae) (room:Int) (ns:List Nd) (lp:List Int):Prop where
 M:ZlR st ia it im p room ns lp S0 O0
 Z:Zlb st ia it is p room ns lp [0]
 c:st[ic]? = some (ch4 it im is)
 nd:im≠is/\im≠ic
 len1:1<=ns.length
section
variable {st:LL} {ia it im is ic:Nat} {p:Zae} {room:Int} {ns:List Nd} {lp:List Int}
def Zpe.gst (C:Zpe st ia it im is ic p room ns lp):Zpe (F.gst st im it ns S0 O0) ia it im is ic p room ns lp:=by
 refine ⟨C.M.gst,⟨C.M.gst.T,?_,C.Z.na,C.Z.nt,C.Z.srt,C.Z.sm⟩,?_,C.nd,C.len1⟩
 ·unfold F.gst;rw [zO C.nd.1];exact C.Z.s
 unfold F.gst;rw [zO C.nd.2];exact C.c
def bad0 (k:Nat):badZ S0 O0 k=false:=by
 unfold badZ;rw [O0_get,Zqx];split<;>rfl
def ZuA (ns:List Nd) (k:Nat):flZ ns S0 O0 k=false:=by
 unfold flZ;rw [List.any_eq_false];intro x _;rw [bad0];simp
def Zri (ns:List Nd) (k:Nat):ldZ ns S0 O0 k=true:=by
 unfold ldZ;rw [ZuA];rfl
def ZqG (ht:ZhE ns) {k:Nat} (hk:k<ns.length):vlZ ns S0 O0 k=decide (k=0):=by
 unfold vlZ allR;rw [ZuA,Bool.not_false,Bool.and_true];by_cases h:k=0
 ·subst h;rcases ZeX ht hk with ⟨_,_,e,_⟩ | ⟨q,hq,_⟩
  ·rw [e];simp only [List.all_cons,List.all_nil];rw [Zqx];rfl
  omega
 obtain ⟨l,e⟩:=ZrH ht hk;rw [e,List.all_append,decide_eq_false h];simp only [List.all_cons,List.all_nil];rw [Zqx,aE h];simp
def srt0 (h:1<=ns.length):ZjS ns [0]:=⟨List.pairwise_singleton _ _,fun x hx=>by cases List.mem_singleton.1 hx;omega⟩
def put0 (hN:1000<=N) (C:Zpe st ia it im is ic p room ns lp) : ∃n,ZaY N (some is) [[L.int .i64 0]] st=some (n,st):=by
 obtain ⟨l',e,hs,_,hm⟩:=Zto hN C.Z [0] aG;have el:l' = [0]:=Zod hs C.Z.srt fun x=>by rw [hm];unfold Zvu;simp<;>omega
 subst el;rw [Zgj C.Z.s] at e;exact ⟨_,e⟩
def drop0 (hN:1000<=N) (C:Zpe st ia it im is ic p room ns lp) {k:Nat} (hk:k≠0) : ∃n,ZaV N (some is) [[L.int .i64 (k:Int)]] st=some (n,st):=by
 obtain ⟨l',e,hs,_,hm⟩:=tDrop_eq hN C.Z [(k:Int)] aG aG;have el:l' = [0]:=Zod hs C.Z.srt fun x=>by rw [hm];simp<;>omega
 subst el;rw [Zgj C.Z.s] at e;exact ⟨_,e⟩
def ZoX (C:Zpe st ia it im is ic p room ns lp):Zcx N (some ic) st=some (0,st):=by
 unfold Zcx;rw [aE aG,Zaa,C.c,Zan,Zgz];rfl
def ZkX (C:Zpe st ia it im is ic p room ns lp):Zca N (some ic) st=some (0,st):=by
 unfold Zca;rw [aE aG,Zaa,C.c,Zan,Zgz,Zaa,C.Z.s,Zan,Zik,Zaa,C.Z.T.t,Zan];unfold Zhn;rw [ZcA,Zaa,C.Z.T.a,Zan,Zbv,tBest_eq,Zaa];rfl
def Zsp (C:Zpe st ia it im is ic p room ns lp):Zda N (some ic) st=some (false,st):=by
 unfold Zda;rw [aE aG,ZoX C,Zaa];dsimp only;rw [ZkX C,Zaa];dsimp only;rw [aD (by rfl)]
def cLook_eq (hN:1000<=N) (C:Zpe st ia it im is ic p room ns lp) : ∃st',ZaN N (some ic) st=some st'/\Zpe st' ia it im is ic p room ns lp/\∀j,j≠im->st'[j]? = st[j]? := by
 have sm:=C.M.small;unfold ZaN;rw [Zaa,C.c,Zan,Zgz,Ztp C.Z.T,Zaa];dsimp only;refine ZfO (Q:=fun st':LL=>Zpe st' ia it im is ic p room ns lp/\∀j,j≠im->st'[j]? = st[j]?) (fun m (s:Int×LL)=>∃(k:Nat) (st1:LL),k+m=ns.length/\s=((k:Int),st1)/\Zpe st1 ia it im is ic p room ns lp/\∀j,j≠im->st1[j]? = st[j]?) ?_ N ns.length _ ⟨0,st,aF,rfl,C,fun _ _=>rfl⟩ aF;rintro G m _ ⟨k,st1,hk,rfl,C1,keep⟩ hG;unfold ZaN.p1 ZaN.p2;dsimp only;by_cases hlt:k<ns.length
 ·have C2:=C1.gst;have keep2 : ∀j,j≠im->(F.gst st1 im it ns S0 O0)[j]? = st[j]? := fun j hj=>by unfold F.gst;rw [zO (Ne.symm hj)];exact keep j hj
  rw [aD aH,C1.c,Zan,Zgz,Valid_eq aF C1.M,Zaa];dsimp only;rw [atZ_nat hlt,ZqG C1.M.T.tr hlt];by_cases h0:k=0
  ·subst h0;obtain ⟨n,e⟩:=put0 hN C2;rw [aD (by rfl),C2.c,Zan,Zgz,show ((0:Nat):Int)=0 from rfl,e,Zaa];dsimp only;exact hG (m-1) _ aF ⟨1,_,aF,rfl,C2,keep2⟩
  obtain ⟨n,e⟩:=drop0 hN C2 h0;rw [aE (by simp [h0]),C2.c,Zan,Zgz,e,Zaa];dsimp only;rw [ZaK aF aF];exact hG (m-1) _ aF ⟨k+1,_,aF,by rw [Int.natCast_add];rfl,C2,keep2⟩
 rw [aE aH,ZoX C1,Zaa];dsimp only;rw [C1.c,Zan,Zgz,tHas_eq hN C1.Z aG,Zaa];dsimp only;have l1:=C1.len1;have i0:inT ns 0=true:=inT_true.2 ⟨aF,aF⟩;have et:ZkC ns [0] 0 = [0]:=by
  unfold ZkC;rw [aD i0];simp only [List.filter_cons,List.filter_nil];rw [aD (by unfold ZhI;rw [show (0:Int).toNat=0 from rfl,ZjH];rfl)]
 obtain ⟨e,_⟩:=tTrim_eq hN C1.Z aG 0;rw [et,Zgj C1.Z.s] at e;rw [aD (by rw [i0];rfl),C1.c,Zan,Zgz,e,Zaa];exact ⟨_,rfl,C1,keep⟩
def ZkY (hN:1000<=N) (C:Zpe st ia it im is ic p room ns lp) : ∃st',ZaF N (some ic) st=some (0,st')/\Zpe st' ia it im is ic p room ns lp/\∀j,j≠im->st'[j]? = st[j]? := by
 obtain ⟨st',e,h⟩:=cLook_eq hN C;refine ⟨st',?_,h⟩;unfold ZaF;obtain ⟨n,rfl⟩ : ∃n,N=n+1:=⟨N-1,aF⟩
 rw [Zaz];unfold ZaF.p1 ZaF.p2;dsimp only;rw [Zsp C,Zaa];dsimp only;rw [aE aG,aD (by rfl),e,Zaa]
def ZuU (hN:1000<=N) {gs:List ZcQ} {cs:List Zcl} (hg:p.Gates=ZmZ gs) (hc:p.Checks=ZjM cs) (lg:gs.length<=400) (lc:cs.length<=400) (hp:WfP p) (hgd:Zmi p gs cs=true) (room:Int) (st:LL) :
  ∃st',Zfe N p room st=some (some (st.length+4),0,st')/\st'.length=st.length+5/\Zpe st' st.length (st.length+1) (st.length+2) (st.length+3) (st.length+4) p (ZhP room) [ZjY p] [-1]:=by
 unfold Zfe;rw [skNew_eq aF hg hc lg lc hp,hgd,aD rfl,Zaa];dsimp only;rw [aE aG];unfold ZgG;rw [Zaa];dsimp only;rw [tNew_eq,Zaa];dsimp only;have T:=skNew_at hp (ZhP room) st;have l2:((st ++ [(aOf p (ZhP room) [ZjY p]).lo]) ++ [Zhn st.length [-1]]:LL).length=st.length+2:=by simp
 have l3:(((st ++ [(aOf p (ZhP room) [ZjY p]).lo]) ++ [Zhn st.length [-1]]) ++ [[zN (some (st.length+1)),L.own true 3 []]]:LL).length=st.length+3:=by simp
 rw [l2,l3];have T3:=T.app [[zN (some (st.length+1)),L.own true 3 []]];have Z:=new_set T3 aG [ch4 (st.length+1) (st.length+2) (st.length+3)];rw [l3] at Z;obtain ⟨l',e,hs,_,hm⟩:=Zto hN Z [0] aG;have el:l' = [0]:=Zod hs (srt0 aG) fun x=>by rw [hm];unfold Zvu;simp<;>omega
 subst el;rw [show ([[zN (some (st.length+1)),zN (some (st.length+2)),zN (some (st.length+3)),L.own true 1 [[L.int .i64 0]]]]:LL) = [ch4 (st.length+1) (st.length+2) (st.length+3)] from rfl,show ([[L.int .i64 0]]:LL)=Zec [0] from rfl,e,Zaa];dsimp only;refine ⟨_,by rw [show ((((st ++ [(aOf p (ZhP room) [ZjY p]).lo]) ++ [Zhn st.length [-1]]) ++ [[zN (some (st.length+1)),L.own true 3 []]]) ++ [ZmY (st.length+1) []]:LL).length=st.length+4 by simp],by simp,⟨⟨Z.T.setIm aF aF,aF,aF,⟨0,by simp,?_,fun i _=>⟨Zqx i,O0_get i⟩⟩,by simp⟩,Z.turn hs,?_,aF,by simp⟩⟩
 ·rw [zO aF];simp [mk2,rowM]
 rw [zO aF];simp
def ZnW (C:Zpe st ia it im is ic p room ns lp):ZcF N (some ic) st=some (Zgh [0],st):=by
 unfold ZcF;rw [aE aG,Zaa,C.c,Zan,Zgz,Zag aG];rfl
end
end Go.Dn.F
namespace Go.Dn.F
open Go.Dn Go.Proofs
variable {N:Nat}
noncomputable def rc3 (ib ir:Nat):List L:=[zN (some ib),zN (some ir),L.own true 1 (Zgh [0])]
def Zra {α:Type} (ib ir:Nat) (k:Option Nat->Option Nat->LL->Option α):Zcs (rc3 ib ir) k=k (some ib) (some ir) (Zgh [0]):=rfl
def bo2 (ic iq:Nat):List L:=[zN (some ic),zN (some iq)]
def ZgS {α:Type} (ic iq:Nat) (k:Option Nat->Option Nat->Option α):Zbh (bo2 ic iq) k=k (some ic) (some iq):=rfl
structure Zph (st:LL) (ia it im is ic ib ir iq ih:Nat) (p:Zae) (ns:List Nd) (lp:List Int):Prop where
 C:Zpe st ia it im is ic p 100 ns lp
 R:Ztc st ib ir p 100 ns S0 O0
 q:st[iq]? = some (rc3 ib ir)
 h:st[ih]? = some (bo2 ic iq)
 o:(im≠ib/\im≠ir/\im≠iq/\im≠ih)/\(ib≠ia/\ib≠it/\ib≠is/\ib≠ic/\ib≠iq/\ib≠ih)/\(iq≠ia/\iq≠it)/\(ih≠ia/\ih≠it)/\(ir≠ia/\ir≠it)/\(ic≠ia/\ic≠it)
section
variable {st:LL} {ia it im is ic ib ir iq ih:Nat} {p:Zae} {ns:List Nd} {lp:List Int}
def Zph.keep (B:Zph st ia it im is ic ib ir iq ih p ns lp) {st':LL} (C':Zpe st' ia it im is ic p 100 ns lp) (k : ∀j,j≠im->st'[j]? = st[j]?):Zph st' ia it im is ic ib ir iq ih p ns lp:=by
 obtain ⟨⟨m1,m2,m3,m4⟩,_⟩:=B.o;exact ⟨C',⟨by rw [k _ (Ne.symm m1)];exact B.R.b,by rw [k _ (Ne.symm m2)];exact B.R.r,B.R.ne,B.R.tr,B.R.small,B.R.S6,B.R.O6,B.R.pos⟩,by rw [k _ (Ne.symm m3)];exact B.q,by rw [k _ (Ne.symm m4)];exact B.h,B.o⟩
def Zph.ck {α:Type} (B:Zph st ia it im is ic ib ir iq ih p ns lp) (A:Option α):chk (eqO (st[ih]?) (some [zN (some ic),zN (some iq)])=true) A=A:=Zag (ZuF B.h)
def Zph.ckq {α:Type} (B:Zph st ia it im is ic ib ir iq ih p ns lp) (A:Option α):chk (eqO (st[iq]?) (some [zN (some ib),zN (some ir),L.own true 1 (Zgh [0])])=true) A=A:=Zag (ZuF B.q)
def pick0 (B:Zph st ia it im is ic ib ir iq ih p ns lp):Zkd ns (vlZ ns S0 O0)=0:=by
 have l1:=B.C.len1;have h0:vlZ ns S0 O0 0=true:=by rw [ZqG B.R.tr aF];rfl
 obtain ⟨h1,h2,_⟩:=ZpN l1 h0;rw [ZqG B.R.tr h1] at h2;simpa using h2
def row0 (B:Zph st ia it im is ic ib ir iq ih p ns lp):Zga ns 0 = [0]:=by
 rcases ZeX B.R.tr B.C.len1 with ⟨_,_,e,_⟩ | ⟨q,hq,_⟩
 ·exact e
 omega
def ZrM (hN:1000<=N) (B:Zph st ia it im is ic ib ir iq ih p ns lp):Zay N (some iq) st=some (false,st):=by
 have sm:=B.R.small;have ep:=ZiM (N:=N) (p:=p) (room:=100) B.R.tr aF B.C.len1;rw [row0 B,show ((0:Nat):Int)=0 from rfl] at ep;unfold Zay Zay.p1;rw [Zaa,B.q,Zan,Zra,rBest_eq aF B.R B.C.len1,pick0 B,Zaa];dsimp only;rw [Zaa,B.R.b,Zan,Zcn,show ((0:Nat):Int)=0 from rfl,ep,Zaa,Zag (ZnH _),B.ckq,aD (by rfl)];rw [show (w64 (len (Zgh [0])-1))=0 from rfl,Zag aF,Zag (by show (0:Int)<1;omega),show (Zec (ZtY [0]))[0+Int.toNat 0]? = some [L.int .i64 0] from rfl,Zan,Zfl,Zaa,B.R.r,Zan,ZuL,show Zdn N (ZcC.mk (rOf p 100 ns) ⟨S0,O0⟩ (Zgh [0]))=some 0 from rfl,Zaa,aD (by rfl),aD (by rfl)]
def ZsF (hN:1000<=N) (B:Zph st ia it im is ic ib ir iq ih p ns lp):Zbe N (some iq) st=some (0,st):=by
 unfold Zbe;obtain ⟨n,rfl⟩ : ∃n,N=n+1:=⟨N-1,aF⟩
 rw [Zaz];unfold Zbe.p1;dsimp only;rw [ZrM hN B,Zaa];dsimp only;rw [aE aG]
def cDoes_eq (hN:1000<=N) (hp:WfP p) {gs:List ZcQ} {cs:List Zcl} (hg:p.Gates=ZmZ gs) (hc:p.Checks=ZjM cs) (lg:gs.length<=400) (lc:cs.length<=400) (B:Zph st ia it im is ic ib ir iq ih p ns lp) (hsm:ns.length<=150) (x:ZbH) (wx:WfH x.Header) (nx:0<=x.Now/\x.Now<=9223372036854775807) (hk:x.Kind=0\/3<x.Kind) :
  ∃b st' ns' lp',Zdb N (some ih) x st=some (b,st')/\Zph st' ia it im is ic ib ir iq ih p ns' lp'/\ns'.length<=ns.length+1:=by
 have ks:x.Kind≠0->¬ x.Kind=1/\¬ x.Kind=2/\¬ x.Kind=3:=aF
 have same : ∀b:Bool,∃st' ns' lp',some (b,st)=some (b,st')/\Zph st' ia it im is ic ib ir iq ih p ns' lp'/\ns'.length<=ns.length+1:=fun b=>⟨st,ns,lp,rfl,B,aF⟩
 unfold Zdb;by_cases k0:x.Kind=0
 ·rw [aD (aR k0),Zaa,B.h,Zan,ZgS];unfold ZdQ;obtain ⟨lp',st',ea,T',keep⟩:=skAdd_eq (N:=N) aF hg hc lg lc aF B.C.M.T wx x.Now aF;have hib:st'[ib]? = some (rOf p 100 ns).lo:=by rw [keep _ B.o.2.1.1 B.o.2.1.2.1];exact B.R.b
  have l1:=addT_len p gs cs 100 ns x.Header x.Now;rw [aE aG,Zaa,B.C.c,Zan,Zgz,ea,Zaa];dsimp only;rw [Zaa];dsimp only;rw [keep ih B.o.2.2.2.1.1 B.o.2.2.2.1.2,B.h,Zan,ZgS,Zaa,keep iq B.o.2.2.1.1 B.o.2.2.1.2,B.q,Zan,Zra,ZpI aF hg hc lg lc aF B.R.tr aF hib wx _ nx,Zaa];dsimp only;rw [aD aG,aD aG];have l2:=B.C.len1;have sm:=B.R.small;refine ⟨_,_,(ZjL p gs cs 100 ns x.Header x.Now).2.2.2,lp',rfl,?_,aF⟩;obtain ⟨k,hk,hm,hn⟩:=B.C.M.k;have hrow:(ZgU (ZjL p gs cs 100 ns x.Header x.Now).2.2.2 S0 O0).take k=(ZgU ns S0 O0).take k:=by
   rcases Zla p gs cs 100 ns x.Header x.Now with e | ⟨q,_,_,_,_,_,e⟩
   ·rw [e]
   rw [e];exact ZsV B.C.M.T.tr _ S0 O0 hk
  have him:st'[im]? = some (mk2 it ((ZgU (ZjL p gs cs 100 ns x.Header x.Now).2.2.2 S0 O0).take k)):=by rw [keep _ B.C.M.na B.C.M.nt,hrow];exact hm
  have M':ZlR st' ia it im p 100 (ZjL p gs cs 100 ns x.Header x.Now).2.2.2 lp' S0 O0:=⟨T',B.C.M.na,B.C.M.nt,⟨k,aF,him,hn⟩,aF⟩
  have M2:=M'.other (j:=ib) (x:=(rOf p 100 (ZjL p gs cs 100 ns x.Header x.Now).2.2.2).lo) B.o.2.1.1 B.o.2.1.2.1 (Ne.symm B.o.1.1);refine ⟨⟨M2,⟨M2.T,?_,B.C.Z.na,B.C.Z.nt,srt0 aF,aF⟩,?_,B.C.nd,aF⟩,⟨List.getElem?_set_self (List.getElem?_eq_some_iff.1 hib).1,?_,B.R.ne,T'.tr,aF,B.R.S6,B.R.O6,B.R.pos⟩,?_,?_,B.o⟩
  ·rw [zO B.o.2.1.2.2.1,keep _ B.C.Z.na B.C.Z.nt];exact B.C.Z.s
  ·rw [zO B.o.2.1.2.2.2.1,keep _ B.o.2.2.2.2.2.1 B.o.2.2.2.2.2.2];exact B.C.c
  ·rw [zO (Ne.symm B.R.ne),keep _ B.o.2.2.2.2.1.1 B.o.2.2.2.2.1.2];exact B.R.r
  ·rw [zO B.o.2.1.2.2.2.2.1,keep _ B.o.2.2.1.1 B.o.2.2.1.2];exact B.q
  rw [zO B.o.2.1.2.2.2.2.2,keep _ B.o.2.2.2.1.1 B.o.2.2.2.1.2];exact B.h
 obtain ⟨e1,e2,e3⟩:=ks k0;rw [aE (aR k0),aE (aR e1),aE (aR e2),aE (aR e3)];by_cases k4:x.Kind=4
 ·rw [aD (aR k4),Zaa,B.h,Zan,ZgS,Zsp B.C,Zaa];dsimp only;rw [B.ck,ZrM hN B,Zaa];exact ⟨_,same _⟩
 rw [aE (aR k4)];by_cases k5:x.Kind=5
 ·obtain ⟨st',e,C',keep⟩:=ZkY hN B.C;have B':=B.keep C' keep;rw [aD (aR k5),Zaa,B.h,Zan,ZgS,e,Zaa];dsimp only;rw [B'.ck,ZsF hN B',Zaa];exact ⟨_,st',ns,lp,rfl,B',aF⟩
 rw [aE (aR k5)];exact ⟨_,same _⟩
end
def ZuS (hN:1000<=N) {p:Zae} (hp:WfP p) {gs:List ZcQ} {cs:List Zcl} (hg:p.Gates=ZmZ gs) (hc:p.Checks=ZjM cs) (lg:gs.length<=400) (lc:cs.length<=400) (hgd:Zmi p gs cs=true) (st:LL) :
  ∃ia it im is ic ib ir iq ih st',Zep N p st=some (some ih,st')/\Zph st' ia it im is ic ib ir iq ih p [ZjY p] [-1]:=by
 unfold Zep;obtain ⟨st1,e,hl,C⟩:=ZuU hN hg hc lg lc hp hgd 100 st;rw [show ZhP 100=100 from rfl] at C;rw [e,Zaa];dsimp only;rw [ZpH aF hp,Zaa,show ZhP 100=100 from rfl];dsimp only;unfold Zfw Zfx;rw [Zaa];dsimp only;rw [Zaa];dsimp only;have e1 : ∀(l:LL) (x y:List L),(l ++ [x]).set l.length y=l ++ [y]:=fun l x y=>by simp
 rw [e1];have T:=C.M.T;have k0 : ∀(x:LL) (j:Nat),j<st1.length->(st1++x)[j]? = st1[j]? := fun x j h=>List.getElem?_append_left h;refine ⟨st.length,st.length+1,st.length+2,st.length+3,st.length+4,st1.length,st1.length+1,st1.length+2,st1.length+3,st1 ++ [(rOf p 100 [ZjY p]).lo,rm2 S0 O0,rc3 st1.length (st1.length+1),bo2 (st.length+4) (st1.length+2)],?_,⟨⟨?_,?_,?_,C.nd,C.len1⟩,⟨?_,?_,aF,C.M.T.tr,by simp,by simp [S0],by simp [O0],fun i=>by rw [Zqx];split<;>omega⟩,?_,?_,aF⟩⟩
 ·simp [rc3,bo2,rm2,S0,O0,Zgh];rfl
 ·obtain ⟨k,hk,hm,hn⟩:=C.M.k;exact ⟨T.app _,C.M.na,C.M.nt,⟨k,hk,by rw [k0 _ _ aF];exact hm,hn⟩,C.M.small⟩
 ·exact ⟨T.app _,by rw [k0 _ _ aF];exact C.Z.s,C.Z.na,C.Z.nt,C.Z.srt,C.Z.sm⟩
 ·rw [k0 _ _ aF];exact C.c
 ·simp
 ·simp
 ·simp
 simp
end Go.Dn.F
namespace Go.Dn.F
open Go.Dn Go.Proofs
variable {N:Nat}
structure WfA17 (c:ZbH):Prop where
 h:WfH c.Header
 n:ZoK c.Now
abbrev tysAc7:List Ty:=[.int .i64,.int .i64,.arr .u8 32,.arr .u8 32,.int .i64,.int .i64,.int .i64,.int .i64,.int .i64,.bool]
noncomputable def ZiK (l:List ZbH):LL:=l.map ZbH.ls
def ZnB {l:List ZbH} {i:Nat} (h:i<l.length):(ZiK l)[i]? = some l[i].ls:=by simp [ZiK,h]
@[simp] def ZkR (l:List ZbH):len (ZiK l)=(l.length:Int):=by simp [len,ZiK]
@[simp] def Zoj (l:List ZbH):(ZiK l).length=l.length:=by simp [ZiK]
def open_A17 {xs:LL} (h : ∀x∈xs,Ziq tysAc7 x) : ∃l,xs=ZiK l/\∀x∈l,WfA17 x:=
 Zsl fun x hx=>by
  obtain ⟨_,_,rfl,h0,h⟩:=(h x hx).cons_inv;obtain ⟨_,_,rfl,h1,h⟩:=h.cons_inv;obtain ⟨_,_,rfl,h2,h⟩:=h.cons_inv;obtain ⟨_,_,rfl,h3,h⟩:=h.cons_inv;obtain ⟨_,_,rfl,h4,h⟩:=h.cons_inv;obtain ⟨_,_,rfl,h5,h⟩:=h.cons_inv;obtain ⟨_,_,rfl,h6,h⟩:=h.cons_inv;obtain ⟨_,_,rfl,h7,h⟩:=h.cons_inv;obtain ⟨_,_,rfl,h8,h⟩:=h.cons_inv;obtain ⟨_,_,rfl,h9,h⟩:=h.cons_inv;cases h.nil_inv;obtain ⟨a0,rfl,w0⟩:=h0.int_inv;obtain ⟨a1,rfl,w1⟩:=h1.int_inv;obtain ⟨a2,rfl,k2,w2⟩:=h2.arr_inv;obtain ⟨a3,rfl,k3,w3⟩:=h3.arr_inv;obtain ⟨a4,rfl,w4⟩:=h4.int_inv;obtain ⟨a5,rfl,w5⟩:=h5.int_inv;obtain ⟨a6,rfl,w6⟩:=h6.int_inv;obtain ⟨a7,rfl,w7⟩:=h7.int_inv;obtain ⟨a8,rfl,w8⟩:=h8.int_inv;obtain ⟨a9,rfl⟩:=h9.bool_inv;refine ⟨⟨a0,⟨a1,a2,a3,a4,a5,a6⟩,a7,a8,a9⟩,rfl,⟨⟨ZgB w1,?_,ZgB w4,ZgB w5,ZgB w6⟩,ZgB w7⟩⟩;simp only [wfH,Bool.and_eq_true];exact ⟨Zrw k2 w2,Zrw k3 w3⟩
def ZsU {p:Zae} (hp:WfP p) (l:List ZbH) (hl:l.length+900<=N) (hb:l.length<=maxLen) :
  ∃b,Zch N p (ZiK l)=some b/\(b=false->(∀x∈l,0<=x.Now)/\l.length<=50/\∃gs cs,p.Gates=ZmZ gs/\p.Checks=ZjM cs/\gs.length<=400/\cs.length<=400/\Zmi p gs cs=true):=by
 unfold Zch;have hm:maxLen=9223372036854775807:=rfl;refine ZfO (fun m (v:Int)=>∃k:Nat,k+m=l.length/\v=(k:Int)/\∀x∈l.take k,0<=x.Now) ?_ N l.length 0 ⟨0,aF,rfl,by simp⟩ aF;rintro G m _ ⟨k,hk,rfl,ha⟩ hG;unfold Zch.p1;rw [ZkR];by_cases hlt:k<l.length
 ·rw [aD aP,Zag aF,Int.toNat_natCast,ZnB hlt,Zan,ZfV,ZaK aF aF];by_cases h:l[k].Now<0
  ·rw [aD (aR h)];exact ⟨true,rfl,fun h=>by cases h⟩
  rw [aE (aR h)];refine hG (m-1) _ aF ⟨k+1,aF,aF,fun x hx=>?_⟩;rw [List.take_succ_eq_append_getElem hlt] at hx;rcases List.mem_append.1 hx with hx | hx
  ·exact ha x hx
  cases List.mem_singleton.1 hx;omega
 rw [aE aP];rw [List.take_of_length_le aF] at ha;by_cases h1:len p.Gates>20
 ·rw [aD (aR h1)];exact ⟨true,rfl,fun h=>by cases h⟩
 rw [aE (aR h1)];by_cases h2:len p.Checks>20
 ·rw [aD (aR h2)];exact ⟨true,rfl,fun h=>by cases h⟩
 rw [aE (aR h2)];by_cases h3:(l.length:Int)>50
 ·rw [aD (aR h3)];exact ⟨true,rfl,fun h=>by cases h⟩
 rw [aE (aR h3)];obtain ⟨gs,eg⟩:=open_G hp.g;obtain ⟨cs,ec⟩:=open_K hp.c;have lg:gs.length<=400:=by simp [len,eg] at h1;omega
 have lc:cs.length<=400:=by simp [len,ec] at h2;omega
 rw [Zoq aF eg lg ec lc,Zaa];refine ⟨_,rfl,fun h=>⟨ha,aF,gs,cs,eg,ec,lg,lc,by simpa using h⟩⟩
def alive17 (hN:1000<=N) : ∃st,Zeq N []=some (true,st):=by
 unfold Zeq;obtain ⟨st1,e,_,C⟩:=ZuU (p:=pA) hN (gs:=[]) (cs:=[]) rfl rfl aG aG pA_wf aQ 5 [];obtain ⟨st2,e2,C2,_⟩:=ZkY hN C;rw [show (Zae.mk 545259519 4 10 0 false [] [] (zB 4 0) (zB 4 0) (Zal.mk 0 (zB 32 0) (zB 32 0) 0 0 0))=pA from rfl,e,Zaa];dsimp only;rw [aD (by rfl),ZoX C,Zaa];dsimp only;rw [aD (by rfl),ZkX C,Zaa];dsimp only;rw [aD (by rfl),e2,Zaa];dsimp only;rw [aD (by rfl),ZnW C2,Zaa];exact ⟨_,rfl⟩
section
variable {st:LL} {ia it im is ic ib ir iq ih:Nat} {p:Zae} {ns:List Nd} {lp:List Int}
def ZuX {room:Int} (C:Zpe st ia it im is ic p room ns lp):Zdl N (some ic) st=some (Zgh [0],st):=by
 unfold Zdl;rw [aE aG,Zaa,C.c,Zan,Zgz,Zaa,C.Z.s,Zan,Zik,Zaa,C.Z.T.t,Zan];unfold Zhn;rw [ZcA,Zaa,C.Z.T.a,Zan,Zbv,tAll_eq aG,Zaa,Zag (ZsC _)]
def calmTail (hN:1000<=N) (B:Zph st ia it im is ic ib ir iq ih p ns lp) {L:Nat} (hL:L<ns.length) (hm : ∀i,i<ns.length->i=L\/hvT ns L i=true) :
  ∃st',loopN (Zaw.p3 N ih (L:Int) (rOf p 100 ns)) N (0,st)=some (true,st'):=by
 have sm:=B.R.small
 suffices h : ∃r,loopN (Zaw.p3 N ih (L:Int) (rOf p 100 ns)) N (0,st)=some r/\∃st',r=(true,st') by
  obtain ⟨r,e,st',rfl⟩:=h;exact ⟨st',e⟩
 refine ZfO (Q:=fun r:Bool×LL=>∃st',r=(true,st')) (fun m (s:Int×LL)=>∃j:Nat,j+m=ns.length/\s=((j:Int),st)) ?_ N ns.length _ ⟨0,aF,rfl⟩ aF;rintro G m _ ⟨j,hj,rfl⟩ hG;unfold Zaw.p3;dsimp only;rw [rList];by_cases hlt:j<ns.length
 ·rw [aD aH,ZaK aF aF];have nx:=hG (m-1) ((j:Int)+1,st) aF ⟨j+1,aF,by rw [Int.natCast_add];rfl⟩;by_cases e:j=L
  ·rw [aE (by simp [e])];exact nx
  have hv:=(hm j hlt).resolve_left e;rw [aD aH,B.h,Zan,ZgS];unfold ZdI;rw [aE aG,Zaa,B.C.c,Zan,Zgz,Zaa];dsimp only;rw [Zaa,B.C.M.T.t,Zan];unfold Zhn;rw [ZcA,Zaa,B.C.M.T.a,Zan,Zbv,show (Zat.mk (aOf p 100 ns) (Zec lp))=tOf p 100 ns lp from rfl,Zko aF p 100 lp B.R.tr hL hlt,Zaa,hv,aE aG];exact nx
 obtain ⟨st',e,C',keep⟩:=ZkY hN B.C;have B':=B.keep C' keep;rw [aE aH,B.h,Zan,ZgS,e,Zaa];dsimp only;rw [aD (by rfl),B'.h,Zan,ZgS,ZoX C',Zaa];dsimp only;rw [aD (by rfl),B'.h,Zan,ZgS,ZkX C',Zaa];dsimp only;rw [aD (by rfl),B'.h,Zan,ZgS,ZnW C',Zaa];dsimp only;rw [aD (by rfl),B'.h,Zan,ZgS,ZuX C',Zaa];exact ⟨_,rfl,_,rfl⟩
def calmEnd (hN:1000<=N) (B:Zph st ia it im is ic ib ir iq ih p ns lp) (acts:LL) (G:Int×LL->Option (Bool×LL)) {j:Int} (hj : ¬ j<len acts) :
  ∃st',Zaw.p1 N (some ih) acts G (j,st)=some (true,st'):=by
 unfold Zaw.p1 ZdJ;dsimp only;have l1:=B.C.len1;have B':=B.keep B.C.gst (fun k hk=>by unfold F.gst;rw [zO (Ne.symm hk)]);obtain ⟨d1,d2,d3⟩:=ZpN (f:=ldZ ns S0 O0) l1 (Zri ns 0);obtain ⟨st',e⟩:=calmTail hN B' d1 fun i hi=>d3 i hi (Zri ns i);refine ⟨st',?_⟩;rw [aE (aR hj),Zaa,B.h,Zan,ZgS,aE aG,Zaa,B.C.c,Zan,Zgz,ZqX aF B.C.M l1 (Zri ns 0),Zaa];dsimp only;rw [Zaa];dsimp only;rw [B'.h,Zan,ZgS,Zaa,B'.q,Zan,Zra,Zaa,B'.R.b,Zan,Zcn,e]
end
def ZqB {p:Zae} (hp:WfP p) (l:List ZbH) (hl : ∀x∈l,WfA17 x) (hb:l.length<=maxLen) : ∃st,Zaw (l.length+1000) p (ZiK l) []=some (true,st):=by
 unfold Zaw;obtain ⟨st0,ea⟩:=alive17 (N:=l.length+1000) aF;rw [ea,Zaa];dsimp only;rw [aE aG];obtain ⟨b,eg,hgr⟩:=ZsU (N:=l.length+1000) hp l aF hb;rw [eg,Zaa];cases b with
 | true=>exact ⟨st0,by rw [aD rfl]⟩
 | false=>
  obtain ⟨hnow,h50,gs,cs,hg,hc,lg,lc,hgd⟩:=hgr rfl;rw [aE aG];obtain ⟨ia,it,im,is,ic,ib,ir,iq,ih,st,es,B⟩:=ZuS (N:=l.length+1000) aF hp hg hc lg lc hgd st0;rw [es,Zaa];dsimp only
  suffices h : ∃r,loopN (Zaw.p1 (l.length+1000) (some ih) (ZiK l)) (l.length+1000) (0,st)=some r/\∃st',r=(true,st') by
   obtain ⟨r,e,st',rfl⟩:=h;exact ⟨st',e⟩
  refine ZfO (Q:=fun r:Bool×LL=>∃st',r=(true,st')) (fun m (s:Int×LL)=>∃(j:Nat) (st:LL) (ns:List Nd) (lp:List Int),j+m=l.length/\s=((j:Int),st)/\Zph st ia it im is ic ib ir iq ih p ns lp/\ns.length<=j+1) ?_ (l.length+1000) l.length (0,st) ⟨0,st,[ZjY p],[-1],aF,rfl,B,by simp⟩ aF;rintro G m _ ⟨j,st,ns,lp,hj,rfl,B,hn⟩ hG;by_cases hlt:j<l.length
  ·have wx:=hl _ (List.getElem_mem hlt);have nx:=hnow _ (List.getElem_mem hlt);have rx:=wx.n;unfold ZoK at rx;have go:=cDoes_eq (N:=l.length+1000) aF hp hg hc lg lc B aF l[j] wx.h ⟨nx,aF⟩;unfold Zaw.p1 Zaw.p2;dsimp only;rw [ZkR,aD aP,Zag aF,Int.toNat_natCast,ZnB hlt,Zan,ZfV,ZaK aF aF];by_cases k0:l[j].Kind=0
   ·obtain ⟨b,st',ns',lp',ed,B',hn'⟩:=go (.inl k0);rw [aD (aR k0),ed,Zaa];exact hG (m-1) _ aF ⟨j+1,_,ns',lp',aF,rfl,B',aF⟩
   rw [aE (aR k0)];by_cases k3:3<l[j].Kind
   ·obtain ⟨b,st',ns',lp',ed,B',hn'⟩:=go (.inr k3);rw [aD (aR k3),ed,Zaa];exact hG (m-1) _ aF ⟨j+1,_,ns',lp',aF,rfl,B',aF⟩
   rw [aE (aR k3)];exact hG (m-1) _ aF ⟨j+1,st,ns,lp,aF,rfl,B,aF⟩
  obtain ⟨st',e⟩:=calmEnd (N:=l.length+1000) aF B (ZiK l) G (j:=(j:Int)) (by rw [ZkR];omega);exact ⟨_,e,st',rfl⟩
def ChainCalm_true {ls:List L} (xs:LL) (h0:Ziq tysP ls) (h1 : ∀x∈xs,Ziq tysAc7 x) (l1:xs.length<=maxLen) :
  ∃st,Snd Tryz.prog 3 [.agg ls,.one (.sl 72 xs)] [] [.one (.bool true)] st:=by
 obtain ⟨p,rfl,hp⟩:=open_P h0;obtain ⟨l,rfl,hl⟩:=open_A17 h1;obtain ⟨st,h⟩:=ZqB hp l hl (by rw [Zoj] at l1;exact l1);exact ⟨st,Zaw.s h⟩
end Go.Dn.F
