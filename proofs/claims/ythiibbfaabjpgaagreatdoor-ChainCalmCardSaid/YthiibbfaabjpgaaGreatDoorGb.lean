import Derived.Test.YthiibbfaabjpgaaGreatDoorGa
import Derived.Test.YthiibbfaabjpgaaGreatDoorFa
import Derived.Test.YthiibbfaabjpgaaGreatDoorKc
set_option linter.all false
open Bool renaming and_eq_true->zV
open Go.Dn.L renaming int->zK
open Int renaming toNat_natCast->zJ,toNat->zD,fdiv_eq_ediv_of_nonneg->uO,tmod_eq_emod_of_nonneg->xI
open List renaming getElem?_eq_getElem->zQ,getElem?_eq_some_iff->zZ,getElem?_set_self->zP,set_set->xJ,replicate->zB,drop_drop->sD,append_assoc->yH,take_append_drop->wR,length_append->zU,take_succ_eq_append_getElem->zY,flatten_append->rI,flatten_cons->uS,flatten_nil->tL,append_nil->wU,take_of_length_le->zW,nil_append->uH,map_map->rL,map_congr_left->tO,flatMap_cons->uF
open Nat renaming le_refl->zH
set_option maxRecDepth 4000
namespace Go.Dn.F
open Go.Dn
def byI (x:UInt8):Int:=(x.toNat:Int)
def Zva (x:UInt8):byI x<256:=by have:=x.toNat_lt;simp only [byI];omega
def ZuZ (x:UInt8):0<=byI x:=Int.natCast_nonneg _
def Zha (b:Bs):LL:=b.map fun x=>[zK .u8 (byI x)]
def mkB (b:Bs):ByteArray:=⟨b.toArray⟩
def ZfN (b:Bs):(Zha b).length=b.length:=by simp [Zha]
def ZuY (b:Bs):ZoY (mkB b)=Zha b:=by simp [ZoY,mkB,Zha,byI]
def ZlF {b:Bs} {i:Nat} (h:i<b.length):(Zha b)[i]? = some [zK .u8 (byI (b.getD i 0))]:=by
 simp [Zha,zQ h,List.getD]
def Zpl (x:UInt8):v32 (byI x)=iW (Zhv x):=by
 have:=Zva x;rw [iW_byte (ZuZ x) this];simp [byI,Zhv]
def xor0 (x:W):(0:W) ^^^ x=x:=by simp
def rot_eq (N:Nat) (x:W) (n:Nat) (h0:0<n) (h1:n<32) (h:ZaI .and .u64 (v64 (w64 (0-(n:Int)))) 31=((32-n:Nat):Int)):Zcw N (iW x) (w64 (0-(n:Int)))=some (iW (ror x n)):=by
 unfold Zcw;rw [h];have e:v64 (32-((32-n:Nat):Int))=(n:Int):=by rw [Zdq aF aF];omega
 rw [Zag aF,e,Zag aF,Zqe _ _ aF,ZnR _ _ aF,Zun,BitVec.or_comm];rfl
def ZiC (N:Nat) (G:Int×Int->Option Int) (x o:W) (l:LL) (i n:Nat) (h0:0<n) (h1:n<32) (hb:ZaI .and .u64 (v64 (w64 (0-(n:Int)))) 31=((32-n:Nat):Int)) (hl:l[i]? = some [zK .i64 (n:Int)]) (hi:i<1000) :
  Zbr.p1 N (iW x) l G (iW o,(i:Int))=G (iW (o ^^^ ror x n),((i+1:Nat):Int)):=by
 have hlt:=(zZ.1 hl).1;unfold Zbr.p1;dsimp only;rw [aD aH,Zag aF,zJ,hl,Zan,Zeu,rot_eq N x n h0 h1 hb,Zaa,Zqd,ZaK aF aF];rfl
def Zrz (N:Nat) (G:Int×Int->Option Int) (x o:W) (l:LL) (i:Nat) (hi:l.length<=i):Zbr.p1 N (iW x) l G (iW o,(i:Int))=some (iW o):=by
 unfold Zbr.p1;dsimp only;rw [aE aH]
def turn2 (N:Nat) (hN:10<=N) (x:W) (a b:Nat) (h0:0<a) (h1:a<32) (h2:0<b) (h3:b<32) (ha:ZaI .and .u64 (v64 (w64 (0-(a:Int)))) 31=((32-a:Nat):Int)) (hb:ZaI .and .u64 (v64 (w64 (0-(b:Int)))) 31=((32-b:Nat):Int)) :
  Zbr N (iW x) [[zK .i64 (a:Int)],[zK .i64 (b:Int)]]=some (iW (ror x a ^^^ ror x b)):=by
 obtain ⟨N',e⟩ : ∃N',N=N'+3:=⟨N-3,aF⟩
 unfold Zbr;have key : ∀k,loopN (Zbr.p1 N (iW x) [[zK .i64 (a:Int)],[zK .i64 (b:Int)]]) (k+3) (iW 0,((0:Nat):Int))=some (iW (ror x a ^^^ ror x b)):=fun k=>by
  rw [Zaz,ZiC N _ x 0 _ 0 a h0 h1 ha rfl aF,Zaz,ZiC N _ x _ _ 1 b h2 h3 hb rfl aF,Zaz,Zrz N _ x _ _ _ aG,xor0]
 have:=key N';rw [<-e] at this;exact this
def turn3 (N:Nat) (hN:10<=N) (x:W) (a b c:Nat) (h0:0<a) (h1:a<32) (h2:0<b) (h3:b<32) (h4:0<c) (h5:c<32) (ha:ZaI .and .u64 (v64 (w64 (0-(a:Int)))) 31=((32-a:Nat):Int)) (hb:ZaI .and .u64 (v64 (w64 (0-(b:Int)))) 31=((32-b:Nat):Int))
  (hc:ZaI .and .u64 (v64 (w64 (0-(c:Int)))) 31=((32-c:Nat):Int)) :
  Zbr N (iW x) [[zK .i64 (a:Int)],[zK .i64 (b:Int)],[zK .i64 (c:Int)]]=some (iW ((ror x a ^^^ ror x b) ^^^ ror x c)):=by
 obtain ⟨N',e⟩ : ∃N',N=N'+4:=⟨N-4,aF⟩
 unfold Zbr;have key : ∀k,loopN (Zbr.p1 N (iW x) [[zK .i64 (a:Int)],[zK .i64 (b:Int)],[zK .i64 (c:Int)]]) (k+4) (iW 0,((0:Nat):Int))=some (iW ((ror x a ^^^ ror x b) ^^^ ror x c)):=fun k=>by
  rw [Zaz,ZiC N _ x 0 _ 0 a h0 h1 ha rfl aF,Zaz,ZiC N _ x _ _ 1 b h2 h3 hb rfl aF,Zaz,ZiC N _ x _ _ 2 c h4 h5 hc rfl aF,Zaz,Zrz N _ x _ _ _ aG,xor0]
 have:=key N';rw [<-e] at this;exact this
def t_6 (N:Nat) (hN:10<=N) (x:W):Zbr N (iW x) [[zK .i64 6],[zK .i64 11],[zK .i64 25]]=some (iW (bg1 x)):=turn3 N hN x 6 11 25 aF aF aF aF aF aF (by decide +kernel) (by decide +kernel) (by decide +kernel)
def t_2 (N:Nat) (hN:10<=N) (x:W):Zbr N (iW x) [[zK .i64 2],[zK .i64 13],[zK .i64 22]]=some (iW (bg0 x)):=turn3 N hN x 2 13 22 aF aF aF aF aF aF (by decide +kernel) (by decide +kernel) (by decide +kernel)
def t_7 (N:Nat) (hN:10<=N) (x:W):Zbr N (iW x) [[zK .i64 7],[zK .i64 18]]=some (iW (ror x 7 ^^^ ror x 18)):=turn2 N hN x 7 18 aF aF aF aF (by decide +kernel) (by decide +kernel)
def t_17 (N:Nat) (hN:10<=N) (x:W):Zbr N (iW x) [[zK .i64 17],[zK .i64 19]]=some (iW (ror x 17 ^^^ ror x 19)):=turn2 N hN x 17 19 aF aF aF aF (by decide +kernel) (by decide +kernel)
def shr3 (x:W):Zbx .u32 (iW x) 3=iW (x >>> 3):=ZnR x 3 aF
def shr10 (x:W):Zbx .u32 (iW x) 10=iW (x >>> 10):=ZnR x 10 aF
def shl24 (x:W):ZbP .u32 (iW x) 24=iW (x <<< 24):=Zqe x 24 aF
def shl16 (x:W):ZbP .u32 (iW x) 16=iW (x <<< 16):=Zqe x 16 aF
def shl8 (x:W):ZbP .u32 (iW x) 8=iW (x <<< 8):=Zqe x 8 aF
def Zez {i:Nat} (h:i<1000000):w64 ((i:Int)+1)=((i+1:Nat):Int):=by rw [ZaK aF aF];rfl
def Zhy {i m:Nat} (h:i<1000000) (hm:m<=i):w64 ((i:Int)-(m:Int))=((i-m:Nat):Int):=by rw [ZaK aF aF];omega
def ZrC (i:Nat):glob_digest_steps.getD i 0=iW (kks.getD i 0):=by
 have:glob_digest_steps=kks.map iW:=by decide +kernel
 rw [this,ZgT]
def Ztn (N:Nat) (hN:100<=N) (i:Nat) (st:LL) (h:List W) (rest:LL) (size:Int) (hst:st[i]? = some (Zar.lo ⟨h.map iW,rest,size⟩)) (hh:h.length=8) (b:Bs) (hb:b.length=64) :
  Zaj N (some i) (Zha b) st=some (st.set i (Zar.lo ⟨(comp h b).map iW,rest,size⟩)):=by
 have hi:=(zZ.1 hst).1;have e4 : ∀(s:List W) (hs:s.length=8),loopN (Zaj.p4 N i (s.map iW)) N (((0:Nat):Int),st.set i (Zar.lo ⟨h.map iW,rest,size⟩))=some (st.set i (Zar.lo ⟨(run (adw s) 0 8 h).map iW,rest,size⟩)):=fun s hs=>by
  refine Zjp (fun (j:Nat) (x:List W)=>((j:Int),st.set i (Zar.lo ⟨x.map iW,rest,size⟩))) (fun x=>x.length=8) (adw s) 0 8 (fun x=>some (st.set i (Zar.lo ⟨x.map iW,rest,size⟩))) ?_ ?_ 8 0 N h (zH _) rfl aF hh
  ·intro G j x h16 hj hx;refine ⟨?_,by simpa [adw] using hx⟩;unfold Zaj.p4;dsimp only;rw [aD aH,Zag aF,zP hi,Zan,Zfz];dsimp only;rw [zJ,ZgT,ZgT,Zlq,Znz,xJ,Zez aF];rfl
  intro G x hx;unfold Zaj.p4;dsimp only;rw [aE aG]
 have e3 : ∀(w:List W),loopN (Zaj.p3 N i (w.map iW) st) N (((0:Nat):Int),h.map iW)=some (st.set i (Zar.lo ⟨(run (adw (run (rnd w) 0 64 h)) 0 8 h).map iW,rest,size⟩)):=fun w=>by
  refine Zjp (fun (j:Nat) (x:List W)=>((j:Int),x.map iW)) (fun x=>x.length=8) (rnd w) 0 64 (fun x=>some (st.set i (Zar.lo ⟨(run (adw x) 0 8 h).map iW,rest,size⟩))) ?_ ?_ 64 0 N h (zH _) rfl aF hh
  ·intro G j x h16 hj hx;refine ⟨?_,rfl⟩;unfold Zaj.p3;dsimp only;rw [aD aH];simp only [ZgT,zJ,ZrC];rw [t_6 N aF,Zaa,Zag aF,t_2 N aF,Zaa,iW_max];simp only [iW_and,Zqd,Zlq];rw [Zez aF];rfl
  intro G x hx;unfold Zaj.p3;dsimp only;rw [aE aG];have:=e4 x hx;rw [Ztv hst] at this;exact this
 have e2 : ∀(w:List W),w.length=64->loopN (Zaj.p2 N (some i) st) N (((16:Nat):Int),w.map iW)=some (st.set i (Zar.lo ⟨(run (adw (run (rnd (run exw 16 48 w)) 0 64 h)) 0 8 h).map iW,rest,size⟩)):=fun w hw=>by
  refine Zjp (fun (j:Nat) (x:List W)=>((j:Int),x.map iW)) (fun x=>x.length=64) exw 16 64 (fun x=>some (st.set i (Zar.lo ⟨(run (adw (run (rnd x) 0 64 h)) 0 8 h).map iW,rest,size⟩))) ?_ ?_ 48 16 N w (zH _) rfl aF hw
  ·intro G j x h16 hj hx;refine ⟨?_,by simpa [exw] using hx⟩;have a15:=Zhy (i:=j) (m:=15) aF aF;have a2:=Zhy (i:=j) (m:=2) aF aF;have a16:=Zhy (i:=j) (m:=16) aF aF;have a7:=Zhy (i:=j) (m:=7) aF aF;simp only [Int.cast_ofNat_Int] at a15 a2 a16 a7;unfold Zaj.p2;dsimp only;rw [aD aH,a15,a2,a16,a7];simp only [ZgT,zJ];rw [Zag aF,Zag aF,Zag aF,Zag aF,Zag aF,Zag aF,t_7 N aF,Zaa,Zag aF,Zag aF,t_17 N aF,Zaa,Zag aF,shr3,shr10];simp only [Zqd,Zlq];rw [Zez aF,Znz];rfl
  intro G x hx;unfold Zaj.p2;dsimp only;rw [aE aG,Zaa,hst,Zan,Zfz];exact e3 x
 have e1:loopN (Zaj.p1 N (some i) (Zha b) st) N (((0:Nat):Int),(zB 64 (0:W)).map iW)=some (st.set i (Zar.lo ⟨(comp h b).map iW,rest,size⟩)):=by
  refine Zjp (fun (j:Nat) (x:List W)=>((j:Int),x.map iW)) (fun x=>x.length=64) (ldw b) 0 16 (fun x=>some (st.set i (Zar.lo ⟨(run (adw (run (rnd (run exw 16 48 x)) 0 64 h)) 0 8 h).map iW,rest,size⟩))) ?_ ?_ 16 0 N _ (zH _) rfl aF aG
  ·intro G j x h16 hj hx;refine ⟨?_,by simpa [ldw] using hx⟩;have b0:w64 (4*(j:Int))=((4*j:Nat):Int):=by rw [ZaK aF aF];omega
   have b1:=ZaK (n:=((4*j:Nat):Int)+1) aF aF;have b2:=ZaK (n:=((4*j:Nat):Int)+2) aF aF;have b3:=ZaK (n:=((4*j:Nat):Int)+3) aF aF;have c1:(((4*j:Nat):Int)+1).toNat=4*j+1:=aF
   have c2:(((4*j:Nat):Int)+2).toNat=4*j+2:=aF
   have c3:(((4*j:Nat):Int)+3).toNat=4*j+3:=aF
   have hl:len (Zha b)=64:=by have:=ZfN b;simp only [len];omega
   unfold Zaj.p1;dsimp only;rw [aD aH,b0,b1,b2,b3,c1,c2,c3,zJ,Zag aF,Zag aF,ZlF aF,Zan,Zkr,Zag aF,Zag aF,ZlF aF,Zan,Zkr,Zag aF,Zag aF,ZlF aF,Zan,Zkr,Zag aF,Zag aF,ZlF aF,Zan,Zkr,Zag aF,Zag aF,
    Zpl,Zpl,Zpl,Zpl,shl24,shl16,shl8,Zun,Zun,Zun,zJ,Znz,Zez aF]
   rfl
  intro G x hx;unfold Zaj.p1;dsimp only;rw [aE aG];exact e2 x hx
 exact e1
def ZjB (a b:Bs):Zha a++Zha b=Zha (a++b):=by simp [Zha]
def ZpE (n:Nat) (a:Bs):(Zha a).take n=Zha (a.take n):=by simp [Zha,List.map_take]
def ZpF (n:Nat) (a:Bs):(Zha a).drop n=Zha (a.drop n):=by simp [Zha,List.map_drop]
def ZrV (a:Bs):len (Zha a)=(a.length:Int):=by simp only [len,ZfN]
def Zkx (n:Nat):byI (UInt8.ofNat n)=((n%256:Nat):Int):=by simp [byI]
def v8_nat (n:Nat):v8 (n:Int)=byI (UInt8.ofNat n):=by rw [Zlg,Zkx];omega
def shr_u64 (n k:Nat) (h:k<=64):Zbx .u64 (n:Int) (k:Int)=((n >>> k:Nat):Int):=by
 have e:min (zD (k:Int)) (IntKind.bits .u64)=k:=by simp only [IntKind.bits,zJ];omega
 unfold Zbx;rw [e,Nat.shiftRight_eq_div_pow,uO _ (Int.le_of_lt (Int.pow_pos (by decide)))]
 push_cast
 rfl
noncomputable def hsh (h:List W) (r:Bs) (n:Nat):List L:=Zar.lo ⟨h.map iW,Zha r,(n:Int)⟩
def ZmO {α:Type} (h:List W) (r:Bs) (n:Nat) (k:Zar->Option α):Zcy (hsh h r n) k=k ⟨h.map iW,Zha r,(n:Int)⟩:=rfl
def write_p2 (N:Nat) (hN:100<=N) (c1:Option Nat×Int×LL->Option LL) (i:Nat) (parts:LL) (v:Int) (st:LL) (hi:i<st.length) (n:Nat) (h:List W) (hh:h.length=8) (x:Bs) (hx:x.length/64<N) :
  loopN (ZaE.p2 N c1 i parts v) N (st.set i (hsh h x n))=c1 (some i,w64 (v+1),st.set i (hsh (ZdE (x.length/64) h x) (x.drop (64*(x.length/64))) n)):=by
 refine Zck (fun m (y:LL)=>∃h' x',y=st.set i (hsh h' x' n)/\h'.length=8/\m=x'.length/64/\ZdE (x'.length/64) h' x'=ZdE (x.length/64) h x/\x'.drop (64*(x'.length/64))=x.drop (64*(x.length/64))) ?_ N (x.length/64) _ ⟨h,x,rfl,hh,rfl,rfl,rfl⟩ aF;rintro G m _ ⟨h',x',rfl,hh',hm,e1,e2⟩ ih;unfold ZaE.p2;rw [zP hi,Zan,ZmO];dsimp only;rw [ZrV];by_cases hx':64<=x'.length
 ·have hi':i<(st.set i (hsh h' x' n)).length:=by simpa using hi
  have tk:Zaj N (some i) (Zha (x'.take 64)) (st.set i (hsh h' x' n))=some ((st.set i (hsh h' x' n)).set i (Zar.lo ⟨(comp h' (x'.take 64)).map iW,Zha x',(n:Int)⟩)):=Ztn N hN i _ h' (Zha x') n (zP hi) hh' _ aH;rw [aD aH,Zag (by rw [ZfN];exact hx'),ZpE,tk,Zaa,xJ,zP hi,Zan,Zfz];dsimp only;rw [Zag (by rw [ZfN];exact hx'),ZpF,xJ];obtain ⟨q,hq⟩ : ∃q,x'.length/64=q+1:=⟨x'.length/64-1,aF⟩
  have hq2:(x'.drop 64).length/64=q:=by simp;omega
  refine ih q _ aF ⟨comp h' (x'.take 64),x'.drop 64,rfl,by rw [ZlO];exact hh',hq2.symm,?_,?_⟩
  ·rw [<-e1,hq,hq2,ZdE]
  rw [<-e2,hq,hq2,sD,(aF:64+64*q=64*(q+1))]
 have h0:x'.length/64=0:=aF
 rw [aE aH,<-e1,<-e2,h0];simp [ZdE]
noncomputable def hob (d:Bs):List L:=hsh (ZdE (d.length/64) iv d) (d.drop (64*(d.length/64))) d.length
def ZnX (n:Nat) (h:List W) (a b:Bs) (ha:a.length=64*n):ZdE n h (a++b)=ZdE n h a:=by
 have:=Zju n 0 h a b ha;simpa [ZdE] using this
def hob_more (d s:Bs):hsh (ZdE (((d.drop (64*(d.length/64)))++s).length/64) (ZdE (d.length/64) iv d) ((d.drop (64*(d.length/64)))++s)) (((d.drop (64*(d.length/64)))++s).drop (64*(((d.drop (64*(d.length/64)))++s).length/64))) (d.length+s.length)=hob (d++s):=by
 obtain ⟨q,hq⟩ : ∃q,q=d.length/64:=⟨_,rfl⟩
 obtain ⟨x,hx⟩ : ∃x,x=(d.drop (64*q))++s:=⟨_,rfl⟩
 have ht:(d.take (64*q)).length=64*q:=by simp;omega
 have hd:d++s=d.take (64*q)++x:=by rw [hx,<-yH,wR]
 have hb:ZdE q iv d=ZdE q iv (d.take (64*q)):=by
  conv=>lhs;rw [<-wR (64*q) d]
  exact ZnX _ _ _ _ ht
 have hl:(d++s).length/64=q+x.length/64:=by rw [hd,zU,ht];omega
 rw [<-hq,<-hx];unfold hob;rw [hl,hd,Zju q _ iv _ x ht,<-hb];have e:(d.take (64*q)++x).drop (64*(q+x.length/64))=x.drop (64*(x.length/64)):=by
  rw [Nat.mul_add,<-sD,List.drop_left' ht]
 rw [e,<-hd,zU]
def write_eq (N:Nat) (hN:100<=N) (i:Nat) (ps:List Bs) (st:LL) (hi:i<st.length) (d:Bs) (hN2:d.length+ps.flatten.length<64*N) (hb:d.length+ps.flatten.length<1099511627776) (hps:ps.length<N) (hps2:ps.length<1000000) :
  ZaE N (some i) (ps.map fun s=>[L.str (mkB s)]) (st.set i (hob d))=some (st.set i (hob (d++ps.flatten))):=by
 unfold ZaE;rw [aE aG];refine Zck (fun m (y:Option Nat×Int×LL)=>∃j:Nat,y=(some i,(j:Int),st.set i (hob (d++(ps.take j).flatten)))/\m+j=ps.length) ?_ N ps.length _ ⟨0,by simp,aF⟩ hps;rintro G m _ ⟨j,rfl,hm⟩ ih;unfold ZaE.p1;dsimp only;by_cases hj:j<ps.length
 ·obtain ⟨e,he⟩ : ∃e,e=d++(ps.take j).flatten:=⟨_,rfl⟩
  have h3:(ps.take (j+1)).flatten=(ps.take j).flatten++ps[j]:=by rw [zY hj,rI,uS,tL,wU]
  have h4:ps.flatten.length=(ps.take (j+1)).flatten.length+(ps.drop (j+1)).flatten.length:=by
   conv=>lhs;rw [<-wR (j+1) ps]
   rw [rI,zU]
  rw [h3,zU] at h4;have h5:e.length+ps[j].length<=d.length+ps.flatten.length:=by rw [he,zU];omega
  have hg:(ps.map fun s=>[L.str (mkB s)])[zD (j:Int)]? = some [L.str (mkB ps[j])]:=by rw [zJ,List.getElem?_map,zQ hj];rfl
  rw [aD (by simp [len];omega),Zag aF,hg,Zan,dec_t_ls,Zaa,zP hi,Zan,<-he];unfold hob;rw [ZmO];dsimp only;have hs:(mkB ps[j]).size=ps[j].length:=by simp [mkB,ByteArray.size]
  rw [ZuY,ZjB,xJ,xJ,xJ,Zag (by rw [ZfN];simp;omega),hs,Zdq (n:=((ps[j].length:Nat):Int)) aF aF,Zdq aF aF];have:=write_p2 N hN G i (ps.map fun s=>[L.str (mkB s)]) (j:Int) st hi (e.length+ps[j].length) (ZdE (e.length/64) iv e) (by rw [Zjt];rfl) (e.drop (64*(e.length/64))++ps[j]) (by
   have:(e.drop (64*(e.length/64))++ps[j]).length<=e.length+ps[j].length:=by simp
   omega)
  rw [hob_more e ps[j]] at this;refine Eq.trans this ?_;rw [Zez aF,he,yH,<-h3];exact ih (m-1) _ aF ⟨j+1,rfl,aF⟩
 rw [aE (by simp [len];omega),zW aF]
def be8_get (n k:Nat) (hk:k<8):(be8 n).take (k+1)=(be8 n).take k ++ [UInt8.ofNat (n >>> (8*(7-k)))]:=by
 have:k=0\/k=1\/k=2\/k=3\/k=4\/k=5\/k=6\/k=7:=aF
 rcases this with rfl | rfl | rfl | rfl | rfl | rfl | rfl | rfl<;>rfl
def outF (h:List W) (i:Nat) (o:List Int):List Int:=(((o.set (4*i) (byI (UInt8.ofNat ((h.getD i 0).toNat >>> 24)))).set (4*i+1) (byI (UInt8.ofNat ((h.getD i 0).toNat >>> 16)))).set (4*i+2) (byI (UInt8.ofNat ((h.getD i 0).toNat >>> 8)))).set (4*i+3) (byI (UInt8.ofNat (h.getD i 0).toNat))
def out8 (a b c d e f g k:W):run (outF [a,b,c,d,e,f,g,k]) 0 8 (zB 32 0)=(ZtS [a,b,c,d,e,f,g,k]).map byI:=by kernel_rfl
def out_eq8 (h:List W) (hh:h.length=8):run (outF h) 0 8 (zB 32 0)=(ZtS h).map byI:=by
 match h,hh with
 | [a,b,c,d,e,f,g,k],_=>exact out8 a b c d e f g k
def v8_iW (x:W):v8 (iW x)=byI (UInt8.ofNat x.toNat):=v8_nat _
def ZkS (x:W) (n:Nat) (h:n<=32):v8 (Zbx .u32 (iW x) (n:Int))=byI (UInt8.ofNat (x.toNat >>> n)):=by
 rw [ZnR x n h,v8_iW,BitVec.toNat_ushiftRight]
def sum_p4 (N:Nat) (hN:100<=N) (h:List W) (hh:h.length=8) (r:LL) (z:Int) (st:LL) :
  loopN (Zam.p4 N ⟨h.map iW,r,z⟩ st) N (0,zB 32 0)=some ((ZtS h).map byI,st):=by
 have:=Zjp (body:=Zam.p4 N ⟨h.map iW,r,z⟩ st) (fun (j:Nat) (x:List Int)=>((j:Int),x)) (fun x=>x.length=32)
  (outF h) 0 8 (fun x=>some (x,st)) ?_ ?_ 8 0 N (zB 32 0) (zH _) rfl aF aG
 ·rw [out_eq8 h hh] at this;exact this
 ·intro G j x _ hj hx;refine ⟨?_,by simpa [outF] using hx⟩;have b0:w64 (4*(j:Int))=((4*j:Nat):Int):=by rw [ZaK aF aF];omega
  have b1:=ZaK (n:=((4*j:Nat):Int)+1) aF aF;have b2:=ZaK (n:=((4*j:Nat):Int)+2) aF aF;have b3:=ZaK (n:=((4*j:Nat):Int)+3) aF aF;have c1:(((4*j:Nat):Int)+1).toNat=4*j+1:=aF
  have c2:(((4*j:Nat):Int)+2).toNat=4*j+2:=aF
  have c3:(((4*j:Nat):Int)+3).toNat=4*j+3:=aF
  have k24:=ZkS (h.getD j 0) 24 aF;have k16:=ZkS (h.getD j 0) 16 aF;have k8:=ZkS (h.getD j 0) 8 aF;simp only [Int.cast_ofNat_Int] at k24 k16 k8;unfold Zam.p4;dsimp only;rw [aD aH,b0,b1,b2,b3,c1,c2,c3,zJ,zJ,ZgT,k24,k16,k8,v8_iW,Zag aF,Zag aF,Zag aF,Zag aF,Zag aF,Zag aF,Zag aF,Zag aF,Zag aF,Zez aF];rfl
 intro G x hx;unfold Zam.p4;dsimp only;rw [aE aG]
def sum_p3 (N:Nat) (hN:100<=N) (st t0:LL) (b:Bs) (h0:List W) (hh:h0.length=8) (n:Nat) (hb:b.length=64*n) (hn:n<N) (hn2:n<100000000000) :
  ∃x,loopN (Zam.p3 N st (Zha b)) N (0,b.length,st ++ [hsh h0 [] 0])=some ((ZtS (ZdE n h0 b)).map byI,st ++ [x]):=by
 refine ⟨hsh (ZdE n h0 b) [] 0,?_⟩;have hlt : ∀y:List L,st.length<(st ++ [y]).length:=fun y=>by simp
 have hget : ∀y:List L,(st ++ [y])[st.length]? = some y:=fun y=>by simp
 have hset : ∀y z:List L,(st ++ [y]).set st.length z=st ++ [z]:=fun y z=>by simp
 refine Zck (fun m (y:Nat×Nat×LL)=>∃(j:Nat) (h:List W),y=(64*j,64*m,st ++ [hsh h [] 0])/\m+j=n/\h.length=8/\ZdE m h (b.drop (64*j))=ZdE n h0 b) ?_ N n _ ⟨0,h0,by rw [hb],aF,hh,rfl⟩ hn;rintro G m _ ⟨j,h,rfl,hm,hh1,hbl⟩ ih;unfold Zam.p3;dsimp only;cases m with
 | succ m=>
  have tk:Zaj N (some st.length) (Zha ((b.drop (64*j)).take 64)) (st ++ [hsh h [] 0])=some ((st ++ [hsh h [] 0]).set st.length (hsh (comp h ((b.drop (64*j)).take 64)) [] 0)):=
   Ztn N hN st.length _ h [] ((0:Nat):Int) (hget _) hh1 _ aH
  rw [aD aH,Zag (by rw [ZfN];omega),ZpF,ZpE,tk,Zaa,hset,Zag aF];refine ih m _ aF ⟨j+1,comp h ((b.drop (64*j)).take 64),?_,aF,by rw [ZlO];exact hh1,?_⟩
  ·congr 2
  rw [<-hbl,ZdE,sD,(aF:64*j+64=64*(j+1))]
 | zero=>
  rw [aE aG,hget,Zan,ZmO];rw [sum_p4 N hN h hh1];simp only [ZdE] at hbl;rw [hbl]
def sum_eq (N:Nat) (i:Nat) (st:LL) (d:Bs) (hst:st[i]? = some (hob d)) (hd:d.length<1099511627776) (hN:d.length+200<=N) :
  ∃x,Zam N (some i) st=some ((sha d).map byI,st ++ [x]):=by
 have hi:=Zsc hst;obtain ⟨q,hq⟩ : ∃q,q=d.length/64:=⟨_,rfl⟩
 obtain ⟨r,hr⟩ : ∃r,r=d.drop (64*q):=⟨_,rfl⟩
 have hrl:r.length=d.length%64:=by rw [hr];simp;omega
 obtain ⟨t,ht⟩ : ∃t,t=(r++128::zB (zs d.length) 0)++be8 (8*d.length):=⟨_,rfl⟩
 have hpad:pad d=d.take (64*q)++t:=by
  rw [ht,pad];have e:d=d.take (64*q)++r:=by rw [hr,wR]
  conv=>lhs;lhs;lhs;rw [e]
  simp only [yH]
 have hz:=Zth d.length;have htl:t.length=64*((r.length+9+zs d.length)/64):=by
  rw [ht];simp [be8];omega
 have htq:(d.take (64*q)).length=64*q:=by simp;omega
 have hpl:(pad d).length/64=q+t.length/64:=by rw [hpad,zU,htq];omega
 have hsha:sha d=ZtS (ZdE (t.length/64) (ZdE q iv d) t):=by
  have hb:ZdE q iv d=ZdE q iv (d.take (64*q)):=by
   conv=>lhs;rw [<-wR (64*q) d]
   exact ZnX _ _ _ _ htq
  rw [sha,hpl,hpad,Zju q _ iv _ t htq,<-hb]
 have hob':hob d=hsh (ZdE q iv d) r d.length:=by unfold hob;rw [<-hq,<-hr]
 rw [hob'] at hst;have hz64:zs d.length<64:=by unfold zs;omega
 obtain ⟨x,e3⟩:=sum_p3 N aF st st t (ZdE q iv d) (by rw [Zjt];rfl) (t.length/64) aF aF aF;refine ⟨x,?_⟩;have hzero:Zar.lo ⟨(ZdE q iv d).map iW,[],0⟩=hsh (ZdE q iv d) [] 0:=rfl;have e2:loopN (Zam.p2 N i st ⟨(ZdE q iv d).map iW,Zha r,(d.length:Int)⟩) N (Zha (r++128::zB (zs d.length) 0),7)=some ((sha d).map byI,st ++ [x]):=by
  refine Zck (fun m (y:LL×Int)=>∃k,y=(Zha ((r++128::zB (zs d.length) 0)++(be8 (8*d.length)).take k),7-(k:Int))/\m+k=8) ?_ N 8 _ ⟨0,by simp,rfl⟩ aF;rintro G m _ ⟨k,rfl,hk⟩ ih;unfold Zam.p2;dsimp only;by_cases hk8:k<8
  ·have hs:7-(k:Int)=((7-k:Nat):Int):=by omega
   have g1:(st ++ [Zar.lo (Zar.mk (List.map iW (ZdE q iv d)) [] 0)])[i]? = some (hsh (ZdE q iv d) r d.length):=by rw [List.getElem?_append_left hi];exact hst
   have b0:w64 (8*((7-k:Nat):Int))=((8*(7-k):Nat):Int):=by rw [ZaK aF aF];omega
   have b1:v64 ((d.length:Int)*8)=((8*d.length:Nat):Int):=by rw [Zdq aF aF];omega
   rw [aD aH,g1,Zan,ZmO];dsimp only;rw [hs,b0,b1,Zag aF,shr_u64 _ _ aF,v8_nat];have e1:Zha ((r++128::zB (zs d.length) 0)++(be8 (8*d.length)).take k) ++ [[zK .u8 (byI (UInt8.ofNat ((8*d.length) >>> (8*(7-k)))))]]=Zha ((r++128::zB (zs d.length) 0)++(be8 (8*d.length)).take (k+1)):=by
    rw [be8_get _ k hk8,<-yH];simp [Zha]
   rw [e1,Zag (by rw [ZfN];simp;omega)];refine ih (m-1) _ aF ⟨k+1,?_,aF⟩
   congr 1
   rw [ZaK aF aF];omega
  have hk9:k=8:=aF
  subst hk9;have e5:(be8 (8*d.length)).take 8=be8 (8*d.length):=rfl;rw [aE aG,e5,<-ht,ZfN,hzero,e3,<-hsha]
 unfold Zam;rw [aE aG,Zaa,hst,Zan,ZmO];dsimp only;have e0:([]:LL)++Zha r ++ [[zK .u8 128]]=Zha (r ++ [128]):=by simp [Zha,byI]
 rw [e0,Zag (by rw [uH,ZfN];omega),Zag (by rw [ZfN];simp;omega)];refine Zck (fun m (y:LL)=>∃k,y=Zha (r++128::zB k 0)/\m+k=zs d.length) ?_ N (zs d.length) _ ⟨0,rfl,aF⟩ aF;rintro G m _ ⟨k,rfl,hk⟩ ih;unfold Zam.p1;rw [ZrV];have hlen:(r++128::zB k 0).length=r.length+1+k:=by simp;omega
 by_cases hm:m=0
 ·have:k=zs d.length:=by omega
  subst this;rw [hlen,aE,e2];simp only [bne_iff_ne,ne_eq,Decidable.not_not];rw [xI aF];omega
 have e1:Zha (r++128::zB k 0) ++ [[zK .u8 0]]=Zha (r++128::zB (k+1) 0):=by
  rw [List.replicate_succ'];simp [Zha,byI]
 rw [hlen,aD,e1,Zag (by rw [ZfN];simp;omega)]
 ·exact ih (m-1) _ aF ⟨k+1,rfl,aF⟩
 simp only [bne_iff_ne,ne_eq];rw [xI aF];unfold zs at hk hz64;omega
def hob_nil:hob []=Zar.lo ⟨glob_digest_starts,[],0⟩:=by
 have:glob_digest_starts=iv.map iW:=by decide +kernel
 rw [this];rfl
def Of_eq (N:Nat) (ps:List Bs) (st:LL) (h1:ps.flatten.length<1099511627776) (h2:ps.flatten.length+200<=N) (h3:ps.length<N) (h4:ps.length<1000000) :
  ∃ex,Zfb N (ps.map fun s=>[L.str (mkB s)]) st=some ((sha ps.flatten).map byI,st++ex):=by
 unfold Zfb Zfu;rw [Zaa];dsimp only;rw [<-hob_nil];have hw:=write_eq N aF st.length ps (st ++ [hob []]) aG [] (by rw [List.length_nil];omega) (by rw [List.length_nil];omega) h3 h4;have hset : ∀y z:List L,(st ++ [y]).set st.length z=st ++ [z]:=fun y z=>by simp
 rw [hset,hset,uH] at hw;rw [hw,Zaa];obtain ⟨x,hs⟩:=sum_eq N st.length (st ++ [hob ps.flatten]) ps.flatten aG h1 h2;rw [hs,Zaa];exact ⟨[hob ps.flatten,x],by simp⟩
def Zrj (b:Bs):Zlz (b.map byI)=mkB b:=by
 unfold Zlz mkB
 congr 2
 rw [rL]
 conv=>rhs;rw [<-List.map_id b]
 refine tO fun x _=>?_;simp [byI]
def Zvq (N:Nat) (ps:List Bs) (st:LL) (h1:ps.flatten.length<1099511627776) (h2:ps.flatten.length+300<=N) (h3:ps.length<N) (h4:ps.length<1000000) :
  ∃ex,ZdZ N (ps.map fun s=>[L.str (mkB s)]) st=some ((sha2 ps.flatten).map byI,st++ex):=by
 obtain ⟨e1,h5⟩:=Of_eq N ps st h1 aF h3 h4;unfold ZdZ;rw [h5,Zaa];dsimp only;have hl:=ZqP ps.flatten;obtain ⟨e2,h6⟩:=Of_eq N [sha ps.flatten] (st++e1) aH aH aH aG;rw [Zrj];simp only [List.map_cons,List.map_nil,uS,tL,wU] at h6;rw [h6,Zaa];exact ⟨e1++e2,by rw [yH];rfl⟩
def leB (x:Int) (j:Nat):UInt8:=UInt8.ofNat ((x/256^j)%256).toNat
def le (k:Nat) (x:Int):Bs:=(List.range k).map (leB x)
def Ziy (k:Nat) (x:Int):(le k x).length=k:=by simp [le]
def le_succ (k:Nat) (x:Int):le (k+1) x=le k x ++ [leB x k]:=by simp [le,List.range_succ]
def v8_by (x:Int):v8 x=byI (UInt8.ofNat (x%256).toNat):=by
 rw [Zlg,Zkx];omega
def ZqN (x:Int) (k:Nat) (h:k<=64):Zbx .i64 x (k:Int)=x/2^k:=by
 have e:min (zD (k:Int)) (IntKind.bits .i64)=k:=by simp only [IntKind.bits,zJ];omega
 unfold Zbx;rw [e,uO _ (Int.le_of_lt (Int.pow_pos (by decide)))]
def v8_shr (x:Int) (j:Nat) (h:j<8):v8 (Zbx .i64 x ((8*j:Nat):Int))=byI (leB x j):=by
 rw [ZqN x _ aF,v8_by,Int.pow_mul];rfl
abbrev ZsH (d:Bs):List L:=[L.own true 1 (Zha d)]
def rowB_one (x:UInt8) : [[zK .u8 (byI x)]]=Zha [x]:=rfl
def ZlC (size:Int):Nat:=(if (8:Int)<(if (1:Int)>size then 1 else size) then 8 else (if (1:Int)>size then 1 else size)).toNat
def ZqK (size:Int):ZlC size<=8:=by unfold ZlC;split<;>split<;>omega
def Zpr (size:Int):(if (8:Int)<(if (1:Int)>size then 1 else size) then 8 else (if (1:Int)>size then 1 else size))=(ZlC size:Int):=by unfold ZlC;split<;>split<;>omega
section
variable {N:Nat} {st:LL} {i:Nat} {d:Bs}
def put_p2 (hN:10<=N) (hi:i<st.length) (c1:Option Nat×Int×LL->Option LL) (size x:Int) (l:LL) (v:Int) (d:Bs) (hd:d.length<1099511627776) :
  loopN (ZaU.p2 N c1 size x l v) N (some i,0,st.set i (ZsH d))=c1 (some i,w64 (v+1),st.set i (ZsH (d++le (ZlC size) x))):=by
 have hs:=ZqK size;refine Zck (fun m (y:Option Nat×Int×LL)=>∃j:Nat,y=(some i,(j:Int),st.set i (ZsH (d++le j x)))/\m+j=ZlC size) ?_ N (ZlC size) _ ⟨0,by simp [le],aF⟩ aF;rintro G m _ ⟨j,rfl,hj⟩ ih;unfold ZaU.p2;dsimp only;rw [Zpr];by_cases hm:j<ZlC size
 ·have b0:w64 (8*(j:Int))=((8*j:Nat):Int):=by rw [ZaK aF aF];omega
  have hl:=Ziy j x;rw [aD aH,Zaa,zP hi,Zan,Zjb,b0,Zag aF,v8_shr _ _ aF,rowB_one,ZjB,Zag (by rw [ZfN];simp [hl];omega),xJ,xJ,yH,<-le_succ,Zez aF];exact ih (m-1) _ aF ⟨j+1,rfl,aF⟩
 have:j=ZlC size:=aF
 subst this;rw [aE aG]
def Put_eq (hN:10<=N) (hst:st[i]? = some (ZsH d)) (size:Int) (xs:List Int) (hx:xs.length<N) (hx2:xs.length<1000000) (hd:d.length<1000000000000) :
  ZaU N (some i) size (Zec xs) st=some (st.set i (ZsH (d++xs.flatMap (le (ZlC size))))):=by
 have hi:=Zsc hst;have hs:=ZqK size;have hfl : ∀ys:List Int,(ys.flatMap (le (ZlC size))).length=ZlC size*ys.length:=fun ys=>by
  induction ys with
  | nil=>rfl
  | cons y ys ih=>simp only [uF,zU,Ziy,ih,List.length_cons,Nat.mul_add];omega
 unfold ZaU;refine Zck (fun m (y:Option Nat×Int×LL)=>∃j:Nat,y=(some i,(j:Int),st.set i (ZsH (d++(xs.take j).flatMap (le (ZlC size)))))/\m+j=xs.length) ?_ N xs.length _ ⟨0,by simp [Ztv hst],aF⟩ hx;rintro G m _ ⟨j,rfl,hj⟩ ih;unfold ZaU.p1;dsimp only;have hlen:len (Zec xs)=(xs.length:Int):=by simp [len]
 rw [hlen];by_cases hm:j<xs.length
 ·have h9:=hfl (xs.take j);have h10:ZlC size*(xs.take j).length<=8*1000000:=Nat.mul_le_mul hs aH;rw [aD aH,Zag aF,ZjA (zQ hm),Zan,Zeu,put_p2 hN hi G size xs[j] (Zec xs) j _ (by rw [zU,h9];omega),yH];have e:(xs.take (j+1)).flatMap (le (ZlC size))=(xs.take j).flatMap (le (ZlC size))++le (ZlC size) xs[j]:=by
   rw [zY hm,List.flatMap_append,uF,List.flatMap_nil,wU]
  rw [<-e,Zez aF];exact ih (m-1) _ aF ⟨j+1,rfl,aF⟩
 rw [aE aH,zW aF]
def Names_eq (hN:10<=N) (hst:st[i]? = some (ZsH d)) (xs:List Bs) (hx:xs.length<N) (hx2:xs.length<1000000) (hd:d.length<1000000000000) (hl : ∀x∈xs,x.length<=32) :
  ZbC N (some i) (xs.map fun x=>[L.arr .u8 32 (x.map byI)]) st=some (st.set i (ZsH (d++xs.flatten))):=by
 have hi:=Zsc hst;unfold ZbC;refine Zck (fun m (y:Option Nat×Int×LL)=>∃j:Nat,y=(some i,(j:Int),st.set i (ZsH (d++(xs.take j).flatten)))/\m+j=xs.length) ?_ N xs.length _ ⟨0,by simp [Ztv hst],aF⟩ hx;rintro G m _ ⟨j,rfl,hj⟩ ih;unfold ZbC.p1;dsimp only;have hlen:len (xs.map fun x=>[L.arr .u8 32 (x.map byI)])=(xs.length:Int):=by simp [len]
 rw [hlen];by_cases hm:j<xs.length
 ·have h9 : ∀ys:List Bs,(∀x∈ys,x.length<=32)->ys.flatten.length<=32*ys.length:=fun ys=>by
   induction ys with
   | nil=>intro _;simp
   | cons y ys ih=>
    intro h;have h1:=h y (List.mem_cons_self ..);have h2:=ih fun x hx=>h x (List.mem_cons_of_mem _ hx);rw [uS,zU,List.length_cons];omega
  have h10:=h9 (xs.take j) fun x hx=>hl x (List.mem_of_mem_take hx);have h11:=hl xs[j] (List.getElem_mem hm);have hg:(xs.map fun x=>[L.arr .u8 32 (x.map byI)])[zD (j:Int)]? = some [L.arr .u8 32 (xs[j].map byI)]:=by rw [zJ,List.getElem?_map,zQ hm];rfl
  have hrow:List.map (fun x=>[zK .u8 x]) (xs[j].map byI)=Zha xs[j]:=by simp [Zha]
  have e:(xs.take (j+1)).flatten=(xs.take j).flatten++xs[j]:=by
   rw [zY hm,rI,uS,tL,wU]
  have h12:(xs.take j).length<=1000000:=by simp;omega
  rw [aD aH,Zag aF,hg,Zan,Zls,Zaa,zP hi,Zan,Zjb,hrow,ZjB,Zag (by rw [ZfN,zU,zU];omega),xJ,xJ,yH,<-e,Zez aF];exact ih (m-1) _ aF ⟨j+1,rfl,aF⟩
 rw [aE aH,zW aF]
end
structure HW (h:Zal) (p r:Bs):Prop where
 prev:h.Prev=p.map byI
 root:h.Root=r.map byI
 lp:p.length=32
 lr:r.length=32
def Zhd (h:Zal):Bool:=decide (-2147483648<=h.Version/\h.Version<2147483648/\0<=h.Time/\h.Time<4294967296/\0<=h.Bits/\h.Bits<4294967296/\0<=h.Nonce/\h.Nonce<4294967296)
def Zqf (h:Zal):Zhd h=true↔(-2147483648<=h.Version/\h.Version<2147483648/\0<=h.Time/\h.Time<4294967296/\0<=h.Bits/\h.Bits<4294967296/\0<=h.Nonce/\h.Nonce<4294967296):=by simp [Zhd]
def ZgZ {b:Bool} {P:Prop} [Decidable P] (h:b=true↔P):some b=some (decide P):=by
 congr 1;rw [Bool.eq_iff_iff,decide_eq_true_eq];exact h
def Zjc (N:Nat) (b:Int):ZdV N b=some (decide (0<=b/\b<4294967296)):=by
 unfold ZdV;split<;>(refine ZgZ ⟨fun h=>?_,fun h=>?_⟩<;>simp only [decide_eq_true_eq,Bool.false_eq_true] at * <;> omega)
def Zft (N:Nat) (h:Zal):ZcW N h=some (Zhd h):=by
 unfold ZcW Zhd;simp only [Zjc,Zaa]
 repeat' split
 all_goals (refine ZgZ ⟨fun h=>?_,fun h=>?_⟩<;>simp only [decide_eq_true_eq,Bool.false_eq_true] at * <;> omega)
def byOf (l:List Int):Bs:=l.map fun n=>UInt8.ofNat n.toNat
def ZlP (b:Bs):byOf (b.map byI)=b:=by
 unfold byOf;rw [rL]
 conv=>rhs;rw [<-List.map_id b]
 refine tO fun x _=>?_;simp [byI]
def ZiY (h:Zal):Bs:=le 4 h.Version++byOf h.Prev++byOf h.Root++le 4 h.Time++le 4 h.Bits++le 4 h.Nonce
def hid (h:Zal):List Int:=if Zhd h=true then (sha2 (ZiY h)).map byI else zB 32 0
def Text_eq (N:Nat) (d:Bs):Zdi N (Zha d)=some (mkB d):=by
 unfold Zdi;have h1:isB (Zha d)=true:=by simp [isB,Zha]
 have h2:List.map Zge (Zha d)=d.map byI:=by simp [Zha,Zge]
 rw [Zag h1,h2,Zrj]
def Bytes_eq (N:Nat) (hN:10<=N) (h:Zal) {p r:Bs} (hw:HW h p r) (hg:Zhd h=true) (st:LL) :
  ∃ex,ZdU N h st=some (mkB (ZiY h),0,st++ex):=by
 have hb:ZiY h=((le 4 h.Version ++ [p,r].flatten) ++ [h.Time,h.Bits,h.Nonce].flatMap (le 4)):=by
  simp [ZiY,hw.prev,hw.root,ZlP]
 have hset : ∀y z:List L,(st ++ [y]).set st.length z=st ++ [z]:=fun y z=>by simp
 have hget : ∀y:List L,(st ++ [y])[st.length]? = some y:=fun y=>by simp
 have h4:ZlC 4=4:=rfl;have e1:=Put_eq (N:=N) (st:=st ++ [ZsH []]) (i:=st.length) (d:=[]) hN (hget _) 4 [h.Version] aH aG aG;have e2:=Names_eq (N:=N) (st:=st ++ [ZsH (le 4 h.Version)]) (i:=st.length) (d:=le 4 h.Version) hN (hget _) [p,r] aH aG (by rw [Ziy];omega) (by simp [hw.lp,hw.lr]);have e3:=Put_eq (N:=N) (st:=st ++ [ZsH (le 4 h.Version ++ [p,r].flatten)]) (i:=st.length) (d:=le 4 h.Version ++ [p,r].flatten) hN (hget _) 4 [h.Time,h.Bits,h.Nonce] aH aG (by simp [Ziy,hw.lp,hw.lr]);simp only [h4,hset,uF,List.flatMap_nil,wU,uH] at e1;rw [hset] at e2;rw [h4,hset,<-hb] at e3;unfold ZdU ZcE ZcE.p1;rw [Zft,Zaa,hg,aE aG,Zaa,aE aG];have i1 : [[zK .i64 h.Version]]=Zec [h.Version]:=rfl;have i2 : [[L.arr .u8 32 h.Prev],[L.arr .u8 32 h.Root]] = [p,r].map fun x=>[L.arr .u8 32 (x.map byI)]:=by simp [hw.prev,hw.root]
 have i3 : [[zK .i64 h.Time],[zK .i64 h.Bits],[zK .i64 h.Nonce]]=Zec [h.Time,h.Bits,h.Nonce]:=rfl;have i0:([L.own true 1 []]:List L)=ZsH []:=rfl;rw [i0,i1,i2,i3,e1,Zaa,e2,Zaa,e3,Zaa,Zaa,hget,Zan,Zjb,Text_eq,Zaa];exact ⟨_,rfl⟩
def Id_eq (N:Nat) (hN:500<=N) (h:Zal) {p r:Bs} (hw:HW h p r) (st:LL) : ∃ex,ZeT N h st=some (hid h,st++ex):=by
 unfold ZeT hid;cases hg:Zhd h with
 | false=>
  unfold ZdU;rw [Zft,hg,Zaa];exact ⟨[],by simp⟩
 | true=>
  obtain ⟨e1,h1⟩:=Bytes_eq N aF h hw hg st;have hl:(ZiY h).length=80:=by simp [ZiY,Ziy,hw.prev,hw.root,ZlP,hw.lp,hw.lr]
  obtain ⟨e2,h2⟩:=Zvq N [ZiY h] (st++e1) (by simp [hl]) (by simp [hl];omega) aH aG;simp only [List.map_cons,List.map_nil,uS,tL,wU] at h2;rw [h1,Zaa];dsimp only;rw [aE aG,h2,Zaa];exact ⟨e1++e2,by simp⟩
def hid_by (h:Zal) : ∃b:Bs,hid h=b.map byI/\b.length=32:=by
 unfold hid;split
 ·exact ⟨_,rfl,ZqP _⟩
 exact ⟨zB 32 0,by simp [byI],by simp⟩
end Go.Dn.F
namespace Go.Dn.F
open Go.Dn
def wfB (l:List Int):Bool:=l.length==32&&l.all fun n=>decide (0<=n/\n<256)
def wfB_iff (l:List Int):wfB l=true↔∃b:Bs,l=b.map byI/\b.length=32:=by
 constructor
 ·intro h;simp only [wfB,zV,beq_iff_eq,List.all_eq_true,decide_eq_true_eq] at h;refine ⟨byOf l,?_,by simpa [byOf] using h.1⟩;unfold byOf;rw [rL]
  conv=>lhs;rw [<-List.map_id l]
  refine tO fun n hn=>?_;have:=h.2 n hn;simp only [id,Function.comp,Zkx];omega
 rintro ⟨b,rfl,h⟩;simp only [wfB,zV,beq_iff_eq,List.all_eq_true,decide_eq_true_eq,List.length_map];refine ⟨h,fun n hn=>?_⟩;obtain ⟨x,_,rfl⟩:=List.mem_map.1 hn;exact ⟨ZuZ x,Zva x⟩
def wfH (h:Zal):Bool:=wfB h.Prev&&wfB h.Root
def Ztk (h:Zal):wfH h=true↔∃p r,HW h p r:=by
 simp only [wfH,zV,wfB_iff];constructor
 ·rintro ⟨⟨p,h1,h2⟩,r,h3,h4⟩;exact ⟨p,r,h1,h3,h2,h4⟩
 rintro ⟨p,r,h1,h3,h2,h4⟩;exact ⟨⟨p,h1,h2⟩,r,h3,h4⟩
noncomputable def ZeG (N:Nat) (h_0:Zal):Option (List Int):=chk (500<=N)<|chk (wfH h_0=true)<|some (hid h_0)
def Zhe {N:Nat} (hN:500<=N) {h:Zal} (hw:wfH h=true):ZeG N h=some (hid h):=by
 unfold ZeG;rw [Zag hN,Zag hw]
def Zjx {N:Nat} {h:Zal} {r:List Int} (hr:ZeG N h=some r) (st:LL) : ∃ex,ZeT N h st=some (r,st++ex):=by
 unfold ZeG at hr;obtain ⟨h1,hr⟩:=Zba hr;obtain ⟨h2,hr⟩:=Zba hr;cases hr;obtain ⟨p,q,hw⟩:=(Ztk h).1 h2;exact Id_eq N h1 h hw st
def ZfR (p:Zae) (h:Int):Bool:=decide (0<p.Interval/\Int.tmod h p.Interval=0)
def ZmW (N:Nat) (p:Zae) (h:Int):ZdS N p h=some (ZfR p h):=by
 unfold ZdS ZfR;by_cases hi:0<p.Interval
 ·rw [aD (aR hi),Zag aF];refine ZgZ ?_;simp [hi]
 rw [aE (aR hi)];refine ZgZ ?_;simp [hi]
def ZmX (l:LL):List Int:=l.map Zge
def Zgp (p:Zae) (a:ZaW) (h:Zal):ZaW:=
 ⟨⟨w64 (a.Point.Height+1),h.Bits,h.Time,if ZfR p a.Point.Height then h.Time else a.Point.First,if p.Easy&&h.Bits==p.Limit && !ZfR p a.Point.Height then a.Point.Hard else h.Bits⟩,hid h,Zec (h.Time::(ZmX a.Times).take 10)⟩
def Zvn (N:Nat) (hN:10<=N) (st:LL) (i:Nat) (l:List Int) (t:Int) (hst:st[i]? = some [L.own true 1 (Zec l)]) (hl:l.length<1000000) :
  Zbc N (some i) [[zK .i64 t]] st=some (st.set i [L.own true 1 (Zec (t::l.take 10))]):=by
 have hi:=Zsc hst;obtain ⟨N',rfl⟩ : ∃q,N=q+2:=⟨N-2,aF⟩
 unfold Zbc;rw [aE aG,Zaz];have hlen:len (Zec l)=(l.length:Int):=by simp [len]
 have hmin:zD (if (10:Int)<(l.length:Int) then 10 else (l.length:Int))=min 10 l.length:=by split<;>omega
 have ht:(Zec l).take (min 10 l.length)=Zec (l.take 10):=by
  rw [ZpD];congr 1;rcases Nat.le_total 10 l.length with h | h
  ·rw [Nat.min_eq_left h]
  rw [Nat.min_eq_right h,zW (zH _),zW h]
 have h0:([[zK .i64 t]]:LL)[zD (0:Int)]? = some [zK .i64 t]:=rfl;have h1:([[zK .i64 t]]:LL)++Zec (l.take 10)=Zec (t::l.take 10):=rfl;have e1:(w64 (0+1):Int)=1:=by rw [ZaK aF aF];omega
 conv=>lhs;unfold Zbc.p1
 dsimp only;rw [aD (by simp [len]),Zag aF,h0,Zan,Zeu,Zaa,hst,Zan,Zjb,hlen,Zag (by split<;>omega),hmin,Zag aH,ht,h1,Zag aH,e1,Zaz]
 conv=>lhs;unfold Zbc.p1
 dsimp only;rw [aE (by simp [len])]
def Times_eq (N:Nat) (l:List Int) (hl:l.length<1000000):ZcD N (Zec l)=some (Zec l):=by
 unfold ZcD;rw [ZbI,Zag aH,Zaa]
def p2_eq (N:Nat) (hN:30<=N) (a:ZaW) (h:Zal) (out:ZaW) (st:LL) (ha:isI a.Times=true) (hl:a.Times.length<1000000) :
  ∃ex,ZaS.p2 N a h out st=some ({out with Times:=Zec (h.Time::(ZmX a.Times).take 10)},st++ex):=by
 obtain ⟨l,hll⟩ : ∃l,l=ZmX a.Times:=⟨_,rfl⟩
 have hr:a.Times=Zec l:=by rw [hll];exact Zjq ha
 have hlen:l.length<1000000:=by rw [hll,ZmX,List.length_map];exact hl
 refine ⟨[[L.own true 1 (Zec (h.Time::l.take 10))]],?_⟩;rw [<-hll];unfold ZaS.p2;have hlen2:len a.Times=(l.length:Int):=by rw [hr];simp [len]
 have hset : ∀y z:List L,(st ++ [y]).set st.length z=st ++ [z]:=fun y z=>by simp
 have hget : ∀y:List L,(st ++ [y])[st.length]? = some y:=fun y=>by simp
 obtain ⟨m0,hm0⟩ : ∃m0,m0=min 11 l.length:=⟨_,rfl⟩
 have e0:w64 ((if (11:Int)<len a.Times then 11 else len a.Times)-1)=(m0:Int)-1:=by
  rw [hlen2,ZaK]<;>split<;>omega
 rw [e0];refine Zck (fun m (y:Int×LL)=>y=((m:Int)-1,st ++ [[L.own true 1 (Zec ((l.take m0).drop m))]])/\m<=m0) ?_ N m0 _ ⟨by simp [Zec],zH _⟩ aF;rintro G m _ ⟨rfl,hm⟩ ih;unfold ZaS.p3;dsimp only;cases m with
 | succ m=>
  have hml:m<l.length:=aF
  have hc:((m+1:Nat):Int)-1=(m:Int):=aF
  have hcons:(l.take m0).drop m=l[m]::(l.take m0).drop (m+1):=by
   rw [List.drop_eq_getElem_cons aH,List.getElem_take]
  have ht:((l.take m0).drop (m+1)).take 10=(l.take m0).drop (m+1):=zW aH;rw [hc,aD aG,Zag aF,hlen2,Zag aF,hr,ZjA (zQ hml),Zan,Zeu,Zvn N aF _ _ _ _ (hget _) aH,Zaa,hset,ht,<-hcons];exact ih m _ (Nat.lt_succ_self _) ⟨by rw [ZaK aF aF],aF⟩
 | zero=>
  have ht:((l.take m0).drop 0).take 10=l.take 10:=by
   rw [List.drop_zero,List.take_take];by_cases h':10<=l.length
   ·rw [(aF:min 10 m0=10)]
   rw [(aF:min 10 m0=l.length),zW (zH _),zW aF]
  rw [aE aG,Zvn N aF _ _ _ _ (hget _) aH,Zaa,hset,hget,Zan,Zjb,ht,Times_eq N _ aH,Zaa,Zag (ZnA _)]
def Zvr (N:Nat) (hN:500<=N) (p:Zae) (a:ZaW) (h:Zal) (hw:wfH h=true) (ha:isI a.Times=true) (hl:a.Times.length<1000000) (st:LL) :
  ∃ex,ZaS N p a h st=some (Zgp p a h,st++ex):=by
 obtain ⟨e1,h1⟩:=Zjx (Zhe hN hw) st;have key : ∀out:ZaW,∃ex,ZaS.p1 N p a h out (st++e1)=some (⟨⟨out.Point.Height,out.Point.Bits,out.Point.Time,out.Point.First,if p.Easy&&h.Bits==p.Limit && !ZfR p a.Point.Height then a.Point.Hard else out.Point.Hard⟩,out.Prev,Zec (h.Time::(ZmX a.Times).take 10)⟩,st++ex):=fun out=>by
  obtain ⟨e2,h2⟩:=p2_eq N aF a h out (st++e1) ha hl;obtain ⟨e3,h3⟩:=p2_eq N aF a h {out with Point:={out.Point with Hard:=a.Point.Hard}} (st++e1) ha hl;rw [yH] at h2 h3;unfold ZaS.p1;rw [ZmW,Zaa];cases he:p.Easy with
  | false=>rw [aE aG,h2];exact ⟨e1++e2,rfl⟩
  | true=>
   rw [aD rfl];by_cases hb:h.Bits=p.Limit
   ·rw [aD (aR hb)];cases hs:ZfR p a.Point.Height with
    | true=>rw [aE aG,h2];exact ⟨e1++e2,by simp⟩
    | false=>rw [aD (by rfl),h3];exact ⟨e1++e3,by simp [hb]⟩
   rw [aE (aR hb),h2];exact ⟨e1++e2,by simp [hb]⟩
 unfold ZaS;rw [h1,Zaa];dsimp only;rw [ZmW,Zaa];cases hs:ZfR p a.Point.Height with
 | true=>
  obtain ⟨e2,h2⟩:=key (ZaW.mk (Zeh.mk (w64 (a.Point.Height+1)) h.Bits h.Time h.Time h.Bits) (hid h) []);rw [aD rfl,h2];exact ⟨e2,by unfold Zgp;rw [hs];rfl⟩
 | false=>
  obtain ⟨e2,h2⟩:=key (ZaW.mk (Zeh.mk (w64 (a.Point.Height+1)) h.Bits h.Time a.Point.First h.Bits) (hid h) []);rw [aE aG,h2];exact ⟨e2,by unfold Zgp;rw [hs];rfl⟩
def wfS (a:ZaW):Bool:=isI a.Times&&decide (a.Times.length<1000000)
noncomputable def Zen (N:Nat) (p:Zae) (a:ZaW) (h:Zal):Option ZaW:=chk (500<=N)<|chk (wfH h=true)<|chk (wfS a=true)<|some (Zgp p a h)
def ZiH {N:Nat} (hN:500<=N) {p:Zae} {a:ZaW} {h:Zal} (hw:wfH h=true) (ha:wfS a=true):Zen N p a h=some (Zgp p a h):=by
 unfold Zen;rw [Zag hN,Zag hw,Zag ha]
def Zit {N:Nat} {p:Zae} {a:ZaW} {h:Zal} {r:ZaW} (hr:Zen N p a h=some r) (st:LL) : ∃ex,ZaS N p a h st=some (r,st++ex):=by
 unfold Zen at hr;obtain ⟨h1,hr⟩:=Zba hr;obtain ⟨h2,hr⟩:=Zba hr;obtain ⟨h3,hr⟩:=Zba hr;cases hr;simp only [wfS,zV,decide_eq_true_eq] at h3;exact Zvr N h1 p a h h2 h3.1 h3.2 st
def ZhO {N:Nat} {p:Zae} {a:ZaW} {h:Zal} {r:ZaW} (hr:Zen N p a h=some r):([.agg r.ls]:List CV).all flatV=true:=by
 unfold Zen at hr;obtain ⟨h1,hr⟩:=Zba hr;obtain ⟨h2,hr⟩:=Zba hr;obtain ⟨h3,hr⟩:=Zba hr;cases hr;have h4 : ∀l:List Int,((Zec l).all fun x=>x.all flatE)=true:=fun l=>by simp [Zec,flatE]
 have h5:=h4 (h.Time::(ZmX a.Times).take 10);have e1 : ∀k n,flatL (.int k n)=true:=fun _ _=>rfl;have e2 : ∀k n xs,flatL (.arr k n xs)=true:=fun _ _ _=>rfl;have e3 : ∀n xs,flatL (.sl n xs)=xs.all fun x=>x.all flatE:=fun _ _=>rfl;simp only [List.all_cons,List.all_nil,flatV,ZaW.ls,Zgp,e1,e2,e3,Bool.and_true,Bool.true_and];exact h5
def begin_ (p:Zae):ZaW:=Zgp p ⟨⟨0,0,0,0,p.Limit⟩,zB 32 0,[]⟩ p.Genesis
noncomputable def Zgy (N:Nat) (p:Zae):Option ZaW:=Zen N p ⟨⟨0,0,0,0,p.Limit⟩,zB 32 0,[]⟩ p.Genesis
def Znh {N:Nat} (hN:500<=N) {p:Zae} (hw:wfH p.Genesis=true):Zgy N p=some (begin_ p):=ZiH hN hw rfl
def Zmd {N:Nat} {p:Zae} {r:ZaW} (hr:Zgy N p=some r) (st:LL) : ∃ex,Zfr N p st=some (r,st++ex):=by
 obtain ⟨ex,h⟩:=Zit hr st;exact ⟨ex,by unfold Zfr;rw [h,Zaa]⟩
end Go.Dn.F
