import Derived.Test.YthiibbfaabjpgaaGreatDoorGb
import Derived.Test.YthiibbfaabjpgaaGreatDoorFbc
import Derived.Test.YthiibbfaabjpgaaGreatDoorKd
import Derived.Test.YthiibbfaabjpgaaGreatDoorGa
set_option linter.all false
open Bool renaming false_eq_true->yP,and_eq_true->zV,eq_iff_iff->wC
open ByteArray renaming size->yC,mk->wL
open Go.Dn.L renaming arr->zL
open Int renaming tmod->yB,tmod_eq_emod_of_nonneg->xI,tdiv->zT,tdiv_eq_ediv_of_nonneg->wQ,toNat_natCast->zJ,emod_emod->pN,ediv_nonneg->xE,ediv_le_self->uC,ediv_ediv_of_nonneg->xO,pow_succ->uK,toNat->zD,le_of_lt->vV,pow_add->xP,ediv_mul_add_emod->yY,add_zero->sG,toNat_of_nonneg->rJ,emod_nonneg->vJ,emod_lt_of_pos->wZ,ediv_lt_of_lt_mul->wI,add_mul->yO,mul_assoc->yG,mul_comm->yL,add_comm->pY,mul_le_mul_of_nonneg_right->wW,one_mul->uE,mul_nonneg->wH,mul_emod_left->uU,mul_left_comm->vM,mul_le_mul_of_nonneg_left->wS,mul_le_mul->tJ,mul_add->tV,lt_of_lt_of_le->vA,mul_one->tK,zero_add->oA,ediv_emod_unique->uV,mul_lt_mul_of_pos_right->tI,mul_pos->pF,mul_zero->sH,emod_eq_of_lt->xH,ediv_eq_zero_of_lt->uL,emod_one->oE
open List renaming getD->zF,replicate->zB,getElem?_set_self->zP,set_set->xJ,getElem?_eq_getElem->zQ,take_succ_eq_append_getElem->zY,take_of_length_le->zW,getD_eq_getElem?_getD->yZ,length_cons->wO,mem_of_mem_take->uT,length_take->wB,getElem_mem->yM,take_append_drop->wR,countP_append->rS,countP_le_length->uP,drop_eq_getElem_cons->xC,drop_of_length_le->wM
open Nat renaming shiftRight_eq_div_pow->vZ,shiftLeft_eq->tM,le_refl->zH,shiftLeft_add_eq_or_of_lt->rD,div_add_mod->qS,and_two_pow_sub_one_eq_mod->sS,log2->pZ,testBit_two_pow->uY
open Option.some renaming inj->xB
set_option maxRecDepth 4000
namespace Go.Dn.F
open Go.Dn
def ZhV {α X ρ:Type} {body:(X->Option ρ)->X->Option ρ} (enc:Nat->α->X) (Q:Nat->α->Prop) (f:Nat->α->α) (i0 n:Nat) (fin:α->Option ρ)
  (hs : ∀G i x,i0<=i->i<n->Q i x->body G (enc i x)=G (enc (i+1) (f i x))/\Q (i+1) (f i x)) (hf : ∀G x,Q n x->body G (enc n x)=fin x) :
  ∀(m i k:Nat) (x:α),i0<=i->i+m=n->m<k->Q i x->loopN body k (enc i x)=fin (run f i m x)
 | 0,i,k,x,h0,h,hk,hx=>by
  obtain ⟨k,rfl⟩ : ∃q,k=q+1:=⟨k-1,aF⟩
  obtain rfl:i=n:=aF
  exact hf _ x hx
 | m+1,i,k,x,h0,h,hk,hx=>by
  obtain ⟨k,rfl⟩ : ∃q,k=q+1:=⟨k-1,aF⟩
  obtain ⟨h1,h2⟩:=hs (loopN body k) i x h0 aF hx;show body (loopN body k) (enc i x)=_;rw [h1];exact ZhV enc Q f i0 n fin hs hf m (i+1) k (f i x) aF aF aF h2
def ZeQ (a b:Bs):mkB a++mkB b=mkB (a++b):=by
 apply ByteArray.ext;simp [mkB]
def ZdL (a:Bs):yC (mkB a)=a.length:=by simp [mkB,yC]
def ZoA:wL #[]=mkB []:=rfl
def ZlJ (x:UInt8):Zlz (List.map Zge [[L.int .u8 (byI x)]])=mkB [x]:=by
 have:=Zrj [x];simpa [Zge] using this
def ZoH (n:Int):isB [[L.int .u8 n]]=true:=rfl
def mkB_get {a:Bs} {i:Nat}:(((UInt8.toNat (zF (Array.toList (ByteArray.data (mkB a))) i 0):Nat):Int))=byI (a.getD i 0):=rfl
def ZtP (N:Nat) (b:Bs) (hb:b.length<1099511627776) (hN:b.length+200<=N):Zbf N (mkB b)=some (mkB (pad b)):=by
 have hz64:zs b.length<64:=by unfold zs;omega
 have e2 : ∀s:Bs,s.length<2000000000000->loopN (Zbf.p2 N (mkB s)) N (((8*b.length:Nat):Int),mkB [],0)=some (mkB (s++be8 (8*b.length))):=fun s hs=>by
  refine Zck (fun m (y:Int×ByteArray×Int)=>∃k,y=(((((8*b.length) >>> (8*k)):Nat):Int),mkB ((be8 (8*b.length)).drop (8-k)),(k:Int))/\m+k=8) ?_ N 8 _ ⟨0,by simp [be8],rfl⟩ aF;rintro G m _ ⟨k,rfl,hk⟩ ih;unfold Zbf.p2;dsimp only;by_cases hk8:k<8
  ·obtain ⟨q,hq⟩ : ∃q,q=(8*b.length) >>> (8*k):=⟨_,rfl⟩
   have hqb:q<=8*b.length:=by rw [hq];exact Nat.shiftRight_le _ _
   have h1:v8 (yB (q:Int) 256)=byI (UInt8.ofNat q):=by
    rw [xI aF,Zlg,Zkx];omega
   have h2:w64 (zT (q:Int) 256)=(((8*b.length) >>> (8*(k+1)):Nat):Int):=by
    rw [wQ aF,ZaK aF aF,Nat.mul_add,Nat.shiftRight_add,<-hq,vZ];omega
   have h3 : [UInt8.ofNat q]++(be8 (8*b.length)).drop (8-k)=(be8 (8*b.length)).drop (8-(k+1)):=by
    rw [hq];have:k=0\/k=1\/k=2\/k=3\/k=4\/k=5\/k=6\/k=7:=aF
    rcases this with rfl | rfl | rfl | rfl | rfl | rfl | rfl | rfl<;>rfl
   rw [aD aH,Zag (ZoH _),<-hq,h1,ZlJ,ZdL,ZdL,Zag (by simp [be8];omega),h2,ZeQ,h3,Zez aF];exact ih (m-1) _ aF ⟨k+1,rfl,aF⟩
  obtain rfl:k=8:=aF
  rw [aE aG,ZdL,ZdL,Zag (by simp [be8];omega),ZeQ];rfl
 unfold Zbf;have h128:wL #[128]=mkB [128]:=rfl;rw [h128,ZdL,ZdL,Zag aH,ZeQ];refine Zck (fun m (y:ByteArray)=>∃k,y=mkB (b++128::zB k 0)/\m+k=zs b.length) ?_ N (zs b.length) _ ⟨0,rfl,aF⟩ aF;rintro G m _ ⟨k,rfl,hk⟩ ih;unfold Zbf.p1;have hlen:(b++128::zB k 0).length=b.length+1+k:=by simp;omega
 have h0:wL #[0]=mkB [0]:=rfl;have h8:w64 (8*((yC (mkB b):Nat):Int))=((8*b.length:Nat):Int):=by rw [ZdL,ZaK aF aF];omega
 rw [ZdL,hlen,h0,ZeQ,ZdL,h8,ZoA];by_cases hm:m=0
 ·have:k=zs b.length:=by omega
  subst this;rw [aE,e2 _ (by rw [hlen];omega)]
  ·rfl
  simp only [bne_iff_ne,ne_eq,Decidable.not_not];rw [xI aF];have:=Zth b.length;omega
 have e1:(b++128::zB k 0) ++ [0]=b++128::zB (k+1) 0:=by
  rw [List.replicate_succ'];simp
 rw [aD,e1,Zag aH]
 ·exact ih (m-1) _ aF ⟨k+1,rfl,aF⟩
 simp only [bne_iff_ne,ne_eq];rw [xI aF];unfold zs at hk hz64;omega
def ZgF (N:Nat) (x:W) (n:Nat) (h0:0<n) (h1:n<32):Zbp N (iW x) (n:Int)=some (iW (ror x n)):=by
 have e:v64 (32-(n:Int))=((32-n:Nat):Int):=by rw [Zdq aF aF];omega
 unfold Zbp;rw [e,Zag aF,Zag aF,ZnR _ _ aF,Zqe _ _ aF,Zlq,ror_add x n h0 h1]
def k_eq (N:Nat) (i:Nat) (hi:i<64):Zgq N (i:Int)=some (iW (kks.getD i 0)):=by
 unfold Zgq;rw [Zag aF,Zag aF,zJ,<-ZrC];rfl
def tdiv8 (x:W):v32 (zT (iW x) 8)=iW (x >>> 3):=by
 have:=iW_lt x;have:=Zuo x;rw [wQ (Zuo x),Zry aF aF];simp only [iW,BitVec.toNat_ushiftRight,vZ];omega
def tdiv1024 (x:W):v32 (zT (iW x) 1024)=iW (x >>> 10):=by
 have:=iW_lt x;have:=Zuo x;rw [wQ (Zuo x),Zry aF aF];simp only [iW,BitVec.toNat_ushiftRight,vZ];omega
def not32 (x:W):v32 (4294967295-iW x)=iW (4294967295#32-x):=iW_sub 4294967295#32 x
def mul256 (x:W):v32 (iW x*256)=iW (x*256):=by
 rw [ZlV];simp only [iW,BitVec.toNat_mul];rfl
def ZqZ (x:W) (b:UInt8):(x <<< 8) ||| Zhv b=x*256+Zhv b:=by
 have h:(x <<< 8) &&& Zhv b=0:=by
  ext i hi;simp only [BitVec.getElem_and,BitVec.getElem_shiftLeft,BitVec.getElem_zero];by_cases h8:i<8
  ·simp [h8]
  have:(Zhv b)[i]=false:=by
   have h2:=b.toNat_lt;rw [BitVec.getElem_eq_testBit_toNat,Zhv,BitVec.toNat_ofNat,Nat.mod_eq_of_lt aF];exact Nat.testBit_lt_two_pow (Nat.lt_of_lt_of_le h2 (by
    have:(2:Nat)^8<=2^i:=Nat.pow_le_pow_right aF aF;omega))
  simp [this]
 rw [<-BitVec.add_eq_or_of_and_eq_zero _ _ h]
 congr 1
 apply BitVec.eq_of_toNat_eq;rw [BitVec.toNat_shiftLeft,BitVec.toNat_mul,tM];rfl
def word_sum (a b c d:UInt8):((((0:W)*(256:W)+Zhv a)*(256:W)+Zhv b)*(256:W)+Zhv c)*(256:W)+Zhv d=(((Zhv a <<< 24) ||| (Zhv b <<< 16)) ||| (Zhv c <<< 8)) ||| Zhv d:=by
 rw [show (0:W)*(256:W)+Zhv a=Zhv a by simp,<-ZqZ,<-ZqZ,<-ZqZ,BitVec.shiftLeft_or_distrib,BitVec.shiftLeft_or_distrib,BitVec.shiftLeft_or_distrib,<-BitVec.shiftLeft_add,<-BitVec.shiftLeft_add,<-BitVec.shiftLeft_add]
def blk (b:Bs) (j:Nat):Bs:=(b.drop (64*j)).take 64
def blk_get (b:Bs) (j i:Nat) (hi:i<64):(blk b j).getD i 0=b.getD (64*j+i) 0:=by
 simp only [blk,zF,List.getElem?_take,List.getElem?_drop,aD hi]
def Zrp (b:Bs) (n j:Nat) (h:List W):ZdE (n+1) h (b.drop (64*j))=ZdE n (comp h (blk b j)) (b.drop (64*(j+1))):=by
 rw [ZdE,List.drop_drop,(aF:64*j+64=64*(j+1))];rfl
section
variable {N:Nat}
def rp3 (hN:100<=N) (c2 c1:Int×List Int->Option (List Int)) (b:Bs) (j i:Nat) (hi:i<16) (hj:64*j+64<=b.length) (hb:b.length<2000000000000) (h:List Int) (w:List W) (hw:w.length=64) (h0:w.getD i 0=0) :
  loopN (Zas.p3 N c2 c1 (mkB b) ((64*j:Nat):Int) (i:Int) h) N (0,w.map iW)=c2 (((i+1:Nat):Int),(ldw (blk b j) i w).map iW):=by
 have step : ∀G (k:Nat) (v:W),k<4->Zas.p3 N c2 c1 (mkB b) ((64*j:Nat):Int) (i:Int) h G ((k:Int),(w.set i v).map iW)=G (((k+1:Nat):Int),(w.set i (v*(256:W)+Zhv ((blk b j).getD (4*i+k) 0))).map iW):=fun G k v hk=>by
  have b0:w64 (4*(i:Int))=((4*i:Nat):Int):=by rw [ZaK aF aF];omega
  have b1:w64 (((64*j:Nat):Int)+((4*i:Nat):Int))=((64*j+4*i:Nat):Int):=by rw [ZaK aF aF];omega
  have b2:w64 (((64*j+4*i:Nat):Int)+(k:Int))=((64*j+(4*i+k):Nat):Int):=by rw [ZaK aF aF];omega
  have hg:(w.set i v).getD i 0=v:=by simp only [zF];rw [zP aF];rfl
  unfold Zas.p3;dsimp only;rw [aD aH,b0,b1,b2,ZdL,Zag aF,Zag aF,Zag aF,Zag aF,zJ,zJ,ZgT,hg,mkB_get,<-blk_get b j _ aF,Zpl,mul256,Zlq,Znz,xJ,Zez aF]
 have last : ∀G (x:List Int),Zas.p3 N c2 c1 (mkB b) ((64*j:Nat):Int) (i:Int) h G (((4:Nat):Int),x)=c2 (((i+1:Nat):Int),x):=fun G x=>by
  unfold Zas.p3;dsimp only;rw [aE aG,Zez aF]
 have hself:w.set i 0=w:=by
  have hlt:i<w.length:=aF
  have:w[i]=0:=by simpa [zF,zQ hlt] using h0
  rw [<-this];exact List.set_getElem_self hlt
 obtain ⟨M,rfl⟩ : ∃M,N=M+5:=⟨N-5,aF⟩
 have key : ∀q,loopN (Zas.p3 (M+5) c2 c1 (mkB b) ((64*j:Nat):Int) (i:Int) h) (q+5) (((0:Nat):Int),(w.set i 0).map iW)=c2 (((i+1:Nat):Int),(ldw (blk b j) i w).map iW):=fun q=>by
  rw [Zaz,step _ 0 0 aF,Zaz,step _ 1 _ aF,Zaz,step _ 2 _ aF,Zaz,step _ 3 _ aF,Zaz,last,word_sum];rfl
 have:=key M;rw [hself] at this;exact this
def rp6 (hN:100<=N) (c1:Int×List Int->Option (List Int)) (x1:ByteArray) (j:Nat) (hj:j<100000000000) (s h:List W) (hs:s.length=8) (hh:h.length=8) :
  loopN (Zas.p6 N c1 x1 ((64*j:Nat):Int) (s.map iW)) N (0,h.map iW)=c1 (((64*(j+1):Nat):Int),(run (adw s) 0 8 h).map iW):=by
 refine ZhV (fun (k:Nat) (x:List W)=>((k:Int),x.map iW)) (fun _ x=>x.length=8) (adw s) 0 8 (fun x=>c1 (((64*(j+1):Nat):Int),x.map iW)) ?_ ?_ 8 0 N h (zH _) rfl aF hh
 ·intro G k x _ hk hx;refine ⟨?_,by simpa [adw] using hx⟩;unfold Zas.p6;dsimp only;rw [aD aH,Zag aF,zJ,ZgT,ZgT,Zlq,Znz,Zez aF];rfl
 intro G x hx;unfold Zas.p6;dsimp only;rw [aE aG,ZaK aF aF]
 congr 1
def r6 (x:W):Zbp N (iW x) 6=some (iW (ror x 6)):=ZgF N x 6 aF aF
def r11 (x:W):Zbp N (iW x) 11=some (iW (ror x 11)):=ZgF N x 11 aF aF
def r25 (x:W):Zbp N (iW x) 25=some (iW (ror x 25)):=ZgF N x 25 aF aF
def r2 (x:W):Zbp N (iW x) 2=some (iW (ror x 2)):=ZgF N x 2 aF aF
def r13 (x:W):Zbp N (iW x) 13=some (iW (ror x 13)):=ZgF N x 13 aF aF
def r22 (x:W):Zbp N (iW x) 22=some (iW (ror x 22)):=ZgF N x 22 aF aF
def r7 (x:W):Zbp N (iW x) 7=some (iW (ror x 7)):=ZgF N x 7 aF aF
def r18 (x:W):Zbp N (iW x) 18=some (iW (ror x 18)):=ZgF N x 18 aF aF
def r17 (x:W):Zbp N (iW x) 17=some (iW (ror x 17)):=ZgF N x 17 aF aF
def r19 (x:W):Zbp N (iW x) 19=some (iW (ror x 19)):=ZgF N x 19 aF aF
def rp5 (hN:100<=N) (c1:Int×List Int->Option (List Int)) (x1:ByteArray) (j:Nat) (hj:j<100000000000) (w h:List W) (hh:h.length=8) :
  loopN (Zas.p5 N c1 x1 ((64*j:Nat):Int) (h.map iW) (w.map iW)) N (0,h.map iW)=c1 (((64*(j+1):Nat):Int),(run (adw (run (rnd w) 0 64 h)) 0 8 h).map iW):=by
 refine ZhV (fun (k:Nat) (x:List W)=>((k:Int),x.map iW)) (fun _ x=>x.length=8) (rnd w) 0 64 (fun x=>c1 (((64*(j+1):Nat):Int),(run (adw x) 0 8 h).map iW)) ?_ ?_ 64 0 N h (zH _) rfl aF hh
 ·intro G k x _ hk hx;refine ⟨?_,rfl⟩;unfold Zas.p5;dsimp only;rw [aD aH];simp only [ZgT,zJ];rw [r6,Zaa,r11,Zaa,r25,Zaa,k_eq N k hk,Zaa,Zag aF,r2,Zaa,r13,Zaa,r22,Zaa];simp only [iW_and,Zqd,Zun,not32,Zlq,chs_or,mjr_or];rw [Zez aF];rfl
 intro G x hx;unfold Zas.p5;dsimp only;rw [aE aG];exact rp6 hN c1 x1 j hj x h hx hh
def rp4 (hN:100<=N) (c1:Int×List Int->Option (List Int)) (x1:ByteArray) (j:Nat) (hj:j<100000000000) (w h:List W) (hw:w.length=64) (hh:h.length=8) :
  loopN (Zas.p4 N c1 x1 ((64*j:Nat):Int) (h.map iW)) N (16,w.map iW)=c1 (((64*(j+1):Nat):Int),(run (adw (run (rnd (run exw 16 48 w)) 0 64 h)) 0 8 h).map iW):=by
 refine ZhV (fun (k:Nat) (x:List W)=>((k:Int),x.map iW)) (fun _ x=>x.length=64) exw 16 64 (fun x=>c1 (((64*(j+1):Nat):Int),(run (adw (run (rnd x) 0 64 h)) 0 8 h).map iW)) ?_ ?_ 48 16 N w (zH _) rfl aF hw
 ·intro G k x hk16 hk hx;refine ⟨?_,by simpa [exw] using hx⟩;have a15:=Zhy (i:=k) (m:=15) aF aF;have a2:=Zhy (i:=k) (m:=2) aF aF;have a16:=Zhy (i:=k) (m:=16) aF aF;have a7:=Zhy (i:=k) (m:=7) aF aF;simp only [Int.cast_ofNat_Int] at a15 a2 a16 a7;unfold Zas.p4;dsimp only;rw [aD aH,a15,a2,a16,a7];simp only [ZgT,zJ];rw [Zag aF,Zag aF,r7,Zaa,r18,Zaa,Zag aF,Zag aF,r17,Zaa,r19,Zaa,Zag aF,Zag aF,Zag aF,Zag aF,Zag aF,tdiv8,tdiv1024];simp only [Zqd,Zlq];rw [Zez aF,Znz];rfl
 intro G x hx;unfold Zas.p4;dsimp only;rw [aE aG];exact rp5 hN c1 x1 j hj x h hh
def rp2 (hN:100<=N) (c1:Int×List Int->Option (List Int)) (b:Bs) (j:Nat) (hj:64*j+64<=b.length) (hb:b.length<2000000000000) (h:List W) (hh:h.length=8) :
  loopN (Zas.p2 N c1 (mkB b) ((64*j:Nat):Int) (h.map iW)) N (0,zB 64 0)=c1 (((64*(j+1):Nat):Int),(comp h (blk b j)).map iW):=by
 have e0:(zB 64 0:List Int)=(zB 64 (0:W)).map iW:=by simp [iW]
 rw [e0];refine ZhV (fun (k:Nat) (x:List W)=>((k:Int),x.map iW)) (fun k x=>x.length=64/\∀q,k<=q->x.getD q 0=0) (ldw (blk b j)) 0 16 (fun x=>c1 (((64*(j+1):Nat):Int),(run (adw (run (rnd (run exw 16 48 x)) 0 64 h)) 0 8 h).map iW)) ?_ ?_ 16 0 N _ (zH _) rfl aF ⟨by simp,fun q _=>?_⟩
 ·intro G k x _ hk ⟨hx,hx0⟩;refine ⟨?_,by simpa [ldw] using hx,fun q hq=>?_⟩
  ·conv=>lhs;unfold Zas.p2
   dsimp only;rw [aD aH];exact rp3 hN G c1 b j k hk hj hb (h.map iW) x hx (hx0 k (zH _))
  have:=hx0 q aF;simp only [ldw,zF] at this |-;rw [List.getElem?_set_ne aF];exact this
 ·intro G x ⟨hx,_⟩;unfold Zas.p2;dsimp only;rw [aE aG];exact rp4 hN c1 (mkB b) j aF x h hx hh
 simp only [zF];cases hq:(zB 64 (0:W))[q]? with
 | none=>rfl
 | some y=>
  have:=List.mem_of_getElem? hq;rw [List.mem_replicate] at this;exact this.2
def outG (h:List W) (i:Nat) (o:List Int):List Int:=o.set i (byI (UInt8.ofNat ((h.getD (i/4) 0).toNat >>> (24-8*(i%4)))))
def outg8 (a b c d e f g k:W):run (outG [a,b,c,d,e,f,g,k]) 0 32 (zB 32 0)=(ZtS [a,b,c,d,e,f,g,k]).map byI:=by kernel_rfl
def rp7 (hN:100<=N) (h:List W) (hh:h.length=8):loopN (Zas.p7 N (h.map iW)) N (0,zB 32 0)=some ((ZtS h).map byI):=by
 have:=ZhV (body:=Zas.p7 N (h.map iW)) (fun (k:Nat) (x:List Int)=>((k:Int),x)) (fun _ _=>True) (outG h) 0 32 (fun x=>some x) ?_ ?_ 32 0 N (zB 32 0) (zH _) rfl aF trivial
 ·have e:run (outG h) 0 32 (zB 32 0)=(ZtS h).map byI:=by
   match h,hh with
   | [a,b,c,d,e,f,g,k],_=>exact outg8 a b c d e f g k
  rw [e] at this;exact this
 ·intro G k x _ hk _;refine ⟨?_,trivial⟩;have t4:yB (k:Int) 4=((k%4:Nat):Int):=by rw [xI aF];omega
  have d4:w64 (zT (k:Int) 4)=((k/4:Nat):Int):=by rw [wQ aF,ZaK aF aF];omega
  have m8:w64 (8*((k%4:Nat):Int))=((8*(k%4):Nat):Int):=by rw [ZaK aF aF];omega
  have s24:w64 (24-((8*(k%4):Nat):Int))=((24-8*(k%4):Nat):Int):=by rw [ZaK aF aF];omega
  have v24:v64 ((24-8*(k%4):Nat):Int)=((24-8*(k%4):Nat):Int):=Zdq aF aF;unfold Zas.p7;dsimp only;rw [aD aH,t4,d4,m8,s24,v24,Zag aF,Zag aF,Zag aF,Zag aF,zJ,zJ,ZgT,ZnR _ _ aF,Zez aF];have:v8 (yB (iW (h.getD (k/4) 0 >>> (24-8*(k%4)))) 256)=byI (UInt8.ofNat ((h.getD (k/4) 0).toNat >>> (24-8*(k%4)))):=by
   rw [xI (Zuo _),Zlg,pN,<-Zlg,v8_iW,BitVec.toNat_ushiftRight]
  rw [this];rfl
 intro G x _;unfold Zas.p7;dsimp only;rw [aE aG]
def ZrL (b:Bs) (hb:b.length<1099511627776) (hN:b.length+300<=N):Zas N (mkB b)=some ((sha b).map byI):=by
 unfold Zas;rw [ZtP N b hb aF,Zaa];have hpl:=pad_len b;have hz64:zs b.length<64:=by unfold zs;omega
 obtain ⟨n,hn⟩ : ∃n,n=(pad b).length/64:=⟨_,rfl⟩
 have e0:([1779033703,3144134277,1013904242,2773480762,1359893119,2600822924,528734635,1541459225]:List Int)=iv.map iW:=by decide +kernel
 rw [e0];refine Zck (fun m (y:Int×List Int)=>∃(j:Nat) (h:List W),y=(((64*j:Nat):Int),h.map iW)/\m+j=n/\h.length=8/\ZdE m h ((pad b).drop (64*j))=ZdE n iv (pad b)) ?_ N n _ ⟨0,iv,rfl,aF,rfl,rfl⟩ aF;rintro G m _ ⟨j,h,rfl,hm,hh,hbl⟩ ih;unfold Zas.p1;dsimp only;rw [ZdL];cases m with
 | succ m=>
  rw [aD aH,rp2 aF G (pad b) j aF aF h hh];exact ih m _ (Nat.lt_succ_self _) ⟨j+1,comp h (blk (pad b) j),rfl,aF,by rw [ZlO];exact hh,by rw [<-hbl,Zrp]⟩
 | zero=>
  rw [aE aH,rp7 aF h hh];simp only [ZdE] at hbl;rw [hbl,sha,<-hn]
def ZpG (b:Bs) (hb:b.length<1099511627776) (hN:b.length+400<=N):ZbX N (mkB b)=some ((sha2 b).map byI):=by
 unfold ZbX;rw [ZrL b hb aF,Zaa,ZoA];have hl:=ZqP b;obtain ⟨s,hs⟩ : ∃s,s=sha b:=⟨_,rfl⟩
 rw [<-hs] at hl |-;refine Zck (fun m (y:ByteArray×Int)=>∃k:Nat,y=(mkB (s.take k),(k:Int))/\m+k=32) ?_ N 32 _ ⟨0,rfl,rfl⟩ aF;rintro G m _ ⟨k,rfl,hk⟩ ih;unfold ZbX.p1;dsimp only;by_cases hk8:k<32
 ·have hg:(s.map byI).getD k 0=byI s[k]:=by simp [zF,hl,hk8]
  have e:s.take k ++ [s[k]]=s.take (k+1):=(zY aF).symm;rw [aD aH,Zag aF,zJ,hg,Zag (ZoH _),ZlJ,ZdL,ZdL,Zag aH,ZeQ,e,Zez aF];exact ih (m-1) _ aF ⟨k+1,rfl,aF⟩
 rw [aE aH,zW aF,ZrL s aF aF,Zaa,hs];rfl
end
end Go.Dn.F
namespace Go.Dn.F
open Go.Dn
def le_u64 (n:Int) (j:Nat) (hj:j<8):(n%18446744073709551616)/256^j%256=n/256^j%256:=by
 have:j=0\/j=1\/j=2\/j=3\/j=4\/j=5\/j=6\/j=7:=aF
 rcases this with rfl | rfl | rfl | rfl | rfl | rfl | rfl | rfl<;>simp only [Int.reducePow]<;>omega
section
variable {N:Nat}
def ZhA (hN:20<=N) (size n:Int):ZbF N size n=some (mkB (le (ZlC size) n)):=by
 have hs:=ZqK size;unfold ZbF;rw [ZoA];refine Zck (fun m (y:Int×ByteArray×Int)=>∃j:Nat,y=((n%18446744073709551616)/256^j,mkB (le j n),(j:Int))/\m+j=ZlC size) ?_ N (ZlC size) _ ⟨0,by rw [Zgv];simp [le],aF⟩ aF;rintro G m _ ⟨j,rfl,hj⟩ ih;unfold ZbF.p1;dsimp only;rw [Zpr];by_cases hm:j<ZlC size
 ·obtain ⟨q,hq⟩ : ∃q,q=(n%18446744073709551616)/256^j:=⟨_,rfl⟩
  have hp:(0:Int)<256^j:=Int.pow_pos (by decide);have hq0:0<=q:=by rw [hq];exact xE aF aF
  have hq1:q<18446744073709551616:=by
   rw [hq];refine Int.lt_of_le_of_lt (uC _ aF) aF
  have h1:v8 (yB q 256)=byI (leB n j):=by
   rw [xI hq0,Zlg,pN,<-Zlg,v8_by,leB,hq,le_u64 n j aF]
  have h2:v64 (zT q 256)=(n%18446744073709551616)/256^(j+1):=by
   rw [wQ hq0,Zdq aF aF,hq,xO aF,uK]
  rw [aD aH,<-hq,Zag (ZoH _),h1,ZlJ,ZdL,ZdL,Zag (by simp [Ziy];omega),ZeQ,<-le_succ,h2,Zez aF];exact ih (m-1) _ aF ⟨j+1,rfl,aF⟩
 obtain rfl:j=ZlC size:=aF
 rw [aE aG]
def ZnG (hN:50<=N) (p:Bs) (hp:p.length=32):Zcz N (p.map byI)=some (mkB p):=by
 unfold Zcz;rw [ZoA];refine Zck (fun m (y:ByteArray×Int)=>∃k:Nat,y=(mkB (p.take k),(k:Int))/\m+k=32) ?_ N 32 _ ⟨0,rfl,rfl⟩ aF;rintro G m _ ⟨k,rfl,hk⟩ ih;unfold Zcz.p1;dsimp only;by_cases hk8:k<32
 ·have hg:(p.map byI).getD k 0=byI p[k]:=by simp [zF,hp,hk8]
  have e:p.take k ++ [p[k]]=p.take (k+1):=(zY aF).symm;rw [aD aH,Zag aF,zJ,hg,Zag (ZoH _),ZlJ,ZdL,ZdL,Zag aH,ZeQ,e,Zez aF];exact ih (m-1) _ aF ⟨k+1,rfl,aF⟩
 rw [aE aH,zW aF]
def ZqT (hN:50<=N) (h:Zal) {p r:Bs} (hw:HW h p r):Zeo N h=some (mkB (ZiY h)):=by
 have h4:ZlC 4=4:=rfl;unfold Zeo;rw [ZhA aF,Zaa,hw.prev,ZnG hN p hw.lp,Zaa,ZdL,ZdL,Zag (by simp [Ziy,hw.lp];omega),hw.root,ZnG hN r hw.lr,Zaa,ZeQ,ZdL,ZdL,Zag (by simp [Ziy,hw.lp,hw.lr];omega),ZhA aF,Zaa,ZeQ,ZdL,ZdL,Zag (by simp [Ziy,hw.lp,hw.lr];omega),ZhA aF,Zaa,ZeQ,ZdL,ZdL,Zag (by simp [Ziy,hw.lp,hw.lr];omega),
  ZhA aF,Zaa,ZeQ,ZdL,ZdL,Zag (by simp [Ziy,hw.lp,hw.lr];omega),ZeQ,h4]
 congr 2
 simp [ZiY,hw.prev,hw.root,ZlP]
def Zjm (h:Zal):Zdw N h=some (Zhd h):=by
 unfold Zdw Zhd
 repeat' split
 all_goals (refine ZgZ ⟨fun h=>?_,fun h=>?_⟩<;>simp only [decide_eq_true_eq,yP] at * <;> omega)
def Zka (hN:600<=N) (h:Zal) (hw:wfH h=true):ZdF N h=some (hid h):=by
 obtain ⟨p,r,hw⟩:=(Ztk h).1 hw;unfold ZdF hid;rw [Zjm,Zaa];cases hg:Zhd h with
 | false=>rfl
 | true=>
  have hl:(ZiY h).length=80:=by simp [ZiY,Ziy,hw.prev,hw.root,ZlP,hw.lp,hw.lr]
  rw [aE aG,ZqT aF h hw,Zaa,ZpG _ aF aF,Zaa];rfl
end
end Go.Dn.F
namespace Go.Dn.F
open Go.Dn Go.Proofs
def ZoK (n:Int):Prop:=-9223372036854775808<=n/\n<=9223372036854775807
def ZgB {n:Int} (h:(Lit.int .i64 n).wf=true):ZoK n:=by
 simp only [Lit.wf,zV,decide_eq_true_eq] at h;exact h
abbrev tysH:List Ty:=[.int .i64,.arr .u8 32,.arr .u8 32,.int .i64,.int .i64,.int .i64]
abbrev tysP:List Ty:=[.int .i64,.int .i64,.int .i64,.int .i64,.bool,.sl 2 [.int .i64,.int .i64],.sl 33 [.int .i64,.arr .u8 32],.arr .u64 4,.arr .u64 4,.int .i64,.arr .u8 32,.arr .u8 32,.int .i64,.int .i64,.int .i64]
structure WfH (h:Zal):Prop where
 v:ZoK h.Version
 w:wfH h=true
 t:ZoK h.Time
 b:ZoK h.Bits
 n:ZoK h.Nonce
def Zrw {l:List Int} (h:l.length=32) (hw : ∀x∈l,(Lit.int .u8 x).wf=true):wfB l=true:=by
 simp only [wfB,zV,beq_iff_eq,List.all_eq_true,decide_eq_true_eq];refine ⟨h,fun n hn=>?_⟩;have:=hw n hn;simp only [Lit.wf,zV,decide_eq_true_eq] at this;have e1:IntKind.u8.min=0:=rfl;have e2:IntKind.u8.max=255:=rfl;omega
def open_H {ls:List L} (h:Ziq tysH ls) : ∃x:Zal,ls=x.ls/\WfH x:=by
 obtain ⟨_,_,rfl,h1,h⟩:=h.cons_inv;obtain ⟨_,_,rfl,h2,h⟩:=h.cons_inv;obtain ⟨_,_,rfl,h3,h⟩:=h.cons_inv;obtain ⟨_,_,rfl,h4,h⟩:=h.cons_inv;obtain ⟨_,_,rfl,h5,h⟩:=h.cons_inv;obtain ⟨_,_,rfl,h6,h⟩:=h.cons_inv;cases h.nil_inv;obtain ⟨a1,rfl,w1⟩:=h1.int_inv;obtain ⟨a2,rfl,k2,w2⟩:=h2.arr_inv;obtain ⟨a3,rfl,k3,w3⟩:=h3.arr_inv;obtain ⟨a4,rfl,w4⟩:=h4.int_inv;obtain ⟨a5,rfl,w5⟩:=h5.int_inv;obtain ⟨a6,rfl,w6⟩:=h6.int_inv;refine ⟨⟨a1,a2,a3,a4,a5,a6⟩,rfl,⟨ZgB w1,?_,ZgB w4,ZgB w5,ZgB w6⟩⟩;simp only [wfH,zV];exact ⟨Zrw k2 w2,Zrw k3 w3⟩
structure WfP (p:Zae):Prop where
 l:ZoK p.Limit
 i:ZoK p.Interval
 s:ZoK p.Spacing
 f:ZoK p.Future
 g : ∀x∈p.Gates,Ziq [.int .i64,.int .i64] x
 gl:p.Gates.length<=maxLen
 c : ∀x∈p.Checks,Ziq [.int .i64,.arr .u8 32] x
 cl:p.Checks.length<=maxLen
 m:p.MinWork.length=4/\∀x∈p.MinWork,(Lit.int .u64 x).wf=true
 r:p.Margin.length=4/\∀x∈p.Margin,(Lit.int .u64 x).wf=true
 h:WfH p.Genesis
def open_P {ls:List L} (h:Ziq tysP ls) : ∃x:Zae,ls=x.ls/\WfP x:=by
 obtain ⟨_,_,rfl,h1,h⟩:=h.cons_inv;obtain ⟨_,_,rfl,h2,h⟩:=h.cons_inv;obtain ⟨_,_,rfl,h3,h⟩:=h.cons_inv;obtain ⟨_,_,rfl,h4,h⟩:=h.cons_inv;obtain ⟨_,_,rfl,h5,h⟩:=h.cons_inv;obtain ⟨_,_,rfl,h6,h⟩:=h.cons_inv;obtain ⟨_,_,rfl,h7,h⟩:=h.cons_inv;obtain ⟨_,_,rfl,h8,h⟩:=h.cons_inv;obtain ⟨_,_,rfl,h9,h⟩:=h.cons_inv;obtain ⟨x,rfl,hx⟩:=open_H h;obtain ⟨a1,rfl,w1⟩:=h1.int_inv;obtain ⟨a2,rfl,w2⟩:=h2.int_inv;obtain ⟨a3,rfl,w3⟩:=h3.int_inv;obtain ⟨a4,rfl,w4⟩:=h4.int_inv;obtain ⟨a5,rfl⟩:=h5.bool_inv;obtain ⟨a6,rfl,k6,w6⟩:=h6.sl_inv;obtain ⟨a7,rfl,k7,w7⟩:=h7.sl_inv;obtain ⟨a8,rfl,k8,w8⟩:=h8.arr_inv;obtain ⟨a9,rfl,k9,w9⟩:=h9.arr_inv;exact ⟨⟨a1,a2,a3,a4,a5,a6,a7,a8,a9,x⟩,rfl,⟨ZgB w1,ZgB w2,ZgB w3,ZgB w4,w6,k6,w7,k7,⟨k8,w8⟩,⟨k9,w9⟩,hx⟩⟩
def Zok {α:Type} {P:List α->Prop} (h0:P []) (h1 : ∀l a,P l->P (l ++ [a])) (l:List α):P l:=by
 rw [<-List.reverse_reverse l]
 induction l.reverse with
 | nil=>exact h0
 | cons a m ih=>rw [List.reverse_cons];exact h1 _ _ ih
noncomputable def ZkI (l:List Zal):LL:=l.map Zal.ls
def ZjV {l:List Zal} {i:Nat} (h:i<l.length):(ZkI l)[i]? = some l[i].ls:=by simp [ZkI,h]
@[simp] def Zmf (l:List Zal):(ZkI l).length=l.length:=by simp [ZkI]
def Ztm (l:List Int):ZmX (Zec l)=l:=by
 unfold ZmX Zec;rw [List.map_map]
 conv=>rhs;rw [<-List.map_id l]
 exact List.map_congr_left fun n _=>rfl
def isI_row (l:List Int):isI (Zec l)=true:=by simp [isI,Zec]
def spots (p:Zae) (l:List Zal):ZaW:=l.foldl (Zgp p) (begin_ p)
end Go.Dn.F
namespace Go.Dn.F
open Go.Dn
def isW (a:Int):Prop:=0<=a/\a<18446744073709551616
def isN (n:Int):Prop:=0<=n/\n<2^256
def nw (n:Int):List Int:=[n%18446744073709551616,n/18446744073709551616%18446744073709551616,n/2^128%18446744073709551616,n/2^192%18446744073709551616]
def vw (a b c d:Int):Int:=a+18446744073709551616*b+2^128*c+2^192*d
def ZeZ {a b c d:Int} (ha:isW a) (hb:isW b) (hc:isW c) (hd:isW d):nw (vw a b c d) = [a,b,c,d]:=by
 unfold isW at *;unfold nw vw;have e1:(a+18446744073709551616*b+2^128*c+2^192*d)/18446744073709551616=b+18446744073709551616*c+2^128*d:=aF
 have e2:(a+18446744073709551616*b+2^128*c+2^192*d)/2^128=c+18446744073709551616*d:=aF
 have e3:(a+18446744073709551616*b+2^128*c+2^192*d)/2^192=d:=aF
 rw [e1,e2,e3]
 congr 1
 ·omega
 congr 1
 ·omega
 congr 1
 ·omega
 congr 1
 omega
def ZlU {a b c d:Int} (ha:isW a) (hb:isW b) (hc:isW c) (hd:isW d):isN (vw a b c d):=by
 unfold isW at *;unfold isN vw;omega
def ZeA {n:Int} (h:isN n) : ∃a b c d,isW a/\isW b/\isW c/\isW d/\n=vw a b c d:=by
 unfold isN at h;refine ⟨n%18446744073709551616,n/18446744073709551616%18446744073709551616,n/18446744073709551616/18446744073709551616%18446744073709551616,n/18446744073709551616/18446744073709551616/18446744073709551616,?_⟩;unfold isW vw;refine ⟨aF,aF,aF,aF,aF⟩
def vw_lt {a b c d e f g h:Int} (ha:isW a) (hb:isW b) (hc:isW c) (hd:isW d) (he:isW e) (hf:isW f) (hg:isW g) (hh:isW h) :
  vw a b c d<vw e f g h↔(d<h\/d=h/\(c<g\/c=g/\(b<f\/b=f/\a<e))):=by
 unfold isW vw at *;omega
def vw_eq {a b c d e f g h:Int} (ha:isW a) (hb:isW b) (hc:isW c) (hd:isW d) (he:isW e) (hf:isW f) (hg:isW g) (hh:isW h) :
  vw a b c d=vw e f g h↔(a=e/\b=f/\c=g/\d=h):=by
 unfold isW vw at *;omega
def ZrQ {m n:Int} (hm:isN m) (hn:isN n) (h:nw m=nw n):m=n:=by
 obtain ⟨a,b,c,d,ha,hb,hc,hd,rfl⟩:=ZeA hm;obtain ⟨e,f,g,i,he,hf,hg,hi,rfl⟩:=ZeA hn;rw [ZeZ ha hb hc hd,ZeZ he hf hg hi] at h;simp only [List.cons.injEq,and_true] at h;exact (vw_eq ha hb hc hd he hf hg hi).2 h
def ZeP:zB 4 0=nw 0:=by decide +kernel
variable {N:Nat}
def Zhm {n:Int} (h:isW n):ZdX N n=some (nw n):=by
 have:nw n = [n,0,0,0]:=by
  have:=ZeZ h (b:=0) (c:=0) (d:=0) (by unfold isW;omega) (by unfold isW;omega) (by unfold isW;omega);rw [<-this];congr 1;unfold vw;omega
 unfold ZdX;rw [this]
def ZeR {n:Int} (h:isN n):Zdy N (nw n)=some (decide (n=0)):=by
 unfold Zdy;rw [ZeP];refine ZgZ ⟨fun e=>ZrQ h (by unfold isN;omega) (aR e),fun e=>by subst e;simp⟩
def cmp (a b:Int):Int:=if a<b then -1 else if b<a then 1 else 0
def Zir (hN:10<=N) {m n:Int} (hm:isN m) (hn:isN n):ZbJ N (nw m) (nw n)=some (cmp m n):=by
 obtain ⟨a,b,c,d,ha,hb,hc,hd,rfl⟩:=ZeA hm;obtain ⟨e,f,g,i,he,hf,hg,hi,rfl⟩:=ZeA hn;have k1:=vw_lt ha hb hc hd he hf hg hi;have k2:=vw_lt he hf hg hi ha hb hc hd;rw [ZeZ ha hb hc hd,ZeZ he hf hg hi];obtain ⟨N,rfl⟩ : ∃q,N=q+5:=⟨N-5,aF⟩
 unfold ZbJ;have t : ∀G:Int->Option Int,∀j:Nat,j<4->ZbJ.p1 (N+5) [a,b,c,d] [e,f,g,i] G (j:Int)=if [a,b,c,d].getD j 0 < [e,f,g,i].getD j 0 then some (-1) else if [e,f,g,i].getD j 0 < [a,b,c,d].getD j 0 then some 1 else G ((j:Int)-1):=fun G j hj=>by
  unfold ZbJ.p1;rw [aD aG,Zag aF,Zag aF,zJ,ZaK aF aF];simp only [decide_eq_true_eq,gt_iff_lt]
 have u : ∀G:Int->Option Int,ZbJ.p1 (N+5) [a,b,c,d] [e,f,g,i] G (-1)=some 0:=fun G=>by
  unfold ZbJ.p1;rw [aE aG]
 rw [Zaz,show (3:Int)=((3:Nat):Int) from rfl,t _ 3 aF,Zaz,show ((3:Nat):Int)-1=((2:Nat):Int) from rfl,t _ 2 aF,Zaz,show ((2:Nat):Int)-1=((1:Nat):Int) from rfl,t _ 1 aF,Zaz,show ((1:Nat):Int)-1=((0:Nat):Int) from rfl,t _ 0 aF,Zaz,show ((0:Nat):Int)-1 = -1 from rfl,u];have g0 : ∀a b c d:Int,[a,b,c,d].getD 0 0=a:=fun _ _ _ _=>rfl;have g1 : ∀a b c d:Int,[a,b,c,d].getD 1 0=b:=fun _ _ _ _=>rfl;have g2 : ∀a b c d:Int,[a,b,c,d].getD 2 0=c:=fun _ _ _ _=>rfl;have g3 : ∀a b c d:Int,[a,b,c,d].getD 3 0=d:=fun _ _ _ _=>rfl;simp only [g0,g1,g2,g3];unfold cmp;simp only [k1,k2]
 repeat' split
 all_goals first | rfl | (exfalso;omega)
def ZgY (hN:10<=N) {m n:Int} (hm:isN m) (hn:isN n):ZdN N (nw m) (nw n)=some (decide (m<n)):=by
 unfold ZdN;rw [Zir hN hm hn,Zaa];refine ZgZ ?_;simp only [decide_eq_true_eq];unfold cmp
 repeat' split
 all_goals omega
end Go.Dn.F
namespace Go.Dn.F
open Go.Dn
variable {N:Nat}
def Zvm {x y c:Int} (hx:isW x) (hy:isW y) (hc:0<=c/\c<=1) : ∃s c':Int,ZeH N x y c=some (s,c')/\isW s/\0<=c'/\c'<=1/\s+18446744073709551616*c'=x+y+c:=by
 unfold isW at *;refine ⟨(x+y+c)%18446744073709551616,(x+y+c)/18446744073709551616,?_,aF,aF,aF,aF⟩;unfold ZeH;rw [Zag aF,Zag aF,Zag aF,Zag aF]
def sub64 {x y c:Int} (hx:isW x) (hy:isW y) (hc:0<=c/\c<=1) : ∃s c':Int,ZfQ N x y c=some (s,c')/\isW s/\0<=c'/\c'<=1/\s-18446744073709551616*c'=x-y-c:=by
 unfold isW at *;unfold ZfQ;rw [Zag aF,Zag aF,Zag aF,Zag aF,Zag aF];refine ⟨_,_,rfl,?_⟩;split<;>refine ⟨aF,aF,aF,aF⟩
def ZgK (hN:10<=N) {m n:Int} (hm:isN m) (hn:isN n) :
  Zci N (nw m) (nw n)=some (nw ((m+n)%2^256),decide (2^256<=m+n)):=by
 obtain ⟨a,b,c,d,ha,hb,hc,hd,rfl⟩:=ZeA hm;obtain ⟨e,f,g,i,he,hf,hg,hi,rfl⟩:=ZeA hn;rw [ZeZ ha hb hc hd,ZeZ he hf hg hi];obtain ⟨N,rfl⟩ : ∃q,N=q+5:=⟨N-5,aF⟩
 obtain ⟨s0,c0,e0,k0,l0,m0,n0⟩:=Zvm (N:=N+5) ha he (c:=0) aF;obtain ⟨s1,c1,e1,k1,l1,m1,n1⟩:=Zvm (N:=N+5) hb hf (c:=c0) aF;obtain ⟨s2,c2,e2,k2,l2,m2,n2⟩:=Zvm (N:=N+5) hc hg (c:=c1) aF;obtain ⟨s3,c3,e3,k3,l3,m3,n3⟩:=Zvm (N:=N+5) hd hi (c:=c2) aF;unfold Zci;have t : ∀(G:Int×Int×List Int->Option (List Int×Bool)) (j:Nat) (l:List Int) (c s c':Int),j<4->ZeH (N+5) (l.getD j 0) ([e,f,g,i].getD j 0) c=some (s,c') ->
   Zci.p1 (N+5) [e,f,g,i] G (c,(j:Int),l)=G (c',(j:Int)+1,l.set j s):=fun G j l c s c' hj h=>by
  unfold Zci.p1;dsimp only;rw [aD aH,Zag aF,zJ,h,Zaa,ZaK aF aF]
 have u : ∀(G:Int×Int×List Int->Option (List Int×Bool)) (l:List Int) (c:Int),Zci.p1 (N+5) [e,f,g,i] G (c,4,l)=some (l,c != 0):=fun G l c=>by
  unfold Zci.p1;dsimp only;rw [aE aG]
 rw [Zaz];refine Eq.trans (t _ 0 [a,b,c,d] 0 s0 c0 aF e0) ?_;rw [Zaz];refine Eq.trans (t _ 1 [s0,b,c,d] c0 s1 c1 aF e1) ?_;rw [Zaz];refine Eq.trans (t _ 2 [s0,s1,c,d] c1 s2 c2 aF e2) ?_;rw [Zaz];refine Eq.trans (t _ 3 [s0,s1,s2,d] c2 s3 c3 aF e3) ?_;rw [Zaz];refine Eq.trans (u _ [s0,s1,s2,s3] c3) ?_;rw [<-ZeZ k0 k1 k2 k3];have key:vw a b c d+vw e f g i=vw s0 s1 s2 s3+2^256*c3:=by unfold vw;omega
 have r:=ZlU k0 k1 k2 k3;unfold isN at r;have e5:(vw a b c d+vw e f g i)%2^256=vw s0 s1 s2 s3:=aF
 rw [e5];have e6:(c3 != 0)=decide (2^256<=vw a b c d+vw e f g i):=by
  rw [wC];simp only [bne_iff_ne,ne_eq,decide_eq_true_eq];omega
 rw [e6]
def of_w (x:Int) (h:isW x):(BitVec.ofInt 64 x).toNat=x.toNat:=by
 unfold isW at h;rw [BitVec.toNat_ofInt];omega
def Zti (n:Nat) (h:n<18446744073709551616):IntKind.wrap .u64 (n:Int)=n:=Zdq aF aF
def and64 {x y:Int} (hx:isW x) (hy:isW y):ZaI .and .u64 x y=((x.toNat &&& y.toNat:Nat):Int):=by
 show IntKind.wrap .u64 (((BitVec.ofInt 64 x &&& BitVec.ofInt 64 y).toNat:Nat):Int)=_;rw [Zti _ (BitVec.isLt _),BitVec.toNat_and,of_w x hx,of_w y hy]
def or64 {x y:Int} (hx:isW x) (hy:isW y):ZaI .or .u64 x y=((x.toNat ||| y.toNat:Nat):Int):=by
 show IntKind.wrap .u64 (((BitVec.ofInt 64 x ||| BitVec.ofInt 64 y).toNat:Nat):Int)=_;rw [Zti _ (BitVec.isLt _),BitVec.toNat_or,of_w x hx,of_w y hy]
def xor_max {x:Int} (h:isW x):ZaI .xor .u64 (IntKind.max IntKind.u64) x=18446744073709551615-x:=by
 show IntKind.wrap .u64 (((BitVec.ofInt 64 (IntKind.max IntKind.u64) ^^^ BitVec.ofInt 64 x).toNat:Nat):Int)=_;rw [Zti _ (BitVec.isLt _),show BitVec.ofInt 64 (IntKind.max IntKind.u64)=BitVec.allOnes 64 by decide,BitVec.allOnes_xor,BitVec.toNat_not,of_w x h];unfold isW at h;omega
def ZqO (x:Int) {k:Nat} (h:k<=64):ZbP .u64 x (k:Int)=x*2^k%18446744073709551616:=by
 have e:min (zD (k:Int)) (IntKind.bits .u64)=k:=by simp only [IntKind.bits,zJ];omega
 unfold ZbP;rw [e];show v64 _=_;rw [Zgv]
def Znf (x:Int) {k:Nat} (h:k<=64):Zbx .u64 x (k:Int)=x/2^k:=by
 have e:min (zD (k:Int)) (IntKind.bits .u64)=k:=by simp only [IntKind.bits,zJ];omega
 unfold Zbx;rw [e,Int.fdiv_eq_ediv_of_nonneg _ (vV (Int.pow_pos (by decide)))]
def ZbZ (k:Nat):(0:Int)<2^k:=Int.pow_pos (by decide)
def Zgb {k:Nat} (h:k<=64):(2:Int)^k*2^(64-k)=18446744073709551616:=by
 rw [<-xP,(aF:k+(64-k)=64)];rfl
def ZiP {A h:Int} {k:Nat} (hk:k<=64) (hA:0<=A) (hA2:A+2^k<=18446744073709551616) (hd:A%2^k=0) (h0:0<=h) (h1:h<2^k):ZaI .or .u64 A h=A+h:=by
 have p:=ZbZ k;rw [or64 (by unfold isW;omega) (by unfold isW;omega)];have e1:A.toNat=(A/2^k).toNat <<< k:=by
  rw [tM];have e:=yY A (2^k);rw [hd,sG] at e;have q:0<=A/2^k:=xE hA aF;apply Int.ofNat_inj.1
  push_cast
  rw [rJ hA,rJ q,e]
 have e2:h.toNat<2^k:=by
  have:((h.toNat:Nat):Int)<((2^k:Nat):Int):=by push_cast;omega
  omega
 rw [e1,<-rD e2,<-e1];omega
def Zem {a:Int} (ha:isW a) {k:Nat} (hk:k<=64) : ∃A h:Int,ZbP .u64 a (k:Int)=A/\Zbx .u64 a ((64-k:Nat):Int)=h/\0<=A/\A+2^k<=18446744073709551616/\0<=h/\h<2^k/\a*2^k=A+18446744073709551616*h/\A%2^k=0:=by
 have p:=ZbZ k;have p':=ZbZ (64-k);have s:=Zgb hk;unfold isW at ha;refine ⟨_,_,ZqO a hk,Znf a aF,?_⟩;generalize (2:Int)^(64-k)=U at *;generalize (2:Int)^k=T at *;have e:=yY a U;have r0:=vJ a (b:=U) aF;have r1:=wZ a p';have hq:0<=a/U:=xE ha.1 aF;have hT:a/U<T:=wI p' (by rw [s];exact ha.2);have aT:a*T=(a%U)*T+18446744073709551616*(a/U):=by
  conv=>lhs;rw [<-e,yO,yG,yL U T,s,pY,yL (a/U)]
 have l1:(a%U)*T+T<=18446744073709551616:=by
  have:(a%U+1)*T<=U*T:=wW aF aF;rw [yL U T,s,yO,uE] at this;exact this
 have l0:0<=(a%U)*T:=wH r0 aF;have e3:a*T%18446744073709551616=(a%U)*T:=by rw [aT];omega
 rw [e3];exact ⟨l0,l1,hq,hT,aT,uU _ _⟩
def isW0:isW 0:=by unfold isW;omega
def ZpL (n:Nat):(2:Int)^n=2^(64*(n/64))*2^(n%64):=by rw [<-xP,qS]
def Zjy (hN:10<=N) {m:Int} (hm:isN m) (n:Nat) (hn:n<1000000) :
  ZbY N (nw m) (n:Int)=some (nw (m*2^n%2^256)):=by
 unfold ZbY;by_cases h256:256<=n
 ·rw [aD aH,ZeP];have:m*2^n%2^256=0:=by
   have e:(2:Int)^n=2^(n-256)*2^256:=by rw [<-xP,(aF:n-256+256=n)]
   rw [e,<-yG];exact uU _ _
  rw [this]
 rw [aE aH];obtain ⟨a,b,c,d,ha,hb,hc,hd,rfl⟩:=ZeA hm;rw [ZeZ ha hb hc hd];have hk:n%64<=64:=aF
 obtain ⟨A,x,a1,a2,a3,a4,a5,a6,a7,a8⟩:=Zem ha hk;obtain ⟨B,y,b1,b2,b3,b4,b5,b6,b7,b8⟩:=Zem hb hk;obtain ⟨C,z,c1,c2,c3,c4,c5,c6,c7,c8⟩:=Zem hc hk;obtain ⟨D,u,d1,d2,d3,d4,d5,d6,d7,d8⟩:=Zem hd hk;have o1:=ZiP hk b3 b4 b8 a5 a6;have o2:=ZiP hk c3 c4 c8 b5 b6;have o3:=ZiP hk d3 d4 d8 c5 c6;have pT:=ZbZ (n%64);have hq:zT (if (0:Int)>(n:Int) then 0 else (n:Int)) 64=((n/64:Nat):Int):=by rw [aE aF,wQ aF];omega
 have hr:yB (if (0:Int)>(n:Int) then 0 else (n:Int)) 64=((n%64:Nat):Int):=by rw [aE aF,xI aF];omega
 obtain ⟨N,rfl⟩ : ∃q,N=q+5:=⟨N-5,aF⟩
 rw [hq,ZaK aF aF];have first : ∀(G:Int×List Int->Option (List Int)) (l:List Int),n/64<4 ->
   ZbY.p1 (N+5) (n:Int) [a,b,c,d] G (((n/64:Nat):Int),l)=G (((n/64:Nat):Int)+1,l.set (n/64) A):=fun G l hl=>by
  unfold ZbY.p1;dsimp only;rw [hq,hr,ZaK (n:=((n/64:Nat):Int)) aF aF,Int.sub_self,ZaK (n:=0) aF aF,aD aH,Zag aF,Zag aF,Zag aF,Zag aF,aE aG];unfold ZbY.p2;rw [ZaK aF aF,zJ,show zF [a,b,c,d] (zD 0) 0=a from rfl,a1]
 have next : ∀(G:Int×List Int->Option (List Int)) (j:Nat) (l:List Int) (s t X:Int),n/64+j+1<4->l.length=4->[a,b,c,d].getD (j+1) 0=s->[a,b,c,d].getD j 0=t ->
   ZaI .or .u64 (ZbP .u64 s ((n%64:Nat):Int)) (Zbx .u64 t ((64-n%64:Nat):Int))=X ->
   ZbY.p1 (N+5) (n:Int) [a,b,c,d] G (((n/64+j+1:Nat):Int),l)=G (((n/64+j+1:Nat):Int)+1,l.set (n/64+j+1) X):=fun G j l s t X hl hl4 hs ht hX=>by
  unfold ZbY.p1;dsimp only;rw [hq,hr,ZaK (n:=((n/64:Nat):Int)) aF aF,(aF:(((n/64+j+1:Nat):Int)-((n/64:Nat):Int))=((j+1:Nat):Int)),ZaK (n:=((j+1:Nat):Int)) aF aF,(aF:((j+1:Nat):Int)-1=(j:Int)),ZaK (n:=(j:Int)) aF aF,(aF:(64:Int)-((n%64:Nat):Int)=((64-n%64:Nat):Int)),ZaK (n:=((64-n%64:Nat):Int)) aF aF,
   aD aH,Zag aF,Zag aF,Zag aF,Zag aF,aD aH,Zag aF,Zag aF,Zag aF]
  unfold ZbY.p2;rw [ZaK aF aF,zJ,zJ,zJ,hs,ht,xJ];have:(l.set (n/64+j+1) (ZbP .u64 s ((n%64:Nat):Int))).getD (n/64+j+1) 0=ZbP .u64 s ((n%64:Nat):Int):=by
   rw [yZ,zP aF];rfl
  rw [this,hX]
 have last : ∀(G:Int×List Int->Option (List Int)) (l:List Int),ZbY.p1 (N+5) (n:Int) [a,b,c,d] G (4,l)=some l:=fun G l=>by
  unfold ZbY.p1;dsimp only;rw [aE aG]
 have n1:=fun G l X e=>next G 0 l b a X e
 have n2:=fun G l X e=>next G 1 l c b X e
 have n3:=fun G l X e=>next G 2 l d c X e
 rw [b1,a2] at n1;rw [c1,b2] at n2;rw [d1,c2] at n3;have pw:=ZpL n;have cases4:n/64=0\/n/64=1\/n/64=2\/n/64=3:=aF
 have vT:vw a b c d*2^(n%64)=A+18446744073709551616*x+18446744073709551616*(B+18446744073709551616*y)+2^128*(C+18446744073709551616*z)+2^192*(D+18446744073709551616*u):=by
  rw [<-a7,<-b7,<-c7,<-d7];unfold vw;rw [yO,yO,yO,yG,yG,yG]
 rcases cases4 with q | q | q | q
 ·rw [q] at first n1 n2 n3 pw |-
  rw [Zaz];refine Eq.trans (first _ [0,0,0,0] aF) ?_;rw [Zaz];refine Eq.trans (n1 _ [A,0,0,0] _ aF rfl rfl rfl o1) ?_;rw [Zaz];refine Eq.trans (n2 _ [A,B+x,0,0] _ aF rfl rfl rfl o2) ?_;rw [Zaz];refine Eq.trans (n3 _ [A,B+x,C+y,0] _ aF rfl rfl rfl o3) ?_;rw [Zaz];refine Eq.trans (last _ [A,B+x,C+y,D+z]) ?_;rw [<-ZeZ (a:=A) (b:=B+x) (c:=C+y) (d:=D+z) (by unfold isW;omega) (by unfold isW;omega) (by unfold isW;omega) (by unfold isW;omega)]
  congr 2
  rw [pw,show (2:Int)^(64*0)=1 from rfl,uE,vT];unfold vw;omega
 ·rw [q] at first n1 n2 n3 pw |-
  rw [Zaz];refine Eq.trans (first _ [0,0,0,0] aF) ?_;rw [Zaz];refine Eq.trans (n1 _ [0,A,0,0] _ aF rfl rfl rfl o1) ?_;rw [Zaz];refine Eq.trans (n2 _ [0,A,B+x,0] _ aF rfl rfl rfl o2) ?_;rw [Zaz];refine Eq.trans (last _ [0,A,B+x,C+y]) ?_;rw [<-ZeZ (a:=0) (b:=A) (c:=B+x) (d:=C+y) (by unfold isW;omega) (by unfold isW;omega) (by unfold isW;omega) (by unfold isW;omega)]
  congr 2
  rw [pw,show (2:Int)^(64*1)=18446744073709551616 from rfl,vM,vT];unfold vw;omega
 ·rw [q] at first n1 n2 n3 pw |-
  rw [Zaz];refine Eq.trans (first _ [0,0,0,0] aF) ?_;rw [Zaz];refine Eq.trans (n1 _ [0,0,A,0] _ aF rfl rfl rfl o1) ?_;rw [Zaz];refine Eq.trans (last _ [0,0,A,B+x]) ?_;rw [<-ZeZ (a:=0) (b:=0) (c:=A) (d:=B+x) (by unfold isW;omega) (by unfold isW;omega) (by unfold isW;omega) (by unfold isW;omega)]
  congr 2
  rw [pw,show (2:Int)^(64*2)=2^128 from rfl,vM,vT];unfold vw;omega
 rw [q] at first n1 n2 n3 pw |-
 rw [Zaz];refine Eq.trans (first _ [0,0,0,0] aF) ?_;rw [Zaz];refine Eq.trans (last _ [0,0,0,A]) ?_;rw [<-ZeZ (a:=0) (b:=0) (c:=0) (d:=A) (by unfold isW;omega) (by unfold isW;omega) (by unfold isW;omega) (by unfold isW;omega)]
 congr 2
 rw [pw,show (2:Int)^(64*3)=2^192 from rfl,vM,vT];unfold vw;omega
def Zmo {x y:Int} (hx:isW x) (hy:isW y):ZaI .or .u64 x y=ZaI .or .u64 y x:=by rw [or64 hx hy,or64 hy hx,Nat.or_comm]
def Zsk {m A S T U:Int} (hT:0<T) (hU:0<U) (hTU:T*U=18446744073709551616) (hA:0<=A/\A<18446744073709551616) (h:m*U=A+18446744073709551616*S):m/T=S:=by
 rw [<-Int.mul_ediv_mul_of_pos_left m T hU,hTU,h];omega
def ZjO (hN:10<=N) {m:Int} (hm:isN m) (n:Nat) (hn:n<1000000) :
  Zbu N (nw m) (n:Int)=some (nw (m/2^n)):=by
 unfold Zbu;by_cases h256:256<=n
 ·rw [aD aH,ZeP];have:m/2^n=0:=by
   have e:(2:Int)^n=2^256*2^(n-256):=by rw [<-xP,(aF:256+(n-256)=n)]
   rw [e,<-xO (by decide)];unfold isN at hm;rw [show m/2^256=0 by rw [show (2:Int)^256=2^256 from rfl];omega];simp
  rw [this]
 rw [aE aH];obtain ⟨a,b,c,d,ha,hb,hc,hd,rfl⟩:=ZeA hm;rw [ZeZ ha hb hc hd];have hk:64-n%64<=64:=aF
 obtain ⟨A,x,a1,a2,a3,a4,a5,a6,a7,a8⟩:=Zem ha hk;obtain ⟨B,y,b1,b2,b3,b4,b5,b6,b7,b8⟩:=Zem hb hk;obtain ⟨C,z,c1,c2,c3,c4,c5,c6,c7,c8⟩:=Zem hc hk;obtain ⟨D,u,d1,d2,d3,d4,d5,d6,d7,d8⟩:=Zem hd hk;rw [(aF:64-(64-n%64)=n%64)] at a2 b2 c2 d2;have pT:=ZbZ (n%64);have pU:=ZbZ (64-n%64);have tu:=Zgb (k:=n%64) aF;have o1:=ZiP hk b3 b4 b8 a5 a6;have o2:=ZiP hk c3 c4 c8 b5 b6;have o3:=ZiP hk d3 d4 d8 c5 c6;rw [Zmo (by unfold isW;omega) (by unfold isW;omega),pY] at o1 o2 o3;have hq:zT (if (0:Int)>(n:Int) then 0 else (n:Int)) 64=((n/64:Nat):Int):=by rw [aE aF,wQ aF];omega
 have hr:yB (if (0:Int)>(n:Int) then 0 else (n:Int)) 64=((n%64:Nat):Int):=by rw [aE aF,xI aF];omega
 obtain ⟨N,rfl⟩ : ∃q,N=q+5:=⟨N-5,aF⟩
 have top : ∀(G:Int×List Int->Option (List Int)) (j:Nat) (l:List Int) (s X:Int),n/64+j=3->[a,b,c,d].getD 3 0=s->Zbx .u64 s ((n%64:Nat):Int)=X ->
   Zbu.p1 (N+5) (n:Int) [a,b,c,d] G ((j:Int),l)=G ((j:Int)+1,l.set j X):=fun G j l s X hl hs hX=>by
  unfold Zbu.p1;dsimp only;rw [hq,hr,ZaK (n:=((n/64:Nat):Int)) aF aF,(aF:(4:Int)-((n/64:Nat):Int)=((4-n/64:Nat):Int)),ZaK (n:=((4-n/64:Nat):Int)) aF aF,(aF:((j:Int)+((n/64:Nat):Int))=((3:Nat):Int)),ZaK (n:=((3:Nat):Int)) aF aF,aD aH,Zag aF,Zag aF,Zag aF,Zag aF,Zag aF,aE (by rw [ZaK aF aF];simp)];unfold Zbu.p2;rw [ZaK aF aF,zJ,zJ,hs,hX]
 have next : ∀(G:Int×List Int->Option (List Int)) (j:Nat) (l:List Int) (s t X:Int),n/64+j<3->l.length=4->[a,b,c,d].getD (n/64+j) 0=s->[a,b,c,d].getD (n/64+j+1) 0=t ->
   ZaI .or .u64 (Zbx .u64 s ((n%64:Nat):Int)) (ZbP .u64 t ((64-n%64:Nat):Int))=X ->
   Zbu.p1 (N+5) (n:Int) [a,b,c,d] G ((j:Int),l)=G ((j:Int)+1,l.set j X):=fun G j l s t X hl hl4 hs ht hX=>by
  unfold Zbu.p1;dsimp only;rw [hq,hr,ZaK (n:=((n/64:Nat):Int)) aF aF,(aF:(4:Int)-((n/64:Nat):Int)=((4-n/64:Nat):Int)),ZaK (n:=((4-n/64:Nat):Int)) aF aF,(aF:((j:Int)+((n/64:Nat):Int))=((n/64+j:Nat):Int)),ZaK (n:=((n/64+j:Nat):Int)) aF aF,(aF:((n/64+j:Nat):Int)+1=((n/64+j+1:Nat):Int)),ZaK (n:=((n/64+j+1:Nat):Int)) aF aF,(aF:(64:Int)-((n%64:Nat):Int)=((64-n%64:Nat):Int)),ZaK (n:=((64-n%64:Nat):Int)) aF aF,
   aD aH,Zag aF,Zag aF,Zag aF,Zag aF,Zag aF,aD aH,Zag aF,Zag aF]
  unfold Zbu.p2;rw [ZaK aF aF,zJ,zJ,zJ,hs,ht,xJ];have:(l.set j (Zbx .u64 s ((n%64:Nat):Int))).getD j 0=Zbx .u64 s ((n%64:Nat):Int):=by
   rw [yZ,zP aF];rfl
  rw [this,hX]
 have last : ∀(G:Int×List Int->Option (List Int)) (l:List Int) (j:Nat),n/64+j=4->Zbu.p1 (N+5) (n:Int) [a,b,c,d] G ((j:Int),l)=some l:=fun G l j hj=>by
  unfold Zbu.p1;dsimp only;rw [hq,ZaK (n:=((n/64:Nat):Int)) aF aF,ZaK aF aF,aE aH]
 have pw:=ZpL n;have cases4:n/64=0\/n/64=1\/n/64=2\/n/64=3:=aF
 have fin : ∀(a b c d A S:Int),isW A->vw a b c d*2^(64-n%64)=A+18446744073709551616*S->vw a b c d/2^(n%64)=S:=fun a b c d A S hA h=>Zsk pT pU tu hA h;have vT : ∀(a b c d A B C D x y z u:Int),a*2^(64-n%64)=A+18446744073709551616*x->b*2^(64-n%64)=B+18446744073709551616*y->c*2^(64-n%64)=C+18446744073709551616*z->d*2^(64-n%64)=D+18446744073709551616*u ->
   vw a b c d*2^(64-n%64)=A+18446744073709551616*vw (x+B) (y+C) (z+D) u:=fun a b c d A B C D x y z u a7 b7 c7 d7=>by
  have:vw a b c d*2^(64-n%64)=A+18446744073709551616*x+18446744073709551616*(B+18446744073709551616*y)+2^128*(C+18446744073709551616*z)+2^192*(D+18446744073709551616*u):=by
   rw [<-a7,<-b7,<-c7,<-d7];unfold vw;rw [yO,yO,yO,yG,yG,yG]
  rw [this];unfold vw;omega
 have z0:(0:Int)*2^(64-n%64)=0+18446744073709551616*0:=aF
 have W0:isW A/\isW B/\isW C/\isW D:=by unfold isW;omega
 rcases cases4 with q | q | q | q
 ·rw [q] at next top last pw
  rw [Zaz];refine Eq.trans (next _ 0 [0,0,0,0] a b (x+B) aF rfl rfl rfl (by rw [a2,b1];exact o1)) ?_;rw [Zaz];refine Eq.trans (next _ 1 [_,0,0,0] b c (y+C) aF rfl rfl rfl (by rw [b2,c1];exact o2)) ?_;rw [Zaz];refine Eq.trans (next _ 2 [_,_,0,0] c d (z+D) aF rfl rfl rfl (by rw [c2,d1];exact o3)) ?_;rw [Zaz];refine Eq.trans (top _ 3 [_,_,_,0] _ _ aF rfl d2) ?_;rw [Zaz];refine Eq.trans (last _ _ 4 aF) ?_;rw [pw,show (2:Int)^(64*0)=1 from rfl,uE,fin a b c d A _ W0.1 (vT _ _ _ _ _ _ _ _ _ _ _ _ a7 b7 c7 d7),ZeZ (by unfold isW;omega) (by unfold isW;omega) (by unfold isW;omega) (by unfold isW;omega)];simp
 ·rw [q] at next top last pw
  rw [Zaz];refine Eq.trans (next _ 0 [0,0,0,0] b c (y+C) aF rfl rfl rfl (by rw [b2,c1];exact o2)) ?_;rw [Zaz];refine Eq.trans (next _ 1 [_,0,0,0] c d (z+D) aF rfl rfl rfl (by rw [c2,d1];exact o3)) ?_;rw [Zaz];refine Eq.trans (top _ 2 [_,_,0,0] _ _ aF rfl d2) ?_;rw [Zaz];refine Eq.trans (last _ _ 3 aF) ?_;have:vw a b c d/18446744073709551616=vw b c d 0:=by unfold isW vw at *;omega
  rw [pw,show (2:Int)^(64*1)=18446744073709551616 from rfl,<-xO aF,this,fin b c d 0 B _ W0.2.1 (vT _ _ _ _ _ _ _ _ _ _ _ _ b7 c7 d7 z0),ZeZ (by unfold isW;omega) (by unfold isW;omega) (by unfold isW;omega) (by unfold isW;omega)];simp
 ·rw [q] at next top last pw
  rw [Zaz];refine Eq.trans (next _ 0 [0,0,0,0] c d (z+D) aF rfl rfl rfl (by rw [c2,d1];exact o3)) ?_;rw [Zaz];refine Eq.trans (top _ 1 [_,0,0,0] _ _ aF rfl d2) ?_;rw [Zaz];refine Eq.trans (last _ _ 2 aF) ?_;have:vw a b c d/2^128=vw c d 0 0:=by unfold isW vw at *;omega
  rw [pw,show (2:Int)^(64*2)=2^128 from rfl,<-xO aF,this,fin c d 0 0 C _ W0.2.2.1 (vT _ _ _ _ _ _ _ _ _ _ _ _ c7 d7 z0 z0),ZeZ (by unfold isW;omega) (by unfold isW;omega) (by unfold isW;omega) (by unfold isW;omega)];simp
 rw [q] at next top last pw
 rw [Zaz];refine Eq.trans (top _ 0 [0,0,0,0] _ _ aF rfl d2) ?_;rw [Zaz];refine Eq.trans (last _ _ 1 aF) ?_;have:vw a b c d/2^192=vw d 0 0 0:=by unfold isW vw at *;omega
 rw [pw,show (2:Int)^(64*3)=2^192 from rfl,<-xO aF,this,fin d 0 0 0 D _ W0.2.2.2 (vT _ _ _ _ _ _ _ _ _ _ _ _ d7 z0 z0 z0),ZeZ (by unfold isW;omega) (by unfold isW;omega) (by unfold isW;omega) (by unfold isW;omega)];simp
def Zsr {x:Int} (hx:isW x) (k:Nat) (hk:k<=64):ZaI .and .u64 x (2^k-1)=x%2^k:=by
 have p:=ZbZ k;have q:=ZbZ (64-k);have s:=Zgb hk;have l:(2:Int)^k<=18446744073709551616:=by
  have:=wS (aF:(1:Int)<=2^(64-k)) (aF:(0:Int)<=2^k);omega
 rw [and64 hx (by unfold isW;omega)];have:((2:Int)^k-1).toNat=2^k-1:=by
  have:((2^k:Nat):Int)=(2:Int)^k:=by push_cast;rfl
  omega
 rw [this,sS];unfold isW at hx
 push_cast
 rw [rJ hx.1]
def Zvk {x:Int} (hx:isW x):ZaI .and .u64 x 4294967295=x%4294967296:=Zsr hx 32 aF
def Zpv (x:Int):Zbx .u64 x 32=x/4294967296:=Znf x (k:=32) aF
def mul64 {x y:Int} (hx:isW x) (hy:isW y):Zdj N x y=some (x*y/18446744073709551616,x*y%18446744073709551616):=by
 unfold Zdj;rw [Zpv x,Zpv y,Zvk hx,Zvk hy];unfold isW at hx hy;obtain ⟨x1,x0,ex,hx1,hx2,hx3,hx4⟩ : ∃x1 x0:Int,x=x1*4294967296+x0/\0<=x1/\x1<=4294967295/\0<=x0/\x0<=4294967295:=⟨x/4294967296,x%4294967296,aF,aF,aF,aF,aF⟩
 obtain ⟨y1,y0,ey,hy1,hy2,hy3,hy4⟩ : ∃x1 x0:Int,y=x1*4294967296+x0/\0<=x1/\x1<=4294967295/\0<=x0/\x0<=4294967295:=⟨y/4294967296,y%4294967296,aF,aF,aF,aF,aF⟩
 rw [(aF:x/4294967296=x1),(aF:x%4294967296=x0),(aF:y/4294967296=y1),(aF:y%4294967296=y0)];have b : ∀{u v:Int},0<=u->u<=4294967295->0<=v->v<=4294967295->0<=u*v/\u*v<=18446744065119617025:=fun h1 h2 h3 h4=>⟨wH h1 h3,by
  have:=tJ h2 h4 h3 (by omega:(0:Int)<=4294967295);omega⟩
 obtain ⟨p1,p2⟩:=b hx1 hx2 hy1 hy2;obtain ⟨q1,q2⟩:=b hx1 hx2 hy3 hy4;obtain ⟨r1,r2⟩:=b hx3 hx4 hy1 hy2;obtain ⟨s1,s2⟩:=b hx3 hx4 hy3 hy4;have prod:x*y=18446744073709551616*(x1*y1)+4294967296*(x1*y0)+4294967296*(x0*y1)+x0*y0:=by
  rw [ex,ey,yO,tV,tV];have e1:x1*4294967296*(y1*4294967296)=18446744073709551616*(x1*y1):=by
   rw [yG,vM 4294967296 y1,<-yG x1 y1];omega
  have e2:x1*4294967296*y0=4294967296*(x1*y0):=by rw [yL x1,yG]
  have e3:x0*(y1*4294967296)=4294967296*(x0*y1):=by rw [<-yG,yL]
  rw [e1,e2,e3];omega
 rw [prod];generalize x1*y1=P at *;generalize x1*y0=Q at *;generalize x0*y1=R at *;generalize x0*y0=S at *;rw [Zdq (n:=S) aF aF,Zdq (n:=Q) aF aF,Zdq (n:=R) aF aF,Zdq (n:=P) aF aF,Zpv S,Zdq (n:=Q+S/4294967296) aF aF,Zpv,Zvk (by unfold isW;omega),Zdq (n:=P+(Q+S/4294967296)/4294967296) aF aF,Zdq (n:=(Q+S/4294967296)%4294967296+R) aF aF,Zpv,Zdq aF aF,Zgv];have:P+(Q+S/4294967296)/4294967296+((Q+S/4294967296)%4294967296+R)/4294967296=(18446744073709551616*P+4294967296*Q+4294967296*R+S)/18446744073709551616:=aF
 rw [this]
def mulc {x y c:Int} (hx:isW x) (hy:isW y) (hc:isW c) : ∃hi lo s c':Int,Zdj N x y=some (hi,lo)/\ZeH N lo c 0=some (s,c')/\isW s/\isW (v64 (hi+c'))/\s+18446744073709551616*(v64 (hi+c'))=x*y+c:=by
 have h:=mul64 (N:=N) hx hy;obtain ⟨s,c',e,k,l,m,n⟩:=Zvm (N:=N) (x:=x*y%18446744073709551616) (y:=c) (c:=0) (by unfold isW;omega) hc aF;refine ⟨_,_,s,c',h,e,k,?_⟩;have:0<=x*y/\x*y<=340282366920938463426481119284349108225:=by
  unfold isW at hx hy;refine ⟨wH hx.1 hy.1,?_⟩;have:=tJ (aF:x<=18446744073709551615) (aF:y<=18446744073709551615) hy.1 aF;omega
 unfold isW at *;generalize x*y=P at *;rw [Zdq aF aF];omega
def Znd (hN:10<=N) {m y:Int} (hm:isN m) (hy:isW y) :
  Zcp N (nw m) y=some (nw (m*y%2^256),decide (2^256<=m*y)):=by
 obtain ⟨a,b,c,d,ha,hb,hc,hd,rfl⟩:=ZeA hm;rw [ZeZ ha hb hc hd];obtain ⟨N,rfl⟩ : ∃q,N=q+5:=⟨N-5,aF⟩
 obtain ⟨x0,l0,s0,c0,e0,f0,g0,h0,i0⟩:=mulc (N:=N+5) ha hy isW0;obtain ⟨x1,l1,s1,c1,e1,f1,g1,h1,i1⟩:=mulc (N:=N+5) hb hy h0;obtain ⟨x2,l2,s2,c2,e2,f2,g2,h2,i2⟩:=mulc (N:=N+5) hc hy h1;obtain ⟨x3,l3,s3,c3,e3,f3,g3,h3,i3⟩:=mulc (N:=N+5) hd hy h2;unfold Zcp;have t : ∀(G:Int×Int×List Int->Option (List Int×Bool)) (j:Nat) (l:List Int) (c hi lo s c':Int),j<4->Zdj (N+5) (l.getD j 0) y=some (hi,lo)->ZeH (N+5) lo c 0=some (s,c') ->
   Zcp.p1 (N+5) y G (c,(j:Int),l)=G (v64 (hi+c'),(j:Int)+1,l.set j s):=fun G j l c hi lo s c' hj h h'=>by
  unfold Zcp.p1;dsimp only;rw [aD aH,Zag aF,zJ,h,Zaa];dsimp only;rw [h',Zaa,ZaK aF aF]
 have u : ∀(G:Int×Int×List Int->Option (List Int×Bool)) (l:List Int) (c:Int),Zcp.p1 (N+5) y G (c,4,l)=some (l,c != 0):=fun G l c=>by
  unfold Zcp.p1;dsimp only;rw [aE aG]
 rw [Zaz];refine Eq.trans (t _ 0 [a,b,c,d] 0 x0 l0 s0 c0 aF e0 f0) ?_;rw [Zaz];refine Eq.trans (t _ 1 [s0,b,c,d] _ x1 l1 s1 c1 aF e1 f1) ?_;rw [Zaz];refine Eq.trans (t _ 2 [s0,s1,c,d] _ x2 l2 s2 c2 aF e2 f2) ?_;rw [Zaz];refine Eq.trans (t _ 3 [s0,s1,s2,d] _ x3 l3 s3 c3 aF e3 f3) ?_;rw [Zaz];refine Eq.trans (u _ [s0,s1,s2,s3] _) ?_;rw [<-ZeZ g0 g1 g2 g3];have ex:vw a b c d*y=a*y+18446744073709551616*(b*y)+2^128*(c*y)+2^192*(d*y):=by
  unfold vw;rw [yO,yO,yO,yG,yG,yG]
 have key:vw a b c d*y=vw s0 s1 s2 s3+2^256*(v64 (x3+c3)):=by rw [ex];unfold vw;omega
 have r:=ZlU g0 g1 g2 g3;unfold isN at r;unfold isW at h3;have e5:(vw a b c d*y)%2^256=vw s0 s1 s2 s3:=aF
 rw [e5];have e6:(v64 (x3+c3) != 0)=decide (2^256<=vw a b c d*y):=by
  rw [wC];simp only [bne_iff_ne,ne_eq,decide_eq_true_eq];omega
 rw [e6]
end Go.Dn.F
set_option maxRecDepth 40000
namespace Go.Dn.F
open Go.Dn
variable {N:Nat}
def Zib (x:Int):Nat:=if x.toNat=0 then 0 else pZ x.toNat+1
def Zjf {x:Int} {k:Nat} (h:x<2^k):Zib x<=k:=by
 unfold Zib;split
 ·omega
 rename_i h0;have:x.toNat<2^k:=by
  have:((2^k:Nat):Int)=(2:Int)^k:=by push_cast;rfl
  omega
 have:=(Nat.log2_lt h0).2 this;omega
def Zvb {x:Int} {k:Nat} (h:2^k<=x):k<Zib x:=by
 unfold Zib;have c:((2^k:Nat):Int)=(2:Int)^k:=by push_cast;rfl
 have p:=Nat.two_pow_pos k;have:2^k<=x.toNat:=aF
 rw [aE aF];have:=(Nat.le_log2 aF).2 this;omega
def blen_eq {x:Int} {k:Nat} (h:2^k<=x) (h2:x<2^(k+1)):Zib x=k+1:=by
 have:=Zjf h2;have:=Zvb h;omega
def ZoZ {x:Int} (h:0<=x):x<2^Zib x:=by
 unfold Zib;split
 ·have:x=0:=by omega
  subst this;decide
 rename_i h0;have:=@Nat.lt_log2_self x.toNat;have c:((2^(pZ x.toNat+1):Nat):Int)=(2:Int)^(pZ x.toNat+1):=by push_cast;rfl
 omega
def Zvc {x:Int} (h:0<x):2^(Zib x-1)<=x/\0<Zib x:=by
 unfold Zib;rw [aE aF];have:=Nat.log2_self_le (n:=x.toNat) aF;have c:((2^(pZ x.toNat):Nat):Int)=(2:Int)^(pZ x.toNat):=by push_cast;rfl
 rw [Nat.add_sub_cancel];omega
def Zhk {x:Int} (k:Nat) (h:0<=x) (h2:2^k<=x):Zib x=k+Zib (x/2^k):=by
 have p:=ZbZ k;have q:0<x/2^k:=vA aF ((Int.le_ediv_iff_mul_le p).2 (by omega:(1:Int)*2^k<=x));have a:=ZoZ (x:=x/2^k) aF;obtain ⟨b,b0⟩:=Zvc q;have e:=yY x (2^k);have r0:=vJ x (b:=2^k) aF;have r1:=wZ x p;obtain ⟨j,hj⟩ : ∃j,Zib (x/2^k)=j+1:=⟨Zib (x/2^k)-1,aF⟩
 rw [hj] at a b |-;rw [Nat.add_sub_cancel] at b;refine blen_eq (k:=k+j) ?_ ?_
 ·rw [xP];have:=wS b (aF:(0:Int)<=2^k);rw [yL (2^k) (x/2^k)] at this;omega
 rw [(aF:k+j+1=k+(j+1)),xP];have:=wS (aF:x/2^k+1<=2^(j+1)) (aF:(0:Int)<=2^k);rw [tV,yL (2^k) (x/2^k),tK] at this;omega
def tab8:List UInt8:=(List.range 256).map fun i:Nat=>UInt8.ofNat (Zib (i:Int))
def ZrW (x:Int) (hx:0<=x/\x<256) (n:Int) (hn:0<=n/\n<1000):ZaC.p3 N x n=some (n+Zib x):=by
 unfold ZaC.p3;rw [v8_id hx.1 hx.2,Zag hx.1];rw [Zag (by
  refine vA hx.2 ?_;decide +kernel)]
 have tb : ∀i:Fin 256,(UInt8.toNat (zF tab8 i.val 0):Nat)=Zib (i.val:Int):=by decide +kernel
 have:=tb ⟨x.toNat,aF⟩;rw [(aF:((x.toNat:Nat):Int)=x)] at this;have te:(UInt8.toNat (zF tab8 (zD x) 0))=Zib x:=this;have hb:Zib x<=8:=Zjf (k:=8) aF;rw [show ∀(l:List UInt8),l=tab8->(UInt8.toNat (zF l (zD x) 0))=Zib x from fun l e=>by rw [e];exact te]
 ·rw [ZaK (n:=(Zib x:Int)) aF aF,ZaK aF aF]
 decide +kernel
def len64 {x:Int} (hx:isW x):ZaC N x=some (Zib x:Int):=by
 have sh : ∀y:Int,Zbx .u64 y 16=y/65536:=fun y=>Znf y (k:=16) aF;have sh8 : ∀y:Int,Zbx .u64 y 8=y/256:=fun y=>Znf y (k:=8) aF;unfold isW at hx;have p2 : ∀(y n:Int),0<=y/\y<65536->0<=n/\n<900->ZaC.p2 N y n=some (n+Zib y):=fun y n hy hn=>by
  unfold ZaC.p2;by_cases h:256<=y
  ·rw [aD (aR h),sh8,ZaK aF aF,ZrW _ aF _ aF,Zhk (x:=y) 8 aF aF,show (2:Int)^8=256 from rfl]
   congr 1;omega
  rw [aE (aR h),ZrW _ aF _ aF]
 have p1 : ∀(y n:Int),0<=y/\y<4294967296->0<=n/\n<800->ZaC.p1 N y n=some (n+Zib y):=fun y n hy hn=>by
  unfold ZaC.p1;by_cases h:65536<=y
  ·rw [aD (aR h),sh,ZaK aF aF,p2 _ _ aF aF,Zhk (x:=y) 16 aF aF,show (2:Int)^16=65536 from rfl]
   congr 1;omega
  rw [aE (aR h),p2 _ _ aF aF]
 unfold ZaC;by_cases h:4294967296<=x
 ·rw [aD (aR h),Zpv,p1 _ _ aF aF,Zhk (x:=x) 32 aF aF,show (2:Int)^32=4294967296 from rfl]
  congr 1
 rw [aE (aR h),p1 _ _ aF aF,oA]
def Zlf (hN:10<=N) {m:Int} (hm:isN m):ZcV N (nw m)=some (Zib m:Int):=by
 obtain ⟨a,b,c,d,ha,hb,hc,hd,rfl⟩:=ZeA hm;rw [ZeZ ha hb hc hd];obtain ⟨N,rfl⟩ : ∃q,N=q+5:=⟨N-5,aF⟩
 have bl : ∀{x:Int},isW x->Zib x<=64:=fun h=>Zjf (by unfold isW at h;exact h.2);unfold ZcV;have t : ∀(G:Int->Option Int) (j:Nat) (x:Int),j<4->[a,b,c,d].getD j 0=x->isW x->ZcV.p1 (N+5) [a,b,c,d] G (j:Int)=if x≠0 then some ((64*j+Zib x:Nat):Int) else G ((j:Int)-1):=fun G j x hj h hx=>by
  have:=bl hx;unfold ZcV.p1;rw [aD aG,Zag aF,Zag aF,zJ,h,len64 hx,Zaa,ZaK (n:=64*(j:Int)) aF aF,ZaK aF aF,ZaK aF aF];simp only [bne_iff_ne]
  push_cast
  rfl
 have u : ∀G:Int->Option Int,ZcV.p1 (N+5) [a,b,c,d] G (-1)=some 0:=fun G=>by
  unfold ZcV.p1;rw [aE aG]
 rw [Zaz];refine Eq.trans (t _ 3 d aF rfl hd) ?_;have ha':=ha;have hb':=hb;have hc':=hc;have hd':=hd;unfold isW at ha' hb' hc' hd';by_cases h3:d=0
 ·rw [aE (aR h3),Zaz];refine Eq.trans (t _ 2 c aF rfl hc) ?_;by_cases h2:c=0
  ·rw [aE (aR h2),Zaz];refine Eq.trans (t _ 1 b aF rfl hb) ?_;by_cases h1:b=0
   ·rw [aE (aR h1),Zaz];refine Eq.trans (t _ 0 a aF rfl ha) ?_;have:vw a b c d=a:=by unfold vw;omega
    rw [this];by_cases h0:a=0
    ·rw [aE (aR h0),Zaz];refine Eq.trans (u _) ?_;rw [h0];rfl
    rw [aD h0];congr 2;omega
   rw [aD h1];have e:vw a b c d/2^64=b:=by rw [show (2:Int)^64=18446744073709551616 from rfl];unfold vw;omega
   rw [Zhk (x:=vw a b c d) 64 (by unfold vw;omega) (by rw [show (2:Int)^64=18446744073709551616 from rfl];unfold vw;omega),e]
  rw [aD h2];have e:vw a b c d/2^128=c:=by rw [show (2:Int)^128=2^128 from rfl];unfold vw;omega
  rw [Zhk (x:=vw a b c d) 128 (by unfold vw;omega) (by rw [show (2:Int)^128=2^128 from rfl];unfold vw;omega),e]
 rw [aD h3];have e:vw a b c d/2^192=d:=by rw [show (2:Int)^192=2^192 from rfl];unfold vw;omega
 rw [Zhk (x:=vw a b c d) 192 (by unfold vw;omega) (by rw [show (2:Int)^192=2^192 from rfl];unfold vw;omega),e]
def Zfj {a b:Int} (h:0<=a):zT a b=a/b:=wQ h
def ZfT {a b:Int} (h:0<=a):yB a b=a%b:=xI h
def div_two {M y T V q1 q0 R R2 un1 un0 un32:Int} (hT:0<T) (hy:y*T=V*4294967296) (hM:M*T=un32*18446744073709551616+un1*4294967296+un0)
  (h1:un32=q1*V+R) (h2:R*4294967296+un1=q0*V+R2) (hR2:0<=R2/\R2<V) (h0:0<=un0/\un0<4294967296) (hy0:0<y) :
  (q1*4294967296+q0)=M/y/\(R2*4294967296+un0)/T=M%y:=by
 have k:M*T=(q1*4294967296+q0)*y*T+(R2*4294967296+un0):=by
  have e1:(q1*4294967296+q0)*y*T=(q1*V)*18446744073709551616+(q0*V)*4294967296:=by
   rw [yG,hy,yO,<-yG q0,yG q1,vM 4294967296 V,<-yG q1 V];omega
  rw [e1,hM,h1];rw [yO];omega
 have e:(M-(q1*4294967296+q0)*y)*T=R2*4294967296+un0:=by rw [Int.sub_mul];omega
 have lt:(M-(q1*4294967296+q0)*y)*T<y*T:=by rw [e,hy];omega
 have lt':=Int.lt_of_mul_lt_mul_right lt (vV hT);have ge:0*T<=(M-(q1*4294967296+q0)*y)*T:=by rw [e];omega
 have ge':=Int.le_of_mul_le_mul_right ge hT;have d:=(uV hy0 (a:=M) (b:=y) (q:=q1*4294967296+q0) (r:=M-(q1*4294967296+q0)*y)).2 ⟨by rw [yL y];omega,ge',lt'⟩;refine ⟨d.1.symm,?_⟩;rw [<-e,Int.mul_ediv_cancel _ aF,d.2]
def div64 (hN:10<=N) {hi lo y:Int} (hy0:0<y) (hy:y<4294967296) (h0:0<=hi) (h1:hi<y) (hl:isW lo) :
  Zak N hi lo y=some ((hi*18446744073709551616+lo)/y,(hi*18446744073709551616+lo)%y):=by
 have hl':=hl;unfold isW at hl';unfold Zak;rw [aE aH,aE aH];by_cases hz:hi=0
 ·subst hz;rw [aD (by rfl),Zag aF,Zfj hl'.1,ZfT hl'.1,Int.zero_mul,oA];have:lo/y<=lo:=uC _ hl'.1;have:0<=lo/y:=xE hl'.1 aF;rw [Zdq aF aF]
 rw [aE (aR hz)];have by1:=Zjf (x:=y) (k:=32) (by rw [show (2:Int)^32=4294967296 from rfl];omega);obtain ⟨by2,by3⟩:=Zvc hy0;have by4:=ZoZ (x:=y) aF;obtain ⟨s,hs,hs1,hs2⟩ : ∃s:Nat,64-s=Zib y/\32<=s/\s<64:=⟨64-Zib y,aF,aF,aF⟩
 have lz:Zcc N y=some (s:Int):=by
  unfold Zcc;rw [len64 (by unfold isW;omega),Zaa,ZaK aF aF,<-hs]
  congr 1;omega
 rw [lz,Zaa];have vs:v64 (s:Int)=(s:Int):=Zdq aF aF;have vs':v64 (64-(s:Int))=((64-s:Nat):Int):=by rw [Zdq aF aF];omega
 have pT:=ZbZ s;have split:=Zgb (k:=s) aF;have t32:(2:Int)^s=2^(s-32)*4294967296:=by rw [show (4294967296:Int)=2^32 from rfl,<-xP,(aF:s-32+32=s)]
 rw [hs] at split;have Ylt:y*2^s<18446744073709551616:=by
  have:=tI by4 pT;rw [yL (2^Zib y),split] at this;exact this
 have Yge:0<y*2^s:=pF hy0 pT;have eY:ZbP .u64 y (v64 (s:Int))=y*2^s:=by rw [vs,ZqO y aF];omega
 have yV:y*2^s=y*2^(s-32)*4294967296:=by rw [t32,yG]
 obtain ⟨A,h,a1,a2,a3,a4,a5,a6,a7,a8⟩:=Zem hl (k:=s) aF;have hiA:ZbP .u64 hi (v64 (s:Int))=hi*2^s:=by
  rw [vs,ZqO hi aF];have:=tI h1 pT;have:0<=hi*2^s:=wH h0 aF;omega
 have hi1:(hi+1)*2^s<=y*2^s:=wW aF aF;rw [yO,uE] at hi1;have hi0:0<=hi*2^s:=wH h0 aF;have eU:ZaI .or .u64 (ZbP .u64 hi (v64 (s:Int))) (Zbx .u64 lo (v64 (64-v64 (s:Int))))=hi*2^s+h:=by
  rw [hiA,vs,vs',a2];exact ZiP (k:=s) aF hi0 aF (uU _ _) a5 a6
 have eL:ZbP .u64 lo (v64 (s:Int))=A:=by rw [vs];exact a1
 have hM:(hi*18446744073709551616+lo)*2^s=(hi*2^s+h)*18446744073709551616+A/4294967296*4294967296+A%4294967296:=by
  rw [yO,a7,yG,yL 18446744073709551616,<-yG,yO];omega
 have pV:0<y*2^(s-32):=pF hy0 (ZbZ _);generalize hV:y*2^(s-32)=V at *;generalize hUU:hi*2^s+h=U at *;generalize hTT:(2:Int)^s=T at *;have eV:Zbx .u64 (y*T) 32=V:=by rw [Zpv];omega
 have eZ:ZaI .and .u64 (y*T) 4294967295=0:=by rw [Zvk (by unfold isW;omega)];omega
 have eA1:Zbx .u64 A 32=A/4294967296:=Zpv A;have eA0:ZaI .and .u64 A 4294967295=A%4294967296:=Zvk (by unfold isW;omega);have U0:0<=U/\U<V*4294967296:=aF
 have dU:=yY U V;have rU0:=vJ U (b:=V) aF;have rU1:=wZ U pV;have qU0:0<=U/V:=xE U0.1 aF;have qU1:U/V<4294967296:=wI pV (by rw [yL];exact U0.2);generalize hq1:U/V=q1 at *;generalize hR:U%V=R at *;have mq1:0<=q1*V:=wH qU0 aF;have B0:0<=R*4294967296+A/4294967296/\R*4294967296+A/4294967296<V*4294967296:=aF
 generalize hB:R*4294967296+A/4294967296=B at *;have dB:=yY B V;have rB0:=vJ B (b:=V) aF;have rB1:=wZ B pV;have qB0:0<=B/V:=xE B0.1 aF;have qB1:B/V<4294967296:=wI pV (by rw [yL];exact B0.2);generalize hq0:B/V=q0 at *;generalize hR2:B%V=R2 at *;have mq0:0<=q0*V:=wH qB0 aF;obtain ⟨f1,f2⟩:=div_two (M:=hi*18446744073709551616+lo) (y:=y) (T:=T) (V:=V) (q1:=q1) (q0:=q0) (R:=R) (R2:=R2) (un1:=A/4294967296) (un0:=A%4294967296) (un32:=U) pT aF hM dU.symm (by rw [hB];exact dB.symm) ⟨rB0,rB1⟩ aF hy0;have yq1:q1*(y*T)=(q1*V)*4294967296:=by rw [yV,<-yG]
 have yq0:q0*(y*T)=(q0*V)*4294967296:=by rw [yV,<-yG]
 obtain ⟨N,rfl⟩ : ∃q,N=q+1:=⟨N-1,aF⟩
 have vB:v64 (v64 (v64 (U*4294967296)+A/4294967296)-v64 (q1*(y*T)))=B:=by
  rw [yq1,Zgv,Zgv,Zgv,Zgv];omega
 have vE:v64 (v64 (v64 (B*4294967296)+A%4294967296)-v64 (q0*(y*T)))=R2*4294967296+A%4294967296:=by
  rw [yq0,Zgv,Zgv,Zgv,Zgv];omega
 have s1 : ∀G,Zak.p1 (N+1) y (s:Int) hi lo G (q1,R)=Zak.p3 (N+1) y (s:Int) hi lo q1:=fun G=>by
  unfold Zak.p1;dsimp only;rw [eY,eL,eZ,eA1,aE aH,sH,Zdq (n:=0) aF aF,aE (by
   simp only [decide_eq_true_eq,gt_iff_lt,Int.not_lt];rw [Zgv];omega)]
 have s4 : ∀G,Zak.p4 (N+1) y (s:Int) lo q1 hi G (R2,q0)=Zak.p6 (N+1) y (s:Int) lo q1 hi q0:=fun G=>by
  unfold Zak.p4;dsimp only;rw [eY,eL,eZ,eA0,aE aH,sH,Zdq (n:=0) aF aF,aE (by
   simp only [decide_eq_true_eq,gt_iff_lt,Int.not_lt];rw [Zgv];omega)]
 rw [Zag (by rw [vs];omega),Zag (by rw [vs,vs'];omega),eY,eV,Zag aF,eU,Zfj U0.1,hq1,Zdq (n:=q1) aF aF,Zdq (n:=q1*V) aF aF,(aF:U-q1*V=R),Zdq (n:=R) aF aF,Zaz,s1];unfold Zak.p3;rw [eY,eL,eV,eU,eA1,Zag aF,vB,Zfj B0.1,hq0,Zdq (n:=q0) aF aF,Zdq (n:=q0*V) aF aF,(aF:B-q0*V=R2),Zdq (n:=R2) aF aF,Zaz,s4];unfold Zak.p6;rw [Zag (by rw [vs];omega),eY,eL,eU,eA1,eA0,vB,vE,vs,Znf _ (k:=s) aF,hTT,f2,Zdq (n:=q1*4294967296) aF aF,Zdq (n:=q1*4294967296+q0) aF aF,f1]
def ZnY (hN:10<=N) {m y:Int} (hm:isN m) (hy0:0<y) (hy:y<4294967296):ZcN N (nw m) y=some (nw (m/y),m%y):=by
 obtain ⟨a,b,c,d,ha,hb,hc,hd,rfl⟩:=ZeA hm;rw [ZeZ ha hb hc hd];obtain ⟨N,rfl⟩ : ∃q,N=q+5:=⟨N-5,aF⟩
 unfold ZcN;rw [aE aH];have t : ∀(G:Int×Int×List Int->Option (List Int×Int)) (j:Nat) (l:List Int) (x r q r':Int),j<4->l.getD j 0=x->isW x->0<=r->r<y->(r*18446744073709551616+x)/y=q->(r*18446744073709551616+x)%y=r' ->
   ZcN.p1 (N+5) y G (r,(j:Int),l)=G (r',(j:Int)-1,l.set j q):=fun G j l x r q r' hj hx hw h0 h1 hq hr=>by
  unfold ZcN.p1;dsimp only;rw [aD aG,Zag aF,Zag aF,zJ,hx,div64 aF hy0 hy h0 h1 hw,Zaa,hq,hr,ZaK aF aF]
 have u : ∀(G:Int×Int×List Int->Option (List Int×Int)) (l:List Int) (r:Int),ZcN.p1 (N+5) y G (r,-1,l)=some (l,r):=fun G l r=>by
  unfold ZcN.p1;dsimp only;rw [aE aG]
 have step : ∀{r x:Int},0<=r->r<y->isW x->∃q r',(r*18446744073709551616+x)/y=q/\(r*18446744073709551616+x)%y=r'/\isW q/\0<=r'/\r'<y/\r*18446744073709551616+x=q*y+r':=fun {r x} h0 h1 hx=>by
  unfold isW at hx;have e:=yY (r*18446744073709551616+x) y;refine ⟨_,_,rfl,rfl,⟨xE aF aF,wI hy0 ?_⟩,vJ _ aF,wZ _ hy0,e.symm⟩;omega
 obtain ⟨q3,r3,a3,b3,c3,d3,e3,f3⟩:=step (r:=0) (x:=d) aF hy0 hd;obtain ⟨q2,r2,a2,b2,c2,d2,e2,f2⟩:=step d3 e3 hc;obtain ⟨q1,r1,a1,b1,c1,d1,e1,f1⟩:=step d2 e2 hb;obtain ⟨q0,r0,a0,b0,c0,d0,e0,f0⟩:=step d1 e1 ha;rw [Zaz];refine Eq.trans (t _ 3 [a,b,c,d] d 0 q3 r3 aF rfl hd aF hy0 a3 b3) ?_;rw [Zaz];refine Eq.trans (t _ 2 [a,b,c,q3] c r3 q2 r2 aF rfl hc d3 e3 a2 b2) ?_;rw [Zaz];refine Eq.trans (t _ 1 [a,b,q2,q3] b r2 q1 r1 aF rfl hb d2 e2 a1 b1) ?_;rw [Zaz];refine Eq.trans (t _ 0 [a,q1,q2,q3] a r1 q0 r0 aF rfl ha d1 e1 a0 b0) ?_;rw [Zaz];refine Eq.trans (u _ [q0,q1,q2,q3] r0) ?_;have key:vw a b c d=vw q0 q1 q2 q3*y+r0:=by
  have:vw q0 q1 q2 q3*y=q0*y+18446744073709551616*(q1*y)+2^128*(q2*y)+2^192*(q3*y):=by
   unfold vw;rw [yO,yO,yO,yG,yG,yG]
  rw [this];unfold vw;omega
 have d:=(uV hy0 (a:=vw a b c d) (q:=vw q0 q1 q2 q3) (r:=r0)).2 ⟨by rw [yL y];omega,d0,e0⟩;rw [d.1,d.2,ZeZ c0 c1 c2 c3]
def isU (x:Int):Prop:=0<=x/\x<9223372036854775808
def of_i (x:Int) (h:isU x):(BitVec.ofInt 64 x).toNat=x.toNat:=by
 unfold isU at h;rw [BitVec.toNat_ofInt];omega
def wrapi (n:Nat) (h:n<9223372036854775808):IntKind.wrap .i64 (n:Int)=n:=ZaK aF aF
def and_i {x y:Int} (hx:isU x) (hy:isU y):ZaI .and .i64 x y=((x.toNat &&& y.toNat:Nat):Int):=by
 show IntKind.wrap .i64 (((BitVec.ofInt 64 x &&& BitVec.ofInt 64 y).toNat:Nat):Int)=_;have:x.toNat &&& y.toNat<=x.toNat:=Nat.and_le_left;unfold isU at *;rw [BitVec.toNat_and,of_i x hx,of_i y hy,wrapi _ aF]
def or_i {x y:Int} (hx:isU x) (hy:isU y):ZaI .or .i64 x y=((x.toNat ||| y.toNat:Nat):Int):=by
 show IntKind.wrap .i64 (((BitVec.ofInt 64 x ||| BitVec.ofInt 64 y).toNat:Nat):Int)=_;have:x.toNat ||| y.toNat<2^63:=Nat.or_lt_two_pow (by unfold isU at hx;omega) (by unfold isU at hy;omega)
 rw [BitVec.toNat_or,of_i x hx,of_i y hy,wrapi _ aF]
def and_pow2 (x i:Nat):x &&& 2^i=if x.testBit i then 2^i else 0:=by
 apply Nat.eq_of_testBit_eq;intro j;rw [Nat.testBit_and,uY];by_cases h:i=j
 ·subst h;cases hx:x.testBit i<;>simp [uY]
 cases hx:x.testBit i<;>simp [uY,h]
def and_word {b:Int} (h:isU b):ZaI .and .i64 b 8388607=b%8388608:=by
 rw [and_i h (by unfold isU;omega),show (8388607:Int).toNat=2^23-1 from rfl,sS];unfold isU at h;omega
def Zsq {b:Int} (h:isU b):(ZaI .and .i64 b 8388608 != 0)=decide (b/8388608%2=1):=by
 rw [and_i h (by unfold isU;omega),show (8388608:Int).toNat=2^23 from rfl,and_pow2];have t:b.toNat.testBit 23=decide (b/8388608%2=1):=by
  rw [Nat.testBit_eq_decide_div_mod_eq];unfold isU at h;rw [decide_eq_decide];omega
 rw [t];by_cases k:b/8388608%2=1
 ·simp [k]
 simp [k]
def ZrD {b:Int}:Zbx .i64 b 24=b/16777216:=ZqN b 24 aF
def ZgV (b:Int):Int:=b%8388608
def ZfA (b:Int):Nat:=(b/16777216).toNat
def cN (b:Int):Int:=if ZfA b<=3 then ZgV b/2^(8*(3-ZfA b)) else ZgV b*2^(8*(ZfA b-3))%2^256
def cNeg (b:Int):Bool:=decide (ZgV b≠0/\b/8388608%2=1)
def ZuT (b:Int):Bool:=decide (ZgV b≠0/\(34<ZfA b\/255<ZgV b/\33<ZfA b\/65535<ZgV b/\32<ZfA b))
def Zrn (b:Int):Bool:=decide (0<=b/\b<4294967296)
def Zht (b:Int):Int×Bool×Bool:=if Zrn b then (cN b,cNeg b,ZuT b) else (0,false,false)
def cN_isN {b:Int} (h:Zrn b=true):isN (cN b):=by
 simp only [Zrn,decide_eq_true_eq] at h;unfold cN isN;have w:0<=ZgV b/\ZgV b<8388608:=by unfold ZgV;omega
 split
 ·have p:=ZbZ (8*(3-ZfA b));have:ZgV b/2^(8*(3-ZfA b))<=ZgV b:=uC _ w.1;have:0<=ZgV b/2^(8*(3-ZfA b)):=xE w.1 aF;omega
 omega
def ZfY (b:Int):isN (Zht b).1:=by
 unfold Zht;split
 ·rename_i h;exact cN_isN h
 unfold isN;dsimp only;omega
def ZgD (hN:10<=N) (b:Int):ZaR N b=some (nw (Zht b).1,(Zht b).2.1,(Zht b).2.2):=by
 unfold ZaR;rw [Zjc,Zaa];cases hg:Zrn b with
 | false=>
  have:decide (0<=b/\b<4294967296)=false:=hg;rw [this,aD (by rfl)];unfold Zht;rw [hg,ZeP];rfl
 | true=>
  have hg':decide (0<=b/\b<4294967296)=true:=hg;rw [hg',aE aG];simp only [decide_eq_true_eq] at hg';have hu:isU b:=by unfold isU;omega
  have w:0<=ZgV b/\ZgV b<8388608:=by unfold ZgV;omega
  have s:b/16777216=(ZfA b:Int):=by unfold ZfA;omega
  have s2:ZfA b<256:=by unfold ZfA;omega
  have e:ZaI .and .i64 b 8388607=ZgV b:=and_word hu;have wN:isN (ZgV b):=by unfold isN;omega
  have p2 : ∀(neg:Bool) (l:List Int),ZaR.p2 N b neg l=some (l,neg,ZuT b):=fun neg l=>by
   unfold ZaR.p2;rw [e,ZrD,s];simp only [bne_iff_ne,ne_eq,decide_eq_true_eq,gt_iff_lt];unfold ZuT
   repeat' split
   all_goals (congr 2;congr 1;rw [wC];simp only [decide_eq_true_eq,iff_true,true_iff,yP,false_iff,ne_eq];omega)
  have p1 : ∀l:List Int,ZaR.p1 N b l=some (l,cNeg b,ZuT b):=fun l=>by
   unfold ZaR.p1;rw [e,Zsq hu,p2,p2];unfold cNeg;by_cases h0:ZgV b=0
   ·rw [aE (by simp [h0])];simp [h0]
   rw [aD (by simp [h0])];simp [h0]
  rw [e,Zdq w.1 aF,Zhm (by unfold isW;omega),Zaa,ZrD,s];unfold Zht;rw [hg,aD rfl];dsimp only;unfold cN;by_cases h3:ZfA b<=3
  ·rw [aD aH,aD h3,(aF:(3:Int)-(ZfA b:Int)=((3-ZfA b:Nat):Int)),ZaK (n:=((3-ZfA b:Nat):Int)) aF aF,(aF:(8:Int)*((3-ZfA b:Nat):Int)=((8*(3-ZfA b):Nat):Int)),ZaK aF aF,ZjO hN wN _ aF,Zaa,p1]
  rw [aE aH,aE h3,(aF:(ZfA b:Int)-3=((ZfA b-3:Nat):Int)),ZaK (n:=((ZfA b-3:Nat):Int)) aF aF,(aF:(8:Int)*((ZfA b-3:Nat):Int)=((8*(ZfA b-3):Nat):Int)),ZaK aF aF,Zjy hN wN _ aF,Zaa,p1]
def tgt (b l:Int):Int×Bool:=
 if (Zht b).2.1||(Zht b).2.2||(Zht l).2.1||(Zht l).2.2||decide ((Zht b).1=0)||decide ((Zht l).1<(Zht b).1) then (0,false) else ((Zht b).1,true)
def ZkF (b l:Int):isN (tgt b l).1:=by
 unfold tgt;split
 ·unfold isN;dsimp only;omega
 exact ZfY b
def ZfP (hN:10<=N) (b l:Int):ZcR N b l=some (nw (tgt b l).1,(tgt b l).2):=by
 unfold ZcR;rw [ZgD hN,Zaa];dsimp only;rw [ZgD hN,Zaa];dsimp only;unfold tgt;have z:=ZeR (N:=N) (ZfY b);have le:=ZgY hN (ZfY l) (ZfY b);rw [z,Zaa,le,Zaa,ZeP];cases (Zht b).2.1<;>cases (Zht b).2.2<;>cases (Zht l).2.1<;>cases (Zht l).2.2<;>cases (decide ((Zht b).1=0))<;>cases (decide ((Zht l).1<(Zht b).1))<;>rfl
def ZeS {a b:Nat} (h:a<=b):(2:Int)^a<=2^b:=by
 have e:(2:Int)^b=2^a*2^(b-a):=by rw [<-xP,(aF:a+(b-a)=b)]
 have p:=ZbZ a;have q:=ZbZ (b-a);have:=wS (aF:(1:Int)<=2^(b-a)) (aF:(0:Int)<=2^a);rw [tK] at this;rw [e];exact this
def hv:List Int->Int
 | []=>0
 | x::l=>x+256*hv l
def bys (l:List Int):Prop:=∀x∈l,0<=x/\x<256
def Zup : ∀(l:List Int) (x:Int),hv (l ++ [x])=hv l+x*2^(8*l.length)
 | [],x=>by simp [hv]
 | y::l,x=>by
  rw [List.cons_append,hv,Zup l x,hv,wO,tV,show (2:Int)^(8*(l.length+1))=256*2^(8*l.length) by rw [(aF:8*(l.length+1)=8+8*l.length),xP];rfl,vM x 256];omega
def ZlK : ∀{l:List Int},bys l->0<=hv l/\hv l<2^(8*l.length)
 | [],_=>by simp [hv]
 | y::l,h=>by
  have ih:=ZlK (l:=l) fun x hx=>h x (List.mem_cons_of_mem _ hx);have:=h y aG;rw [hv,wO,show (2:Int)^(8*(l.length+1))=256*2^(8*l.length) by rw [(aF:8*(l.length+1)=8+8*l.length),xP];rfl];omega
def pw (j:Nat):Int:=2^(64*j)
def ZnK {m X:Int} {j:Nat} (hm:isN m) (hj:j<4) (hX:0<=X) (h:(nw m).getD j 0+X<18446744073709551616):(nw m).set j ((nw m).getD j 0+X)=nw (m+X*2^(64*j))/\isN (m+X*2^(64*j)):=by
 obtain ⟨a,b,c,d,ha,hb,hc,hd,rfl⟩:=ZeA hm;rw [ZeZ ha hb hc hd] at h |-;have cases4:j=0\/j=1\/j=2\/j=3:=aF
 rcases cases4 with rfl | rfl | rfl | rfl
 ·have h':a+X<18446744073709551616:=h;have e:vw a b c d+X*2^(64*0)=vw (a+X) b c d:=by rw [show (2:Int)^(64*0)=1 from rfl];unfold vw;omega
  have w:isW (a+X):=by unfold isW at *;omega
  rw [e,ZeZ w hb hc hd];exact ⟨rfl,ZlU w hb hc hd⟩
 ·have h':b+X<18446744073709551616:=h;have e:vw a b c d+X*2^(64*1)=vw a (b+X) c d:=by rw [show (2:Int)^(64*1)=18446744073709551616 from rfl];unfold vw;omega
  have w:isW (b+X):=by unfold isW at *;omega
  rw [e,ZeZ ha w hc hd];exact ⟨rfl,ZlU ha w hc hd⟩
 ·have h':c+X<18446744073709551616:=h;have e:vw a b c d+X*2^(64*2)=vw a b (c+X) d:=by rw [show (2:Int)^(64*2)=2^128 from rfl];unfold vw;omega
  have w:isW (c+X):=by unfold isW at *;omega
  rw [e,ZeZ ha hb w hd];exact ⟨rfl,ZlU ha hb w hd⟩
 have h':d+X<18446744073709551616:=h;have e:vw a b c d+X*2^(64*3)=vw a b c (d+X):=by rw [show (2:Int)^(64*3)=2^192 from rfl];unfold vw;omega
 have w:isW (d+X):=by unfold isW at *;omega
 rw [e,ZeZ ha hb hc w];exact ⟨rfl,ZlU ha hb hc w⟩
def ZiQ {m:Int} (hm:isN m) {j:Nat} (hj:j<4):(nw m).getD j 0=m/2^(64*j)%18446744073709551616:=by
 have cases4:j=0\/j=1\/j=2\/j=3:=aF
 rcases cases4 with rfl | rfl | rfl | rfl
 ·show m%18446744073709551616=m/2^(64*0)%18446744073709551616;rw [show (2:Int)^(64*0)=1 from rfl,Int.ediv_one]
 ·rfl
 ·rfl
 rfl
def ZkB (hN:40<=N) {h:List Int} (hl:h.length=32) (hb:bys h):ZbQ N h=some (nw (hv h)):=by
 unfold ZbQ;refine Zck (fun m (x:Int×List Int)=>∃i:Nat,i+m=32/\x=((i:Int),nw (hv (h.take i)))) ?_ N 32 _ ⟨0,aF,?_⟩ aF
 ·rintro G m _ ⟨i,hi,rfl⟩ hG;unfold ZbQ.p1;dsimp only;by_cases hlt:i<32
  ·have hm:bys (h.take i):=fun x hx=>hb x (uT hx);have lt:=ZlK hm;have ll:(h.take i).length=i:=by rw [wB];omega
   rw [ll] at lt;have x:=hb h[i] (yM aF);have e1:zT (i:Int) 8=((i/8:Nat):Int):=by rw [Zfj aF];omega
   have e2:(8:Int)*yB (i:Int) 8=((8*(i%8):Nat):Int):=by rw [ZfT aF];omega
   have pk:=ZbZ (8*(i%8));have le:(2:Int)^(8*i)=2^(64*(i/8))*2^(8*(i%8)):=by rw [<-xP];congr 1;omega
   have mi:isN (hv (h.take i)):=by
    refine ⟨lt.1,vA lt.2 ?_⟩;exact ZeS (aF:8*i<=256)
   have gd:=ZiQ mi (j:=i/8) aF;have sm:hv (h.take i)/2^(64*(i/8))<2^(8*(i%8)):=wI (ZbZ _) (by rw [yL,<-le];exact lt.2);have sm0:0<=hv (h.take i)/2^(64*(i/8)):=xE lt.1 (vV (ZbZ _));have T56:(2:Int)^(8*(i%8))*256<=18446744073709551616:=by
    have:=ZeS (aF:8*(i%8)+8<=64);rw [xP] at this;exact this
   rw [xH sm0 aF] at gd;have xs:(h[i]+1)*2^(8*(i%8))<=256*2^(8*(i%8)):=wW aF aF;rw [yO,uE] at xs;have xs0:0<=h[i]*2^(8*(i%8)):=wH x.1 aF;have sh:ZbP .u64 h[i] ((8*(i%8):Nat):Int)=h[i]*2^(8*(i%8)):=by rw [ZqO _ aF];omega
   have or1:ZaI .or .u64 ((nw (hv (h.take i))).getD (i/8) 0) (h[i]*2^(8*(i%8)))=(nw (hv (h.take i))).getD (i/8) 0+h[i]*2^(8*(i%8)):=by
    rw [gd,Zmo (by unfold isW;omega) (by unfold isW;omega),ZiP (k:=8*(i%8)) aF xs0 aF (uU _ _) sm0 sm];omega
   have st:=(ZnK mi (j:=i/8) aF xs0 (by rw [gd];omega)).1;have hx:zF h i 0=h[i]:=by rw [yZ,zQ aF];rfl
   rw [aD aH,Zag aF,e1,e2,ZaK (n:=((i/8:Nat):Int)) aF aF,ZaK (n:=((8*(i%8):Nat):Int)) aF aF,Zag aF,Zag aF,Zag aF,zJ,zJ,hx,Zdq x.1 aF,sh,or1,st,ZaK aF aF];refine hG (m-1) _ aF ⟨i+1,aF,?_⟩;have tk:h.take (i+1)=h.take i ++ [h[i]]:=zY aF;rw [tk,Zup,ll,le,yG,yL (2^(8*(i%8)))];rfl
  rw [aE aH,zW aF]
 rw [ZeP];rfl
def hv_isN {h:List Int} (hl:h.length=32) (hb:bys h):isN (hv h):=by
 have:=ZlK hb;rw [hl] at this;exact this
def ZlB (hN:40<=N) {h:List Int} (hl:h.length=32) (hb:bys h) {m:Int} (hm:isN m):Zea N h (nw m)=some (decide (hv h<=m)):=by
 unfold Zea;rw [ZkB hN hl hb,Zaa,ZgY aF hm (hv_isN hl hb),Zaa];refine ZgZ ?_;simp only [Bool.not_eq_true',decide_eq_false_iff_not];omega
def Zgc (m:Int):Nat:=(Zib m+7)/8
def Zpf (m:Int):Int:=if Zgc m<=3 then m*2^(8*(3-Zgc m)) else m/2^(8*(Zgc m-3))
def Ztg (m:Int):Int:=if 8388608<=Zpf m then ((Zgc m+1:Nat):Int)*16777216+Zpf m/256 else (Zgc m:Int)*16777216+Zpf m
def ZnV {m:Int} (hm:isN m):0<=Zpf m/\Zpf m<16777216:=by
 unfold Zpf;unfold isN at hm;have lt:=ZoZ hm.1;have l8:(2:Int)^Zib m<=2^(8*Zgc m):=ZeS (show Zib m<=8*Zgc m by unfold Zgc;omega);split
 ·have p:=ZbZ (8*(3-Zgc m));refine ⟨wH hm.1 aF,?_⟩;have:=tI (aF:m<2^(8*Zgc m)) p;rw [<-xP,(aF:8*Zgc m+8*(3-Zgc m)=24)] at this;exact this
 have p:=ZbZ (8*(Zgc m-3));refine ⟨xE hm.1 aF,wI p ?_⟩;rw [show (16777216:Int)=2^24 from rfl,<-xP,(aF:24+8*(Zgc m-3)=8*Zgc m)];omega
def ZuV {m:Int} (hm:isN m):Zgc m<=32:=by
 have:=Zjf (k:=256) (x:=m) hm.2;unfold Zgc;omega
def or_low {A w:Int} (hA:0<=A) (hA2:A<4294967296) (h0:0<=w) (h1:w<16777216):ZaI .or .i64 (A*16777216) w=A*16777216+w:=by
 rw [or_i (by unfold isU;omega) (by unfold isU;omega)];have e1:(A*16777216).toNat=A.toNat <<< 24:=by rw [tM];omega
 rw [e1,<-rD (aF:w.toNat<2^24),tM];omega
def ZrE {s:Int} (h:0<=s/\s<1000):ZbP .i64 s 24=s*16777216:=by
 unfold ZbP;show w64 (s*2^min (zD 24) 64)=_;rw [show min (zD 24) 64=24 from rfl,show (2:Int)^24=16777216 from rfl,ZaK aF aF]
def bit23 {w:Int} (h:0<=w/\w<16777216):(ZaI .and .i64 w 8388608 != 0)=decide (8388608<=w):=by
 rw [Zsq (by unfold isU;omega),decide_eq_decide];omega
def ZkV (hN:10<=N) {m:Int} (hm:isN m):ZaZ N (nw m)=some (Ztg m):=by
 have t:=ZnV hm;have l:=ZuV hm;have bl:Zib m<=256:=Zjf hm.2;have e:w64 (zT (w64 ((Zib m:Int)+7)) 8)=(Zgc m:Int):=by
  rw [ZaK (n:=(Zib m:Int)+7) aF aF,Zfj aF,ZaK aF aF];unfold Zgc;omega
 have p1:ZaZ.p1 N (Zib m:Int) (Zpf m)=some (Ztg m):=by
  unfold ZaZ.p1 ZaZ.p2;rw [bit23 t,e,show Zbx .i64 (Zpf m) 8=Zpf m/256 from ZqN (Zpf m) 8 aF];unfold Ztg;by_cases h:8388608<=Zpf m
  ·rw [aD (aR h),aD h,(aF:(Zgc m:Int)+1=((Zgc m+1:Nat):Int)),ZaK aF aF,ZrE aF,or_low aF aF aF aF]
  rw [aE (aR h),aE h,ZrE aF,or_low aF aF aF aF]
 have low : ∀{w:Int},0<=w->w<16777216->w64 (zF (nw w) 0 0)=w:=fun {w} h0 h1=>by
  show w64 (w%18446744073709551616)=w;rw [ZaK aF aF];omega
 unfold ZaZ;rw [Zlf hN hm,Zaa,e];have ct:Zpf m=if Zgc m<=3 then m*2^(8*(3-Zgc m)) else m/2^(8*(Zgc m-3)):=rfl
 by_cases h3:Zgc m<=3
 ·rw [aD h3] at ct;rw [aD aH,(aF:(3:Int)-(Zgc m:Int)=((3-Zgc m:Nat):Int)),ZaK (n:=((3-Zgc m:Nat):Int)) aF aF,(aF:(8:Int)*((3-Zgc m:Nat):Int)=((8*(3-Zgc m):Nat):Int)),ZaK (n:=((8*(3-Zgc m):Nat):Int)) aF aF,Zjy hN hm _ aF,Zaa,<-ct,xH t.1 aF,low t.1 t.2,p1]
 rw [aE h3] at ct;rw [aE aH,(aF:(Zgc m:Int)-3=((Zgc m-3:Nat):Int)),ZaK (n:=((Zgc m-3:Nat):Int)) aF aF,(aF:(8:Int)*((Zgc m-3:Nat):Int)=((8*(Zgc m-3):Nat):Int)),ZaK (n:=((8*(Zgc m-3):Nat):Int)) aF aF,ZjO hN hm _ aF,Zaa,<-ct,low t.1 t.2,p1]
def Zjv (p:Zae):Bool:=(tgt p.Limit p.Limit).2&&decide (2<=p.Interval/\p.Interval<=64/\1<=p.Spacing/\p.Spacing<=10000/\0<=p.Future/\p.Future<4294967296)
def Zlm (hN:10<=N) (p:Zae):ZeY N p=some (Zjv p):=by
 unfold ZeY;rw [ZfP hN,Zaa];dsimp only;unfold Zjv;cases (tgt p.Limit p.Limit).2
 ·rfl
 simp only [aD,Bool.true_and,decide_eq_true_eq]
 repeat' split
 all_goals (congr 1;rw [wC];simp only [decide_eq_true_eq,yP,false_iff];omega)
def Zij (p:Zae):Int:=p.Interval*p.Spacing
def ZhR {p:Zae} (h:Zjv p=true):2<=Zij p/\Zij p<=640000:=by
 simp only [Zjv,zV,decide_eq_true_eq] at h;obtain ⟨_,h1,h2,h3,h4,_⟩:=h;unfold Zij;have a:=tJ h1 h3 aF (by omega:0<=p.Interval);have b:=tJ h2 h4 aF (by omega:(0:Int)<=64);omega
def Zgu (p:Zae) (f t:Int):Int:=
 if Zij p*4<(if Zij p/4>w64 (t-f) then Zij p/4 else w64 (t-f)) then Zij p*4 else (if Zij p/4>w64 (t-f) then Zij p/4 else w64 (t-f))
def Zml {p:Zae} (h:Zjv p=true) (f t:Int):0<=Zgu p f t/\Zgu p f t<=2560000:=by
 have:=ZhR h;unfold Zgu;split<;>split<;>omega
def ZlT {p:Zae} (h:Zjv p=true):w64 (p.Interval*p.Spacing)=Zij p:=by
 have:=ZhR h;exact ZaK (by unfold Zij at this;omega) (by unfold Zij at this;omega)
def ZpO {p:Zae} (h:Zjv p=true) (f t:Int):ZfE N p f t=some (Zgu p f t):=by
 have:=ZhR h;unfold ZfE Zgu;rw [ZlT h,Zfj aF,ZaK (n:=Zij p*4) aF aF,ZaK (n:=Zij p/4) aF aF]
def retg (p:Zae) (b f t:Int):Int:=
 if Zjv p=true/\(tgt b p.Limit).2=true/\(tgt b p.Limit).1*Zgu p f t/Zij p<2^256/\(tgt b p.Limit).1*Zgu p f t/Zij p<=(tgt p.Limit p.Limit).1
 then Ztg (if (tgt b p.Limit).1*Zgu p f t/Zij p=0 then 1 else (tgt b p.Limit).1*Zgu p f t/Zij p) else p.Limit
def ZuH {n S D:Int} (hD:0<D):n*S/D=n/D*S+n%D*S/D:=by
 have e:=yY n D;have:n*S=D*(n/D*S)+n%D*S:=by
  conv=>lhs;rw [<-e,yO]
  rw [Int.mul_right_comm,yL _ D]
 rw [this,Int.mul_add_ediv_left _ _ aF]
def Zlx (hN:10<=N) (p:Zae) (b f t:Int):ZbV N p b f t=some (retg p b f t):=by
 unfold ZbV retg;rw [ZfP hN,Zaa];dsimp only;rw [Zlm hN,Zaa];cases hg:Zjv p with
 | false=>rw [aD (by rfl),aE aG]
 | true=>
  rw [aE aG];cases ht:(tgt b p.Limit).2 with
  | false=>rw [aD (by rfl),aE aG]
  | true=>
   rw [aE aG];have hn:=ZkF b p.Limit;have hL:=ZkF p.Limit p.Limit;have D:=ZhR hg;have S:=Zml hg f t;rw [ZpO hg,Zaa,ZlT hg,Zdq (n:=Zij p) aF aF,Zdq (n:=Zgu p f t) aF aF,ZnY hN hn aF aF,Zaa];dsimp only;have hLt:=ZfP hN p.Limit p.Limit;have dp:=ZuH (n:=(tgt b p.Limit).1) (S:=Zgu p f t) (D:=Zij p) aF;rw [dp];generalize (tgt b p.Limit).1=n at *;generalize (tgt p.Limit p.Limit).1=L at *;generalize Zgu p f t=S' at *;generalize Zij p=D' at *;have q0:isN (n/D'):=by
    unfold isN at *;have:n/D'<=n:=uC _ hn.1;have:0<=n/D':=xE hn.1 aF;omega
   have r0:=vJ n (b:=D') aF;have r1:=wZ n (b:=D') aF;have rs0:0<=n%D'*S':=wH r0 S.1;have rs1:n%D'*S'<=640000*2560000:=tJ aF aF S.1 aF;have rs2:n%D'*S'/D'<=n%D'*S':=uC _ rs0;have rs3:0<=n%D'*S'/D':=xE rs0 aF;have qs0:0<=n/D'*S':=wH (by unfold isN at q0;omega) S.1;rw [Znd hN q0 (by unfold isW;omega),Zaa];dsimp only;rw [Zag aF,Zdq (n:=n%D'*S') aF aF,Zfj rs0,Zdq (n:=n%D'*S'/D') aF aF,Zhm (by unfold isW;omega),Zaa,ZgK hN (by unfold isN;omega) (by unfold isN;omega),Zaa];dsimp only;rw [hLt,Zaa];dsimp only;generalize n/D'*S'=Q at *;generalize n%D'*S'/D'=R at *;have big:(2^256:Int)<=Q\/Q<2^256:=aF
   rcases big with big | big
   ·rw [aD (aR big),aE aF]
   rw [aE (aR big),xH qs0 big];by_cases big2:(2^256:Int)<=Q+R
   ·rw [aD (aR big2),aE aF]
   rw [aE (aR big2),xH aF aF];have qr:isN (Q+R):=by unfold isN;omega
   rw [ZgY hN hL qr,Zaa];by_cases hl:L<Q+R
   ·rw [aD (aR hl),aE aF]
   rw [aE (aR hl),ZeR qr,Zaa,aD (c:=true=true/\true=true/\Q+R<2^256/\Q+R<=L) ⟨rfl,rfl,aF,aF⟩];have enc : ∀{x:Int},isN x->ZbV.p1 N (nw x)=some (Ztg x):=fun h=>by
    unfold ZbV.p1;rw [ZkV hN h,Zaa]
   by_cases h0:Q+R=0
   ·rw [aD (aR h0),aD h0,Zhm (by unfold isW;omega),Zaa,enc (by unfold isN;omega)]
   rw [aE (aR h0),aE h0,enc qr]
def Zly (p:Zae) (at_:Zeh) (time:Int):Int:=
 if at_.Height<=0 then p.Limit
 else if ZfR p at_.Height then retg p at_.Bits at_.First at_.Time
 else if p.Easy=false then at_.Bits
 else if w64 (time-at_.Time)>w64 (2*p.Spacing) then p.Limit else at_.Hard
def ZpP (hN:10<=N) (p:Zae) (at_:Zeh) (time:Int):ZfF N p at_ time=some (Zly p at_ time):=by
 unfold ZfF Zly;rw [ZmW,Zaa,Zlx hN,Zaa];cases p.Easy<;>cases ZfR p at_.Height<;>(simp only [decide_eq_true_eq];repeat' split)<;>first | rfl | simp_all | omega
end Go.Dn.F
namespace Go.Dn.F
open Go.Dn
@[simp] def ZeO (l:List Int):len (Zec l)=(l.length:Int):=by simp [len]
def rowI_isI (l:List Int):isI (Zec l)=true:=by simp [isI,Zec]
def ZtH (l:List Int):ZlY (Zec l)=Zec (l.mergeSort fun x y=>decide (x<=y)):=by
 simp only [ZlY,Zec,List.map_map]
 congr 2
 have:(Zge ∘ fun n=>[L.int .i64 n])=id:=rfl;rw [this,List.map_id]
def Zua (n:Nat):(if (11:Int)<(n:Int) then 11 else (n:Int))=((min n 11:Nat):Int):=by
 split<;>omega
abbrev srt (l:List Int):List Int:=l.mergeSort fun x y=>decide (x<=y)
def Znu (l:List Int):(srt l).length=l.length:=List.length_mergeSort l
def Zpu (l:List Int):(srt l).Pairwise (fun a b=>a<=b):=by
 have:=List.pairwise_mergeSort (le:=fun x y:Int=>decide (x<=y)) aH aH l;simpa using this
def Zoc (l:List Int):(srt l).Perm l:=List.mergeSort_perm _ _
def M (zs:List Int):Int:=(srt (zs.take 11)).getD ((zs.take 11).length/2) 0
def tdiv2 (n:Nat):zT (n:Int) 2=((n/2:Nat):Int):=by
 rw [Int.tdiv_eq_ediv];simp
def Zuc (N:Nat) (zs:List Int):ZfH N (Zec zs)=some (M zs):=by
 have e:(min zs.length 11)=(zs.take 11).length:=by simp;omega
 have e':zs.take (zs.take 11).length=zs.take 11:=by rw [<-e];apply List.ext_getElem? ;intro i;simp only [List.getElem?_take];split<;>split<;>first | rfl | omega | (rw [List.getElem?_eq_none aF])
 unfold ZfH;simp only [ZeO,Zef,Zua,List.drop_zero];rw [Zag aF,Zag aH];simp only [zJ,ZpD,e,e'];rw [ZbI,Zag aH,Zaa];by_cases h0:(zs.take 11).length=0
 ·simp [h0,M]
 simp only [ZeO,Zef];rw [aE (aR h0),Zag (rowI_isI _),Zag aH,ZtH,tdiv2];rw [ZaK aF aH,Zag aF,Zag aF];simp only [zJ,Nat.zero_add];have hl:(zs.take 11).length/2<(srt (zs.take 11)).length:=by rw [Znu];omega
 rw [Zif hl,Zan,Zeu];simp only [M,zF,zQ hl,Option.getD_some]
def Zrf (N:Nat) (t:Int) (zs:List Int):Zei N t (Zec zs)=some (zs.length==0||decide (t>M zs)):=by
 unfold Zei;rw [Zuc,Zaa];by_cases h:zs.length=0
 ·simp [h]
 simp [h]
def Zub {s:List Int} (hs:s.Pairwise (fun a b=>a<=b)) {k:Nat} (hk:k<s.length):s.countP (fun y=>decide (y<s[k]))<=k/\k<s.countP (fun y=>decide (y<=s[k])):=by
 have hsplit:s=s.take k++s[k]::s.drop (k+1):=by
  rw [List.getElem_cons_drop hk,wR]
 generalize hx:s[k]=x at *;rw [hsplit] at hs;obtain ⟨_,h2,h3⟩:=List.pairwise_append.1 hs;have h4 : ∀a∈s.take k,a<=x:=fun a ha=>h3 a ha x aG;have h5 : ∀b∈s.drop (k+1),x<=b:=fun b hb=>(List.pairwise_cons.1 h2).1 b hb;have hlen:(s.take k).length=k:=by simp;omega
 rw [hsplit];constructor
 ·rw [rS,List.countP_cons_of_neg aG];have:(s.drop (k+1)).countP (fun y=>decide (y<x))=0:=List.countP_eq_zero.2 fun b hb=>by have:=h5 b hb;simp;omega
  have:=uP (p:=fun y=>decide (y<x)) (l:=s.take k);omega
 rw [rS,List.countP_cons_of_pos aG];have:(s.take k).countP (fun y=>decide (y<=x))=(s.take k).length:=List.countP_eq_length.2 fun a ha=>by have:=h4 a ha;simp;omega
 omega
def ZmP {l:List Int} {x:Int}:l.countP (fun y=>decide (y<=x))=l.countP (fun y=>decide (y<x))+l.countP (fun y=>y==x):=by
 induction l with
 | nil=>rfl
 | cons a l ih=>
  simp only [List.countP_cons,ih];by_cases h1:a<x
  ·simp [h1,(aF:a<=x),(aF:¬ a=x)];omega
  by_cases h2:a=x
  ·simp [h2];omega
  simp [h1,h2,(aF:¬ a<=x)]
def ZnT {l:List Int} {x y:Int} (h:x<y):l.countP (fun z=>decide (z<=x))<=l.countP (fun z=>decide (z<y)):=
 List.countP_mono_left fun z _ hz=>by simp at hz |-;omega
def Zqa (ys:List Int) (y:Int):Prop:=ys.countP (fun z=>decide (z<y))<=ys.length/2/\ys.length/2<ys.countP (fun z=>decide (z<y))+ys.countP (fun z=>z==y)
def mid_of {ys:List Int} (h:ys ≠ []):Zqa ys ((srt ys).getD (ys.length/2) 0)/\(srt ys).getD (ys.length/2) 0∈ys:=by
 have hl:ys.length/2<(srt ys).length:=by
  rw [Znu];have:0<ys.length:=List.length_pos_iff.2 h;omega
 have e:(srt ys).getD (ys.length/2) 0=(srt ys)[ys.length/2]:=by simp only [zF,zQ hl,Option.getD_some]
 rw [e];have:=Zub (Zpu ys) hl;rw [(Zoc ys).countP_eq,(Zoc ys).countP_eq,ZmP] at this;exact ⟨this,(Zoc ys).mem_iff.1 (yM hl)⟩
def mid_one {ys:List Int} {x y:Int} (hx:Zqa ys x) (hy:Zqa ys y):x=y:=by
 obtain ⟨a1,a2⟩:=hx;obtain ⟨b1,b2⟩:=hy;rw [<-ZmP] at a2 b2;rcases Int.lt_trichotomy x y with h | h | h
 ·have:=ZnT (l:=ys) h;omega
 ·exact h
 have:=ZnT (l:=ys) h;omega
def mid_M {zs:List Int} {y:Int} (h:zs.take 11 ≠ []) (hy:Zqa (zs.take 11) y):y=M zs:=mid_one hy (mid_of h).1
def Zsm (p:Int->Bool) (ys:List Int) (j:Nat) (h:j<ys.length):(ys.take (j+1)).countP p=(ys.take j).countP p+if p ys[j]=true then 1 else 0:=by
 rw [zY h,rS,List.countP_singleton]
def ref_in (N:Nat) (c:Int->Option Int) (zs:List Int) (i:Nat) (hi:i<(zs.take 11).length) : ∀(m j k:Nat),m+j=(zs.take 11).length->m<k ->
  loopN (ZaQ.p2 N c (Zec zs) i) k ((((zs.take 11).take j).countP (fun z=>decide (z<(zs.take 11)[i])):Nat),(((zs.take 11).take j).countP (fun z=>z==(zs.take 11)[i]):Nat),(j:Int)) =
   if (zs.take 11).countP (fun z=>decide (z<(zs.take 11)[i]))<=(zs.take 11).length/2/\(zs.take 11).length/2<(zs.take 11).countP (fun z=>decide (z<(zs.take 11)[i]))+(zs.take 11).countP (fun z=>z==(zs.take 11)[i])
   then some (zs.take 11)[i] else c (i+1):=by
 have e:(min zs.length 11)=(zs.take 11).length:=by simp;omega
 have hn:(zs.take 11).length<=11:=by simp;omega
 have hzl:(zs.take 11).length<=zs.length:=by simp;omega
 have hy : ∀(x:Nat) (hx:x<(zs.take 11).length),zs[x]? = some (zs.take 11)[x]:=fun x hx=>by simp
 intro m
 induction m with
 | zero=>
  intro j k hj hk;obtain ⟨k,rfl⟩ : ∃l,k=l+1:=⟨k-1,aF⟩
  have hj':j=(zs.take 11).length:=aF
  rw [Zaz];unfold ZaQ.p2;simp only [ZeO,Zef,Zua,e];have ht:(zs.take 11).take j=zs.take 11:=by rw [hj'];exact List.take_length
  rw [ht];have c1:=uP (p:=fun z=>decide (z<(zs.take 11)[i])) (l:=zs.take 11);have c2:=uP (p:=fun z=>z==(zs.take 11)[i]) (l:=zs.take 11);rw [aE (by simp only [decide_eq_true_eq];omega),tdiv2,ZaK aF aF,ZaK (n:=_+_) aF aF,ZaK (n:=_+1) aF aF];by_cases h1:(zs.take 11).countP (fun z=>decide (z<(zs.take 11)[i]))<=(zs.take 11).length/2
  ·rw [aD (by simp only [decide_eq_true_eq];omega)];by_cases h2:(zs.take 11).length/2<(zs.take 11).countP (fun z=>decide (z<(zs.take 11)[i]))+(zs.take 11).countP (fun z=>z==(zs.take 11)[i])
   ·rw [aD (by simp only [decide_eq_true_eq];omega),aD ⟨h1,h2⟩,Zag aF,Zag aF,ZjA (hy i hi),Zan,Zeu]
   rw [aE (by simp only [decide_eq_true_eq];omega),aE (fun h=>h2 h.2)]
  rw [aE (by simp only [decide_eq_true_eq];omega),aE (fun h=>h1 h.1)]
 | succ m ih=>
  intro j k hj hk;obtain ⟨k,rfl⟩ : ∃l,k=l+1:=⟨k-1,aF⟩
  have hj':j<(zs.take 11).length:=aF
  rw [<-ih (j+1) k aF aF,Zsm _ _ _ hj',Zsm _ _ _ hj',Zaz];have c1:=uP (p:=fun z=>decide (z<(zs.take 11)[i])) (l:=(zs.take 11).take j);have c2:=uP (p:=fun z=>z==(zs.take 11)[i]) (l:=(zs.take 11).take j);rw [wB] at c1 c2;generalize hL:List.countP (fun z=>decide (z<(zs.take 11)[i])) ((zs.take 11).take j)=lc at *;generalize hS:List.countP (fun z=>z==(zs.take 11)[i]) ((zs.take 11).take j)=sc at *;generalize loopN (ZaQ.p2 N c (Zec zs) i) k=G;unfold ZaQ.p2;simp only [ZeO,Zef,Zua,e];rw [aD (by simp only [decide_eq_true_eq];omega),Zag aF,Zag aF,ZjA (hy j hj'),Zan,Zeu,Zag aF,Zag aF,ZjA (hy i hi),Zan,Zeu];have p3 : ∀l:Int,ZaQ.p3 N G c (Zec zs) i l sc j =
    G (l,((sc+if ((zs.take 11)[j]==(zs.take 11)[i])=true then 1 else 0:Nat):Int),((j+1:Nat):Int)):=by
   intro l;unfold ZaQ.p3 ZaQ.p4;simp only [ZeO,Zef];rw [Zag aF,Zag aF,ZjA (hy j hj'),Zan,Zeu,Zag aF,Zag aF,ZjA (hy i hi),Zan,Zeu];rw [ZaK (n:=_+1) aF aF,ZaK (n:=_+1) aF aF];split<;>rfl
  rw [p3,p3,ZaK (n:=_+1) aF aF];by_cases hc:(zs.take 11)[j]<(zs.take 11)[i]
  ·have t:(lc+if decide ((zs.take 11)[j]<(zs.take 11)[i])=true then 1 else 0:Nat)=lc+1:=by rw [aD (decide_eq_true hc)]
   rw [aD (decide_eq_true hc),t];rfl
  have t:(lc+if decide ((zs.take 11)[j]<(zs.take 11)[i])=true then 1 else 0:Nat)=lc:=by rw [aE (by simpa only [decide_eq_true_eq] using hc)];rfl
  rw [aE (by simpa only [decide_eq_true_eq] using hc),t]
def ref_out (N:Nat) (hN:12<=N) (zs:List Int) : ∀(m i k:Nat),m+i=(zs.take 11).length->m<k->(∀(x:Nat) (hx:x<(zs.take 11).length),x<i->¬ Zqa (zs.take 11) (zs.take 11)[x]) ->
  loopN (ZaQ.p1 N (Zec zs)) k (i:Int)=some (M zs):=by
 have e:(min zs.length 11)=(zs.take 11).length:=by simp;omega
 have hn:(zs.take 11).length<=11:=by simp;omega
 intro m
 induction m with
 | zero=>
  intro i k hi hk hno;obtain ⟨k,rfl⟩ : ∃l,k=l+1:=⟨k-1,aF⟩
  rw [Zaz];unfold ZaQ.p1;simp only [ZeO,Zef,Zua,e];rw [aE (by simp only [decide_eq_true_eq];omega)];by_cases h0:zs.take 11 = []
  ·simp [M,h0]
  obtain ⟨h1,h2⟩:=mid_of h0;obtain ⟨x,hx,h3⟩:=List.getElem_of_mem h2;exact absurd (h3 ▸ h1) (hno x hx aF)
 | succ m ih=>
  intro i k hi hk hno;obtain ⟨k,rfl⟩ : ∃l,k=l+1:=⟨k-1,aF⟩
  have hi':i<(zs.take 11).length:=aF
  have h:=ref_in N (loopN (ZaQ.p1 N (Zec zs)) k) zs i hi' (zs.take 11).length 0 N aF aF;rw [Zaz];generalize hG:loopN (ZaQ.p1 N (Zec zs)) k=G at h;unfold ZaQ.p1;simp only [ZeO,Zef,Zua,e];rw [aD (by simp only [decide_eq_true_eq];omega)];simp only [List.take_zero,List.countP_nil] at h;refine Eq.trans h ?_;subst hG;by_cases hm:Zqa (zs.take 11) (zs.take 11)[i]
  ·have hm':=hm;unfold Zqa at hm';rw [aD hm',mid_M (fun h0=>by rw [h0] at hi';simp at hi') hm]
  have hm':=hm;unfold Zqa at hm';rw [aE hm'];refine ih (i+1) k aF aF fun x hx hxi=>?_;by_cases e:x=i
  ·subst e;exact hm
  exact hno x hx aF
def ZsO (N:Nat) (hN:13<=N) (zs:List Int):ZaQ N (Zec zs)=some (M zs):=by
 have hn:(zs.take 11).length<=11:=by simp;omega
 exact ref_out N aF zs (zs.take 11).length 0 N aF aF fun x _ h=>aF
end Go.Dn.F
namespace Go.Dn.F
open Go.Dn
variable {N:Nat}
def ZpS {a b c d A B C D x y z u T:Int} (a7:a*T=A+18446744073709551616*x) (b7:b*T=B+18446744073709551616*y) (c7:c*T=C+18446744073709551616*z) (d7:d*T=D+18446744073709551616*u) :
  vw a b c d*T=A+18446744073709551616*vw (x+B) (y+C) (z+D) u:=by
 have:vw a b c d*T=A+18446744073709551616*x+18446744073709551616*(B+18446744073709551616*y)+2^128*(C+18446744073709551616*z)+2^192*(D+18446744073709551616*u):=by
  rw [<-a7,<-b7,<-c7,<-d7];unfold vw;rw [yO,yO,yO,yG,yG,yG]
 rw [this];unfold vw;omega
def Zkp {l:List Int} {i:Nat} (h:i<l.length) (x:Int):(l.set i x).getD i 0=x:=by
 rw [yZ,zP h];rfl
def ZsL (hN:10<=N) {m:Int} (hm:isN m) {n:Nat} (h0:0<n) (h1:n<64) :
  loopN (Zap.p3 N (n:Int) (nw m)) N (0,zB 4 0)=some (nw (m*2^n%2^256)):=by
 obtain ⟨a,b,c,d,ha,hb,hc,hd,rfl⟩:=ZeA hm;rw [ZeZ ha hb hc hd];have hk:n<=64:=aF
 obtain ⟨A,x,a1,a2,a3,a4,a5,a6,a7,a8⟩:=Zem ha hk;obtain ⟨B,y,b1,b2,b3,b4,b5,b6,b7,b8⟩:=Zem hb hk;obtain ⟨C,z,c1,c2,c3,c4,c5,c6,c7,c8⟩:=Zem hc hk;obtain ⟨D,u,d1,d2,d3,d4,d5,d6,d7,d8⟩:=Zem hd hk;have pT:=ZbZ n;have v1:v64 (n:Int)=((n:Nat):Int):=Zdq aF aF;have v2:v64 (w64 (64-(n:Int)))=((64-n:Nat):Int):=by rw [ZaK aF aF,Zdq aF aF];omega
 obtain ⟨N,rfl⟩ : ∃q,N=q+5:=⟨N-5,aF⟩
 have first : ∀(G:Int×List Int->Option (List Int)) (l:List Int),Zap.p3 (N+5) (n:Int) [a,b,c,d] G (0,l)=G (1,l.set 0 A):=fun G l=>by
  unfold Zap.p3 Zap.p4;dsimp only;rw [aD aG,aD aP,Zag aF,Zag (by rw [v1];omega),aE aG,v1,show zF [a,b,c,d] (zD 0) 0=a from rfl,a1,ZaK aF aF];rfl
 have next : ∀(G:Int×List Int->Option (List Int)) (j:Nat) (l:List Int) (s t A' h':Int),j<3->l.length=4->[a,b,c,d].getD (j+1) 0=s->[a,b,c,d].getD j 0=t ->
   ZbP .u64 s (n:Int)=A'->Zbx .u64 t ((64-n:Nat):Int)=h'->isW (A'+h') ->
   Zap.p3 (N+5) (n:Int) [a,b,c,d] G (((j+1:Nat):Int),l)=G (((j+2:Nat):Int),l.set (j+1) (A'+h')):=fun G j l s t A' h' hj hl hs ht hA hh hw=>by
  unfold isW at hw;unfold Zap.p3 Zap.p4;dsimp only;rw [aD aP,aD aP,Zag aF,Zag (by rw [v1];omega),aD aP,(aF:((j+1:Nat):Int)-1=(j:Int)),ZaK (n:=(j:Int)) aF aF,Zag aF,Zag aF,Zag (by rw [v2];omega),v1,v2,zJ,zJ,hs,ht,hA,hh,xJ,Zkp aF,Zdq hw.1 hw.2,ZaK aF aF];rfl
 have last : ∀(G:Int×List Int->Option (List Int)) (l:List Int),Zap.p3 (N+5) (n:Int) [a,b,c,d] G (4,l)=some l:=fun G l=>by
  unfold Zap.p3;dsimp only;rw [aE aG]
 rw [Zaz];refine Eq.trans (first _ [0,0,0,0]) ?_;rw [Zaz];refine Eq.trans (next _ 0 [A,0,0,0] b a B x aF rfl rfl rfl b1 a2 (by unfold isW;omega)) ?_;rw [Zaz];refine Eq.trans (next _ 1 [A,B+x,0,0] c b C y aF rfl rfl rfl c1 b2 (by unfold isW;omega)) ?_;rw [Zaz];refine Eq.trans (next _ 2 [A,B+x,C+y,0] d c D z aF rfl rfl rfl d1 c2 (by unfold isW;omega)) ?_;rw [Zaz];refine Eq.trans (last _ [A,B+x,C+y,D+z]) ?_;rw [<-ZeZ (a:=A) (b:=B+x) (c:=C+y) (d:=D+z) (by unfold isW;omega) (by unfold isW;omega) (by unfold isW;omega) (by unfold isW;omega)]
 congr 2
 rw [ZpS a7 b7 c7 d7];unfold vw;omega
def ZpT (hN:10<=N) {m:Int} (hm:isN m) {n:Nat} (h0:0<n) (h1:n<64) :
  loopN (Zap.p3 N (-(n:Int)) (nw m)) N (0,zB 4 0)=some (nw (m/2^n)):=by
 obtain ⟨a,b,c,d,ha,hb,hc,hd,rfl⟩:=ZeA hm;rw [ZeZ ha hb hc hd];have hk:64-n<=64:=aF
 obtain ⟨A,x,a1,a2,a3,a4,a5,a6,a7,a8⟩:=Zem ha hk;obtain ⟨B,y,b1,b2,b3,b4,b5,b6,b7,b8⟩:=Zem hb hk;obtain ⟨C,z,c1,c2,c3,c4,c5,c6,c7,c8⟩:=Zem hc hk;obtain ⟨D,u,d1,d2,d3,d4,d5,d6,d7,d8⟩:=Zem hd hk;rw [(aF:64-(64-n)=n)] at a2 b2 c2 d2;have pT:=ZbZ n;have pU:=ZbZ (64-n);have tu:=Zgb (k:=n) aF;have v1:v64 (w64 (0 - -(n:Int)))=((n:Nat):Int):=by rw [ZaK aF aF,Zdq aF aF];omega
 have v2:v64 (w64 (64 + -(n:Int)))=((64-n:Nat):Int):=by rw [ZaK aF aF,Zdq aF aF];omega
 obtain ⟨N,rfl⟩ : ∃q,N=q+5:=⟨N-5,aF⟩
 have next : ∀(G:Int×List Int->Option (List Int)) (j:Nat) (l:List Int) (s t A' h':Int),j<3->l.length=4->[a,b,c,d].getD j 0=s->[a,b,c,d].getD (j+1) 0=t ->
   Zbx .u64 s (n:Int)=h'->ZbP .u64 t ((64-n:Nat):Int)=A'->isW (h'+A') ->
   Zap.p3 (N+5) (-(n:Int)) [a,b,c,d] G ((j:Int),l)=G (((j+1:Nat):Int),l.set j (h'+A')):=fun G j l s t A' h' hj hl hs ht hh hA hw=>by
  unfold isW at hw;unfold Zap.p3 Zap.p4;dsimp only;rw [aD aP,aE aP,Zag aF,Zag (by rw [v1];omega),aD aP,(aF:(j:Int)+1=((j+1:Nat):Int)),ZaK (n:=((j+1:Nat):Int)) aF aF,Zag aF,Zag aF,Zag (by rw [v2];omega),v1,v2,zJ,zJ,hs,ht,hA,hh,xJ,Zkp aF,Zdq hw.1 hw.2]
 have top : ∀(G:Int×List Int->Option (List Int)) (l:List Int),Zap.p3 (N+5) (-(n:Int)) [a,b,c,d] G (3,l)=G (4,l.set 3 u):=fun G l=>by
  unfold Zap.p3 Zap.p4;dsimp only;rw [aD aG,aE aP,Zag aF,Zag (by rw [v1];omega),aE aG,v1,show zF [a,b,c,d] (zD 3) 0=d from rfl,d2,ZaK aF aF];rfl
 have last : ∀(G:Int×List Int->Option (List Int)) (l:List Int),Zap.p3 (N+5) (-(n:Int)) [a,b,c,d] G (4,l)=some l:=fun G l=>by
  unfold Zap.p3;dsimp only;rw [aE aG]
 rw [Zaz];refine Eq.trans (next _ 0 [0,0,0,0] a b B x aF rfl rfl rfl a2 b1 (by unfold isW;omega)) ?_;rw [Zaz];refine Eq.trans (next _ 1 [x+B,0,0,0] b c C y aF rfl rfl rfl b2 c1 (by unfold isW;omega)) ?_;rw [Zaz];refine Eq.trans (next _ 2 [x+B,y+C,0,0] c d D z aF rfl rfl rfl c2 d1 (by unfold isW;omega)) ?_;rw [Zaz];refine Eq.trans (top _ [x+B,y+C,z+D,0]) ?_;rw [Zaz];refine Eq.trans (last _ [x+B,y+C,z+D,u]) ?_;rw [<-ZeZ (a:=x+B) (b:=y+C) (c:=z+D) (d:=u) (by unfold isW;omega) (by unfold isW;omega) (by unfold isW;omega) (by unfold isW;omega)]
 congr 2
 exact (Zsk pT pU tu aF (ZpS a7 b7 c7 d7)).symm
def ZsM (hN:10<=N) {m:Int} (hm:isN m) {n:Nat} (h1:n<64) :
  loopN (Zap.p2 N) N ((n:Int),nw m)=some (nw (m*2^n%2^256)):=by
 obtain ⟨K,e⟩ : ∃q,N=q+1:=⟨N-1,aF⟩
 rw [show loopN (Zap.p2 N) N=loopN (Zap.p2 N) (K+1) by rw [<-e],Zaz];unfold Zap.p2;dsimp only;rw [aE aP];by_cases h0:n=0
 ·subst h0;unfold isN at hm;rw [aD (by rfl),show (2:Int)^0=1 from rfl,tK,xH hm.1 hm.2]
 rw [aE aP,ZsL hN hm aF h1]
def Zln (hN:10<=N) : ∀(K:Nat) {m:Int},isN m->∀n:Nat,n<64*K->n<1000->loopN (Zap.p2 N) K (-(n:Int),nw m)=some (nw (m/2^n))
 | 0,_,_,n,h,_=>aF
 | K+1,m,hm,n,h,hk=>by
  rw [Zaz];have ih:=Zln hN K (m:=m/18446744073709551616) (by unfold isN at *;omega) (n-64);generalize loopN (Zap.p2 N) K=G at ih |-;unfold Zap.p2;dsimp only;by_cases h64:64<=n
  ·rw [aD aP,ZaK aF aF];have e : [zF (nw m) 1 0,zF (nw m) 2 0,zF (nw m) 3 0,0]=nw (m/18446744073709551616):=by
    obtain ⟨a,b,c,d,ha,hb,hc,hd,rfl⟩:=ZeA hm;have:vw a b c d/18446744073709551616=vw b c d 0:=by unfold isW vw at *;omega
    rw [this,ZeZ ha hb hc hd,ZeZ hb hc hd isW0];rfl
   rw [e,(aF:-(n:Int)+64 = -((n-64:Nat):Int)),ih aF aF,xO aF,show (18446744073709551616:Int)=2^64 from rfl,<-xP,(aF:64+(n-64)=n)]
  rw [aE aP];by_cases h0:n=0
  ·subst h0;rw [aD (by rfl),show (2:Int)^0=1 from rfl,Int.ediv_one]
  rw [aE aP,ZpT hN hm aF aF]
def ZnO (hN:10<=N) : ∀(K:Nat) {m:Int},isN m->∀n:Nat,n<64*K->n<1000->loopN (Zap.p1 N) K ((n:Int),nw m)=some (nw (m*2^n%2^256))
 | 0,_,_,n,h,_=>aF
 | K+1,m,hm,n,h,hk=>by
  rw [Zaz];have ih:=ZnO hN K (m:=m*18446744073709551616%2^256) (by unfold isN at *;omega) (n-64);generalize loopN (Zap.p1 N) K=G at ih |-;unfold Zap.p1;dsimp only;by_cases h64:64<=n
  ·rw [aD aP,ZaK aF aF];have e : [0,zF (nw m) 0 0,zF (nw m) 1 0,zF (nw m) 2 0]=nw (m*18446744073709551616%2^256):=by
    obtain ⟨a,b,c,d,ha,hb,hc,hd,rfl⟩:=ZeA hm;have:vw a b c d*18446744073709551616%2^256=vw 0 a b c:=by unfold isW vw at *;omega
    rw [this,ZeZ ha hb hc hd,ZeZ isW0 ha hb hc];rfl
   rw [e,(aF:(n:Int)-64=((n-64:Nat):Int)),ih aF aF];have e2:m*2^n=m*18446744073709551616*2^(n-64):=by
    rw [yG,show (18446744073709551616:Int)=2^64 from rfl,<-xP,(aF:64+(n-64)=n)]
   rw [e2,Int.mul_emod (_%_),pN,<-Int.mul_emod]
  rw [aE aP,ZsM hN hm aF]
def Zmu (hN:10<=N) {m:Int} (hm:isN m) (n:Nat):Zap N (nw m) (n:Int)=some (nw (m*2^n%2^256)):=by
 unfold Zap;rw [aE aP];by_cases h:256<=n
 ·have:m*2^n%2^256=0:=by
   have e:(2:Int)^n=2^(n-256)*2^256:=by rw [<-xP,(aF:n-256+256=n)]
   rw [e,<-yG];exact uU _ _
  rw [aD aP,this,ZeP]
 rw [aE aP,ZnO hN N hm n aF aF]
def ZiS (hN:10<=N) {m:Int} (hm:isN m) (n:Nat):Zap N (nw m) (-(n:Int))=some (nw (m/2^n)):=by
 unfold Zap;by_cases h:256<=n
 ·have:m/2^n=0:=by
   have l:=ZeS h;exact uL hm.1 (vA hm.2 l)
  rw [aD aP,this,ZeP]
 rw [aE aP,aE aP];obtain ⟨K,e⟩ : ∃q,N=q+1:=⟨N-1,aF⟩
 rw [show loopN (Zap.p1 N) N=loopN (Zap.p1 N) (K+1) by rw [<-e],Zaz]
 conv=>lhs;unfold Zap.p1
 dsimp only;rw [aE aP,Zln hN N hm n aF aF]
def Zvd (x:Int) {r:Nat} (h:r<64):(x%18446744073709551616)/2^r%2=x/2^r%2:=by
 have p:=ZbZ r;have e:=yY x 18446744073709551616;have s:(18446744073709551616:Int)=2^r*(2*2^(63-r)):=by
  rw [show (2:Int)*2^(63-r)=2^(64-r) by rw [(aF:64-r=(63-r)+1),uK];omega,Zgb aF]
 have k:x=x%18446744073709551616+2^r*(2*2^(63-r)*(x/18446744073709551616)):=by
  rw [<-yG,<-s];omega
 conv=>rhs;rw [k,Int.add_mul_ediv_left _ _ aF]
 rw [yG 2];omega
def ZhQ {m:Int} (hm:isN m) {i:Nat} (hi:i<256):Zdo N (nw m) (i:Int)=some (m/2^i%2):=by
 unfold Zdo;have e1:w64 (zT (i:Int) 64)=((i/64:Nat):Int):=by rw [Zfj aF,ZaK aF aF];omega
 have e2:v64 (yB (i:Int) 64)=((i%64:Nat):Int):=by rw [ZfT aF,Zdq aF aF];omega
 have p:=ZbZ (i%64);have q:=ZbZ (64*(i/64));have nn:0<=(m/2^(64*(i/64))%18446744073709551616)/2^(i%64):=xE aF aF;rw [aE aP,aE aP,e1,e2,Zag aF,Zag aF,Zag aF,zJ,ZiQ hm aF,Znf _ (k:=i%64) aF,ZfT nn,Zvd _ aF,xO aF,<-xP,qS,ZaK aF aF]
def half (x:Int) (i:Nat):x/2^i=2*(x/2^(i+1))+x/2^i%2:=by
 have:x/2^(i+1)=x/2^i/2:=by rw [xO (vV (ZbZ i)),uK]
 omega
def Zue {a b:Int} (i:Nat) (h:a/2^i<b/2^i):a<b:=by
 rcases Int.lt_or_le a b with k | k
 ·exact k
 have:=Int.ediv_le_ediv (ZbZ i) k;omega
def ZfZ (hN:300<=N) {a b:Int} (ha:isN a) (hb:isN b):ZbG N (nw a) (nw b)=some (decide (a<b)):=by
 unfold ZbG;refine Zck (fun m (x:Int)=>m<=256/\x=(m:Int)-1/\a/2^m=b/2^m) ?_ N 256 255 ⟨aF,aF,?_⟩ aF
 ·rintro G m _ ⟨hm,rfl,he⟩ hG;unfold ZbG.p1;by_cases h0:m=0
  ·subst h0;rw [aE aG];have e:a=b:=by simpa using he
   simp [e]
  obtain ⟨i,rfl⟩ : ∃i,m=i+1:=⟨m-1,aF⟩
  have h1:=half a i;have h2:=half b i;rw [aD aP,(aF:((i+1:Nat):Int)-1=(i:Int)),ZhQ ha aF,ZhQ hb aF,Zaa,Zaa];by_cases hd:a/2^i%2=b/2^i%2
  ·rw [aE (by simp [hd]),ZaK aF aF];exact hG i _ aF ⟨aF,aF,aF⟩
  rw [aD (aR hd)]
  congr 1
  rw [decide_eq_decide];constructor
  ·intro h;exact Zue i aF
  intro h;have:=Int.ediv_le_ediv (ZbZ i) (vV h);omega
 rw [show (2:Int)^256=2^256 from rfl,uL ha.1 ha.2,uL hb.1 hb.2]
def Zrb {x:Int} (h:isW x) : [x,0,0,0]=nw x:=by
 have:=Zhm (N:=0) h;unfold ZdX at this;exact xB this
def Zih (hN:300<=N) (b:Int):ZaT N b=some (nw (Zht b).1,(Zht b).2.1,(Zht b).2.2):=by
 unfold ZaT Zht;by_cases h0:b<0
 ·rw [aD (aR h0),aE (by simp [Zrn]<;>omega),ZeP]
 rw [aE (aR h0)];by_cases h1:b>4294967295
 ·rw [aD (aR h1),aE (by simp [Zrn]<;>omega),ZeP]
 rw [aE (aR h1),aD (by simp [Zrn]<;>omega)];have w:0<=ZgV b/\ZgV b<8388608:=by unfold ZgV;omega
 have e1:yB b 8388608=ZgV b:=by rw [ZfT aF];rfl
 have s:zT b 16777216=(ZfA b:Int):=by rw [Zfj aF];unfold ZfA;omega
 have s2:ZfA b<256:=by unfold ZfA;omega
 have e3:yB (w64 (zT b 8388608)) 2=b/8388608%2:=by rw [Zfj aF,ZaK aF aF,ZfT aF]
 have wN:isN (ZgV b):=by unfold isN;omega
 have mv:Zap N [v64 (ZgV b),0,0,0] (w64 (8*w64 (w64 (ZfA b:Int)-3)))=some (nw (cN b)):=by
  rw [Zdq w.1 aF,Zrb (by unfold isW;omega),ZaK (n:=(ZfA b:Int)) aF aF,ZaK (n:=(ZfA b:Int)-3) aF aF,ZaK aF aF];unfold cN;by_cases h3:3<ZfA b
  ·rw [aE aF,(aF:(8:Int)*((ZfA b:Int)-3)=((8*(ZfA b-3):Nat):Int)),Zmu aF wN]
  rw [aD aF,(aF:(8:Int)*((ZfA b:Int)-3) = -((8*(3-ZfA b):Nat):Int)),ZiS aF wN]
 rw [e1,s,mv,Zaa,ZaK (n:=(ZfA b:Int)) aF aF];have p1 : ∀o:Bool,ZaT.p1 N b o (nw (cN b))=some (nw (cN b),cNeg b,o):=fun o=>by
  unfold ZaT.p1;rw [e1,e3];unfold cNeg;by_cases h:ZgV b=0
  ·rw [aE (by simp [h])];simp [h]
  rw [aD aP]
  congr 3
  rw [wC];simp [h]
 simp only [p1,decide_eq_true_eq,gt_iff_lt];unfold ZuT
 repeat' split
 all_goals (congr 3;rw [wC];simp only [decide_eq_true_eq,iff_true,true_iff,yP,false_iff,ne_eq];omega)
def Zhb (hN:300<=N) (b l:Int):ZcX N b l=some (nw (tgt b l).1,(tgt b l).2):=by
 unfold ZcX;rw [Zih hN,Zaa];dsimp only;rw [Zih hN,Zaa];dsimp only;unfold tgt;have z:(nw (Zht b).1==zB 4 0)=decide ((Zht b).1=0):=xB (ZeR (N:=0) (ZfY b));have le:=ZfZ hN (ZfY l) (ZfY b);rw [z,le,Zaa,ZeP];cases (Zht b).2.1<;>cases (Zht b).2.2<;>cases (Zht l).2.1<;>cases (Zht l).2.2<;>cases (decide ((Zht b).1=0))<;>cases (decide ((Zht l).1<(Zht b).1))<;>rfl
def ZnL {x:Int}:(nw x).getD 0 0=x%18446744073709551616:=rfl
def Zon (hN:300<=N) {h:List Int} (hl:h.length=32) (hb:bys h):ZbW N h=some (nw (hv h)):=by
 unfold ZbW;refine Zck (fun m (x:Int×List Int)=>m<=32/\x=((m:Int)-1,nw (hv (h.drop m)))) ?_ N 32 _ ⟨aF,?_⟩ aF
 ·rintro G m _ ⟨hm,rfl⟩ hG;unfold ZbW.p1;dsimp only;by_cases h0:m=0
  ·subst h0;rw [aE aG];rfl
  obtain ⟨i,rfl⟩ : ∃i,m=i+1:=⟨m-1,aF⟩
  have hi:i<h.length:=aF
  have x:=hb h[i] (yM hi);have r:=ZlK (l:=h.drop (i+1)) fun y hy=>hb y (List.mem_of_mem_drop hy);have mono:=ZeS (a:=8*(h.drop (i+1)).length) (b:=248) (by rw [List.length_drop];omega);have r2:hv (h.drop (i+1))<452312848583266388373324160190187140051835877600158453279131187530910662656:=by
   rw [show (452312848583266388373324160190187140051835877600158453279131187530910662656:Int)=2^248 from rfl];omega
  have hN':isN (hv (h.drop (i+1))):=by unfold isN;omega
  have hN2:isN (hv (h.drop (i+1))*256):=by unfold isN;omega
  have hx:zF h i 0=h[i]:=by rw [yZ,zQ hi];rfl
  have st:=(ZnK hN2 (j:=0) aF x.1 (by rw [ZnL];omega)).1;rw [aD aP,show (8:Int)=((8:Nat):Int) from rfl,Zmu aF hN',Zaa,(aF:((i+1:Nat):Int)-1=(i:Int)),Zag aF,Zag aF,zJ,hx,show (2:Int)^8=256 from rfl,xH hN2.1 hN2.2,Zdq (n:=h[i]) x.1 aF,Zdq (by rw [ZnL];omega) (by rw [ZnL];omega),st,ZaK aF aF];refine hG i _ aF ⟨aF,?_⟩;rw [xC hi,hv,show (2:Int)^(64*0)=1 from rfl,tK,pY,yL 256]
 rw [wM aF,ZeP];rfl
def cLen_of {x:Int} {i:Nat} (h:2^(8*i)<=x) (h2:x<2^(8*(i+1))):Zgc x=i+1:=by
 have:=Zvb h;have:=Zjf h2;unfold Zgc;omega
def Zoo (hN:300<=N) {m:Int} (hm:isN m):ZaB N (nw m)=some (Ztg m):=by
 have t:=ZnV hm;have l:=ZuV hm;unfold ZaB;refine Zck (fun k (x:Int×Int)=>∃i:Nat,i+k=32/\x=((Zgc (m%2^(8*i)):Int),(i:Int))) ?_ N 32 (0,0) ⟨0,aF,?_⟩ aF
 ·rintro G k _ ⟨i,hi,rfl⟩ hG;have st:ZaB.p1 N (nw m) G ((Zgc (m%2^(8*i)):Int),(i:Int))=some (Ztg m):=by
   unfold ZaB.p1 ZaB.p2;dsimp only;by_cases hlt:i<32
   ·have p:=ZbZ (8*i);have nn:0<=m/2^(8*i):=xE hm.1 aF;rw [aD aP,(aF:(-8:Int)*(i:Int) = -((8*i:Nat):Int)),ZaK aF aF,ZiS aF hm,Zaa,ZnL,ZfT aF,ZaK (n:=(i:Int)+1) aF aF];have nx:m%2^(8*(i+1))=m%2^(8*i)+2^(8*i)*(m/2^(8*i)%256):=by
     rw [show (2:Int)^(8*(i+1))=2^(8*i)*256 by rw [(aF:8*(i+1)=8*i+8),xP];rfl];have a1:=yY m (2^(8*i)*256);have a2:=yY m (2^(8*i));have a3:m/(2^(8*i)*256)=m/2^(8*i)/256:=(xO aF).symm;have a4:=yY (m/2^(8*i)) 256;rw [a3,yL (2^(8*i)) 256,<-yG] at a1;have a5:m/2^(8*i)*2^(8*i)=m/2^(8*i)/256*256*2^(8*i)+2^(8*i)*(m/2^(8*i)%256):=by
      conv=>lhs;rw [<-a4,yO]
      rw [yL (2^(8*i)) (m/2^(8*i)%256)]
     rw [yL (2^(8*i)) 256];omega
    have lo:=vJ m (b:=2^(8*i)) aF;have lo2:=wZ m p;have low:m/2^(8*i)%18446744073709551616%256=m/2^(8*i)%256:=aF
    rw [low];by_cases hz:m/2^(8*i)%256>0
    ·rw [aD (aR hz)];have:Zgc (m%2^(8*(i+1)))=i+1:=by
      refine cLen_of ?_ (wZ m (ZbZ _));rw [nx];have:=wS (aF:(1:Int)<=m/2^(8*i)%256) (aF:(0:Int)<=2^(8*i));rw [tK] at this;omega
     exact hG (k-1) _ aF ⟨i+1,aF,by rw [this];rfl⟩
    rw [aE (aR hz)];have z:m/2^(8*i)%256=0:=aF
    rw [z,sH,sG] at nx;exact hG (k-1) _ aF ⟨i+1,aF,by rw [nx];rfl⟩
   have hi32:i=32:=aF
   subst hi32;have e:m%2^(8*32)=m:=xH hm.1 hm.2;rw [aE aG,e];have p3 : ∀w:Int,w=Zpf m->ZaB.p3 N (Zgc m:Int) w=some (Ztg m):=fun w hw=>by
    subst hw;unfold ZaB.p3 ZaB.p4 Ztg;by_cases h:8388608<=Zpf m
    ·rw [aD (aR h),aD h,Zfj t.1,ZaK (n:=Zpf m/256) aF aF,ZaK (n:=(Zgc m:Int)+1) aF aF,ZaK (n:=((Zgc m:Int)+1)*16777216) aF aF,ZaK aF aF];rfl
    rw [aE (aR h),aE h,ZaK (n:=(Zgc m:Int)*16777216) aF aF,ZaK aF aF]
   have ct:Zpf m=if Zgc m<=3 then m*2^(8*(3-Zgc m)) else m/2^(8*(Zgc m-3)):=rfl
   have low : ∀{w:Int},w=Zpf m->w64 (yB (zF (nw w) 0 0) 16777216)=Zpf m:=fun {w} hw=>by
    subst hw;rw [ZnL,ZfT aF,ZaK aF aF];omega
   by_cases h3:3<Zgc m
   ·rw [aE aF] at ct;rw [ZaK (n:=(3:Int)-(Zgc m:Int)) aF aF,ZaK (n:=8*((3:Int)-(Zgc m:Int))) aF aF,(aF:(8:Int)*((3:Int)-(Zgc m:Int)) = -((8*(Zgc m-3):Nat):Int)),ZiS aF hm,Zaa,aD aP,ZaK (n:=(Zgc m:Int)-3) aF aF,ZaK (n:=(-8)*((Zgc m:Int)-3)) aF aF,(aF:(-8:Int)*((Zgc m:Int)-3) = -((8*(Zgc m-3):Nat):Int)),ZiS aF hm,Zaa,p3 _ (low ct.symm)]
   rw [aD aF] at ct;rw [ZaK (n:=(3:Int)-(Zgc m:Int)) aF aF,ZaK (n:=8*((3:Int)-(Zgc m:Int))) aF aF,(aF:(8:Int)*((3:Int)-(Zgc m:Int))=((8*(3-Zgc m):Nat):Int)),Zmu aF hm,Zaa,aE aP,<-ct,xH t.1 aF,p3 _ (low rfl)]
  exact st
 simp;decide
def emod_mul' (m:Int) {P K:Int} (hP:0<P) (hK:0<K):m%(P*K)=m%P+P*(m/P%K):=by
 have a1:=yY m (P*K);have a2:=yY m P;have a3:m/(P*K)=m/P/K:=(xO aF).symm;have a4:=yY (m/P) K;rw [a3,yL P K,<-yG] at a1;have a5:m/P*P=m/P/K*K*P+P*(m/P%K):=by
  conv=>lhs;rw [<-a4,yO]
  rw [yL P (m/P%K)]
 rw [yL P K];omega
def dv:List Int->Int
 | []=>0
 | x::l=>x+4294967296*dv l
def dg (l:List Int):Prop:=∀x∈l,0<=x/\x<4294967296
def dg_nil:dg []:=fun x hx=>by cases hx
def pow32 (k:Nat):(2:Int)^(32*(k+1))=4294967296*2^(32*k):=by rw [(aF:32*(k+1)=32+32*k),xP];rfl
def Zkq : ∀(l m:List Int),dv (l++m)=dv l+2^(32*l.length)*dv m
 | [],m=>by simp [dv]
 | y::l,m=>by
  rw [List.cons_append,dv,Zkq l m,dv,wO,tV,pow32,yG];omega
def ZlN : ∀{l:List Int},dg l->0<=dv l/\dv l<2^(32*l.length)
 | [],_=>by simp [dv]
 | y::l,h=>by
  have ih:=ZlN (l:=l) fun x hx=>h x (List.mem_cons_of_mem _ hx);have:=h y aG;rw [dv,wO,pow32];omega
def set_at (ds:List Int) (a x:Int) (r:List Int) (i:Nat) (h:ds.length=i):(ds++a::r).set i x=ds++x::r:=by subst h;simp
def Zkc (hN:300<=N) (p:Zae):Zej N p=some (Zjv p):=by
 unfold Zej;rw [Zhb hN,Zaa];dsimp only;unfold Zjv;cases (tgt p.Limit p.Limit).2
 ·rfl
 simp only [aD,Bool.true_and,decide_eq_true_eq]
 repeat' split
 all_goals (congr 1;rw [wC];simp only [decide_eq_true_eq,yP,false_iff];omega)
def ZtA (hN:300<=N) (q:List Int) (hq:q.length=10) (hd:dg q) :
  loopN (Zax.p4 N q) N (0,zB 4 0)=some (nw (dv q%2^256),decide (dv q<2^256)):=by
 refine Zck (fun m (x:Int×List Int)=>∃i:Nat,i+m=8/\x=((i:Int),nw (dv (q.take i)))) ?_ N 8 _ ⟨0,aF,?_⟩ aF
 ·rintro G m _ ⟨i,hi,rfl⟩ hG;unfold Zax.p4;dsimp only;by_cases hlt:i<8
  ·have hm:dg (q.take i):=fun x hx=>hd x (uT hx);have lt:=ZlN hm;have ll:(q.take i).length=i:=by rw [wB];omega
   rw [ll] at lt;have x:=hd q[i] (yM aF);have e1:w64 (zT (i:Int) 2)=((i/2:Nat):Int):=by rw [Zfj aF,ZaK aF aF];omega
   have e2:v64 (w64 (32*yB (i:Int) 2))=((32*(i%2):Nat):Int):=by rw [ZfT aF,ZaK aF aF,Zdq aF aF];omega
   have pk:=ZbZ (32*(i%2));have le:(2:Int)^(32*i)=2^(64*(i/2))*2^(32*(i%2)):=by rw [<-xP];congr 1;omega
   have mi:isN (dv (q.take i)):=⟨lt.1,vA lt.2 (ZeS (b:=256) aF)⟩
   have gd:=ZiQ mi (j:=i/2) aF;have sm:dv (q.take i)/2^(64*(i/2))<2^(32*(i%2)):=wI (ZbZ _) (by rw [yL,<-le];exact lt.2);have sm0:0<=dv (q.take i)/2^(64*(i/2)):=xE lt.1 (vV (ZbZ _));have T32:(2:Int)^(32*(i%2))*4294967296<=18446744073709551616:=by
    have:=ZeS (aF:32*(i%2)+32<=64);rw [xP] at this;exact this
   rw [xH sm0 aF] at gd;have xs:(q[i]+1)*2^(32*(i%2))<=4294967296*2^(32*(i%2)):=wW aF aF;rw [yO,uE] at xs;have xs0:0<=q[i]*2^(32*(i%2)):=wH x.1 aF;have sh:ZbP .u64 q[i] ((32*(i%2):Nat):Int)=q[i]*2^(32*(i%2)):=by rw [ZqO _ aF];omega
   have st:=(ZnK mi (j:=i/2) aF xs0 (by rw [gd];omega)).1;have hx:zF q i 0=q[i]:=by rw [yZ,zQ aF];rfl
   rw [aD aP,e1,e2,Zag aF,Zag aF,Zag aF,Zag aF,Zag aF,zJ,zJ,hx,Zdq (n:=q[i]) x.1 aF,sh,Zdq (by rw [gd];omega) (by rw [gd];omega),st,ZaK aF aF];refine hG (m-1) _ aF ⟨i+1,aF,?_⟩;have tk:q.take (i+1)=q.take i ++ [q[i]]:=zY aF;rw [tk,Zkq,ll,le,dv,dv,sH,sG,yG,yL (2^(32*(i%2))),yL (2^(64*(i/2))),yL q[i]];rfl
  have h8:i=8:=aF
  subst h8;rw [aE aG];have sp:dv q=dv (q.take 8)+2^256*dv (q.drop 8):=by
   conv=>lhs;rw [<-wR 8 q,Zkq]
   rw [show (q.take 8).length=8 by rw [wB];omega]<;>rfl
  have lt:=ZlN (l:=q.take 8) fun x hx=>hd x (uT hx);rw [show (q.take 8).length=8 by rw [wB];omega,show (2:Int)^(32*8)=2^256 from rfl] at lt;have x8:=hd q[8] (yM aF);have x9:=hd q[9] (yM aF);have dr:q.drop 8 = [q[8],q[9]]:=by
   rw [xC aF,xC aF,wM aF]
  rw [dr] at sp;simp only [dv,sH,sG] at sp;have g8:zF q 8 0=q[8]:=by rw [yZ,zQ aF];rfl
  have g9:zF q 9 0=q[9]:=by rw [yZ,zQ aF];rfl
  have e:dv q%2^256=dv (q.take 8):=aF
  rw [g8,g9,e];by_cases h0:q[8]=0
  ·rw [aD (aR h0)]
   congr 2
   rw [wC];simp only [beq_iff_eq,decide_eq_true_eq];omega
  rw [aE (aR h0)]
  congr 2
  rw [wC];simp only [decide_eq_true_eq,yP,false_iff];omega
 rw [ZeP];rfl
def ZtB (hN:300<=N) (D:Int) (hD:0<D/\D<=640000) (d:List Int) (hl:d.length=10) (hd:dg d) :
  loopN (Zax.p3 N D d) N (0,9,zB 10 0)=some (nw (dv d/D%2^256),decide (dv d/D<2^256)):=by
 refine Zck (fun m (x:Int×Int×List Int)=>m<=10/\∃(rest:Int) (qs:List Int),x=(rest,(m:Int)-1,zB m 0++qs)/\qs.length=10-m/\dg qs/\dv qs*D+rest=dv (d.drop m)/\0<=rest/\rest<D) ?_ N 10 _ ⟨aF,0,[],rfl,rfl,dg_nil,by rw [wM aF];simp [dv],aF,hD.1⟩ aF;rintro G m _ ⟨hm,rest,qs,rfl,hq,hdq,he,h0,h1⟩ hG;unfold Zax.p3;dsimp only;by_cases hz:m=0
 ·subst hz;rw [aE aG];have hq':(zB 0 (0:Int)++qs)=qs:=rfl;rw [hq',ZtA hN qs hq hdq];rw [List.drop_zero] at he;have dd:=(uV hD.1 (a:=dv d) (q:=dv qs) (r:=rest)).2 ⟨by rw [yL D];omega,h0,h1⟩;rw [dd.1]
 obtain ⟨j,rfl⟩ : ∃i,m=i+1:=⟨m-1,aF⟩
 have hj:j<d.length:=aF
 have x:=hd d[j] (yM hj);have hx:zF d j 0=d[j]:=by rw [yZ,zQ hj];rfl
 have cur0:0<=rest*4294967296+d[j]:=aF
 have e:=yY (rest*4294967296+d[j]) D;have r0:=vJ (rest*4294967296+d[j]) (b:=D) aF;have r1:=wZ (rest*4294967296+d[j]) hD.1;have q0:0<=(rest*4294967296+d[j])/D:=xE cur0 aF;have q1:(rest*4294967296+d[j])/D<4294967296:=wI hD.1 aF;rw [aD aP,(aF:((j+1:Nat):Int)-1=(j:Int)),Zag aF,Zag aF,Zag aF,zJ,hx,ZaK (n:=rest*4294967296) aF aF,ZaK (n:=rest*4294967296+d[j]) aF aF,ZfT cur0,Zfj cur0,ZaK (n:=(rest*4294967296+d[j])/D) aF aF,ZaK aF aF];refine hG j _ aF ⟨aF,_,(rest*4294967296+d[j])/D::qs,?_,by simp;omega,?_,?_,r0,r1⟩
 ·have:zB (j+1) (0:Int)++qs=zB j 0++0::qs:=by rw [List.replicate_succ',List.append_assoc];rfl
  rw [this,set_at _ _ _ _ j aG]
 ·intro y hy;rcases List.mem_cons.1 hy with rfl | hy
  ·exact ⟨q0,q1⟩
  exact hdq y hy
 rw [xC hj,dv,dv,<-he,yO,yG];omega
def ZtC (hN:300<=N) {n S D:Int} (hn:isN n) (hS:0<=S/\S<=2560000) (hD:0<D/\D<=640000) :
  Zax N (nw n) S D=some (nw (n*S/D%2^256),decide (n*S/D<2^256)):=by
 unfold Zax;refine Zck (fun m (x:Int×Int×List Int)=>∃(i:Nat) (c:Int) (ds:List Int),i+m=10/\x=(c,(i:Int),ds++zB (10-i) 0)/\ds.length=i/\dg ds/\dv ds+c*2^(32*i)=n%2^(32*i)*S/\0<=c/\c<=S) ?_ N 10 _ ⟨0,0,[],rfl,rfl,rfl,dg_nil,by simp [dv,oE],aF,hS.1⟩ aF;rintro G m _ ⟨i,c,ds,hi,rfl,hl,hd,he,h0,h1⟩ hG;unfold Zax.p1;dsimp only;by_cases hlt:i<10
 ·have p:=ZbZ (32*i);have wr:0<=n/2^(32*i)%4294967296/\n/2^(32*i)%4294967296<4294967296:=by omega
  have p2 : ∀w:Int,w=n/2^(32*i)%4294967296->Zax.p2 N G S D c (i:Int) w (nw n) (ds++zB (10-i) 0)=some (nw (n*S/D%2^256),decide (n*S/D<2^256)):=fun w hw=>by
   rw [<-hw] at wr;have ws0:0<=w*S:=wH wr.1 hS.1;have ws1:w*S<=4294967295*S:=wW aF hS.1;unfold Zax.p2;rw [Zag aF,Zag aF,zJ,ZaK (n:=w*S) aF aF,ZaK (n:=w*S+c) aF aF,Zfj aF,ZfT aF,ZaK (n:=(w*S+c)/4294967296) aF aF,ZaK aF aF];refine hG (m-1) _ aF ⟨i+1,(w*S+c)/4294967296,ds ++ [(w*S+c)%4294967296],aF,?_,by simp;omega,?_,?_,aF,aF⟩
   ·have:zB (10-i) (0:Int)=0::zB (10-(i+1)) 0:=by rw [<-List.replicate_succ];congr 1;omega
    rw [this,set_at _ _ _ _ i hl,List.append_assoc];rfl
   ·intro y hy;rcases List.mem_append.1 hy with hy | hy
    ·exact hd y hy
    cases List.mem_singleton.1 hy;omega
   have nx:n%2^(32*(i+1))=n%2^(32*i)+2^(32*i)*w:=by
    rw [hw,show (2:Int)^(32*(i+1))=2^(32*i)*4294967296 by rw [pow32,yL]];exact emod_mul' n p aF
   have k:(w*S+c)%4294967296+4294967296*((w*S+c)/4294967296)=w*S+c:=aF
   rw [Zkq,hl,dv,dv,sH,sG,nx,yO,<-he,pow32,yL c,yG (2^(32*i)),vM ((w*S+c)/4294967296)];have k2:2^(32*i)*((w*S+c)%4294967296)+2^(32*i)*(4294967296*((w*S+c)/4294967296))=2^(32*i)*(w*S)+2^(32*i)*c:=by rw [<-tV,<-tV,k]
   rw [yL ((w*S+c)/4294967296) (2^(32*i)),vM 4294967296 (2^(32*i))];omega
  by_cases h8:i<8
  ·have e1:w64 (zT (i:Int) 2)=((i/2:Nat):Int):=by rw [Zfj aF,ZaK aF aF];omega
   have e2:v64 (w64 (32*yB (i:Int) 2))=((32*(i%2):Nat):Int):=by rw [ZfT aF,ZaK aF aF,Zdq aF aF];omega
   rw [aD aP,aD aP,e1,e2,Zag aF,Zag aF,Zag aF,zJ,ZiQ hn aF,Znf _ (k:=32*(i%2)) aF];refine p2 _ ?_;have pk:=ZbZ (32*(i%2));have nn:0<=n/2^(64*(i/2))%18446744073709551616/2^(32*(i%2)):=xE aF aF;have le:n/2^(32*i)=n/2^(64*(i/2))/2^(32*(i%2)):=by rw [xO (vV (ZbZ _)),<-xP];congr 2;omega
   rw [ZfT nn,ZaK aF aF,le];generalize n/2^(64*(i/2))=X;rcases (aF:i%2=0\/i%2=1) with h | h<;>rw [h]
   ·rw [show (2:Int)^(32*0)=1 from rfl];omega
   rw [show (2:Int)^(32*1)=4294967296 from rfl];omega
  rw [aD aP,aE aP];refine p2 0 ?_;have:n/2^(32*i)=0:=uL hn.1 (vA hn.2 (ZeS (a:=256) aF));rw [this];rfl
 have h10:i=10:=aF
 subst h10;have dr:=ZlN hd;rw [hl] at dr;have big:n%2^(32*10)=n:=xH hn.1 (vA hn.2 (ZeS (a:=256) aF));rw [big] at he;have sm:n*S<=2^256*2560000:=tJ (by unfold isN at hn;omega) hS.2 hS.1 aF;rw [show (2:Int)^(32*10)=2135987035920910082395021706169552114602704522356652769947041607822219725780640550022962086936576 by rw [show 32*10=256+64 from rfl,xP];rfl] at he dr;have c0:c=0:=aF
 rw [aE aG,show ds++zB (10-10) 0=ds by simp,ZtB hN D hD ds hl hd];have:dv ds=n*S:=by rw [c0] at he;omega
 rw [this]
end Go.Dn.F
set_option maxRecDepth 4000
namespace Go.Dn.F
open Go.Dn
variable {N:Nat}
def Zld (hN:10<=N) {m n:Int} (hm:isN m) (hn:isN n) :
  ZcY N (nw m) (nw n)=some (nw ((m-n)%2^256),decide (m<n)):=by
 obtain ⟨a,b,c,d,ha,hb,hc,hd,rfl⟩:=ZeA hm;obtain ⟨e,f,g,i,he,hf,hg,hi,rfl⟩:=ZeA hn;rw [ZeZ ha hb hc hd,ZeZ he hf hg hi];obtain ⟨N,rfl⟩ : ∃q,N=q+5:=⟨N-5,aF⟩
 obtain ⟨s0,c0,e0,k0,l0,m0,n0⟩:=sub64 (N:=N+5) ha he (c:=0) aF;obtain ⟨s1,c1,e1,k1,l1,m1,n1⟩:=sub64 (N:=N+5) hb hf (c:=c0) aF;obtain ⟨s2,c2,e2,k2,l2,m2,n2⟩:=sub64 (N:=N+5) hc hg (c:=c1) aF;obtain ⟨s3,c3,e3,k3,l3,m3,n3⟩:=sub64 (N:=N+5) hd hi (c:=c2) aF;unfold ZcY;have t : ∀(G:Int×Int×List Int->Option (List Int×Bool)) (j:Nat) (l:List Int) (c s c':Int),j<4->ZfQ (N+5) (l.getD j 0) ([e,f,g,i].getD j 0) c=some (s,c') ->
   ZcY.p1 (N+5) [e,f,g,i] G (c,(j:Int),l)=G (c',(j:Int)+1,l.set j s):=fun G j l c s c' hj h=>by
  unfold ZcY.p1;dsimp only;rw [aD aH,Zag aF,zJ,h,Zaa,ZaK aF aF]
 have u : ∀(G:Int×Int×List Int->Option (List Int×Bool)) (l:List Int) (c:Int),ZcY.p1 (N+5) [e,f,g,i] G (c,4,l)=some (l,c != 0):=fun G l c=>by
  unfold ZcY.p1;dsimp only;rw [aE aG]
 rw [Zaz];refine Eq.trans (t _ 0 [a,b,c,d] 0 s0 c0 aF e0) ?_;rw [Zaz];refine Eq.trans (t _ 1 [s0,b,c,d] c0 s1 c1 aF e1) ?_;rw [Zaz];refine Eq.trans (t _ 2 [s0,s1,c,d] c1 s2 c2 aF e2) ?_;rw [Zaz];refine Eq.trans (t _ 3 [s0,s1,s2,d] c2 s3 c3 aF e3) ?_;rw [Zaz];refine Eq.trans (u _ [s0,s1,s2,s3] c3) ?_;rw [<-ZeZ k0 k1 k2 k3];have key:vw a b c d-vw e f g i=vw s0 s1 s2 s3-2^256*c3:=by unfold vw;omega
 have r:=ZlU k0 k1 k2 k3;unfold isN at r;have e5:(vw a b c d-vw e f g i)%2^256=vw s0 s1 s2 s3:=aF
 rw [e5];have e6:(c3 != 0)=decide (vw a b c d<vw e f g i):=by
  rw [wC];simp only [bne_iff_ne,ne_eq,decide_eq_true_eq];omega
 rw [e6]
def Zle (hN:10<=N) {m:Int} (hm:isN m):ZcL N (nw m)=some (nw (115792089237316195423570985008687907853269984665640564039457584007913129639935-m)):=by
 obtain ⟨a,b,c,d,ha,hb,hc,hd,rfl⟩:=ZeA hm;have key:115792089237316195423570985008687907853269984665640564039457584007913129639935-vw a b c d=vw (18446744073709551615-a) (18446744073709551615-b) (18446744073709551615-c) (18446744073709551615-d):=by unfold vw;omega
 have q : ∀{x:Int},isW x->isW (18446744073709551615-x):=fun h=>by unfold isW at *;omega
 rw [key,ZeZ (q ha) (q hb) (q hc) (q hd),ZeZ ha hb hc hd];obtain ⟨N,rfl⟩ : ∃q,N=q+5:=⟨N-5,aF⟩
 unfold ZcL;have t : ∀(G:Int×List Int->Option (List Int)) (j:Nat) (l:List Int),j<4->isW (l.getD j 0)->ZcL.p1 (N+5) G ((j:Int),l)=G ((j:Int)+1,l.set j (18446744073709551615-l.getD j 0)):=fun G j l hj h=>by
  unfold ZcL.p1;dsimp only;rw [aD aH,Zag aF,zJ,xor_max h,ZaK aF aF]
 have u : ∀(G:Int×List Int->Option (List Int)) (l:List Int),ZcL.p1 (N+5) G (4,l)=some l:=fun G l=>by
  unfold ZcL.p1;dsimp only;rw [aE aG]
 rw [Zaz];refine Eq.trans (t _ 0 [a,b,c,d] aF ha) ?_;rw [Zaz];refine Eq.trans (t _ 1 [_,b,c,d] aF hb) ?_;rw [Zaz];refine Eq.trans (t _ 2 [_,_,c,d] aF hc) ?_;rw [Zaz];refine Eq.trans (t _ 3 [_,_,_,d] aF hd) ?_;rw [Zaz];exact u _ _
end Go.Dn.F
set_option maxRecDepth 40000
namespace Go.Dn.F
open Go.Dn
variable {N:Nat}
def bit_of {m:Int} (hm:isN m) {j:Nat} (hj:j<256):ZaI .and .u64 (Zbx .u64 ((nw m).getD (j/64) 0) ((j%64:Nat):Int)) 1=m/2^j%2:=by
 have w:isW (m/2^(64*(j/64))%18446744073709551616/2^(j%64)):=by
  have p:=ZbZ (j%64);have:m/2^(64*(j/64))%18446744073709551616/2^(j%64)<=m/2^(64*(j/64))%18446744073709551616:=uC _ aF;have:0<=m/2^(64*(j/64))%18446744073709551616/2^(j%64):=xE aF aF;unfold isW;omega
 rw [ZiQ hm aF,Znf _ (k:=j%64) aF,show (1:Int)=2^1-1 from rfl,Zsr w 1 aF,show (2:Int)^1=2 from rfl,Zvd _ aF,xO (vV (ZbZ _)),<-xP,qS]
def top_bit {m:Int} (hm:isN m):(Zbx .u64 ((nw m).getD 3 0) 63==1)=decide (57896044618658097711785492504343953926634992332820282019728792003956564819968<=m):=by
 unfold isN at hm;rw [ZiQ hm aF,show (63:Int)=((63:Nat):Int) from rfl,Znf _ (k:=63) aF,show (2:Int)^(64*3)=2^192 from rfl,show (2:Int)^63=9223372036854775808 from rfl,wC];simp only [beq_iff_eq,decide_eq_true_eq];omega
def set_bit {m:Int} (hm:isN m) {j:Nat} (hj:j<256) (h:m%2^(j+1)=0) :
  (nw m).set (j/64) (ZaI .or .u64 ((nw m).getD (j/64) 0) (ZbP .u64 1 ((j%64:Nat):Int)))=nw (m+2^j)/\isN (m+2^j):=by
 have p:=ZbZ (j%64);have p2:(2:Int)^(j%64+1)=2*2^(j%64):=by rw [uK];omega
 have le:(2:Int)^(j%64+1)<=18446744073709551616:=ZeS (b:=64) aF;have sh:ZbP .u64 1 ((j%64:Nat):Int)=2^(j%64):=by rw [ZqO _ aF];omega
 have e:(2:Int)^(j+1)=2^(64*(j/64))*2^(j%64+1):=by rw [<-xP];congr 1;omega
 have q:=ZbZ (64*(j/64));have gd:=ZiQ hm (j:=j/64) aF;have md:m/2^(64*(j/64))%2^(j%64+1)=0:=by
  have:=emod_mul' m q (aF:(0:Int)<2^(j%64+1));rw [<-e,h] at this;have a1:=vJ m (b:=2^(64*(j/64))) aF;have a2:=vJ (m/2^(64*(j/64))) (b:=2^(j%64+1)) aF;have a3:0<=2^(64*(j/64))*(m/2^(64*(j/64))%2^(j%64+1)):=wH aF a2;rcases (by omega:m/2^(64*(j/64))%2^(j%64+1)=0\/0<m/2^(64*(j/64))%2^(j%64+1)) with k | k
  ·exact k
  have:=pF q k;omega
 have ev:(nw m).getD (j/64) 0%2^(j%64+1)=0:=by
  rw [gd,show (18446744073709551616:Int)=2^(j%64+1)*2^(64-(j%64+1)) from (Zgb aF).symm,emod_mul' _ aF (ZbZ _),md,oA];exact Int.mul_emod_right _ _
 have lt:(nw m).getD (j/64) 0+2^(j%64+1)<=18446744073709551616:=by
  have w:0<=(nw m).getD (j/64) 0/\(nw m).getD (j/64) 0<18446744073709551616:=by rw [gd];omega
  generalize (nw m).getD (j/64) 0=x at *;have s:=Zgb (k:=j%64+1) aF;have e1:=yY x (2^(j%64+1));rw [ev,sG] at e1;have:x/2^(j%64+1)<2^(64-(j%64+1)):=wI aF (by rw [yL,s];exact w.2);have:=wW (aF:x/2^(j%64+1)+1<=2^(64-(j%64+1))) (aF:(0:Int)<=2^(j%64+1));rw [yL (2^(64-(j%64+1))),s,yO,uE] at this;omega
 have nn:0<=(nw m).getD (j/64) 0:=by rw [gd];omega
 have st:=ZnK hm (j:=j/64) (X:=2^(j%64)) aF aF aF;rw [sh,ZiP (k:=j%64+1) aF nn lt ev aF aF];have e3:(2:Int)^(j%64)*2^(64*(j/64))=2^j:=by rw [<-xP];congr 1;omega
 rw [e3] at st;exact st
def Zpj (hN:300<=N) {a b:Int} (ha:isN a) (hb:isN b) (hb0:0<b):ZbR N (nw a) (nw b)=some (nw (a/b),nw (a%b)):=by
 have bl:Zib a<=256:=Zjf ha.2;unfold ZbR;rw [ZeR hb,Zaa,aE aP,Zlf aF ha,Zaa,ZaK aF aF];have a0:a/2^Zib a=0:=uL ha.1 (ZoZ ha.1);refine Zck (fun m (x:Int×List Int×List Int)=>m<=256/\x=((m:Int)-1,nw (a/2^m/b*2^m),nw (a/2^m%b))/\isN (a/2^m/b*2^m)) ?_ N (Zib a) _ ⟨bl,?_,?_⟩ aF
 ·rintro G m _ ⟨hm,rfl,hq⟩ hG;unfold ZbR.p1;dsimp only;by_cases h0:m=0
  ·subst h0;rw [aE aG];simp
  obtain ⟨j,rfl⟩ : ∃i,m=i+1:=⟨m-1,aF⟩
  have hj:j<256:=aF
  have e1:w64 (zT (j:Int) 64)=((j/64:Nat):Int):=by rw [Zfj aF,ZaK aF aF];omega
  have e2:yB (j:Int) 64=((j%64:Nat):Int):=by rw [ZfT aF];omega
  have hf:=half a j;have bt:0<=a/2^j%2/\a/2^j%2<2:=aF
  have r0:=vJ (a/2^(j+1)) (b:=b) aF;have r1:=wZ (a/2^(j+1)) hb0;have de:=yY (a/2^(j+1)) b;have rN:isN (a/2^(j+1)%b):=by unfold isN at *;omega
  have sb:=set_bit hq hj (uU _ _);have pj:=ZbZ j;have qe:a/2^(j+1)/b*2^(j+1)=(2*(a/2^(j+1)/b))*2^j:=by rw [uK,yL (2^j) 2,<-yG,yL _ 2]
  have top:=top_bit rN;have bit:=bit_of ha hj;generalize hB:a/2^j%2=B at *;generalize hR:a/2^(j+1)%b=R at *;generalize hQ:a/2^(j+1)/b=Q at *;have x14:isN (R*2^1%2^256):=by unfold isN;omega
  have low:(nw (R*2^1%2^256)).getD 0 0=R*2%18446744073709551616:=by
   rw [ZnL,show (2:Int)^1=2 from rfl];omega
  have orb:ZaI .or .u64 (R*2%18446744073709551616) B=R*2%18446744073709551616+B:=ZiP (k:=1) aF aF (by rw [show (2:Int)^1=2 from rfl];omega) (by rw [show (2:Int)^1=2 from rfl];omega) bt.1 (by rw [show (2:Int)^1=2 from rfl];omega);have st:=ZnK x14 (j:=0) (X:=B) aF bt.1 (by rw [low];omega);rw [low,show (2:Int)^(64*0)=1 from rfl,tK,show (2:Int)^1=2 from rfl] at st;have done : ∀(Q' R':Int),2*(Q*b+R)+B=Q'*b+R'->0<=R'->R'<b->∀o:List Int,o=nw (Q'*2^j)->isN (Q'*2^j)->ZbR.p2 N G (j:Int) (nw a) (nw b) o (nw R')=some (nw (a/b),nw (a%b)):=fun Q' R' hE h1 h2 o ho hi=>by
   have dd:=(uV hb0 (a:=a/2^j) (q:=Q') (r:=R')).2 ⟨by rw [yL b,hf,<-de];omega,h1,h2⟩;unfold ZbR.p2;rw [ZaK aF aF,ho];exact hG j _ aF ⟨aF,by rw [dd.1,dd.2],by rw [dd.1];exact hi⟩
  have Q1:isN ((2*Q+1)*2^j):=by rw [yO,uE,<-qe];exact sb.2
  have O1:(nw (Q*2^(j+1))).set (j/64) (ZaI .or .u64 ((nw (Q*2^(j+1))).getD (j/64) 0) (ZbP .u64 1 ((j%64:Nat):Int)))=nw ((2*Q+1)*2^j):=by
   rw [sb.1,qe,yO (2*Q),uE]
  rw [aD aP,(aF:((j+1:Nat):Int)-1=(j:Int)),show (1:Int)=((1:Nat):Int) from rfl,Zjy aF rN 1 aF,Zaa,e1,e2,Zag aF,Zag aF,Zag aF,zJ,show ((1:Nat):Int)=1 from rfl,top,bit,low,orb,show (2:Int)^1=2 from rfl,st.1,O1];by_cases ht:(57896044618658097711785492504343953926634992332820282019728792003956564819968:Int)<=R
  ·rw [aD (aR ht),Zld aF st.2 hb,Zaa];dsimp only;have:(R*2%2^256+B-b)%2^256=2*R+B-b:=by unfold isN at *;omega
   rw [this];exact done (2*Q+1) (2*R+B-b) (by rw [yO,yG];omega) (by unfold isN at *;omega) aF _ rfl Q1
  rw [aE (aR ht),ZgY aF st.2 hb,Zaa];have v:R*2%2^256+B=2*R+B:=by unfold isN at *;omega
  rw [v];by_cases hl:2*R+B<b
  ·rw [aE (aR hl)];exact done (2*Q) (2*R+B) (by rw [yG];omega) aF hl _ (by rw [qe]) (by rw [<-qe];exact hq)
  rw [aD (aR hl),Zld aF (by rw [<-v];exact st.2) hb,Zaa];dsimp only;have:(2*R+B-b)%2^256=2*R+B-b:=by unfold isN at *;omega
  rw [this];exact done (2*Q+1) (2*R+B-b) (by rw [yO,yG];omega) aF aF _ rfl Q1
 ·rw [a0];simp [ZeP]
 rw [a0];simp;unfold isN;omega
def ZjN (hN:10<=N):ZeD N=some (nw 115792089237316195423570985008687907853269984665640564039457584007913129639935):=by
 unfold ZeD;rw [ZeP,Zle hN (by unfold isN;omega),Zaa,Int.sub_zero]
def wkOf (t:Int):Int:=
 if 2^256<=t+1 then 1
 else if 2^256<=(115792089237316195423570985008687907853269984665640564039457584007913129639935-t)/(t+1)+1 then 115792089237316195423570985008687907853269984665640564039457584007913129639935
 else (115792089237316195423570985008687907853269984665640564039457584007913129639935-t)/(t+1)+1
def wkQ {t:Int} (h:isN t):0<=(115792089237316195423570985008687907853269984665640564039457584007913129639935-t)/(t+1)/\(115792089237316195423570985008687907853269984665640564039457584007913129639935-t)/(t+1)<=115792089237316195423570985008687907853269984665640564039457584007913129639935-t:=by
 unfold isN at h;exact ⟨xE aF aF,uC _ aF⟩
def Zrv {t:Int} (h:isN t):isN (wkOf t):=by
 have:=wkQ h;unfold wkOf isN at *;split
 ·omega
 split<;>omega
def Zsz (hN:300<=N) {t:Int} (h:isN t):Zhl N (nw t)=some (nw (wkOf t)):=by
 have q:=wkQ h;unfold Zhl wkOf;rw [Zhm (by unfold isW;omega),Zaa,ZgK aF h (by unfold isN;omega),Zaa];dsimp only;by_cases h1:(2^256:Int)<=t+1
 ·rw [aD (aR h1),aD h1]
 unfold isN at h;have e:(t+1)%2^256=t+1:=aF
 rw [aE (aR h1),aE h1,Zle aF h,Zaa,e,Zpj hN (by unfold isN;omega) (by unfold isN;omega) aF,Zaa];dsimp only;rw [ZgK aF (by unfold isN;omega) (by unfold isN;omega),Zaa];dsimp only;by_cases h2:(2^256:Int)<=(115792089237316195423570985008687907853269984665640564039457584007913129639935-t)/(t+1)+1
 ·rw [aD (aR h2),aD h2,ZjN aF,Zaa]
 rw [aE (aR h2),aE h2,xH aF aF]
def Zhx (b:Int):Int:=if (Zht b).2.1||(Zht b).2.2||decide ((Zht b).1=0) then 0 else wkOf (Zht b).1
def Zji (b:Int):isN (Zhx b):=by
 unfold Zhx;split
 ·unfold isN;omega
 exact Zrv (ZfY b)
def Zjw (hN:300<=N) (b:Int):Zew N b=some (nw (Zhx b)):=by
 unfold Zew Zhx;rw [ZgD aF,Zaa];dsimp only;rw [ZeR (ZfY b),Zaa,Zsz hN (ZfY b),Zaa,ZeP];cases (Zht b).2.1<;>cases (Zht b).2.2<;>cases (decide ((Zht b).1=0))<;>rfl
def Znc (a b:Int):Int:=if 2^256<=a+b then 115792089237316195423570985008687907853269984665640564039457584007913129639935 else a+b
def Ztj {a b:Int} (ha:isN a) (hb:isN b):isN (Znc a b):=by
 unfold Znc isN at *;split<;>omega
def ZqE (hN:10<=N) {a b:Int} (ha:isN a) (hb:isN b):Zgi N [[zL .u64 4 (nw a)],[zL .u64 4 (nw b)]]=some (nw (Znc a b)):=by
 obtain ⟨N,rfl⟩ : ∃q,N=q+3:=⟨N-3,aF⟩
 have s:ZcU (N+3) [[zL .u64 4 (nw a)],[zL .u64 4 (nw b)]]=some (nw ((a+b)%2^256),decide (2^256<=a+b)):=by
  unfold ZcU;have z:isN 0:=by unfold isN;omega
  have t0 : ∀G:Bool×Int×List Int->Option (List Int×Bool),ZcU.p1 (N+3) [[zL .u64 4 (nw a)],[zL .u64 4 (nw b)]] G (false,0,nw 0)=G (false,1,nw a):=fun G=>by
   unfold isN at ha;unfold ZcU.p1;dsimp only;rw [aD (by simp [len]),Zag aF,show ([[zL .u64 4 (nw a)],[zL .u64 4 (nw b)]]:LL)[zD 0]? = some [zL .u64 4 (nw a)] from rfl,Zan];show Zbb (Zci (N+3) (nw 0) (nw a)) _=_;rw [ZgK aF z ha,Zaa,ZaK aF aF,(aF:(0+a)%2^256=a),show decide ((2^256:Int)<=0+a)=false by simp;omega];rfl
  have t1 : ∀G:Bool×Int×List Int->Option (List Int×Bool),ZcU.p1 (N+3) [[zL .u64 4 (nw a)],[zL .u64 4 (nw b)]] G (false,1,nw a)=G (decide (2^256<=a+b),2,nw ((a+b)%2^256)):=fun G=>by
   unfold ZcU.p1;dsimp only;rw [aD (by simp [len]),Zag aF,show ([[zL .u64 4 (nw a)],[zL .u64 4 (nw b)]]:LL)[zD 1]? = some [zL .u64 4 (nw b)] from rfl,Zan];show Zbb (Zci (N+3) (nw a) (nw b)) _=_;rw [ZgK aF ha hb,Zaa,ZaK aF aF];rfl
  have t2 : ∀(G:Bool×Int×List Int->Option (List Int×Bool)) (o:Bool) (l:List Int),ZcU.p1 (N+3) [[zL .u64 4 (nw a)],[zL .u64 4 (nw b)]] G (o,2,l)=some (l,o):=fun G o l=>by
   unfold ZcU.p1;dsimp only;rw [aE (by simp [len])]
  rw [ZeP,Zaz,t0,Zaz,t1,Zaz,t2]
 unfold Zgi Znc;rw [s,Zaa];dsimp only;by_cases h:(2^256:Int)<=a+b
 ·rw [aD (aR h),aD h,ZjN aF,Zaa]
 unfold isN at *;rw [aE (aR h),aE h,xH aF aF]
def ZnD {m:Int} (hm:isN m) {j:Nat} (hj:j<256) (h:m<2^j):ZeI N (nw m) (j:Int)=some (nw (m+2^j))/\isN (m+2^j):=by
 have e1:w64 (zT (j:Int) 64)=((j/64:Nat):Int):=by rw [Zfj aF,ZaK aF aF];omega
 have e2:v64 (yB (j:Int) 64)=((j%64:Nat):Int):=by rw [ZfT aF,Zdq aF aF];omega
 have p:=ZbZ (j%64);have p2:(2:Int)^(j%64+1)=2*2^(j%64):=by rw [uK];omega
 have le:(2:Int)^(j%64+1)<=18446744073709551616:=ZeS (b:=64) aF;have sh:ZbP .u64 1 ((j%64:Nat):Int)=2^(j%64):=by rw [ZqO _ aF];omega
 have gd:=ZiQ hm (j:=j/64) aF;have e:(2:Int)^j=2^(64*(j/64))*2^(j%64):=by rw [<-xP];congr 1;omega
 have sm:m/2^(64*(j/64))<2^(j%64):=wI (ZbZ _) (by rw [yL,<-e];exact h);have sm0:0<=m/2^(64*(j/64)):=xE hm.1 (vV (ZbZ _));rw [xH sm0 aF] at gd;have or1:ZaI .or .u64 ((nw m).getD (j/64) 0) (2^(j%64))=(nw m).getD (j/64) 0+2^(j%64):=by
  rw [gd,Zmo (by unfold isW;omega) (by unfold isW;omega),ZiP (k:=j%64) aF aF aF (Int.emod_self) sm0 sm];omega
 have st:=ZnK hm (j:=j/64) (X:=2^(j%64)) aF aF (by rw [gd];omega);have e3:(2:Int)^(j%64)*2^(64*(j/64))=2^j:=by rw [e,yL]
 rw [e3] at st;unfold ZeI;rw [e1,e2,Zag aF,Zag aF,Zag aF,zJ,sh,or1,st.1];exact ⟨rfl,st.2⟩
def Zoz (a:Int) (i:Nat):a%2^(i+1)=a%2^i+2^i*(a/2^i%2):=by
 rw [uK];exact emod_mul' a (ZbZ i) aF
def Zhh (hN:300<=N) {a b:Int} (ha:isN a) (hb:isN b) :
  Zbm N (nw a) (nw b)=some (nw ((a+b)%2^256),decide (2^256<=a+b)):=by
 unfold Zbm;refine Zck (fun m (x:Int×Int×List Int)=>∃(i:Nat) (c o:Int),i+m=256/\x=(c,(i:Int),nw o)/\0<=c/\c<=1/\0<=o/\o<2^i/\o+c*2^i=a%2^i+b%2^i) ?_ N 256 _ ⟨0,0,0,aF,by rw [ZeP];rfl,aF,aF,aF,by decide,by simp [oE]⟩ aF;rintro G m _ ⟨i,c,o,hi,rfl,c0,c1,o0,o1,he⟩ hG;unfold Zbm.p1 Zbm.p2;dsimp only;by_cases hlt:i<256
 ·have p:=ZbZ i;have oN:isN o:=⟨o0,vA o1 (ZeS (b:=256) aF)⟩
  have ma:=Zoz a i;have mb:=Zoz b i;have x:0<=a/2^i%2/\a/2^i%2<2:=aF
  have y:0<=b/2^i%2/\b/2^i%2<2:=aF
  rw [aD aP,ZhQ ha hlt,Zaa,ZhQ hb hlt,Zaa];generalize a/2^i%2=X at *;generalize b/2^i%2=Y at *;rw [ZaK (n:=X+Y) aF aF,ZaK (n:=X+Y+c) aF aF,ZfT aF,Zfj aF,ZaK (n:=(X+Y+c)/2) aF aF,ZaK aF aF];have ps:(2:Int)^(i+1)=2*2^i:=by rw [uK];omega
  generalize hP:(2:Int)^i=P at *;have key : ∀k:Int,X+Y+c=k->P*X+P*Y+c*P=k*P:=fun k hk=>by rw [<-hk,yO,yO,yL P X,yL P Y]
  by_cases hs:(X+Y+c)%2=1
  ·have st:=ZnD (N:=N) oN hlt (by rw [hP];exact o1);rw [hP] at st;rw [aD (aR hs),st.1,Zaa];refine hG (m-1) _ aF ⟨i+1,(X+Y+c)/2,o+P,aF,rfl,aF,aF,aF,aF,?_⟩;have k:=key ((X+Y+c)/2*2+1) aF;rw [yO,uE,yG] at k;rw [ma,mb,ps];omega
  rw [aE (aR hs)];refine hG (m-1) _ aF ⟨i+1,(X+Y+c)/2,o,aF,rfl,aF,aF,aF,aF,?_⟩;have k:=key ((X+Y+c)/2*2) aF;rw [yG] at k;rw [ma,mb,ps];omega
 have:i=256:=aF
 subst this;unfold isN at ha hb;rw [aE aG];rw [show (2:Int)^256=2^256 from rfl] at *;have e1:(a+b)%2^256=o:=aF
 rw [e1]
 congr 2
 rw [wC];simp only [beq_iff_eq,decide_eq_true_eq];omega
def ZnF (hN:300<=N) {a:Int} (ha:isN a):ZbL N (nw a)=some (nw (115792089237316195423570985008687907853269984665640564039457584007913129639935-a)):=by
 unfold ZbL;refine Zck (fun m (x:Int×List Int)=>∃(i:Nat) (o:Int),i+m=256/\x=((i:Int),nw o)/\0<=o/\o<2^i/\o+a%2^i=2^i-1) ?_ N 256 _ ⟨0,0,aF,by rw [ZeP];rfl,aF,by decide,by simp [oE]⟩ aF;rintro G m _ ⟨i,o,hi,rfl,o0,o1,he⟩ hG;unfold ZbL.p1 ZbL.p2;dsimp only;by_cases hlt:i<256
 ·have p:=ZbZ i;have oN:isN o:=⟨o0,vA o1 (ZeS (b:=256) aF)⟩
  have ma:=Zoz a i;have x:0<=a/2^i%2/\a/2^i%2<2:=aF
  have ps:(2:Int)^(i+1)=2*2^i:=by rw [uK];omega
  rw [aD aP,ZhQ ha hlt,Zaa,ZaK aF aF];by_cases hs:a/2^i%2=0
  ·have st:=ZnD (N:=N) oN hlt o1;rw [aD (aR hs),st.1,Zaa];rw [hs] at ma;exact hG (m-1) _ aF ⟨i+1,o+2^i,aF,rfl,aF,aF,by rw [ma,ps];omega⟩
  have h1:a/2^i%2=1:=aF
  rw [h1] at ma;rw [aE (aR hs)];exact hG (m-1) _ aF ⟨i+1,o,aF,rfl,aF,aF,by rw [ma,ps];omega⟩
 have:i=256:=aF
 subst this;unfold isN at ha;rw [aE aG];rw [show (2:Int)^256=2^256 from rfl] at *
 congr 2;omega
def ZrP : [1,0,0,0]=nw 1:=Zrb (by unfold isW;omega)
def ZnE (hN:300<=N) {a b:Int} (ha:isN a) (hb:isN b):ZeJ N (nw a) (nw b)=some (nw ((a-b)%2^256),decide (a<b)):=by
 unfold ZeJ;rw [ZnF hN hb,Zaa,Zhh hN ha (by unfold isN at *;omega),Zaa];dsimp only;rw [ZrP,Zhh hN (by unfold isN;omega) (by unfold isN;omega),Zaa];dsimp only;rw [ZfZ hN ha hb,Zaa];have:((a+(115792089237316195423570985008687907853269984665640564039457584007913129639935-b))%2^256+1)%2^256=(a-b)%2^256:=aF
 rw [this]
def ZjC (hN:300<=N):ZdG N=some (nw 115792089237316195423570985008687907853269984665640564039457584007913129639935):=by
 unfold ZdG;rw [ZeP,ZnF hN (by unfold isN;omega),Zaa,Int.sub_zero]
def ZpJ (hN:300<=N) {a b:Int} (ha:isN a) (hb:isN b):Zfh N (nw a) (nw b)=some (nw (Znc a b)):=by
 unfold Zfh Znc;rw [Zhh hN ha hb,Zaa];dsimp only;by_cases h:(2^256:Int)<=a+b
 ·rw [aD (aR h),aD h,ZjC hN,Zaa]
 unfold isN at *;rw [aE (aR h),aE h,xH aF aF]
def ZlS {t:Int} (ht:isN t) (h0:t≠0) (h1:t+1<2^256) {Q R:Int} (he:Q*(t+1)+R=2^256) (hR:0<=R) (hR1:R<t+1):wkOf t=Q:=by
 have q:=wkQ ht;unfold isN at ht;have dd:=(uV (a:=115792089237316195423570985008687907853269984665640564039457584007913129639935-t) (b:=t+1) (q:=Q-1) (r:=R) aF).2 ⟨by rw [Int.mul_sub,yL (t+1) Q];omega,hR,hR1⟩;have le:(115792089237316195423570985008687907853269984665640564039457584007913129639935-t)/(t+1)+1<2^256:=aF
 unfold wkOf;rw [aE aF,aE aF,dd.1];omega
def ZqU (hN:300<=N) {t:Int} (ht:isN t):Zbz N (nw t)=some (nw (wkOf t)):=by
 unfold Zbz;have ht':=ht;unfold isN at ht';have oneN:isN 1:=by unfold isN;omega
 rw [ZrP,Zhh hN ht oneN,Zaa];dsimp only;by_cases h1:(2^256:Int)<=t+1
 ·rw [aD (aR h1)];unfold wkOf;rw [aD h1]
 rw [aE (aR h1),(aF:(t+1)%2^256=t+1)];have z:(nw t==zB 4 0)=decide (t=0):=xB (ZeR (N:=0) ht);rw [z,ZjC hN,Zaa];by_cases h0:t=0
 ·rw [aD (aR h0)];subst h0;rfl
 rw [aE (aR h0),Zaa];have dN:isN (t+1):=by unfold isN;omega
 refine Zck (fun m (x:Int×List Int×List Int)=>m<=256/\∃Q R:Int,x=((m:Int)-1,nw (Q*2^m),nw (R-1))/\0<=Q/\0<R/\R<=2^256/\R<=(t+1)*2^m/\Q*2^m*(t+1)+R=2^256) ?_ N 256 _ ⟨aF,0,2^256,by rw [ZeP];rfl,aF,aF,aF,by rw [show (2:Int)^256=2^256 from rfl];omega,aF⟩ aF;rintro G m _ ⟨hm,Q,R,rfl,hQ,hR,hR2,hR3,he⟩ hG;have qN:isN (Q*2^m):=by
  have p:=ZbZ m;have a:0<=Q*2^m:=wH hQ aF;have:=wS (aF:(1:Int)<=t+1) a;rw [tK] at this;unfold isN;omega
 have rN:isN (R-1):=by unfold isN;omega
 unfold Zbz.p1 Zbz.p2 Zbz.p3;dsimp only;by_cases hz:m=0
 ·subst hz;rw [show (2:Int)^0=1 from rfl,tK] at *;rw [aE aG,ZfZ hN rN ht,Zaa];by_cases hl:R-1<t
  ·rw [aE (aR hl),ZlS ht h0 aF he aF aF]
  have:R=t+1:=aF
  have e2:(Q+1)*(t+1)+0=2^256:=by rw [yO];omega
  have w:=ZlS ht h0 aF e2 aF aF;have wN:=Zrv ht;rw [w] at wN;unfold isN at wN;rw [aD (aR hl),ZrP,Zhh hN qN oneN,Zaa];dsimp only;rw [xH aF aF,w]
 obtain ⟨j,rfl⟩ : ∃i,m=i+1:=⟨m-1,aF⟩
 have hj:j<256:=aF
 have p:=ZbZ j;have ps:(2:Int)^(j+1)=2*2^j:=by rw [uK];omega
 have qs:Q*2^(j+1)=2*Q*2^j:=by rw [ps,<-yG,yL Q 2]
 have ds:(t+1)*2^(j+1)=2*((t+1)*2^j):=by rw [ps,vM]
 have D0:0<(t+1)*2^j:=pF aF p;rw [aD aP,(aF:((j+1:Nat):Int)-1=(j:Int)),Zmu aF dN,Zaa,show w64 (0-(j:Int)) = -(j:Int) by rw [ZaK aF aF];omega];rw [ZaK (n:=(j:Int)-1) aF aF];have xN:isN ((t+1)*2^j%2^256):=by unfold isN;omega
 rw [ZiS aF xN,Zaa];by_cases hov:(2^256:Int)<=(t+1)*2^j
 ·have ne : ¬ (t+1)*2^j%2^256/2^j=t+1:=by
   intro k;have a1:(t+1)*2^j%2^256<(t+1)*2^j:=aF
   have a2:(t+1)*2^j%2^256/2^j<t+1:=wI p a1;omega
  have nN:isN ((t+1)*2^j%2^256/2^j):=by
   have a2:(t+1)*2^j%2^256/2^j<=(t+1)*2^j%2^256:=uC _ aF;have a3:0<=(t+1)*2^j%2^256/2^j:=xE aF aF;unfold isN;omega
  rw [aD (by simp only [Bool.not_eq_true',beq_eq_false_iff_ne,ne_eq];exact fun k=>ne (ZrQ nN dN k))];exact hG j _ aF ⟨aF,2*Q,R,by rw [qs],aF,hR,hR2,aF,by rw [<-qs];exact he⟩
 have em:(t+1)*2^j%2^256=(t+1)*2^j:=aF
 rw [em,Int.mul_ediv_cancel _ aF];have DN:isN ((t+1)*2^j):=by unfold isN;omega
 rw [aE aG,ZrP,ZnE hN DN oneN,Zaa];dsimp only;rw [(aF:((t+1)*2^j-1)%2^256=(t+1)*2^j-1),ZfZ hN rN (by unfold isN;omega),Zaa];by_cases hl:R-1<(t+1)*2^j-1
 ·rw [aE (aR hl)];exact hG j _ aF ⟨aF,2*Q,R,by rw [qs],aF,hR,hR2,aF,by rw [<-qs];exact he⟩
 rw [aD (aR hl),ZnE hN rN DN,Zaa];dsimp only;rw [Zmu aF oneN,Zaa,uE];have pj:(2:Int)^j<2^256:=vA (aF:(2:Int)^j<2^(j+1)) (ZeS (b:=256) aF);have qo:Q*2^(j+1)+2^j=(2*Q+1)*2^j:=by rw [qs,yO,uE]
 have he2:(2*Q+1)*2^j*(t+1)+(R-(t+1)*2^j)=2^256:=by
  rw [<-qo,yO,yL (2^j) (t+1)];omega
 have oN:(2*Q+1)*2^j<2^256:=by
  have a:0<=(2*Q+1)*2^j:=wH aF aF;have:=wS (aF:(2:Int)<=t+1) a;omega
 have o0:0<=(2*Q+1)*2^j:=wH aF aF;rw [xH (a:=(2:Int)^j) aF pj,Zhh hN qN (by unfold isN;omega),Zaa];dsimp only;rw [qo,xH o0 oN,ZjC hN,Zaa];by_cases hx:R=(t+1)*2^j
 ·have e:(R-1-(t+1)*2^j)%2^256=115792089237316195423570985008687907853269984665640564039457584007913129639935:=by omega
  rw [e,aD aG,ZlS ht h0 aF (Q:=(2*Q+1)*2^j) (R:=0) aF aF aF]
 have e:(R-1-(t+1)*2^j)%2^256=R-(t+1)*2^j-1:=aF
 rw [e,aE (by
  intro k;have:=ZrQ (by unfold isN;omega) (by unfold isN;omega) (eq_of_beq k);omega)]
 exact hG j _ aF ⟨aF,2*Q+1,R-(t+1)*2^j,rfl,aF,aF,aF,aF,he2⟩
def ZiN (hN:300<=N) (b:Int):ZcG N b=some (nw (Zhx b)):=by
 unfold ZcG Zhx;rw [Zih hN,Zaa];dsimp only;have z:(nw (Zht b).1==zB 4 0)=decide ((Zht b).1=0):=xB (ZeR (N:=0) (ZfY b));rw [z,ZqU hN (ZfY b),Zaa,ZeP];cases (Zht b).2.1<;>cases (Zht b).2.2<;>cases (decide ((Zht b).1=0))<;>rfl
end Go.Dn.F
