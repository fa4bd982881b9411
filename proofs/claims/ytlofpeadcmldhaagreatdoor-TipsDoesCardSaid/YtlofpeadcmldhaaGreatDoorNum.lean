import Derived.Test.YtlofpeadcmldhaaGreatDoorGb
import Derived.Test.YtlofpeadcmldhaaGreatDoorFbc
import Derived.Test.YtlofpeadcmldhaaGreatDoorKd
import Derived.Test.YtlofpeadcmldhaaGreatDoorGa
set_option linter.all false
open Bool renaming false_eq_true→yR,and_eq_true→zV,eq_iff_iff→wA
open ByteArray renaming size→yC,mk→wK
open Go.Dn.L renaming arr→zK
open Int renaming tmod→yA,tmod_eq_emod_of_nonneg→xJ,tdiv→zR,tdiv_eq_ediv_of_nonneg→wM,toNat_natCast→zH,emod_emod→pE,ediv_nonneg→xD,ediv_le_self→uC,ediv_ediv_of_nonneg→xM,pow_succ→uK,toNat→zC,le_of_lt→vX,pow_add→xO,ediv_mul_add_emod→yZ,add_zero→sG,toNat_of_nonneg→rG,emod_nonneg→vJ,emod_lt_of_pos→wW,ediv_lt_of_lt_mul→wG,add_mul→yQ,mul_assoc→yG,mul_comm→yJ,add_comm→pL,mul_le_mul_of_nonneg_right→wT,one_mul→uG,mul_nonneg→wD,mul_emod_left→uW,mul_left_comm→vM,mul_le_mul_of_nonneg_left→wQ,mul_le_mul→tL,mul_add→tX,lt_of_lt_of_le→wX,mul_one→tM,zero_add→pN,ediv_emod_unique→uY,mul_lt_mul_of_pos_right→tK,mul_pos→qV,mul_zero→sH,emod_eq_of_lt→xH,ediv_eq_zero_of_lt→uL,emod_one→pP
open List renaming getD→zF,replicate→zB,getElem?_set_self→zP,set_set→xX,getElem?_eq_getElem→zO,take_succ_eq_append_getElem→zZ,take_of_length_le→zW,getD_eq_getElem?_getD→xA,length_cons→xW,mem_of_mem_take→uV,length_take→xY,getElem_mem→yL,take_append_drop→wO,countP_append→rR,countP_le_length→uQ,drop_eq_getElem_cons→xE,drop_of_length_le→wL
open Nat renaming shiftRight_eq_div_pow→uA,shiftLeft_eq→tO,le_refl→zJ,shiftLeft_add_eq_or_of_lt→rB,div_add_mod→qL,and_two_pow_sub_one_eq_mod→sQ,log2→pM,testBit_two_pow→tC
open Option.some renaming inj→xZ
set_option maxRecDepth 4000
namespace Go.Dn.F
open Go.Dn
theorem ZgV {α X ρ:Type} {body:(X→Option ρ)→X→Option ρ} (enc:Nat→α→X) (Q:Nat→α→Prop) (f:Nat→α→α) (i0 n:Nat) (fin:α→Option ρ)
  (hs : ∀G i x,i0≤i→i<n→Q i x→body G (enc i x)=G (enc (i+1) (f i x))∧Q (i+1) (f i x)) (hf : ∀G x,Q n x→body G (enc n x)=fin x) :
  ∀(m i k:Nat) (x:α),i0≤i→i+m=n→m<k→Q i x→loopN body k (enc i x)=fin (run f i m x)
 | 0,i,k,x,h0,h,hk,hx=>by
  obtain ⟨k,rfl⟩ : ∃q,k=q+1:=⟨k-1,aC⟩
  obtain rfl:i=n:=aC
  exact hf _ x hx
 | m+1,i,k,x,h0,h,hk,hx=>by
  obtain ⟨k,rfl⟩ : ∃q,k=q+1:=⟨k-1,aC⟩
  obtain ⟨h1,h2⟩:=hs (loopN body k) i x h0 aC hx;show body (loopN body k) (enc i x)=_;rw [h1];exact ZgV enc Q f i0 n fin hs hf m (i+1) k (f i x) aC aC aC h2
theorem Zeg (a b:Bs):mkB a++mkB b=mkB (a++b):=by
 apply ByteArray.ext;simp [mkB]
theorem Zdc (a:Bs):yC (mkB a)=a.length:=by simp [mkB,yC]
theorem Znn:wK #[]=mkB []:=rfl
theorem ZkK (x:UInt8):ZkA (List.map Zfr [[L.int .u8 (byI x)]])=mkB [x]:=by
 have:=ZpD [x];simpa [Zfr] using this
theorem Znt (n:Int):isB [[L.int .u8 n]]=true:=rfl
theorem mkB_get {a:Bs} {i:Nat}:(((UInt8.toNat (zF (Array.toList (ByteArray.data (mkB a))) i 0):Nat):Int))=byI (a.getD i 0):=rfl
theorem Zsm (N:Nat) (b:Bs) (hb:b.length<1099511627776) (hN:b.length+200≤N):ZaY N (mkB b)=some (mkB (pad b)):=by
 have hz64:zs b.length<64:=by unfold zs;omega
 have e2 : ∀s:Bs,s.length<2000000000000→loopN (ZaY.p2 N (mkB s)) N (((8*b.length:Nat):Int),mkB [],0)=some (mkB (s++be8 (8*b.length))):=fun s hs=>by
  refine ZbZ (fun m (y:Int×ByteArray×Int)=>∃k,y=(((((8*b.length) >>> (8*k)):Nat):Int),mkB ((be8 (8*b.length)).drop (8-k)),(k:Int))∧m+k=8) ?_ N 8 _ ⟨0,by simp [be8],rfl⟩ aC;rintro G m _ ⟨k,rfl,hk⟩ ih;unfold ZaY.p2;dsimp only;by_cases hk8:k<8
  ·obtain ⟨q,hq⟩ : ∃q,q=(8*b.length) >>> (8*k):=⟨_,rfl⟩
   have hqb:q≤8*b.length:=by rw [hq];exact Nat.shiftRight_le _ _
   have h1:v8 (yA (q:Int) 256)=byI (UInt8.ofNat q):=by
    rw [xJ aC,Zkj,ZjC];omega
   have h2:w64 (zR (q:Int) 256)=(((8*b.length) >>> (8*(k+1)):Nat):Int):=by
    rw [wM aC,ZaH aC aC,Nat.mul_add,Nat.shiftRight_add,←hq,uA];omega
   have h3 : [UInt8.ofNat q]++(be8 (8*b.length)).drop (8-k)=(be8 (8*b.length)).drop (8-(k+1)):=by
    rw [hq];have:k=0∨k=1∨k=2∨k=3∨k=4∨k=5∨k=6∨k=7:=aC
    rcases this with rfl | rfl | rfl | rfl | rfl | rfl | rfl | rfl<;>rfl
   rw [aA aE,Zag (Znt _),←hq,h1,ZkK,Zdc,Zdc,Zag (by simp [be8];omega),h2,Zeg,h3,ZdO aC];exact ih (m-1) _ aC ⟨k+1,rfl,aC⟩
  obtain rfl:k=8:=aC
  rw [aB aD,Zdc,Zdc,Zag (by simp [be8];omega),Zeg];rfl
 unfold ZaY;have h128:wK #[128]=mkB [128]:=rfl;rw [h128,Zdc,Zdc,Zag aE,Zeg];refine ZbZ (fun m (y:ByteArray)=>∃k,y=mkB (b++128::zB k 0)∧m+k=zs b.length) ?_ N (zs b.length) _ ⟨0,rfl,aC⟩ aC;rintro G m _ ⟨k,rfl,hk⟩ ih;unfold ZaY.p1;have hlen:(b++128::zB k 0).length=b.length+1+k:=by simp;omega
 have h0:wK #[0]=mkB [0]:=rfl;have h8:w64 (8*((yC (mkB b):Nat):Int))=((8*b.length:Nat):Int):=by rw [Zdc,ZaH aC aC];omega
 rw [Zdc,hlen,h0,Zeg,Zdc,h8,Znn];by_cases hm:m=0
 ·have:k=zs b.length:=by omega
  subst this;rw [aB,e2 _ (by rw [hlen];omega)]
  ·rfl
  simp only [bne_iff_ne,ne_eq,Decidable.not_not];rw [xJ aC];have:=ZrA b.length;omega
 have e1:(b++128::zB k 0) ++ [0]=b++128::zB (k+1) 0:=by
  rw [List.replicate_succ'];simp
 rw [aA,e1,Zag aE]
 ·exact ih (m-1) _ aC ⟨k+1,rfl,aC⟩
 simp only [bne_iff_ne,ne_eq];rw [xJ aC];unfold zs at hk hz64;omega
theorem ZfJ (N:Nat) (x:W) (n:Nat) (h0:0<n) (h1:n<32):Zbg N (iW x) (n:Int)=some (iW (ror x n)):=by
 have e:v64 (32-(n:Int))=((32-n:Nat):Int):=by rw [ZcO aC aC];omega
 unfold Zbg;rw [e,Zag aC,Zag aC,ZmC _ _ aC,ZoI _ _ aC,Zkt,ror_add x n h0 h1]
theorem k_eq (N:Nat) (i:Nat) (hi:i<64):Zfy N (i:Int)=some (iW (kks.getD i 0)):=by
 unfold Zfy;rw [Zag aC,Zag aC,zH,←Zqa];rfl
theorem tdiv8 (x:W):v32 (zR (iW x) 8)=iW (x >>> 3):=by
 have:=iW_lt x;have:=ZsJ x;rw [wM (ZsJ x),ZpU aC aC];simp only [iW,BitVec.toNat_ushiftRight,uA];omega
theorem tdiv1024 (x:W):v32 (zR (iW x) 1024)=iW (x >>> 10):=by
 have:=iW_lt x;have:=ZsJ x;rw [wM (ZsJ x),ZpU aC aC];simp only [iW,BitVec.toNat_ushiftRight,uA];omega
theorem not32 (x:W):v32 (4294967295-iW x)=iW (4294967295#32-x):=iW_sub 4294967295#32 x
theorem mul256 (x:W):v32 (iW x*256)=iW (x*256):=by
 rw [ZkV];simp only [iW,BitVec.toNat_mul];rfl
theorem Zpu (x:W) (b:UInt8):(x <<< 8) ||| Zgt b=x*256+Zgt b:=by
 have h:(x <<< 8) &&& Zgt b=0:=by
  ext i hi;simp only [BitVec.getElem_and,BitVec.getElem_shiftLeft,BitVec.getElem_zero];by_cases h8:i<8
  ·simp [h8]
  have:(Zgt b)[i]=false:=by
   have h2:=b.toNat_lt;rw [BitVec.getElem_eq_testBit_toNat,Zgt,BitVec.toNat_ofNat,Nat.mod_eq_of_lt aC];exact Nat.testBit_lt_two_pow (Nat.lt_of_lt_of_le h2 (by
    have:(2:Nat)^8≤2^i:=Nat.pow_le_pow_right aC aC;omega))
  simp [this]
 rw [←BitVec.add_eq_or_of_and_eq_zero _ _ h]
 congr 1
 apply BitVec.eq_of_toNat_eq;rw [BitVec.toNat_shiftLeft,BitVec.toNat_mul,tO];rfl
theorem word_sum (a b c d:UInt8):((((0:W)*(256:W)+Zgt a)*(256:W)+Zgt b)*(256:W)+Zgt c)*(256:W)+Zgt d=(((Zgt a <<< 24) ||| (Zgt b <<< 16)) ||| (Zgt c <<< 8)) ||| Zgt d:=by
 rw [show (0:W)*(256:W)+Zgt a=Zgt a by simp,←Zpu,←Zpu,←Zpu,BitVec.shiftLeft_or_distrib,BitVec.shiftLeft_or_distrib,BitVec.shiftLeft_or_distrib,←BitVec.shiftLeft_add,←BitVec.shiftLeft_add,←BitVec.shiftLeft_add]
def blk (b:Bs) (j:Nat):Bs:=(b.drop (64*j)).take 64
theorem blk_get (b:Bs) (j i:Nat) (hi:i<64):(blk b j).getD i 0=b.getD (64*j+i) 0:=by
 simp only [blk,zF,List.getElem?_take,List.getElem?_drop,aA hi]
theorem ZpI (b:Bs) (n j:Nat) (h:List W):ZcY (n+1) h (b.drop (64*j))=ZcY n (comp h (blk b j)) (b.drop (64*(j+1))):=by
 rw [ZcY,List.drop_drop,show 64*j+64=64*(j+1) by omega];rfl
section
variable {N:Nat}
theorem rp3 (hN:100≤N) (c2 c1:Int×List Int→Option (List Int)) (b:Bs) (j i:Nat) (hi:i<16) (hj:64*j+64≤b.length) (hb:b.length<2000000000000) (h:List Int) (w:List W) (hw:w.length=64) (h0:w.getD i 0=0) :
  loopN (Zar.p3 N c2 c1 (mkB b) ((64*j:Nat):Int) (i:Int) h) N (0,w.map iW)=c2 (((i+1:Nat):Int),(ldw (blk b j) i w).map iW):=by
 have step : ∀G (k:Nat) (v:W),k<4→Zar.p3 N c2 c1 (mkB b) ((64*j:Nat):Int) (i:Int) h G ((k:Int),(w.set i v).map iW)=G (((k+1:Nat):Int),(w.set i (v*(256:W)+Zgt ((blk b j).getD (4*i+k) 0))).map iW):=fun G k v hk=>by
  have b0:w64 (4*(i:Int))=((4*i:Nat):Int):=by rw [ZaH aC aC];omega
  have b1:w64 (((64*j:Nat):Int)+((4*i:Nat):Int))=((64*j+4*i:Nat):Int):=by rw [ZaH aC aC];omega
  have b2:w64 (((64*j+4*i:Nat):Int)+(k:Int))=((64*j+(4*i+k):Nat):Int):=by rw [ZaH aC aC];omega
  have hg:(w.set i v).getD i 0=v:=by simp only [zF];rw [zP aC];rfl
  unfold Zar.p3;dsimp only;rw [aA aE,b0,b1,b2,Zdc,Zag aC,Zag aC,Zag aC,Zag aC,zH,zH,ZfV,hg,mkB_get,←blk_get b j _ aC,ZnR,mul256,Zkt,Zml,xX,ZdO aC]
 have last : ∀G (x:List Int),Zar.p3 N c2 c1 (mkB b) ((64*j:Nat):Int) (i:Int) h G (((4:Nat):Int),x)=c2 (((i+1:Nat):Int),x):=fun G x=>by
  unfold Zar.p3;dsimp only;rw [aB aD,ZdO aC]
 have hself:w.set i 0=w:=by
  have hlt:i<w.length:=aC
  have:w[i]=0:=by simpa [zF,zO hlt] using h0
  rw [←this];exact List.set_getElem_self hlt
 obtain ⟨M,rfl⟩ : ∃M,N=M+5:=⟨N-5,aC⟩
 have key : ∀q,loopN (Zar.p3 (M+5) c2 c1 (mkB b) ((64*j:Nat):Int) (i:Int) h) (q+5) (((0:Nat):Int),(w.set i 0).map iW)=c2 (((i+1:Nat):Int),(ldw (blk b j) i w).map iW):=fun q=>by
  rw [Zay,step _ 0 0 aC,Zay,step _ 1 _ aC,Zay,step _ 2 _ aC,Zay,step _ 3 _ aC,Zay,last,word_sum];rfl
 have:=key M;rw [hself] at this;exact this
theorem rp6 (hN:100≤N) (c1:Int×List Int→Option (List Int)) (x1:ByteArray) (j:Nat) (hj:j<100000000000) (s h:List W) (hs:s.length=8) (hh:h.length=8) :
  loopN (Zar.p6 N c1 x1 ((64*j:Nat):Int) (s.map iW)) N (0,h.map iW)=c1 (((64*(j+1):Nat):Int),(run (adw s) 0 8 h).map iW):=by
 refine ZgV (fun (k:Nat) (x:List W)=>((k:Int),x.map iW)) (fun _ x=>x.length=8) (adw s) 0 8 (fun x=>c1 (((64*(j+1):Nat):Int),x.map iW)) ?_ ?_ 8 0 N h (zJ _) rfl aC hh
 ·intro G k x _ hk hx;refine ⟨?_,by simpa [adw] using hx⟩;unfold Zar.p6;dsimp only;rw [aA aE,Zag aC,zH,ZfV,ZfV,Zkt,Zml,ZdO aC];rfl
 intro G x hx;unfold Zar.p6;dsimp only;rw [aB aD,ZaH aC aC]
 congr 1
theorem r6 (x:W):Zbg N (iW x) 6=some (iW (ror x 6)):=ZfJ N x 6 aC aC
theorem r11 (x:W):Zbg N (iW x) 11=some (iW (ror x 11)):=ZfJ N x 11 aC aC
theorem r25 (x:W):Zbg N (iW x) 25=some (iW (ror x 25)):=ZfJ N x 25 aC aC
theorem r2 (x:W):Zbg N (iW x) 2=some (iW (ror x 2)):=ZfJ N x 2 aC aC
theorem r13 (x:W):Zbg N (iW x) 13=some (iW (ror x 13)):=ZfJ N x 13 aC aC
theorem r22 (x:W):Zbg N (iW x) 22=some (iW (ror x 22)):=ZfJ N x 22 aC aC
theorem r7 (x:W):Zbg N (iW x) 7=some (iW (ror x 7)):=ZfJ N x 7 aC aC
theorem r18 (x:W):Zbg N (iW x) 18=some (iW (ror x 18)):=ZfJ N x 18 aC aC
theorem r17 (x:W):Zbg N (iW x) 17=some (iW (ror x 17)):=ZfJ N x 17 aC aC
theorem r19 (x:W):Zbg N (iW x) 19=some (iW (ror x 19)):=ZfJ N x 19 aC aC
theorem rp5 (hN:100≤N) (c1:Int×List Int→Option (List Int)) (x1:ByteArray) (j:Nat) (hj:j<100000000000) (w h:List W) (hh:h.length=8) :
  loopN (Zar.p5 N c1 x1 ((64*j:Nat):Int) (h.map iW) (w.map iW)) N (0,h.map iW)=c1 (((64*(j+1):Nat):Int),(run (adw (run (rnd w) 0 64 h)) 0 8 h).map iW):=by
 refine ZgV (fun (k:Nat) (x:List W)=>((k:Int),x.map iW)) (fun _ x=>x.length=8) (rnd w) 0 64 (fun x=>c1 (((64*(j+1):Nat):Int),(run (adw x) 0 8 h).map iW)) ?_ ?_ 64 0 N h (zJ _) rfl aC hh
 ·intro G k x _ hk hx;refine ⟨?_,rfl⟩;unfold Zar.p5;dsimp only;rw [aA aE];simp only [ZfV,zH];rw [r6,Zab,r11,Zab,r25,Zab,k_eq N k hk,Zab,Zag aC,r2,Zab,r13,Zab,r22,Zab];simp only [iW_and,ZoH,ZsI,not32,Zkt,chs_or,mjr_or];rw [ZdO aC];rfl
 intro G x hx;unfold Zar.p5;dsimp only;rw [aB aD];exact rp6 hN c1 x1 j hj x h hx hh
theorem rp4 (hN:100≤N) (c1:Int×List Int→Option (List Int)) (x1:ByteArray) (j:Nat) (hj:j<100000000000) (w h:List W) (hw:w.length=64) (hh:h.length=8) :
  loopN (Zar.p4 N c1 x1 ((64*j:Nat):Int) (h.map iW)) N (16,w.map iW)=c1 (((64*(j+1):Nat):Int),(run (adw (run (rnd (run exw 16 48 w)) 0 64 h)) 0 8 h).map iW):=by
 refine ZgV (fun (k:Nat) (x:List W)=>((k:Int),x.map iW)) (fun _ x=>x.length=64) exw 16 64 (fun x=>c1 (((64*(j+1):Nat):Int),(run (adw (run (rnd x) 0 64 h)) 0 8 h).map iW)) ?_ ?_ 48 16 N w (zJ _) rfl aC hw
 ·intro G k x hk16 hk hx;refine ⟨?_,by simpa [exw] using hx⟩;have a15:=Zgv (i:=k) (m:=15) aC aC;have a2:=Zgv (i:=k) (m:=2) aC aC;have a16:=Zgv (i:=k) (m:=16) aC aC;have a7:=Zgv (i:=k) (m:=7) aC aC;simp only [Int.cast_ofNat_Int] at a15 a2 a16 a7;unfold Zar.p4;dsimp only;rw [aA aE,a15,a2,a16,a7];simp only [ZfV,zH];rw [Zag aC,Zag aC,r7,Zab,r18,Zab,Zag aC,Zag aC,r17,Zab,r19,Zab,Zag aC,Zag aC,Zag aC,Zag aC,Zag aC,tdiv8,tdiv1024];simp only [ZoH,Zkt];rw [ZdO aC,Zml];rfl
 intro G x hx;unfold Zar.p4;dsimp only;rw [aB aD];exact rp5 hN c1 x1 j hj x h hh
theorem rp2 (hN:100≤N) (c1:Int×List Int→Option (List Int)) (b:Bs) (j:Nat) (hj:64*j+64≤b.length) (hb:b.length<2000000000000) (h:List W) (hh:h.length=8) :
  loopN (Zar.p2 N c1 (mkB b) ((64*j:Nat):Int) (h.map iW)) N (0,zB 64 0)=c1 (((64*(j+1):Nat):Int),(comp h (blk b j)).map iW):=by
 have e0:(zB 64 0:List Int)=(zB 64 (0:W)).map iW:=by simp [iW]
 rw [e0];refine ZgV (fun (k:Nat) (x:List W)=>((k:Int),x.map iW)) (fun k x=>x.length=64∧∀q,k≤q→x.getD q 0=0) (ldw (blk b j)) 0 16 (fun x=>c1 (((64*(j+1):Nat):Int),(run (adw (run (rnd (run exw 16 48 x)) 0 64 h)) 0 8 h).map iW)) ?_ ?_ 16 0 N _ (zJ _) rfl aC ⟨by simp,fun q _=>?_⟩
 ·intro G k x _ hk ⟨hx,hx0⟩;refine ⟨?_,by simpa [ldw] using hx,fun q hq=>?_⟩
  ·conv=>lhs;unfold Zar.p2
   dsimp only;rw [aA aE];exact rp3 hN G c1 b j k hk hj hb (h.map iW) x hx (hx0 k (zJ _))
  have:=hx0 q aC;simp only [ldw,zF] at this ⊢;rw [List.getElem?_set_ne aC];exact this
 ·intro G x ⟨hx,_⟩;unfold Zar.p2;dsimp only;rw [aB aD];exact rp4 hN c1 (mkB b) j aC x h hx hh
 simp only [zF];cases hq:(zB 64 (0:W))[q]? with
 | none=>rfl
 | some y=>
  have:=List.mem_of_getElem? hq;rw [List.mem_replicate] at this;exact this.2
def outG (h:List W) (i:Nat) (o:List Int):List Int:=o.set i (byI (UInt8.ofNat ((h.getD (i/4) 0).toNat >>> (24-8*(i%4)))))
theorem outg8 (a b c d e f g k:W):run (outG [a,b,c,d,e,f,g,k]) 0 32 (zB 32 0)=(Zsp [a,b,c,d,e,f,g,k]).map byI:=by kernel_rfl
theorem rp7 (hN:100≤N) (h:List W) (hh:h.length=8):loopN (Zar.p7 N (h.map iW)) N (0,zB 32 0)=some ((Zsp h).map byI):=by
 have:=ZgV (body:=Zar.p7 N (h.map iW)) (fun (k:Nat) (x:List Int)=>((k:Int),x)) (fun _ _=>True) (outG h) 0 32 (fun x=>some x) ?_ ?_ 32 0 N (zB 32 0) (zJ _) rfl aC trivial
 ·have e:run (outG h) 0 32 (zB 32 0)=(Zsp h).map byI:=by
   match h,hh with
   | [a,b,c,d,e,f,g,k],_=>exact outg8 a b c d e f g k
  rw [e] at this;exact this
 ·intro G k x _ hk _;refine ⟨?_,trivial⟩;have t4:yA (k:Int) 4=((k%4:Nat):Int):=by rw [xJ aC];omega
  have d4:w64 (zR (k:Int) 4)=((k/4:Nat):Int):=by rw [wM aC,ZaH aC aC];omega
  have m8:w64 (8*((k%4:Nat):Int))=((8*(k%4):Nat):Int):=by rw [ZaH aC aC];omega
  have s24:w64 (24-((8*(k%4):Nat):Int))=((24-8*(k%4):Nat):Int):=by rw [ZaH aC aC];omega
  have v24:v64 ((24-8*(k%4):Nat):Int)=((24-8*(k%4):Nat):Int):=ZcO aC aC;unfold Zar.p7;dsimp only;rw [aA aE,t4,d4,m8,s24,v24,Zag aC,Zag aC,Zag aC,Zag aC,zH,zH,ZfV,ZmC _ _ aC,ZdO aC];have:v8 (yA (iW (h.getD (k/4) 0 >>> (24-8*(k%4)))) 256)=byI (UInt8.ofNat ((h.getD (k/4) 0).toNat >>> (24-8*(k%4)))):=by
   rw [xJ (ZsJ _),Zkj,pE,←Zkj,v8_iW,BitVec.toNat_ushiftRight]
  rw [this];rfl
 intro G x _;unfold Zar.p7;dsimp only;rw [aB aD]
theorem Zql (b:Bs) (hb:b.length<1099511627776) (hN:b.length+300≤N):Zar N (mkB b)=some ((sha b).map byI):=by
 unfold Zar;rw [Zsm N b hb aC,Zab];have hpl:=pad_len b;have hz64:zs b.length<64:=by unfold zs;omega
 obtain ⟨n,hn⟩ : ∃n,n=(pad b).length/64:=⟨_,rfl⟩
 have e0:([1779033703,3144134277,1013904242,2773480762,1359893119,2600822924,528734635,1541459225]:List Int)=iv.map iW:=by decide +kernel
 rw [e0];refine ZbZ (fun m (y:Int×List Int)=>∃(j:Nat) (h:List W),y=(((64*j:Nat):Int),h.map iW)∧m+j=n∧h.length=8∧ZcY m h ((pad b).drop (64*j))=ZcY n iv (pad b)) ?_ N n _ ⟨0,iv,rfl,aC,rfl,rfl⟩ aC;rintro G m _ ⟨j,h,rfl,hm,hh,hbl⟩ ih;unfold Zar.p1;dsimp only;rw [Zdc];cases m with
 | succ m=>
  rw [aA aE,rp2 aC G (pad b) j aC aC h hh];exact ih m _ (Nat.lt_succ_self _) ⟨j+1,comp h (blk (pad b) j),rfl,aC,by rw [ZkP];exact hh,by rw [←hbl,ZpI]⟩
 | zero=>
  rw [aB aE,rp7 aC h hh];simp only [ZcY] at hbl;rw [hbl,sha,←hn]
theorem Zol (b:Bs) (hb:b.length<1099511627776) (hN:b.length+400≤N):ZbH N (mkB b)=some ((sha2 b).map byI):=by
 unfold ZbH;rw [Zql b hb aC,Zab,Znn];have hl:=Zpk b;obtain ⟨s,hs⟩ : ∃s,s=sha b:=⟨_,rfl⟩
 rw [←hs] at hl ⊢;refine ZbZ (fun m (y:ByteArray×Int)=>∃k:Nat,y=(mkB (s.take k),(k:Int))∧m+k=32) ?_ N 32 _ ⟨0,rfl,rfl⟩ aC;rintro G m _ ⟨k,rfl,hk⟩ ih;unfold ZbH.p1;dsimp only;by_cases hk8:k<32
 ·have hg:(s.map byI).getD k 0=byI s[k]:=by simp [zF,hl,hk8]
  have e:s.take k ++ [s[k]]=s.take (k+1):=(zZ aC).symm;rw [aA aE,Zag aC,zH,hg,Zag (Znt _),ZkK,Zdc,Zdc,Zag aE,Zeg,e,ZdO aC];exact ih (m-1) _ aC ⟨k+1,rfl,aC⟩
 rw [aB aE,zW aC,Zql s aC aC,Zab,hs];rfl
end
end Go.Dn.F
namespace Go.Dn.F
open Go.Dn
theorem le_u64 (n:Int) (j:Nat) (hj:j<8):(n%18446744073709551616)/256^j%256=n/256^j%256:=by
 have:j=0∨j=1∨j=2∨j=3∨j=4∨j=5∨j=6∨j=7:=aC
 rcases this with rfl | rfl | rfl | rfl | rfl | rfl | rfl | rfl<;>simp only [Int.reducePow]<;>omega
section
variable {N:Nat}
theorem Zgz (hN:20≤N) (size n:Int):Zbs N size n=some (mkB (le (ZkE size) n)):=by
 have hs:=Zpf size;unfold Zbs;rw [Znn];refine ZbZ (fun m (y:Int×ByteArray×Int)=>∃j:Nat,y=((n%18446744073709551616)/256^j,mkB (le j n),(j:Int))∧m+j=ZkE size) ?_ N (ZkE size) _ ⟨0,by rw [ZfC];simp [le],aC⟩ aC;rintro G m _ ⟨j,rfl,hj⟩ ih;unfold Zbs.p1;dsimp only;rw [ZnX];by_cases hm:j<ZkE size
 ·obtain ⟨q,hq⟩ : ∃q,q=(n%18446744073709551616)/256^j:=⟨_,rfl⟩
  have hp:(0:Int)<256^j:=Int.pow_pos (by decide);have hq0:0≤q:=by rw [hq];exact xD aC aC
  have hq1:q<18446744073709551616:=by
   rw [hq];refine Int.lt_of_le_of_lt (uC _ aC) aC
  have h1:v8 (yA q 256)=byI (leB n j):=by
   rw [xJ hq0,Zkj,pE,←Zkj,v8_by,leB,hq,le_u64 n j aC]
  have h2:v64 (zR q 256)=(n%18446744073709551616)/256^(j+1):=by
   rw [wM hq0,ZcO aC aC,hq,xM aC,uK]
  rw [aA aE,←hq,Zag (Znt _),h1,ZkK,Zdc,Zdc,Zag (by simp [ZhA];omega),Zeg,←le_succ,h2,ZdO aC];exact ih (m-1) _ aC ⟨j+1,rfl,aC⟩
 obtain rfl:j=ZkE size:=aC
 rw [aB aD]
theorem Zmu (hN:50≤N) (p:Bs) (hp:p.length=32):Zce N (p.map byI)=some (mkB p):=by
 unfold Zce;rw [Znn];refine ZbZ (fun m (y:ByteArray×Int)=>∃k:Nat,y=(mkB (p.take k),(k:Int))∧m+k=32) ?_ N 32 _ ⟨0,rfl,rfl⟩ aC;rintro G m _ ⟨k,rfl,hk⟩ ih;unfold Zce.p1;dsimp only;by_cases hk8:k<32
 ·have hg:(p.map byI).getD k 0=byI p[k]:=by simp [zF,hp,hk8]
  have e:p.take k ++ [p[k]]=p.take (k+1):=(zZ aC).symm;rw [aA aE,Zag aC,zH,hg,Zag (Znt _),ZkK,Zdc,Zdc,Zag aE,Zeg,e,ZdO aC];exact ih (m-1) _ aC ⟨k+1,rfl,aC⟩
 rw [aB aE,zW aC]
theorem Zpp (hN:50≤N) (h:Zal) {p r:Bs} (hw:HW h p r):ZdE N h=some (mkB (ZhZ h)):=by
 have h4:ZkE 4=4:=rfl;unfold ZdE;rw [Zgz aC,Zab,hw.prev,Zmu hN p hw.lp,Zab,Zdc,Zdc,Zag (by simp [ZhA,hw.lp];omega),hw.root,Zmu hN r hw.lr,Zab,Zeg,Zdc,Zdc,Zag (by simp [ZhA,hw.lp,hw.lr];omega),Zgz aC,Zab,Zeg,Zdc,Zdc,Zag (by simp [ZhA,hw.lp,hw.lr];omega),Zgz aC,Zab,Zeg,Zdc,Zdc,Zag (by simp [ZhA,hw.lp,hw.lr];omega),
  Zgz aC,Zab,Zeg,Zdc,Zdc,Zag (by simp [ZhA,hw.lp,hw.lr];omega),Zeg,h4]
 congr 2
 simp [ZhZ,hw.prev,hw.root,ZkQ]
theorem Zio (h:Zal):ZcR N h=some (Zgd h):=by
 unfold ZcR Zgd
 repeat' split
 all_goals (refine ZfZ ⟨fun h=>?_,fun h=>?_⟩<;>simp only [decide_eq_true_eq,yR] at * <;> omega)
theorem Zjg (hN:600≤N) (h:Zal) (hw:wfH h=true):ZcZ N h=some (hid h):=by
 obtain ⟨p,r,hw⟩:=(ZrD h).1 hw;unfold ZcZ hid;rw [Zio,Zab];cases hg:Zgd h with
 | false=>rfl
 | true=>
  have hl:(ZhZ h).length=80:=by simp [ZhZ,ZhA,hw.prev,hw.root,ZkQ,hw.lp,hw.lr]
  rw [aB aD,Zpp aC h hw,Zab,Zol _ aC aC,Zab];rfl
end
end Go.Dn.F
namespace Go.Dn.F
open Go.Dn Go.Proofs
def Znv (n:Int):Prop:=-9223372036854775808≤n∧n≤9223372036854775807
theorem ZfH {n:Int} (h:(Lit.int .i64 n).wf=true):Znv n:=by
 simp only [Lit.wf,zV,decide_eq_true_eq] at h;exact h
abbrev tysH:List Ty:=[.int .i64,.arr .u8 32,.arr .u8 32,.int .i64,.int .i64,.int .i64]
abbrev tysP:List Ty:=[.int .i64,.int .i64,.int .i64,.int .i64,.bool,.sl 2 [.int .i64,.int .i64],.sl 33 [.int .i64,.arr .u8 32],.arr .u64 4,.arr .u64 4,.int .i64,.arr .u8 32,.arr .u8 32,.int .i64,.int .i64,.int .i64]
structure WfH (h:Zal):Prop where
 v:Znv h.Version
 w:wfH h=true
 t:Znv h.Time
 b:Znv h.Bits
 n:Znv h.Nonce
theorem ZpS {l:List Int} (h:l.length=32) (hw : ∀x∈l,(Lit.int .u8 x).wf=true):wfB l=true:=by
 simp only [wfB,zV,beq_iff_eq,List.all_eq_true,decide_eq_true_eq];refine ⟨h,fun n hn=>?_⟩;have:=hw n hn;simp only [Lit.wf,zV,decide_eq_true_eq] at this;have e1:IntKind.u8.min=0:=rfl;have e2:IntKind.u8.max=255:=rfl;omega
theorem open_H {ls:List L} (h:Zhs tysH ls) : ∃x:Zal,ls=x.ls∧WfH x:=by
 obtain ⟨_,_,rfl,h1,h⟩:=h.cons_inv;obtain ⟨_,_,rfl,h2,h⟩:=h.cons_inv;obtain ⟨_,_,rfl,h3,h⟩:=h.cons_inv;obtain ⟨_,_,rfl,h4,h⟩:=h.cons_inv;obtain ⟨_,_,rfl,h5,h⟩:=h.cons_inv;obtain ⟨_,_,rfl,h6,h⟩:=h.cons_inv;cases h.nil_inv;obtain ⟨a1,rfl,w1⟩:=h1.int_inv;obtain ⟨a2,rfl,k2,w2⟩:=h2.arr_inv;obtain ⟨a3,rfl,k3,w3⟩:=h3.arr_inv;obtain ⟨a4,rfl,w4⟩:=h4.int_inv;obtain ⟨a5,rfl,w5⟩:=h5.int_inv;obtain ⟨a6,rfl,w6⟩:=h6.int_inv;refine ⟨⟨a1,a2,a3,a4,a5,a6⟩,rfl,⟨ZfH w1,?_,ZfH w4,ZfH w5,ZfH w6⟩⟩;simp only [wfH,zV];exact ⟨ZpS k2 w2,ZpS k3 w3⟩
structure WfP (p:Zah):Prop where
 l:Znv p.Limit
 i:Znv p.Interval
 s:Znv p.Spacing
 f:Znv p.Future
 g : ∀x∈p.Gates,Zhs [.int .i64,.int .i64] x
 gl:p.Gates.length≤maxLen
 c : ∀x∈p.Checks,Zhs [.int .i64,.arr .u8 32] x
 cl:p.Checks.length≤maxLen
 m:p.MinWork.length=4∧∀x∈p.MinWork,(Lit.int .u64 x).wf=true
 r:p.Margin.length=4∧∀x∈p.Margin,(Lit.int .u64 x).wf=true
 h:WfH p.Genesis
theorem open_P {ls:List L} (h:Zhs tysP ls) : ∃x:Zah,ls=x.ls∧WfP x:=by
 obtain ⟨_,_,rfl,h1,h⟩:=h.cons_inv;obtain ⟨_,_,rfl,h2,h⟩:=h.cons_inv;obtain ⟨_,_,rfl,h3,h⟩:=h.cons_inv;obtain ⟨_,_,rfl,h4,h⟩:=h.cons_inv;obtain ⟨_,_,rfl,h5,h⟩:=h.cons_inv;obtain ⟨_,_,rfl,h6,h⟩:=h.cons_inv;obtain ⟨_,_,rfl,h7,h⟩:=h.cons_inv;obtain ⟨_,_,rfl,h8,h⟩:=h.cons_inv;obtain ⟨_,_,rfl,h9,h⟩:=h.cons_inv;obtain ⟨x,rfl,hx⟩:=open_H h;obtain ⟨a1,rfl,w1⟩:=h1.int_inv;obtain ⟨a2,rfl,w2⟩:=h2.int_inv;obtain ⟨a3,rfl,w3⟩:=h3.int_inv;obtain ⟨a4,rfl,w4⟩:=h4.int_inv;obtain ⟨a5,rfl⟩:=h5.bool_inv;obtain ⟨a6,rfl,k6,w6⟩:=h6.sl_inv;obtain ⟨a7,rfl,k7,w7⟩:=h7.sl_inv;obtain ⟨a8,rfl,k8,w8⟩:=h8.arr_inv;obtain ⟨a9,rfl,k9,w9⟩:=h9.arr_inv;exact ⟨⟨a1,a2,a3,a4,a5,a6,a7,a8,a9,x⟩,rfl,⟨ZfH w1,ZfH w2,ZfH w3,ZfH w4,w6,k6,w7,k7,⟨k8,w8⟩,⟨k9,w9⟩,hx⟩⟩
theorem ZmX {α:Type} {P:List α→Prop} (h0:P []) (h1 : ∀l a,P l→P (l ++ [a])) (l:List α):P l:=by
 rw [←List.reverse_reverse l]
 induction l.reverse with
 | nil=>exact h0
 | cons a m ih=>rw [List.reverse_cons];exact h1 _ _ ih
noncomputable def ZjQ (l:List Zal):LL:=l.map Zal.ls
theorem Zjb {l:List Zal} {i:Nat} (h:i<l.length):(ZjQ l)[i]? = some l[i].ls:=by simp [ZjQ,h]
@[simp] theorem Zlf (l:List Zal):(ZjQ l).length=l.length:=by simp [ZjQ]
theorem ZrF (l:List Int):ZlN (ZdL l)=l:=by
 unfold ZlN ZdL;rw [List.map_map]
 conv=>rhs;rw [←List.map_id l]
 exact List.map_congr_left fun n _=>rfl
theorem isI_row (l:List Int):isI (ZdL l)=true:=by simp [isI,ZdL]
def spots (p:Zah) (l:List Zal):ZaT:=l.foldl (Zfx p) (begin_ p)
end Go.Dn.F
namespace Go.Dn.F
open Go.Dn
def isW (a:Int):Prop:=0≤a∧a<18446744073709551616
def isN (n:Int):Prop:=0≤n∧n<2^256
def nw (n:Int):List Int:=[n%18446744073709551616,n/18446744073709551616%18446744073709551616,n/2^128%18446744073709551616,n/2^192%18446744073709551616]
def vw (a b c d:Int):Int:=a+18446744073709551616*b+2^128*c+2^192*d
theorem Zer {a b c d:Int} (ha:isW a) (hb:isW b) (hc:isW c) (hd:isW d):nw (vw a b c d) = [a,b,c,d]:=by
 unfold isW at *;unfold nw vw;have e1:(a+18446744073709551616*b+2^128*c+2^192*d)/18446744073709551616=b+18446744073709551616*c+2^128*d:=aC
 have e2:(a+18446744073709551616*b+2^128*c+2^192*d)/2^128=c+18446744073709551616*d:=aC
 have e3:(a+18446744073709551616*b+2^128*c+2^192*d)/2^192=d:=aC
 rw [e1,e2,e3]
 congr 1
 ·omega
 congr 1
 ·omega
 congr 1
 ·omega
 congr 1
 omega
theorem ZkU {a b c d:Int} (ha:isW a) (hb:isW b) (hc:isW c) (hd:isW d):isN (vw a b c d):=by
 unfold isW at *;unfold isN vw;omega
theorem ZdP {n:Int} (h:isN n) : ∃a b c d,isW a∧isW b∧isW c∧isW d∧n=vw a b c d:=by
 unfold isN at h;refine ⟨n%18446744073709551616,n/18446744073709551616%18446744073709551616,n/18446744073709551616/18446744073709551616%18446744073709551616,n/18446744073709551616/18446744073709551616/18446744073709551616,?_⟩;unfold isW vw;refine ⟨aC,aC,aC,aC,aC⟩
theorem vw_lt {a b c d e f g h:Int} (ha:isW a) (hb:isW b) (hc:isW c) (hd:isW d) (he:isW e) (hf:isW f) (hg:isW g) (hh:isW h) :
  vw a b c d<vw e f g h↔(d<h∨d=h∧(c<g∨c=g∧(b<f∨b=f∧a<e))):=by
 unfold isW vw at *;omega
theorem vw_eq {a b c d e f g h:Int} (ha:isW a) (hb:isW b) (hc:isW c) (hd:isW d) (he:isW e) (hf:isW f) (hg:isW g) (hh:isW h) :
  vw a b c d=vw e f g h↔(a=e∧b=f∧c=g∧d=h):=by
 unfold isW vw at *;omega
theorem Zqp {m n:Int} (hm:isN m) (hn:isN n) (h:nw m=nw n):m=n:=by
 obtain ⟨a,b,c,d,ha,hb,hc,hd,rfl⟩:=ZdP hm;obtain ⟨e,f,g,i,he,hf,hg,hi,rfl⟩:=ZdP hn;rw [Zer ha hb hc hd,Zer he hf hg hi] at h;simp only [List.cons.injEq,and_true] at h;exact (vw_eq ha hb hc hd he hf hg hi).2 h
theorem Zef:zB 4 0=nw 0:=by decide +kernel
variable {N:Nat}
theorem Zgm {n:Int} (h:isW n):Zdp N n=some (nw n):=by
 have:nw n = [n,0,0,0]:=by
  have:=Zer h (b:=0) (c:=0) (d:=0) (by unfold isW;omega) (by unfold isW;omega) (by unfold isW;omega);rw [←this];congr 1;unfold vw;omega
 unfold Zdp;rw [this]
theorem Zej {n:Int} (h:isN n):ZcT N (nw n)=some (decide (n=0)):=by
 unfold ZcT;rw [Zef];refine ZfZ ⟨fun e=>Zqp h (by unfold isN;omega) (aH e),fun e=>by subst e;simp⟩
def cmp (a b:Int):Int:=if a<b then -1 else if b<a then 1 else 0
theorem Zht (hN:10≤N) {m n:Int} (hm:isN m) (hn:isN n):Zbv N (nw m) (nw n)=some (cmp m n):=by
 obtain ⟨a,b,c,d,ha,hb,hc,hd,rfl⟩:=ZdP hm;obtain ⟨e,f,g,i,he,hf,hg,hi,rfl⟩:=ZdP hn;have k1:=vw_lt ha hb hc hd he hf hg hi;have k2:=vw_lt he hf hg hi ha hb hc hd;rw [Zer ha hb hc hd,Zer he hf hg hi];obtain ⟨N,rfl⟩ : ∃q,N=q+5:=⟨N-5,aC⟩
 unfold Zbv;have t : ∀G:Int→Option Int,∀j:Nat,j<4→Zbv.p1 (N+5) [a,b,c,d] [e,f,g,i] G (j:Int)=if [a,b,c,d].getD j 0 < [e,f,g,i].getD j 0 then some (-1) else if [e,f,g,i].getD j 0 < [a,b,c,d].getD j 0 then some 1 else G ((j:Int)-1):=fun G j hj=>by
  unfold Zbv.p1;rw [aA aD,Zag aC,Zag aC,zH,ZaH aC aC];simp only [decide_eq_true_eq,gt_iff_lt]
 have u : ∀G:Int→Option Int,Zbv.p1 (N+5) [a,b,c,d] [e,f,g,i] G (-1)=some 0:=fun G=>by
  unfold Zbv.p1;rw [aB aD]
 rw [Zay,show (3:Int)=((3:Nat):Int) from rfl,t _ 3 aC,Zay,show ((3:Nat):Int)-1=((2:Nat):Int) from rfl,t _ 2 aC,Zay,show ((2:Nat):Int)-1=((1:Nat):Int) from rfl,t _ 1 aC,Zay,show ((1:Nat):Int)-1=((0:Nat):Int) from rfl,t _ 0 aC,Zay,show ((0:Nat):Int)-1 = -1 from rfl,u];have g0 : ∀a b c d:Int,[a,b,c,d].getD 0 0=a:=fun _ _ _ _=>rfl;have g1 : ∀a b c d:Int,[a,b,c,d].getD 1 0=b:=fun _ _ _ _=>rfl;have g2 : ∀a b c d:Int,[a,b,c,d].getD 2 0=c:=fun _ _ _ _=>rfl;have g3 : ∀a b c d:Int,[a,b,c,d].getD 3 0=d:=fun _ _ _ _=>rfl;simp only [g0,g1,g2,g3];unfold cmp;simp only [k1,k2]
 repeat' split
 all_goals first | rfl | (exfalso;omega)
theorem ZfY (hN:10≤N) {m n:Int} (hm:isN m) (hn:isN n):Zdf N (nw m) (nw n)=some (decide (m<n)):=by
 unfold Zdf;rw [Zht hN hm hn,Zab];refine ZfZ ?_;simp only [decide_eq_true_eq];unfold cmp
 repeat' split
 all_goals omega
end Go.Dn.F
namespace Go.Dn.F
open Go.Dn
variable {N:Nat}
theorem ZtC {x y c:Int} (hx:isW x) (hy:isW y) (hc:0≤c∧c≤1) : ∃s c':Int,ZdW N x y c=some (s,c')∧isW s∧0≤c'∧c'≤1∧s+18446744073709551616*c'=x+y+c:=by
 unfold isW at *;refine ⟨(x+y+c)%18446744073709551616,(x+y+c)/18446744073709551616,?_,aC,aC,aC,aC⟩;unfold ZdW;rw [Zag aC,Zag aC,Zag aC,Zag aC]
theorem sub64 {x y c:Int} (hx:isW x) (hy:isW y) (hc:0≤c∧c≤1) : ∃s c':Int,Zfe N x y c=some (s,c')∧isW s∧0≤c'∧c'≤1∧s-18446744073709551616*c'=x-y-c:=by
 unfold isW at *;unfold Zfe;rw [Zag aC,Zag aC,Zag aC,Zag aC,Zag aC];refine ⟨_,_,rfl,?_⟩;split<;>refine ⟨aC,aC,aC,aC⟩
theorem ZfM (hN:10≤N) {m n:Int} (hm:isN m) (hn:isN n) :
  ZbT N (nw m) (nw n)=some (nw ((m+n)%2^256),decide (2^256≤m+n)):=by
 obtain ⟨a,b,c,d,ha,hb,hc,hd,rfl⟩:=ZdP hm;obtain ⟨e,f,g,i,he,hf,hg,hi,rfl⟩:=ZdP hn;rw [Zer ha hb hc hd,Zer he hf hg hi];obtain ⟨N,rfl⟩ : ∃q,N=q+5:=⟨N-5,aC⟩
 obtain ⟨s0,c0,e0,k0,l0,m0,n0⟩:=ZtC (N:=N+5) ha he (c:=0) aC;obtain ⟨s1,c1,e1,k1,l1,m1,n1⟩:=ZtC (N:=N+5) hb hf (c:=c0) aC;obtain ⟨s2,c2,e2,k2,l2,m2,n2⟩:=ZtC (N:=N+5) hc hg (c:=c1) aC;obtain ⟨s3,c3,e3,k3,l3,m3,n3⟩:=ZtC (N:=N+5) hd hi (c:=c2) aC;unfold ZbT;have t : ∀(G:Int×Int×List Int→Option (List Int×Bool)) (j:Nat) (l:List Int) (c s c':Int),j<4→ZdW (N+5) (l.getD j 0) ([e,f,g,i].getD j 0) c=some (s,c') →
   ZbT.p1 (N+5) [e,f,g,i] G (c,(j:Int),l)=G (c',(j:Int)+1,l.set j s):=fun G j l c s c' hj h=>by
  unfold ZbT.p1;dsimp only;rw [aA aE,Zag aC,zH,h,Zab,ZaH aC aC]
 have u : ∀(G:Int×Int×List Int→Option (List Int×Bool)) (l:List Int) (c:Int),ZbT.p1 (N+5) [e,f,g,i] G (c,4,l)=some (l,c != 0):=fun G l c=>by
  unfold ZbT.p1;dsimp only;rw [aB aD]
 rw [Zay];refine Eq.trans (t _ 0 [a,b,c,d] 0 s0 c0 aC e0) ?_;rw [Zay];refine Eq.trans (t _ 1 [s0,b,c,d] c0 s1 c1 aC e1) ?_;rw [Zay];refine Eq.trans (t _ 2 [s0,s1,c,d] c1 s2 c2 aC e2) ?_;rw [Zay];refine Eq.trans (t _ 3 [s0,s1,s2,d] c2 s3 c3 aC e3) ?_;rw [Zay];refine Eq.trans (u _ [s0,s1,s2,s3] c3) ?_;rw [←Zer k0 k1 k2 k3];have key:vw a b c d+vw e f g i=vw s0 s1 s2 s3+2^256*c3:=by unfold vw;omega
 have r:=ZkU k0 k1 k2 k3;unfold isN at r;have e5:(vw a b c d+vw e f g i)%2^256=vw s0 s1 s2 s3:=aC
 rw [e5];have e6:(c3 != 0)=decide (2^256≤vw a b c d+vw e f g i):=by
  rw [wA];simp only [bne_iff_ne,ne_eq,decide_eq_true_eq];omega
 rw [e6]
theorem of_w (x:Int) (h:isW x):(BitVec.ofInt 64 x).toNat=x.toNat:=by
 unfold isW at h;rw [BitVec.toNat_ofInt];omega
theorem ZrB (n:Nat) (h:n<18446744073709551616):IntKind.wrap .u64 (n:Int)=n:=ZcO aC aC
theorem and64 {x y:Int} (hx:isW x) (hy:isW y):ZaG .and .u64 x y=((x.toNat &&& y.toNat:Nat):Int):=by
 show IntKind.wrap .u64 (((BitVec.ofInt 64 x &&& BitVec.ofInt 64 y).toNat:Nat):Int)=_;rw [ZrB _ (BitVec.isLt _),BitVec.toNat_and,of_w x hx,of_w y hy]
theorem or64 {x y:Int} (hx:isW x) (hy:isW y):ZaG .or .u64 x y=((x.toNat ||| y.toNat:Nat):Int):=by
 show IntKind.wrap .u64 (((BitVec.ofInt 64 x ||| BitVec.ofInt 64 y).toNat:Nat):Int)=_;rw [ZrB _ (BitVec.isLt _),BitVec.toNat_or,of_w x hx,of_w y hy]
theorem xor_max {x:Int} (h:isW x):ZaG .xor .u64 (IntKind.max IntKind.u64) x=18446744073709551615-x:=by
 show IntKind.wrap .u64 (((BitVec.ofInt 64 (IntKind.max IntKind.u64) ^^^ BitVec.ofInt 64 x).toNat:Nat):Int)=_;rw [ZrB _ (BitVec.isLt _),show BitVec.ofInt 64 (IntKind.max IntKind.u64)=BitVec.allOnes 64 by decide,BitVec.allOnes_xor,BitVec.toNat_not,of_w x h];unfold isW at h;omega
theorem Zpj (x:Int) {k:Nat} (h:k≤64):ZbB .u64 x (k:Int)=x*2^k%18446744073709551616:=by
 have e:min (zC (k:Int)) (IntKind.bits .u64)=k:=by simp only [IntKind.bits,zH];omega
 unfold ZbB;rw [e];show v64 _=_;rw [ZfC]
theorem ZlS (x:Int) {k:Nat} (h:k≤64):Zbn .u64 x (k:Int)=x/2^k:=by
 have e:min (zC (k:Int)) (IntKind.bits .u64)=k:=by simp only [IntKind.bits,zH];omega
 unfold Zbn;rw [e,Int.fdiv_eq_ediv_of_nonneg _ (vX (Int.pow_pos (by decide)))]
theorem ZbJ (k:Nat):(0:Int)<2^k:=Int.pow_pos (by decide)
theorem Zfo {k:Nat} (h:k≤64):(2:Int)^k*2^(64-k)=18446744073709551616:=by
 rw [←xO,show k+(64-k)=64 by omega];rfl
theorem ZhP {A h:Int} {k:Nat} (hk:k≤64) (hA:0≤A) (hA2:A+2^k≤18446744073709551616) (hd:A%2^k=0) (h0:0≤h) (h1:h<2^k):ZaG .or .u64 A h=A+h:=by
 have p:=ZbJ k;rw [or64 (by unfold isW;omega) (by unfold isW;omega)];have e1:A.toNat=(A/2^k).toNat <<< k:=by
  rw [tO];have e:=yZ A (2^k);rw [hd,sG] at e;have q:0≤A/2^k:=xD hA aC;apply Int.ofNat_inj.1
  push_cast
  rw [rG hA,rG q,e]
 have e2:h.toNat<2^k:=by
  have:((h.toNat:Nat):Int)<((2^k:Nat):Int):=by push_cast;omega
  omega
 rw [e1,←rB e2,←e1];omega
theorem ZdC {a:Int} (ha:isW a) {k:Nat} (hk:k≤64) : ∃A h:Int,ZbB .u64 a (k:Int)=A∧Zbn .u64 a ((64-k:Nat):Int)=h∧0≤A∧A+2^k≤18446744073709551616∧0≤h∧h<2^k∧a*2^k=A+18446744073709551616*h∧A%2^k=0:=by
 have p:=ZbJ k;have p':=ZbJ (64-k);have s:=Zfo hk;unfold isW at ha;refine ⟨_,_,Zpj a hk,ZlS a aC,?_⟩;generalize (2:Int)^(64-k)=U at *;generalize (2:Int)^k=T at *;have e:=yZ a U;have r0:=vJ a (b:=U) aC;have r1:=wW a p';have hq:0≤a/U:=xD ha.1 aC;have hT:a/U<T:=wG p' (by rw [s];exact ha.2);have aT:a*T=(a%U)*T+18446744073709551616*(a/U):=by
  conv=>lhs;rw [←e,yQ,yG,yJ U T,s,pL,yJ (a/U)]
 have l1:(a%U)*T+T≤18446744073709551616:=by
  have:(a%U+1)*T≤U*T:=wT aC aC;rw [yJ U T,s,yQ,uG] at this;exact this
 have l0:0≤(a%U)*T:=wD r0 aC;have e3:a*T%18446744073709551616=(a%U)*T:=by rw [aT];omega
 rw [e3];exact ⟨l0,l1,hq,hT,aT,uW _ _⟩
theorem isW0:isW 0:=by unfold isW;omega
theorem Zor (n:Nat):(2:Int)^n=2^(64*(n/64))*2^(n%64):=by rw [←xO,qL]
theorem ZiC (hN:10≤N) {m:Int} (hm:isN m) (n:Nat) (hn:n<1000000) :
  ZbI N (nw m) (n:Int)=some (nw (m*2^n%2^256)):=by
 unfold ZbI;by_cases h256:256≤n
 ·rw [aA aE,Zef];have:m*2^n%2^256=0:=by
   have e:(2:Int)^n=2^(n-256)*2^256:=by rw [←xO,show n-256+256=n by omega]
   rw [e,←yG];exact uW _ _
  rw [this]
 rw [aB aE];obtain ⟨a,b,c,d,ha,hb,hc,hd,rfl⟩:=ZdP hm;rw [Zer ha hb hc hd];have hk:n%64≤64:=aC
 obtain ⟨A,x,a1,a2,a3,a4,a5,a6,a7,a8⟩:=ZdC ha hk;obtain ⟨B,y,b1,b2,b3,b4,b5,b6,b7,b8⟩:=ZdC hb hk;obtain ⟨C,z,c1,c2,c3,c4,c5,c6,c7,c8⟩:=ZdC hc hk;obtain ⟨D,u,d1,d2,d3,d4,d5,d6,d7,d8⟩:=ZdC hd hk;have o1:=ZhP hk b3 b4 b8 a5 a6;have o2:=ZhP hk c3 c4 c8 b5 b6;have o3:=ZhP hk d3 d4 d8 c5 c6;have pT:=ZbJ (n%64);have hq:zR (if (0:Int)>(n:Int) then 0 else (n:Int)) 64=((n/64:Nat):Int):=by rw [aB aC,wM aC];omega
 have hr:yA (if (0:Int)>(n:Int) then 0 else (n:Int)) 64=((n%64:Nat):Int):=by rw [aB aC,xJ aC];omega
 obtain ⟨N,rfl⟩ : ∃q,N=q+5:=⟨N-5,aC⟩
 rw [hq,ZaH aC aC];have first : ∀(G:Int×List Int→Option (List Int)) (l:List Int),n/64<4 →
   ZbI.p1 (N+5) (n:Int) [a,b,c,d] G (((n/64:Nat):Int),l)=G (((n/64:Nat):Int)+1,l.set (n/64) A):=fun G l hl=>by
  unfold ZbI.p1;dsimp only;rw [hq,hr,ZaH (n:=((n/64:Nat):Int)) aC aC,Int.sub_self,ZaH (n:=0) aC aC,aA aE,Zag aC,Zag aC,Zag aC,Zag aC,aB aD];unfold ZbI.p2;rw [ZaH aC aC,zH,show zF [a,b,c,d] (zC 0) 0=a from rfl,a1]
 have next : ∀(G:Int×List Int→Option (List Int)) (j:Nat) (l:List Int) (s t X:Int),n/64+j+1<4→l.length=4→[a,b,c,d].getD (j+1) 0=s→[a,b,c,d].getD j 0=t →
   ZaG .or .u64 (ZbB .u64 s ((n%64:Nat):Int)) (Zbn .u64 t ((64-n%64:Nat):Int))=X →
   ZbI.p1 (N+5) (n:Int) [a,b,c,d] G (((n/64+j+1:Nat):Int),l)=G (((n/64+j+1:Nat):Int)+1,l.set (n/64+j+1) X):=fun G j l s t X hl hl4 hs ht hX=>by
  unfold ZbI.p1;dsimp only;rw [hq,hr,ZaH (n:=((n/64:Nat):Int)) aC aC,show (((n/64+j+1:Nat):Int)-((n/64:Nat):Int))=((j+1:Nat):Int) by omega,ZaH (n:=((j+1:Nat):Int)) aC aC,show ((j+1:Nat):Int)-1=(j:Int) by omega,ZaH (n:=(j:Int)) aC aC,show (64:Int)-((n%64:Nat):Int)=((64-n%64:Nat):Int) by omega,ZaH (n:=((64-n%64:Nat):Int)) aC aC,
   aA aE,Zag aC,Zag aC,Zag aC,Zag aC,aA aE,Zag aC,Zag aC,Zag aC]
  unfold ZbI.p2;rw [ZaH aC aC,zH,zH,zH,hs,ht,xX];have:(l.set (n/64+j+1) (ZbB .u64 s ((n%64:Nat):Int))).getD (n/64+j+1) 0=ZbB .u64 s ((n%64:Nat):Int):=by
   rw [xA,zP aC];rfl
  rw [this,hX]
 have last : ∀(G:Int×List Int→Option (List Int)) (l:List Int),ZbI.p1 (N+5) (n:Int) [a,b,c,d] G (4,l)=some l:=fun G l=>by
  unfold ZbI.p1;dsimp only;rw [aB aD]
 have n1:=fun G l X e=>next G 0 l b a X e
 have n2:=fun G l X e=>next G 1 l c b X e
 have n3:=fun G l X e=>next G 2 l d c X e
 rw [b1,a2] at n1;rw [c1,b2] at n2;rw [d1,c2] at n3;have pw:=Zor n;have cases4:n/64=0∨n/64=1∨n/64=2∨n/64=3:=aC
 have vT:vw a b c d*2^(n%64)=A+18446744073709551616*x+18446744073709551616*(B+18446744073709551616*y)+2^128*(C+18446744073709551616*z)+2^192*(D+18446744073709551616*u):=by
  rw [←a7,←b7,←c7,←d7];unfold vw;rw [yQ,yQ,yQ,yG,yG,yG]
 rcases cases4 with q | q | q | q
 ·rw [q] at first n1 n2 n3 pw ⊢
  rw [Zay];refine Eq.trans (first _ [0,0,0,0] aC) ?_;rw [Zay];refine Eq.trans (n1 _ [A,0,0,0] _ aC rfl rfl rfl o1) ?_;rw [Zay];refine Eq.trans (n2 _ [A,B+x,0,0] _ aC rfl rfl rfl o2) ?_;rw [Zay];refine Eq.trans (n3 _ [A,B+x,C+y,0] _ aC rfl rfl rfl o3) ?_;rw [Zay];refine Eq.trans (last _ [A,B+x,C+y,D+z]) ?_;rw [←Zer (a:=A) (b:=B+x) (c:=C+y) (d:=D+z) (by unfold isW;omega) (by unfold isW;omega) (by unfold isW;omega) (by unfold isW;omega)]
  congr 2
  rw [pw,show (2:Int)^(64*0)=1 from rfl,uG,vT];unfold vw;omega
 ·rw [q] at first n1 n2 n3 pw ⊢
  rw [Zay];refine Eq.trans (first _ [0,0,0,0] aC) ?_;rw [Zay];refine Eq.trans (n1 _ [0,A,0,0] _ aC rfl rfl rfl o1) ?_;rw [Zay];refine Eq.trans (n2 _ [0,A,B+x,0] _ aC rfl rfl rfl o2) ?_;rw [Zay];refine Eq.trans (last _ [0,A,B+x,C+y]) ?_;rw [←Zer (a:=0) (b:=A) (c:=B+x) (d:=C+y) (by unfold isW;omega) (by unfold isW;omega) (by unfold isW;omega) (by unfold isW;omega)]
  congr 2
  rw [pw,show (2:Int)^(64*1)=18446744073709551616 from rfl,vM,vT];unfold vw;omega
 ·rw [q] at first n1 n2 n3 pw ⊢
  rw [Zay];refine Eq.trans (first _ [0,0,0,0] aC) ?_;rw [Zay];refine Eq.trans (n1 _ [0,0,A,0] _ aC rfl rfl rfl o1) ?_;rw [Zay];refine Eq.trans (last _ [0,0,A,B+x]) ?_;rw [←Zer (a:=0) (b:=0) (c:=A) (d:=B+x) (by unfold isW;omega) (by unfold isW;omega) (by unfold isW;omega) (by unfold isW;omega)]
  congr 2
  rw [pw,show (2:Int)^(64*2)=2^128 from rfl,vM,vT];unfold vw;omega
 rw [q] at first n1 n2 n3 pw ⊢
 rw [Zay];refine Eq.trans (first _ [0,0,0,0] aC) ?_;rw [Zay];refine Eq.trans (last _ [0,0,0,A]) ?_;rw [←Zer (a:=0) (b:=0) (c:=0) (d:=A) (by unfold isW;omega) (by unfold isW;omega) (by unfold isW;omega) (by unfold isW;omega)]
 congr 2
 rw [pw,show (2:Int)^(64*3)=2^192 from rfl,vM,vT];unfold vw;omega
theorem Zlk {x y:Int} (hx:isW x) (hy:isW y):ZaG .or .u64 x y=ZaG .or .u64 y x:=by rw [or64 hx hy,or64 hy hx,Nat.or_comm]
theorem ZqH {m A S T U:Int} (hT:0<T) (hU:0<U) (hTU:T*U=18446744073709551616) (hA:0≤A∧A<18446744073709551616) (h:m*U=A+18446744073709551616*S):m/T=S:=by
 rw [←Int.mul_ediv_mul_of_pos_left m T hU,hTU,h];omega
theorem ZiU (hN:10≤N) {m:Int} (hm:isN m) (n:Nat) (hn:n<1000000) :
  Zbk N (nw m) (n:Int)=some (nw (m/2^n)):=by
 unfold Zbk;by_cases h256:256≤n
 ·rw [aA aE,Zef];have:m/2^n=0:=by
   have e:(2:Int)^n=2^256*2^(n-256):=by rw [←xO,show 256+(n-256)=n by omega]
   rw [e,←xM (by decide)];unfold isN at hm;rw [show m/2^256=0 by rw [show (2:Int)^256=2^256 from rfl];omega];simp
  rw [this]
 rw [aB aE];obtain ⟨a,b,c,d,ha,hb,hc,hd,rfl⟩:=ZdP hm;rw [Zer ha hb hc hd];have hk:64-n%64≤64:=aC
 obtain ⟨A,x,a1,a2,a3,a4,a5,a6,a7,a8⟩:=ZdC ha hk;obtain ⟨B,y,b1,b2,b3,b4,b5,b6,b7,b8⟩:=ZdC hb hk;obtain ⟨C,z,c1,c2,c3,c4,c5,c6,c7,c8⟩:=ZdC hc hk;obtain ⟨D,u,d1,d2,d3,d4,d5,d6,d7,d8⟩:=ZdC hd hk;rw [show 64-(64-n%64)=n%64 by omega] at a2 b2 c2 d2;have pT:=ZbJ (n%64);have pU:=ZbJ (64-n%64);have tu:=Zfo (k:=n%64) aC;have o1:=ZhP hk b3 b4 b8 a5 a6;have o2:=ZhP hk c3 c4 c8 b5 b6;have o3:=ZhP hk d3 d4 d8 c5 c6;rw [Zlk (by unfold isW;omega) (by unfold isW;omega),pL] at o1 o2 o3;have hq:zR (if (0:Int)>(n:Int) then 0 else (n:Int)) 64=((n/64:Nat):Int):=by rw [aB aC,wM aC];omega
 have hr:yA (if (0:Int)>(n:Int) then 0 else (n:Int)) 64=((n%64:Nat):Int):=by rw [aB aC,xJ aC];omega
 obtain ⟨N,rfl⟩ : ∃q,N=q+5:=⟨N-5,aC⟩
 have top : ∀(G:Int×List Int→Option (List Int)) (j:Nat) (l:List Int) (s X:Int),n/64+j=3→[a,b,c,d].getD 3 0=s→Zbn .u64 s ((n%64:Nat):Int)=X →
   Zbk.p1 (N+5) (n:Int) [a,b,c,d] G ((j:Int),l)=G ((j:Int)+1,l.set j X):=fun G j l s X hl hs hX=>by
  unfold Zbk.p1;dsimp only;rw [hq,hr,ZaH (n:=((n/64:Nat):Int)) aC aC,show (4:Int)-((n/64:Nat):Int)=((4-n/64:Nat):Int) by omega,ZaH (n:=((4-n/64:Nat):Int)) aC aC,show ((j:Int)+((n/64:Nat):Int))=((3:Nat):Int) by omega,ZaH (n:=((3:Nat):Int)) aC aC,aA aE,Zag aC,Zag aC,Zag aC,Zag aC,Zag aC,aB (by rw [ZaH aC aC];simp)];unfold Zbk.p2;rw [ZaH aC aC,zH,zH,hs,hX]
 have next : ∀(G:Int×List Int→Option (List Int)) (j:Nat) (l:List Int) (s t X:Int),n/64+j<3→l.length=4→[a,b,c,d].getD (n/64+j) 0=s→[a,b,c,d].getD (n/64+j+1) 0=t →
   ZaG .or .u64 (Zbn .u64 s ((n%64:Nat):Int)) (ZbB .u64 t ((64-n%64:Nat):Int))=X →
   Zbk.p1 (N+5) (n:Int) [a,b,c,d] G ((j:Int),l)=G ((j:Int)+1,l.set j X):=fun G j l s t X hl hl4 hs ht hX=>by
  unfold Zbk.p1;dsimp only;rw [hq,hr,ZaH (n:=((n/64:Nat):Int)) aC aC,show (4:Int)-((n/64:Nat):Int)=((4-n/64:Nat):Int) by omega,ZaH (n:=((4-n/64:Nat):Int)) aC aC,show ((j:Int)+((n/64:Nat):Int))=((n/64+j:Nat):Int) by omega,ZaH (n:=((n/64+j:Nat):Int)) aC aC,show ((n/64+j:Nat):Int)+1=((n/64+j+1:Nat):Int) by omega,ZaH (n:=((n/64+j+1:Nat):Int)) aC aC,show (64:Int)-((n%64:Nat):Int)=((64-n%64:Nat):Int) by omega,ZaH (n:=((64-n%64:Nat):Int)) aC aC,
   aA aE,Zag aC,Zag aC,Zag aC,Zag aC,Zag aC,aA aE,Zag aC,Zag aC]
  unfold Zbk.p2;rw [ZaH aC aC,zH,zH,zH,hs,ht,xX];have:(l.set j (Zbn .u64 s ((n%64:Nat):Int))).getD j 0=Zbn .u64 s ((n%64:Nat):Int):=by
   rw [xA,zP aC];rfl
  rw [this,hX]
 have last : ∀(G:Int×List Int→Option (List Int)) (l:List Int) (j:Nat),n/64+j=4→Zbk.p1 (N+5) (n:Int) [a,b,c,d] G ((j:Int),l)=some l:=fun G l j hj=>by
  unfold Zbk.p1;dsimp only;rw [hq,ZaH (n:=((n/64:Nat):Int)) aC aC,ZaH aC aC,aB aE]
 have pw:=Zor n;have cases4:n/64=0∨n/64=1∨n/64=2∨n/64=3:=aC
 have fin : ∀(a b c d A S:Int),isW A→vw a b c d*2^(64-n%64)=A+18446744073709551616*S→vw a b c d/2^(n%64)=S:=fun a b c d A S hA h=>ZqH pT pU tu hA h;have vT : ∀(a b c d A B C D x y z u:Int),a*2^(64-n%64)=A+18446744073709551616*x→b*2^(64-n%64)=B+18446744073709551616*y→c*2^(64-n%64)=C+18446744073709551616*z→d*2^(64-n%64)=D+18446744073709551616*u →
   vw a b c d*2^(64-n%64)=A+18446744073709551616*vw (x+B) (y+C) (z+D) u:=fun a b c d A B C D x y z u a7 b7 c7 d7=>by
  have:vw a b c d*2^(64-n%64)=A+18446744073709551616*x+18446744073709551616*(B+18446744073709551616*y)+2^128*(C+18446744073709551616*z)+2^192*(D+18446744073709551616*u):=by
   rw [←a7,←b7,←c7,←d7];unfold vw;rw [yQ,yQ,yQ,yG,yG,yG]
  rw [this];unfold vw;omega
 have z0:(0:Int)*2^(64-n%64)=0+18446744073709551616*0:=aC
 have W0:isW A∧isW B∧isW C∧isW D:=by unfold isW;omega
 rcases cases4 with q | q | q | q
 ·rw [q] at next top last pw
  rw [Zay];refine Eq.trans (next _ 0 [0,0,0,0] a b (x+B) aC rfl rfl rfl (by rw [a2,b1];exact o1)) ?_;rw [Zay];refine Eq.trans (next _ 1 [_,0,0,0] b c (y+C) aC rfl rfl rfl (by rw [b2,c1];exact o2)) ?_;rw [Zay];refine Eq.trans (next _ 2 [_,_,0,0] c d (z+D) aC rfl rfl rfl (by rw [c2,d1];exact o3)) ?_;rw [Zay];refine Eq.trans (top _ 3 [_,_,_,0] _ _ aC rfl d2) ?_;rw [Zay];refine Eq.trans (last _ _ 4 aC) ?_;rw [pw,show (2:Int)^(64*0)=1 from rfl,uG,fin a b c d A _ W0.1 (vT _ _ _ _ _ _ _ _ _ _ _ _ a7 b7 c7 d7),Zer (by unfold isW;omega) (by unfold isW;omega) (by unfold isW;omega) (by unfold isW;omega)];simp
 ·rw [q] at next top last pw
  rw [Zay];refine Eq.trans (next _ 0 [0,0,0,0] b c (y+C) aC rfl rfl rfl (by rw [b2,c1];exact o2)) ?_;rw [Zay];refine Eq.trans (next _ 1 [_,0,0,0] c d (z+D) aC rfl rfl rfl (by rw [c2,d1];exact o3)) ?_;rw [Zay];refine Eq.trans (top _ 2 [_,_,0,0] _ _ aC rfl d2) ?_;rw [Zay];refine Eq.trans (last _ _ 3 aC) ?_;have:vw a b c d/18446744073709551616=vw b c d 0:=by unfold isW vw at *;omega
  rw [pw,show (2:Int)^(64*1)=18446744073709551616 from rfl,←xM aC,this,fin b c d 0 B _ W0.2.1 (vT _ _ _ _ _ _ _ _ _ _ _ _ b7 c7 d7 z0),Zer (by unfold isW;omega) (by unfold isW;omega) (by unfold isW;omega) (by unfold isW;omega)];simp
 ·rw [q] at next top last pw
  rw [Zay];refine Eq.trans (next _ 0 [0,0,0,0] c d (z+D) aC rfl rfl rfl (by rw [c2,d1];exact o3)) ?_;rw [Zay];refine Eq.trans (top _ 1 [_,0,0,0] _ _ aC rfl d2) ?_;rw [Zay];refine Eq.trans (last _ _ 2 aC) ?_;have:vw a b c d/2^128=vw c d 0 0:=by unfold isW vw at *;omega
  rw [pw,show (2:Int)^(64*2)=2^128 from rfl,←xM aC,this,fin c d 0 0 C _ W0.2.2.1 (vT _ _ _ _ _ _ _ _ _ _ _ _ c7 d7 z0 z0),Zer (by unfold isW;omega) (by unfold isW;omega) (by unfold isW;omega) (by unfold isW;omega)];simp
 rw [q] at next top last pw
 rw [Zay];refine Eq.trans (top _ 0 [0,0,0,0] _ _ aC rfl d2) ?_;rw [Zay];refine Eq.trans (last _ _ 1 aC) ?_;have:vw a b c d/2^192=vw d 0 0 0:=by unfold isW vw at *;omega
 rw [pw,show (2:Int)^(64*3)=2^192 from rfl,←xM aC,this,fin d 0 0 0 D _ W0.2.2.2 (vT _ _ _ _ _ _ _ _ _ _ _ _ d7 z0 z0 z0),Zer (by unfold isW;omega) (by unfold isW;omega) (by unfold isW;omega) (by unfold isW;omega)];simp
theorem ZqN {x:Int} (hx:isW x) (k:Nat) (hk:k≤64):ZaG .and .u64 x (2^k-1)=x%2^k:=by
 have p:=ZbJ k;have q:=ZbJ (64-k);have s:=Zfo hk;have l:(2:Int)^k≤18446744073709551616:=by
  have:=wQ (show (1:Int)≤2^(64-k) by omega) (show (0:Int)≤2^k by omega);omega
 rw [and64 hx (by unfold isW;omega)];have:((2:Int)^k-1).toNat=2^k-1:=by
  have:((2^k:Nat):Int)=(2:Int)^k:=by push_cast;rfl
  omega
 rw [this,sQ];unfold isW at hx
 push_cast
 rw [rG hx.1]
theorem ZtA {x:Int} (hx:isW x):ZaG .and .u64 x 4294967295=x%4294967296:=ZqN hx 32 aC
theorem Zob (x:Int):Zbn .u64 x 32=x/4294967296:=ZlS x (k:=32) aC
theorem mul64 {x y:Int} (hx:isW x) (hy:isW y):ZcJ N x y=some (x*y/18446744073709551616,x*y%18446744073709551616):=by
 unfold ZcJ;rw [Zob x,Zob y,ZtA hx,ZtA hy];unfold isW at hx hy;obtain ⟨x1,x0,ex,hx1,hx2,hx3,hx4⟩ : ∃x1 x0:Int,x=x1*4294967296+x0∧0≤x1∧x1≤4294967295∧0≤x0∧x0≤4294967295:=⟨x/4294967296,x%4294967296,aC,aC,aC,aC,aC⟩
 obtain ⟨y1,y0,ey,hy1,hy2,hy3,hy4⟩ : ∃x1 x0:Int,y=x1*4294967296+x0∧0≤x1∧x1≤4294967295∧0≤x0∧x0≤4294967295:=⟨y/4294967296,y%4294967296,aC,aC,aC,aC,aC⟩
 rw [show x/4294967296=x1 by omega,show x%4294967296=x0 by omega,show y/4294967296=y1 by omega,show y%4294967296=y0 by omega];have b : ∀{u v:Int},0≤u→u≤4294967295→0≤v→v≤4294967295→0≤u*v∧u*v≤18446744065119617025:=fun h1 h2 h3 h4=>⟨wD h1 h3,by
  have:=tL h2 h4 h3 (by omega:(0:Int)≤4294967295);omega⟩
 obtain ⟨p1,p2⟩:=b hx1 hx2 hy1 hy2;obtain ⟨q1,q2⟩:=b hx1 hx2 hy3 hy4;obtain ⟨r1,r2⟩:=b hx3 hx4 hy1 hy2;obtain ⟨s1,s2⟩:=b hx3 hx4 hy3 hy4;have prod:x*y=18446744073709551616*(x1*y1)+4294967296*(x1*y0)+4294967296*(x0*y1)+x0*y0:=by
  rw [ex,ey,yQ,tX,tX];have e1:x1*4294967296*(y1*4294967296)=18446744073709551616*(x1*y1):=by
   rw [yG,vM 4294967296 y1,←yG x1 y1];omega
  have e2:x1*4294967296*y0=4294967296*(x1*y0):=by rw [yJ x1,yG]
  have e3:x0*(y1*4294967296)=4294967296*(x0*y1):=by rw [←yG,yJ]
  rw [e1,e2,e3];omega
 rw [prod];generalize x1*y1=P at *;generalize x1*y0=Q at *;generalize x0*y1=R at *;generalize x0*y0=S at *;rw [ZcO (n:=S) aC aC,ZcO (n:=Q) aC aC,ZcO (n:=R) aC aC,ZcO (n:=P) aC aC,Zob S,ZcO (n:=Q+S/4294967296) aC aC,Zob,ZtA (by unfold isW;omega),ZcO (n:=P+(Q+S/4294967296)/4294967296) aC aC,ZcO (n:=(Q+S/4294967296)%4294967296+R) aC aC,Zob,ZcO aC aC,ZfC];have:P+(Q+S/4294967296)/4294967296+((Q+S/4294967296)%4294967296+R)/4294967296=(18446744073709551616*P+4294967296*Q+4294967296*R+S)/18446744073709551616:=aC
 rw [this]
theorem mulc {x y c:Int} (hx:isW x) (hy:isW y) (hc:isW c) : ∃hi lo s c':Int,ZcJ N x y=some (hi,lo)∧ZdW N lo c 0=some (s,c')∧isW s∧isW (v64 (hi+c'))∧s+18446744073709551616*(v64 (hi+c'))=x*y+c:=by
 have h:=mul64 (N:=N) hx hy;obtain ⟨s,c',e,k,l,m,n⟩:=ZtC (N:=N) (x:=x*y%18446744073709551616) (y:=c) (c:=0) (by unfold isW;omega) hc aC;refine ⟨_,_,s,c',h,e,k,?_⟩;have:0≤x*y∧x*y≤340282366920938463426481119284349108225:=by
  unfold isW at hx hy;refine ⟨wD hx.1 hy.1,?_⟩;have:=tL (show x≤18446744073709551615 by omega) (show y≤18446744073709551615 by omega) hy.1 aC;omega
 unfold isW at *;generalize x*y=P at *;rw [ZcO aC aC];omega
theorem ZlQ (hN:10≤N) {m y:Int} (hm:isN m) (hy:isW y) :
  ZbX N (nw m) y=some (nw (m*y%2^256),decide (2^256≤m*y)):=by
 obtain ⟨a,b,c,d,ha,hb,hc,hd,rfl⟩:=ZdP hm;rw [Zer ha hb hc hd];obtain ⟨N,rfl⟩ : ∃q,N=q+5:=⟨N-5,aC⟩
 obtain ⟨x0,l0,s0,c0,e0,f0,g0,h0,i0⟩:=mulc (N:=N+5) ha hy isW0;obtain ⟨x1,l1,s1,c1,e1,f1,g1,h1,i1⟩:=mulc (N:=N+5) hb hy h0;obtain ⟨x2,l2,s2,c2,e2,f2,g2,h2,i2⟩:=mulc (N:=N+5) hc hy h1;obtain ⟨x3,l3,s3,c3,e3,f3,g3,h3,i3⟩:=mulc (N:=N+5) hd hy h2;unfold ZbX;have t : ∀(G:Int×Int×List Int→Option (List Int×Bool)) (j:Nat) (l:List Int) (c hi lo s c':Int),j<4→ZcJ (N+5) (l.getD j 0) y=some (hi,lo)→ZdW (N+5) lo c 0=some (s,c') →
   ZbX.p1 (N+5) y G (c,(j:Int),l)=G (v64 (hi+c'),(j:Int)+1,l.set j s):=fun G j l c hi lo s c' hj h h'=>by
  unfold ZbX.p1;dsimp only;rw [aA aE,Zag aC,zH,h,Zab];dsimp only;rw [h',Zab,ZaH aC aC]
 have u : ∀(G:Int×Int×List Int→Option (List Int×Bool)) (l:List Int) (c:Int),ZbX.p1 (N+5) y G (c,4,l)=some (l,c != 0):=fun G l c=>by
  unfold ZbX.p1;dsimp only;rw [aB aD]
 rw [Zay];refine Eq.trans (t _ 0 [a,b,c,d] 0 x0 l0 s0 c0 aC e0 f0) ?_;rw [Zay];refine Eq.trans (t _ 1 [s0,b,c,d] _ x1 l1 s1 c1 aC e1 f1) ?_;rw [Zay];refine Eq.trans (t _ 2 [s0,s1,c,d] _ x2 l2 s2 c2 aC e2 f2) ?_;rw [Zay];refine Eq.trans (t _ 3 [s0,s1,s2,d] _ x3 l3 s3 c3 aC e3 f3) ?_;rw [Zay];refine Eq.trans (u _ [s0,s1,s2,s3] _) ?_;rw [←Zer g0 g1 g2 g3];have ex:vw a b c d*y=a*y+18446744073709551616*(b*y)+2^128*(c*y)+2^192*(d*y):=by
  unfold vw;rw [yQ,yQ,yQ,yG,yG,yG]
 have key:vw a b c d*y=vw s0 s1 s2 s3+2^256*(v64 (x3+c3)):=by rw [ex];unfold vw;omega
 have r:=ZkU g0 g1 g2 g3;unfold isN at r;unfold isW at h3;have e5:(vw a b c d*y)%2^256=vw s0 s1 s2 s3:=aC
 rw [e5];have e6:(v64 (x3+c3) != 0)=decide (2^256≤vw a b c d*y):=by
  rw [wA];simp only [bne_iff_ne,ne_eq,decide_eq_true_eq];omega
 rw [e6]
end Go.Dn.F
set_option maxRecDepth 40000
namespace Go.Dn.F
open Go.Dn
variable {N:Nat}
def Zhe (x:Int):Nat:=if x.toNat=0 then 0 else pM x.toNat+1
theorem Zih {x:Int} {k:Nat} (h:x<2^k):Zhe x≤k:=by
 unfold Zhe;split
 ·omega
 rename_i h0;have:x.toNat<2^k:=by
  have:((2^k:Nat):Int)=(2:Int)^k:=by push_cast;rfl
  omega
 have:=(Nat.log2_lt h0).2 this;omega
theorem Ztr {x:Int} {k:Nat} (h:2^k≤x):k<Zhe x:=by
 unfold Zhe;have c:((2^k:Nat):Int)=(2:Int)^k:=by push_cast;rfl
 have p:=Nat.two_pow_pos k;have:2^k≤x.toNat:=aC
 rw [aB aC];have:=(Nat.le_log2 aC).2 this;omega
theorem blen_eq {x:Int} {k:Nat} (h:2^k≤x) (h2:x<2^(k+1)):Zhe x=k+1:=by
 have:=Zih h2;have:=Ztr h;omega
theorem ZnI {x:Int} (h:0≤x):x<2^Zhe x:=by
 unfold Zhe;split
 ·have:x=0:=by omega
  subst this;decide
 rename_i h0;have:=@Nat.lt_log2_self x.toNat;have c:((2^(pM x.toNat+1):Nat):Int)=(2:Int)^(pM x.toNat+1):=by push_cast;rfl
 omega
theorem Zts {x:Int} (h:0<x):2^(Zhe x-1)≤x∧0<Zhe x:=by
 unfold Zhe;rw [aB aC];have:=Nat.log2_self_le (n:=x.toNat) aC;have c:((2^(pM x.toNat):Nat):Int)=(2:Int)^(pM x.toNat):=by push_cast;rfl
 rw [Nat.add_sub_cancel];omega
theorem Zgk {x:Int} (k:Nat) (h:0≤x) (h2:2^k≤x):Zhe x=k+Zhe (x/2^k):=by
 have p:=ZbJ k;have q:0<x/2^k:=wX aC ((Int.le_ediv_iff_mul_le p).2 (by omega:(1:Int)*2^k≤x));have a:=ZnI (x:=x/2^k) aC;obtain ⟨b,b0⟩:=Zts q;have e:=yZ x (2^k);have r0:=vJ x (b:=2^k) aC;have r1:=wW x p;obtain ⟨j,hj⟩ : ∃j,Zhe (x/2^k)=j+1:=⟨Zhe (x/2^k)-1,aC⟩
 rw [hj] at a b ⊢;rw [Nat.add_sub_cancel] at b;refine blen_eq (k:=k+j) ?_ ?_
 ·rw [xO];have:=wQ b (show (0:Int)≤2^k by omega);rw [yJ (2^k) (x/2^k)] at this;omega
 rw [show k+j+1=k+(j+1) by omega,xO];have:=wQ (show x/2^k+1≤2^(j+1) by omega) (show (0:Int)≤2^k by omega);rw [tX,yJ (2^k) (x/2^k),tM] at this;omega
def tab8:List UInt8:=(List.range 256).map fun i:Nat=>UInt8.ofNat (Zhe (i:Int))
theorem Zqv (x:Int) (hx:0≤x∧x<256) (n:Int) (hn:0≤n∧n<1000):ZaB.p3 N x n=some (n+Zhe x):=by
 unfold ZaB.p3;rw [v8_id hx.1 hx.2,Zag hx.1];rw [Zag (by
  refine wX hx.2 ?_;decide +kernel)]
 have tb : ∀i:Fin 256,(UInt8.toNat (zF tab8 i.val 0):Nat)=Zhe (i.val:Int):=by decide +kernel
 have:=tb ⟨x.toNat,aC⟩;rw [show ((x.toNat:Nat):Int)=x by omega] at this;have te:(UInt8.toNat (zF tab8 (zC x) 0))=Zhe x:=this;have hb:Zhe x≤8:=Zih (k:=8) aC;rw [show ∀(l:List UInt8),l=tab8→(UInt8.toNat (zF l (zC x) 0))=Zhe x from fun l e=>by rw [e];exact te]
 ·rw [ZaH (n:=(Zhe x:Int)) aC aC,ZaH aC aC]
 decide +kernel
theorem len64 {x:Int} (hx:isW x):ZaB N x=some (Zhe x:Int):=by
 have sh : ∀y:Int,Zbn .u64 y 16=y/65536:=fun y=>ZlS y (k:=16) aC;have sh8 : ∀y:Int,Zbn .u64 y 8=y/256:=fun y=>ZlS y (k:=8) aC;unfold isW at hx;have p2 : ∀(y n:Int),0≤y∧y<65536→0≤n∧n<900→ZaB.p2 N y n=some (n+Zhe y):=fun y n hy hn=>by
  unfold ZaB.p2;by_cases h:256≤y
  ·rw [aA (aH h),sh8,ZaH aC aC,Zqv _ aC _ aC,Zgk (x:=y) 8 aC aC,show (2:Int)^8=256 from rfl]
   congr 1;omega
  rw [aB (aH h),Zqv _ aC _ aC]
 have p1 : ∀(y n:Int),0≤y∧y<4294967296→0≤n∧n<800→ZaB.p1 N y n=some (n+Zhe y):=fun y n hy hn=>by
  unfold ZaB.p1;by_cases h:65536≤y
  ·rw [aA (aH h),sh,ZaH aC aC,p2 _ _ aC aC,Zgk (x:=y) 16 aC aC,show (2:Int)^16=65536 from rfl]
   congr 1;omega
  rw [aB (aH h),p2 _ _ aC aC]
 unfold ZaB;by_cases h:4294967296≤x
 ·rw [aA (aH h),Zob,p1 _ _ aC aC,Zgk (x:=x) 32 aC aC,show (2:Int)^32=4294967296 from rfl]
  congr 1
 rw [aB (aH h),p1 _ _ aC aC,pN]
theorem Zki (hN:10≤N) {m:Int} (hm:isN m):Zcw N (nw m)=some (Zhe m:Int):=by
 obtain ⟨a,b,c,d,ha,hb,hc,hd,rfl⟩:=ZdP hm;rw [Zer ha hb hc hd];obtain ⟨N,rfl⟩ : ∃q,N=q+5:=⟨N-5,aC⟩
 have bl : ∀{x:Int},isW x→Zhe x≤64:=fun h=>Zih (by unfold isW at h;exact h.2);unfold Zcw;have t : ∀(G:Int→Option Int) (j:Nat) (x:Int),j<4→[a,b,c,d].getD j 0=x→isW x→Zcw.p1 (N+5) [a,b,c,d] G (j:Int)=if x≠0 then some ((64*j+Zhe x:Nat):Int) else G ((j:Int)-1):=fun G j x hj h hx=>by
  have:=bl hx;unfold Zcw.p1;rw [aA aD,Zag aC,Zag aC,zH,h,len64 hx,Zab,ZaH (n:=64*(j:Int)) aC aC,ZaH aC aC,ZaH aC aC];simp only [bne_iff_ne]
  push_cast
  rfl
 have u : ∀G:Int→Option Int,Zcw.p1 (N+5) [a,b,c,d] G (-1)=some 0:=fun G=>by
  unfold Zcw.p1;rw [aB aD]
 rw [Zay];refine Eq.trans (t _ 3 d aC rfl hd) ?_;have ha':=ha;have hb':=hb;have hc':=hc;have hd':=hd;unfold isW at ha' hb' hc' hd';by_cases h3:d=0
 ·rw [aB (aH h3),Zay];refine Eq.trans (t _ 2 c aC rfl hc) ?_;by_cases h2:c=0
  ·rw [aB (aH h2),Zay];refine Eq.trans (t _ 1 b aC rfl hb) ?_;by_cases h1:b=0
   ·rw [aB (aH h1),Zay];refine Eq.trans (t _ 0 a aC rfl ha) ?_;have:vw a b c d=a:=by unfold vw;omega
    rw [this];by_cases h0:a=0
    ·rw [aB (aH h0),Zay];refine Eq.trans (u _) ?_;rw [h0];rfl
    rw [aA h0];congr 2;omega
   rw [aA h1];have e:vw a b c d/2^64=b:=by rw [show (2:Int)^64=18446744073709551616 from rfl];unfold vw;omega
   rw [Zgk (x:=vw a b c d) 64 (by unfold vw;omega) (by rw [show (2:Int)^64=18446744073709551616 from rfl];unfold vw;omega),e]
  rw [aA h2];have e:vw a b c d/2^128=c:=by rw [show (2:Int)^128=2^128 from rfl];unfold vw;omega
  rw [Zgk (x:=vw a b c d) 128 (by unfold vw;omega) (by rw [show (2:Int)^128=2^128 from rfl];unfold vw;omega),e]
 rw [aA h3];have e:vw a b c d/2^192=d:=by rw [show (2:Int)^192=2^192 from rfl];unfold vw;omega
 rw [Zgk (x:=vw a b c d) 192 (by unfold vw;omega) (by rw [show (2:Int)^192=2^192 from rfl];unfold vw;omega),e]
theorem ZeB {a b:Int} (h:0≤a):zR a b=a/b:=wM h
theorem Zfi {a b:Int} (h:0≤a):yA a b=a%b:=xJ h
theorem div_two {M y T V q1 q0 R R2 un1 un0 un32:Int} (hT:0<T) (hy:y*T=V*4294967296) (hM:M*T=un32*18446744073709551616+un1*4294967296+un0)
  (h1:un32=q1*V+R) (h2:R*4294967296+un1=q0*V+R2) (hR2:0≤R2∧R2<V) (h0:0≤un0∧un0<4294967296) (hy0:0<y) :
  (q1*4294967296+q0)=M/y∧(R2*4294967296+un0)/T=M%y:=by
 have k:M*T=(q1*4294967296+q0)*y*T+(R2*4294967296+un0):=by
  have e1:(q1*4294967296+q0)*y*T=(q1*V)*18446744073709551616+(q0*V)*4294967296:=by
   rw [yG,hy,yQ,←yG q0,yG q1,vM 4294967296 V,←yG q1 V];omega
  rw [e1,hM,h1];rw [yQ];omega
 have e:(M-(q1*4294967296+q0)*y)*T=R2*4294967296+un0:=by rw [Int.sub_mul];omega
 have lt:(M-(q1*4294967296+q0)*y)*T<y*T:=by rw [e,hy];omega
 have lt':=Int.lt_of_mul_lt_mul_right lt (vX hT);have ge:0*T≤(M-(q1*4294967296+q0)*y)*T:=by rw [e];omega
 have ge':=Int.le_of_mul_le_mul_right ge hT;have d:=(uY hy0 (a:=M) (b:=y) (q:=q1*4294967296+q0) (r:=M-(q1*4294967296+q0)*y)).2 ⟨by rw [yJ y];omega,ge',lt'⟩;refine ⟨d.1.symm,?_⟩;rw [←e,Int.mul_ediv_cancel _ aC,d.2]
theorem div64 (hN:10≤N) {hi lo y:Int} (hy0:0<y) (hy:y<4294967296) (h0:0≤hi) (h1:hi<y) (hl:isW lo) :
  Zak N hi lo y=some ((hi*18446744073709551616+lo)/y,(hi*18446744073709551616+lo)%y):=by
 have hl':=hl;unfold isW at hl';unfold Zak;rw [aB aE,aB aE];by_cases hz:hi=0
 ·subst hz;rw [aA (by rfl),Zag aC,ZeB hl'.1,Zfi hl'.1,Int.zero_mul,pN];have:lo/y≤lo:=uC _ hl'.1;have:0≤lo/y:=xD hl'.1 aC;rw [ZcO aC aC]
 rw [aB (aH hz)];have by1:=Zih (x:=y) (k:=32) (by rw [show (2:Int)^32=4294967296 from rfl];omega);obtain ⟨by2,by3⟩:=Zts hy0;have by4:=ZnI (x:=y) aC;obtain ⟨s,hs,hs1,hs2⟩ : ∃s:Nat,64-s=Zhe y∧32≤s∧s<64:=⟨64-Zhe y,aC,aC,aC⟩
 have lz:ZbP N y=some (s:Int):=by
  unfold ZbP;rw [len64 (by unfold isW;omega),Zab,ZaH aC aC,←hs]
  congr 1;omega
 rw [lz,Zab];have vs:v64 (s:Int)=(s:Int):=ZcO aC aC;have vs':v64 (64-(s:Int))=((64-s:Nat):Int):=by rw [ZcO aC aC];omega
 have pT:=ZbJ s;have split:=Zfo (k:=s) aC;have t32:(2:Int)^s=2^(s-32)*4294967296:=by rw [show (4294967296:Int)=2^32 from rfl,←xO,show s-32+32=s by omega]
 rw [hs] at split;have Ylt:y*2^s<18446744073709551616:=by
  have:=tK by4 pT;rw [yJ (2^Zhe y),split] at this;exact this
 have Yge:0<y*2^s:=qV hy0 pT;have eY:ZbB .u64 y (v64 (s:Int))=y*2^s:=by rw [vs,Zpj y aC];omega
 have yV:y*2^s=y*2^(s-32)*4294967296:=by rw [t32,yG]
 obtain ⟨A,h,a1,a2,a3,a4,a5,a6,a7,a8⟩:=ZdC hl (k:=s) aC;have hiA:ZbB .u64 hi (v64 (s:Int))=hi*2^s:=by
  rw [vs,Zpj hi aC];have:=tK h1 pT;have:0≤hi*2^s:=wD h0 aC;omega
 have hi1:(hi+1)*2^s≤y*2^s:=wT aC aC;rw [yQ,uG] at hi1;have hi0:0≤hi*2^s:=wD h0 aC;have eU:ZaG .or .u64 (ZbB .u64 hi (v64 (s:Int))) (Zbn .u64 lo (v64 (64-v64 (s:Int))))=hi*2^s+h:=by
  rw [hiA,vs,vs',a2];exact ZhP (k:=s) aC hi0 aC (uW _ _) a5 a6
 have eL:ZbB .u64 lo (v64 (s:Int))=A:=by rw [vs];exact a1
 have hM:(hi*18446744073709551616+lo)*2^s=(hi*2^s+h)*18446744073709551616+A/4294967296*4294967296+A%4294967296:=by
  rw [yQ,a7,yG,yJ 18446744073709551616,←yG,yQ];omega
 have pV:0<y*2^(s-32):=qV hy0 (ZbJ _);generalize hV:y*2^(s-32)=V at *;generalize hUU:hi*2^s+h=U at *;generalize hTT:(2:Int)^s=T at *;have eV:Zbn .u64 (y*T) 32=V:=by rw [Zob];omega
 have eZ:ZaG .and .u64 (y*T) 4294967295=0:=by rw [ZtA (by unfold isW;omega)];omega
 have eA1:Zbn .u64 A 32=A/4294967296:=Zob A;have eA0:ZaG .and .u64 A 4294967295=A%4294967296:=ZtA (by unfold isW;omega);have U0:0≤U∧U<V*4294967296:=aC
 have dU:=yZ U V;have rU0:=vJ U (b:=V) aC;have rU1:=wW U pV;have qU0:0≤U/V:=xD U0.1 aC;have qU1:U/V<4294967296:=wG pV (by rw [yJ];exact U0.2);generalize hq1:U/V=q1 at *;generalize hR:U%V=R at *;have mq1:0≤q1*V:=wD qU0 aC;have B0:0≤R*4294967296+A/4294967296∧R*4294967296+A/4294967296<V*4294967296:=aC
 generalize hB:R*4294967296+A/4294967296=B at *;have dB:=yZ B V;have rB0:=vJ B (b:=V) aC;have rB1:=wW B pV;have qB0:0≤B/V:=xD B0.1 aC;have qB1:B/V<4294967296:=wG pV (by rw [yJ];exact B0.2);generalize hq0:B/V=q0 at *;generalize hR2:B%V=R2 at *;have mq0:0≤q0*V:=wD qB0 aC;obtain ⟨f1,f2⟩:=div_two (M:=hi*18446744073709551616+lo) (y:=y) (T:=T) (V:=V) (q1:=q1) (q0:=q0) (R:=R) (R2:=R2) (un1:=A/4294967296) (un0:=A%4294967296) (un32:=U) pT aC hM dU.symm (by rw [hB];exact dB.symm) ⟨rB0,rB1⟩ aC hy0;have yq1:q1*(y*T)=(q1*V)*4294967296:=by rw [yV,←yG]
 have yq0:q0*(y*T)=(q0*V)*4294967296:=by rw [yV,←yG]
 obtain ⟨N,rfl⟩ : ∃q,N=q+1:=⟨N-1,aC⟩
 have vB:v64 (v64 (v64 (U*4294967296)+A/4294967296)-v64 (q1*(y*T)))=B:=by
  rw [yq1,ZfC,ZfC,ZfC,ZfC];omega
 have vE:v64 (v64 (v64 (B*4294967296)+A%4294967296)-v64 (q0*(y*T)))=R2*4294967296+A%4294967296:=by
  rw [yq0,ZfC,ZfC,ZfC,ZfC];omega
 have s1 : ∀G,Zak.p1 (N+1) y (s:Int) hi lo G (q1,R)=Zak.p3 (N+1) y (s:Int) hi lo q1:=fun G=>by
  unfold Zak.p1;dsimp only;rw [eY,eL,eZ,eA1,aB aE,sH,ZcO (n:=0) aC aC,aB (by
   simp only [decide_eq_true_eq,gt_iff_lt,Int.not_lt];rw [ZfC];omega)]
 have s4 : ∀G,Zak.p4 (N+1) y (s:Int) lo q1 hi G (R2,q0)=Zak.p6 (N+1) y (s:Int) lo q1 hi q0:=fun G=>by
  unfold Zak.p4;dsimp only;rw [eY,eL,eZ,eA0,aB aE,sH,ZcO (n:=0) aC aC,aB (by
   simp only [decide_eq_true_eq,gt_iff_lt,Int.not_lt];rw [ZfC];omega)]
 rw [Zag (by rw [vs];omega),Zag (by rw [vs,vs'];omega),eY,eV,Zag aC,eU,ZeB U0.1,hq1,ZcO (n:=q1) aC aC,ZcO (n:=q1*V) aC aC,show U-q1*V=R by omega,ZcO (n:=R) aC aC,Zay,s1];unfold Zak.p3;rw [eY,eL,eV,eU,eA1,Zag aC,vB,ZeB B0.1,hq0,ZcO (n:=q0) aC aC,ZcO (n:=q0*V) aC aC,show B-q0*V=R2 by omega,ZcO (n:=R2) aC aC,Zay,s4];unfold Zak.p6;rw [Zag (by rw [vs];omega),eY,eL,eU,eA1,eA0,vB,vE,vs,ZlS _ (k:=s) aC,hTT,f2,ZcO (n:=q1*4294967296) aC aC,ZcO (n:=q1*4294967296+q0) aC aC,f1]
theorem ZmJ (hN:10≤N) {m y:Int} (hm:isN m) (hy0:0<y) (hy:y<4294967296):Zcs N (nw m) y=some (nw (m/y),m%y):=by
 obtain ⟨a,b,c,d,ha,hb,hc,hd,rfl⟩:=ZdP hm;rw [Zer ha hb hc hd];obtain ⟨N,rfl⟩ : ∃q,N=q+5:=⟨N-5,aC⟩
 unfold Zcs;rw [aB aE];have t : ∀(G:Int×Int×List Int→Option (List Int×Int)) (j:Nat) (l:List Int) (x r q r':Int),j<4→l.getD j 0=x→isW x→0≤r→r<y→(r*18446744073709551616+x)/y=q→(r*18446744073709551616+x)%y=r' →
   Zcs.p1 (N+5) y G (r,(j:Int),l)=G (r',(j:Int)-1,l.set j q):=fun G j l x r q r' hj hx hw h0 h1 hq hr=>by
  unfold Zcs.p1;dsimp only;rw [aA aD,Zag aC,Zag aC,zH,hx,div64 aC hy0 hy h0 h1 hw,Zab,hq,hr,ZaH aC aC]
 have u : ∀(G:Int×Int×List Int→Option (List Int×Int)) (l:List Int) (r:Int),Zcs.p1 (N+5) y G (r,-1,l)=some (l,r):=fun G l r=>by
  unfold Zcs.p1;dsimp only;rw [aB aD]
 have step : ∀{r x:Int},0≤r→r<y→isW x→∃q r',(r*18446744073709551616+x)/y=q∧(r*18446744073709551616+x)%y=r'∧isW q∧0≤r'∧r'<y∧r*18446744073709551616+x=q*y+r':=fun {r x} h0 h1 hx=>by
  unfold isW at hx;have e:=yZ (r*18446744073709551616+x) y;refine ⟨_,_,rfl,rfl,⟨xD aC aC,wG hy0 ?_⟩,vJ _ aC,wW _ hy0,e.symm⟩;omega
 obtain ⟨q3,r3,a3,b3,c3,d3,e3,f3⟩:=step (r:=0) (x:=d) aC hy0 hd;obtain ⟨q2,r2,a2,b2,c2,d2,e2,f2⟩:=step d3 e3 hc;obtain ⟨q1,r1,a1,b1,c1,d1,e1,f1⟩:=step d2 e2 hb;obtain ⟨q0,r0,a0,b0,c0,d0,e0,f0⟩:=step d1 e1 ha;rw [Zay];refine Eq.trans (t _ 3 [a,b,c,d] d 0 q3 r3 aC rfl hd aC hy0 a3 b3) ?_;rw [Zay];refine Eq.trans (t _ 2 [a,b,c,q3] c r3 q2 r2 aC rfl hc d3 e3 a2 b2) ?_;rw [Zay];refine Eq.trans (t _ 1 [a,b,q2,q3] b r2 q1 r1 aC rfl hb d2 e2 a1 b1) ?_;rw [Zay];refine Eq.trans (t _ 0 [a,q1,q2,q3] a r1 q0 r0 aC rfl ha d1 e1 a0 b0) ?_;rw [Zay];refine Eq.trans (u _ [q0,q1,q2,q3] r0) ?_;have key:vw a b c d=vw q0 q1 q2 q3*y+r0:=by
  have:vw q0 q1 q2 q3*y=q0*y+18446744073709551616*(q1*y)+2^128*(q2*y)+2^192*(q3*y):=by
   unfold vw;rw [yQ,yQ,yQ,yG,yG,yG]
  rw [this];unfold vw;omega
 have d:=(uY hy0 (a:=vw a b c d) (q:=vw q0 q1 q2 q3) (r:=r0)).2 ⟨by rw [yJ y];omega,d0,e0⟩;rw [d.1,d.2,Zer c0 c1 c2 c3]
def isU (x:Int):Prop:=0≤x∧x<9223372036854775808
theorem of_i (x:Int) (h:isU x):(BitVec.ofInt 64 x).toNat=x.toNat:=by
 unfold isU at h;rw [BitVec.toNat_ofInt];omega
theorem wrapi (n:Nat) (h:n<9223372036854775808):IntKind.wrap .i64 (n:Int)=n:=ZaH aC aC
theorem and_i {x y:Int} (hx:isU x) (hy:isU y):ZaG .and .i64 x y=((x.toNat &&& y.toNat:Nat):Int):=by
 show IntKind.wrap .i64 (((BitVec.ofInt 64 x &&& BitVec.ofInt 64 y).toNat:Nat):Int)=_;have:x.toNat &&& y.toNat≤x.toNat:=Nat.and_le_left;unfold isU at *;rw [BitVec.toNat_and,of_i x hx,of_i y hy,wrapi _ aC]
theorem or_i {x y:Int} (hx:isU x) (hy:isU y):ZaG .or .i64 x y=((x.toNat ||| y.toNat:Nat):Int):=by
 show IntKind.wrap .i64 (((BitVec.ofInt 64 x ||| BitVec.ofInt 64 y).toNat:Nat):Int)=_;have:x.toNat ||| y.toNat<2^63:=Nat.or_lt_two_pow (by unfold isU at hx;omega) (by unfold isU at hy;omega)
 rw [BitVec.toNat_or,of_i x hx,of_i y hy,wrapi _ aC]
theorem and_pow2 (x i:Nat):x &&& 2^i=if x.testBit i then 2^i else 0:=by
 apply Nat.eq_of_testBit_eq;intro j;rw [Nat.testBit_and,tC];by_cases h:i=j
 ·subst h;cases hx:x.testBit i<;>simp [tC]
 cases hx:x.testBit i<;>simp [tC,h]
theorem and_word {b:Int} (h:isU b):ZaG .and .i64 b 8388607=b%8388608:=by
 rw [and_i h (by unfold isU;omega),show (8388607:Int).toNat=2^23-1 from rfl,sQ];unfold isU at h;omega
theorem ZqM {b:Int} (h:isU b):(ZaG .and .i64 b 8388608 != 0)=decide (b/8388608%2=1):=by
 rw [and_i h (by unfold isU;omega),show (8388608:Int).toNat=2^23 from rfl,and_pow2];have t:b.toNat.testBit 23=decide (b/8388608%2=1):=by
  rw [Nat.testBit_eq_decide_div_mod_eq];unfold isU at h;rw [decide_eq_decide];omega
 rw [t];by_cases k:b/8388608%2=1
 ·simp [k]
 simp [k]
theorem Zqd {b:Int}:Zbn .i64 b 24=b/16777216:=Zpi b 24 aC
def ZfW (b:Int):Int:=b%8388608
def ZeO (b:Int):Nat:=(b/16777216).toNat
def cN (b:Int):Int:=if ZeO b≤3 then ZfW b/2^(8*(3-ZeO b)) else ZfW b*2^(8*(ZeO b-3))%2^256
def cNeg (b:Int):Bool:=decide (ZfW b≠0∧b/8388608%2=1)
def Ztl (b:Int):Bool:=decide (ZfW b≠0∧(34<ZeO b∨255<ZfW b∧33<ZeO b∨65535<ZfW b∧32<ZeO b))
def ZpG (b:Int):Bool:=decide (0≤b∧b<4294967296)
def Zgr (b:Int):Int×Bool×Bool:=if ZpG b then (cN b,cNeg b,Ztl b) else (0,false,false)
theorem cN_isN {b:Int} (h:ZpG b=true):isN (cN b):=by
 simp only [ZpG,decide_eq_true_eq] at h;unfold cN isN;have w:0≤ZfW b∧ZfW b<8388608:=by unfold ZfW;omega
 split
 ·have p:=ZbJ (8*(3-ZeO b));have:ZfW b/2^(8*(3-ZeO b))≤ZfW b:=uC _ w.1;have:0≤ZfW b/2^(8*(3-ZeO b)):=xD w.1 aC;omega
 omega
theorem Zfm (b:Int):isN (Zgr b).1:=by
 unfold Zgr;split
 ·rename_i h;exact cN_isN h
 unfold isN;dsimp only;omega
theorem ZfI (hN:10≤N) (b:Int):ZaO N b=some (nw (Zgr b).1,(Zgr b).2.1,(Zgr b).2.2):=by
 unfold ZaO;rw [Zif,Zab];cases hg:ZpG b with
 | false=>
  have:decide (0≤b∧b<4294967296)=false:=hg;rw [this,aA (by rfl)];unfold Zgr;rw [hg,Zef];rfl
 | true=>
  have hg':decide (0≤b∧b<4294967296)=true:=hg;rw [hg',aB aD];simp only [decide_eq_true_eq] at hg';have hu:isU b:=by unfold isU;omega
  have w:0≤ZfW b∧ZfW b<8388608:=by unfold ZfW;omega
  have s:b/16777216=(ZeO b:Int):=by unfold ZeO;omega
  have s2:ZeO b<256:=by unfold ZeO;omega
  have e:ZaG .and .i64 b 8388607=ZfW b:=and_word hu;have wN:isN (ZfW b):=by unfold isN;omega
  have p2 : ∀(neg:Bool) (l:List Int),ZaO.p2 N b neg l=some (l,neg,Ztl b):=fun neg l=>by
   unfold ZaO.p2;rw [e,Zqd,s];simp only [bne_iff_ne,ne_eq,decide_eq_true_eq,gt_iff_lt];unfold Ztl
   repeat' split
   all_goals (congr 2;congr 1;rw [wA];simp only [decide_eq_true_eq,iff_true,true_iff,yR,false_iff,ne_eq];omega)
  have p1 : ∀l:List Int,ZaO.p1 N b l=some (l,cNeg b,Ztl b):=fun l=>by
   unfold ZaO.p1;rw [e,ZqM hu,p2,p2];unfold cNeg;by_cases h0:ZfW b=0
   ·rw [aB (by simp [h0])];simp [h0]
   rw [aA (by simp [h0])];simp [h0]
  rw [e,ZcO w.1 aC,Zgm (by unfold isW;omega),Zab,Zqd,s];unfold Zgr;rw [hg,aA rfl];dsimp only;unfold cN;by_cases h3:ZeO b≤3
  ·rw [aA aE,aA h3,show (3:Int)-(ZeO b:Int)=((3-ZeO b:Nat):Int) by omega,ZaH (n:=((3-ZeO b:Nat):Int)) aC aC,show (8:Int)*((3-ZeO b:Nat):Int)=((8*(3-ZeO b):Nat):Int) by omega,ZaH aC aC,ZiU hN wN _ aC,Zab,p1]
  rw [aB aE,aB h3,show (ZeO b:Int)-3=((ZeO b-3:Nat):Int) by omega,ZaH (n:=((ZeO b-3:Nat):Int)) aC aC,show (8:Int)*((ZeO b-3:Nat):Int)=((8*(ZeO b-3):Nat):Int) by omega,ZaH aC aC,ZiC hN wN _ aC,Zab,p1]
def tgt (b l:Int):Int×Bool:=
 if (Zgr b).2.1||(Zgr b).2.2||(Zgr l).2.1||(Zgr l).2.2||decide ((Zgr b).1=0)||decide ((Zgr l).1<(Zgr b).1) then (0,false) else ((Zgr b).1,true)
theorem ZjM (b l:Int):isN (tgt b l).1:=by
 unfold tgt;split
 ·unfold isN;dsimp only;omega
 exact Zfm b
theorem Zfd (hN:10≤N) (b l:Int):Zcu N b l=some (nw (tgt b l).1,(tgt b l).2):=by
 unfold Zcu;rw [ZfI hN,Zab];dsimp only;rw [ZfI hN,Zab];dsimp only;unfold tgt;have z:=Zej (N:=N) (Zfm b);have le:=ZfY hN (Zfm l) (Zfm b);rw [z,Zab,le,Zab,Zef];cases (Zgr b).2.1<;>cases (Zgr b).2.2<;>cases (Zgr l).2.1<;>cases (Zgr l).2.2<;>cases (decide ((Zgr b).1=0))<;>cases (decide ((Zgr l).1<(Zgr b).1))<;>rfl
theorem Zek {a b:Nat} (h:a≤b):(2:Int)^a≤2^b:=by
 have e:(2:Int)^b=2^a*2^(b-a):=by rw [←xO,show a+(b-a)=b by omega]
 have p:=ZbJ a;have q:=ZbJ (b-a);have:=wQ (show (1:Int)≤2^(b-a) by omega) (show (0:Int)≤2^a by omega);rw [tM] at this;rw [e];exact this
def hv:List Int→Int
 | []=>0
 | x::l=>x+256*hv l
def bys (l:List Int):Prop:=∀x∈l,0≤x∧x<256
theorem ZsK : ∀(l:List Int) (x:Int),hv (l ++ [x])=hv l+x*2^(8*l.length)
 | [],x=>by simp [hv]
 | y::l,x=>by
  rw [List.cons_append,hv,ZsK l x,hv,xW,tX,show (2:Int)^(8*(l.length+1))=256*2^(8*l.length) by rw [show 8*(l.length+1)=8+8*l.length by omega,xO];rfl,vM x 256];omega
theorem ZkL : ∀{l:List Int},bys l→0≤hv l∧hv l<2^(8*l.length)
 | [],_=>by simp [hv]
 | y::l,h=>by
  have ih:=ZkL (l:=l) fun x hx=>h x (List.mem_cons_of_mem _ hx);have:=h y aD;rw [hv,xW,show (2:Int)^(8*(l.length+1))=256*2^(8*l.length) by rw [show 8*(l.length+1)=8+8*l.length by omega,xO];rfl];omega
def pw (j:Nat):Int:=2^(64*j)
theorem Zmw {m X:Int} {j:Nat} (hm:isN m) (hj:j<4) (hX:0≤X) (h:(nw m).getD j 0+X<18446744073709551616):(nw m).set j ((nw m).getD j 0+X)=nw (m+X*2^(64*j))∧isN (m+X*2^(64*j)):=by
 obtain ⟨a,b,c,d,ha,hb,hc,hd,rfl⟩:=ZdP hm;rw [Zer ha hb hc hd] at h ⊢;have cases4:j=0∨j=1∨j=2∨j=3:=aC
 rcases cases4 with rfl | rfl | rfl | rfl
 ·have h':a+X<18446744073709551616:=h;have e:vw a b c d+X*2^(64*0)=vw (a+X) b c d:=by rw [show (2:Int)^(64*0)=1 from rfl];unfold vw;omega
  have w:isW (a+X):=by unfold isW at *;omega
  rw [e,Zer w hb hc hd];exact ⟨rfl,ZkU w hb hc hd⟩
 ·have h':b+X<18446744073709551616:=h;have e:vw a b c d+X*2^(64*1)=vw a (b+X) c d:=by rw [show (2:Int)^(64*1)=18446744073709551616 from rfl];unfold vw;omega
  have w:isW (b+X):=by unfold isW at *;omega
  rw [e,Zer ha w hc hd];exact ⟨rfl,ZkU ha w hc hd⟩
 ·have h':c+X<18446744073709551616:=h;have e:vw a b c d+X*2^(64*2)=vw a b (c+X) d:=by rw [show (2:Int)^(64*2)=2^128 from rfl];unfold vw;omega
  have w:isW (c+X):=by unfold isW at *;omega
  rw [e,Zer ha hb w hd];exact ⟨rfl,ZkU ha hb w hd⟩
 have h':d+X<18446744073709551616:=h;have e:vw a b c d+X*2^(64*3)=vw a b c (d+X):=by rw [show (2:Int)^(64*3)=2^192 from rfl];unfold vw;omega
 have w:isW (d+X):=by unfold isW at *;omega
 rw [e,Zer ha hb hc w];exact ⟨rfl,ZkU ha hb hc w⟩
theorem ZhQ {m:Int} (hm:isN m) {j:Nat} (hj:j<4):(nw m).getD j 0=m/2^(64*j)%18446744073709551616:=by
 have cases4:j=0∨j=1∨j=2∨j=3:=aC
 rcases cases4 with rfl | rfl | rfl | rfl
 ·show m%18446744073709551616=m/2^(64*0)%18446744073709551616;rw [show (2:Int)^(64*0)=1 from rfl,Int.ediv_one]
 ·rfl
 ·rfl
 rfl
theorem ZjJ (hN:40≤N) {h:List Int} (hl:h.length=32) (hb:bys h):ZbC N h=some (nw (hv h)):=by
 unfold ZbC;refine ZbZ (fun m (x:Int×List Int)=>∃i:Nat,i+m=32∧x=((i:Int),nw (hv (h.take i)))) ?_ N 32 _ ⟨0,aC,?_⟩ aC
 ·rintro G m _ ⟨i,hi,rfl⟩ hG;unfold ZbC.p1;dsimp only;by_cases hlt:i<32
  ·have hm:bys (h.take i):=fun x hx=>hb x (uV hx);have lt:=ZkL hm;have ll:(h.take i).length=i:=by rw [xY];omega
   rw [ll] at lt;have x:=hb h[i] (yL aC);have e1:zR (i:Int) 8=((i/8:Nat):Int):=by rw [ZeB aC];omega
   have e2:(8:Int)*yA (i:Int) 8=((8*(i%8):Nat):Int):=by rw [Zfi aC];omega
   have pk:=ZbJ (8*(i%8));have le:(2:Int)^(8*i)=2^(64*(i/8))*2^(8*(i%8)):=by rw [←xO];congr 1;omega
   have mi:isN (hv (h.take i)):=by
    refine ⟨lt.1,wX lt.2 ?_⟩;exact Zek (show 8*i≤256 by omega)
   have gd:=ZhQ mi (j:=i/8) aC;have sm:hv (h.take i)/2^(64*(i/8))<2^(8*(i%8)):=wG (ZbJ _) (by rw [yJ,←le];exact lt.2);have sm0:0≤hv (h.take i)/2^(64*(i/8)):=xD lt.1 (vX (ZbJ _));have T56:(2:Int)^(8*(i%8))*256≤18446744073709551616:=by
    have:=Zek (show 8*(i%8)+8≤64 by omega);rw [xO] at this;exact this
   rw [xH sm0 aC] at gd;have xs:(h[i]+1)*2^(8*(i%8))≤256*2^(8*(i%8)):=wT aC aC;rw [yQ,uG] at xs;have xs0:0≤h[i]*2^(8*(i%8)):=wD x.1 aC;have sh:ZbB .u64 h[i] ((8*(i%8):Nat):Int)=h[i]*2^(8*(i%8)):=by rw [Zpj _ aC];omega
   have or1:ZaG .or .u64 ((nw (hv (h.take i))).getD (i/8) 0) (h[i]*2^(8*(i%8)))=(nw (hv (h.take i))).getD (i/8) 0+h[i]*2^(8*(i%8)):=by
    rw [gd,Zlk (by unfold isW;omega) (by unfold isW;omega),ZhP (k:=8*(i%8)) aC xs0 aC (uW _ _) sm0 sm];omega
   have st:=(Zmw mi (j:=i/8) aC xs0 (by rw [gd];omega)).1;have hx:zF h i 0=h[i]:=by rw [xA,zO aC];rfl
   rw [aA aE,Zag aC,e1,e2,ZaH (n:=((i/8:Nat):Int)) aC aC,ZaH (n:=((8*(i%8):Nat):Int)) aC aC,Zag aC,Zag aC,Zag aC,zH,zH,hx,ZcO x.1 aC,sh,or1,st,ZaH aC aC];refine hG (m-1) _ aC ⟨i+1,aC,?_⟩;have tk:h.take (i+1)=h.take i ++ [h[i]]:=zZ aC;rw [tk,ZsK,ll,le,yG,yJ (2^(8*(i%8)))];rfl
  rw [aB aE,zW aC]
 rw [Zef];rfl
theorem hv_isN {h:List Int} (hl:h.length=32) (hb:bys h):isN (hv h):=by
 have:=ZkL hb;rw [hl] at this;exact this
theorem ZkC (hN:40≤N) {h:List Int} (hl:h.length=32) (hb:bys h) {m:Int} (hm:isN m):Zdt N h (nw m)=some (decide (hv h≤m)):=by
 unfold Zdt;rw [ZjJ hN hl hb,Zab,ZfY aC hm (hv_isN hl hb),Zab];refine ZfZ ?_;simp only [Bool.not_eq_true',decide_eq_false_iff_not];omega
def Zfp (m:Int):Nat:=(Zhe m+7)/8
def ZnN (m:Int):Int:=if Zfp m≤3 then m*2^(8*(3-Zfp m)) else m/2^(8*(Zfp m-3))
def Zrz (m:Int):Int:=if 8388608≤ZnN m then ((Zfp m+1:Nat):Int)*16777216+ZnN m/256 else (Zfp m:Int)*16777216+ZnN m
theorem ZmG {m:Int} (hm:isN m):0≤ZnN m∧ZnN m<16777216:=by
 unfold ZnN;unfold isN at hm;have lt:=ZnI hm.1;have l8:(2:Int)^Zhe m≤2^(8*Zfp m):=Zek (show Zhe m≤8*Zfp m by unfold Zfp;omega);split
 ·have p:=ZbJ (8*(3-Zfp m));refine ⟨wD hm.1 aC,?_⟩;have:=tK (show m<2^(8*Zfp m) by omega) p;rw [←xO,show 8*Zfp m+8*(3-Zfp m)=24 by omega] at this;exact this
 have p:=ZbJ (8*(Zfp m-3));refine ⟨xD hm.1 aC,wG p ?_⟩;rw [show (16777216:Int)=2^24 from rfl,←xO,show 24+8*(Zfp m-3)=8*Zfp m by omega];omega
theorem Ztm {m:Int} (hm:isN m):Zfp m≤32:=by
 have:=Zih (k:=256) (x:=m) hm.2;unfold Zfp;omega
theorem or_low {A w:Int} (hA:0≤A) (hA2:A<4294967296) (h0:0≤w) (h1:w<16777216):ZaG .or .i64 (A*16777216) w=A*16777216+w:=by
 rw [or_i (by unfold isU;omega) (by unfold isU;omega)];have e1:(A*16777216).toNat=A.toNat <<< 24:=by rw [tO];omega
 rw [e1,←rB (show w.toNat<2^24 by omega),tO];omega
theorem Zqe {s:Int} (h:0≤s∧s<1000):ZbB .i64 s 24=s*16777216:=by
 unfold ZbB;show w64 (s*2^min (zC 24) 64)=_;rw [show min (zC 24) 64=24 from rfl,show (2:Int)^24=16777216 from rfl,ZaH aC aC]
theorem bit23 {w:Int} (h:0≤w∧w<16777216):(ZaG .and .i64 w 8388608 != 0)=decide (8388608≤w):=by
 rw [ZqM (by unfold isU;omega),decide_eq_decide];omega
theorem Zkc (hN:10≤N) {m:Int} (hm:isN m):ZaV N (nw m)=some (Zrz m):=by
 have t:=ZmG hm;have l:=Ztm hm;have bl:Zhe m≤256:=Zih hm.2;have e:w64 (zR (w64 ((Zhe m:Int)+7)) 8)=(Zfp m:Int):=by
  rw [ZaH (n:=(Zhe m:Int)+7) aC aC,ZeB aC,ZaH aC aC];unfold Zfp;omega
 have p1:ZaV.p1 N (Zhe m:Int) (ZnN m)=some (Zrz m):=by
  unfold ZaV.p1 ZaV.p2;rw [bit23 t,e,show Zbn .i64 (ZnN m) 8=ZnN m/256 from Zpi (ZnN m) 8 aC];unfold Zrz;by_cases h:8388608≤ZnN m
  ·rw [aA (aH h),aA h,show (Zfp m:Int)+1=((Zfp m+1:Nat):Int) by omega,ZaH aC aC,Zqe aC,or_low aC aC aC aC]
  rw [aB (aH h),aB h,Zqe aC,or_low aC aC aC aC]
 have low : ∀{w:Int},0≤w→w<16777216→w64 (zF (nw w) 0 0)=w:=fun {w} h0 h1=>by
  show w64 (w%18446744073709551616)=w;rw [ZaH aC aC];omega
 unfold ZaV;rw [Zki hN hm,Zab,e];have ct:ZnN m=if Zfp m≤3 then m*2^(8*(3-Zfp m)) else m/2^(8*(Zfp m-3)):=rfl
 by_cases h3:Zfp m≤3
 ·rw [aA h3] at ct;rw [aA aE,show (3:Int)-(Zfp m:Int)=((3-Zfp m:Nat):Int) by omega,ZaH (n:=((3-Zfp m:Nat):Int)) aC aC,show (8:Int)*((3-Zfp m:Nat):Int)=((8*(3-Zfp m):Nat):Int) by omega,ZaH (n:=((8*(3-Zfp m):Nat):Int)) aC aC,ZiC hN hm _ aC,Zab,←ct,xH t.1 aC,low t.1 t.2,p1]
 rw [aB h3] at ct;rw [aB aE,show (Zfp m:Int)-3=((Zfp m-3:Nat):Int) by omega,ZaH (n:=((Zfp m-3:Nat):Int)) aC aC,show (8:Int)*((Zfp m-3:Nat):Int)=((8*(Zfp m-3):Nat):Int) by omega,ZaH (n:=((8*(Zfp m-3):Nat):Int)) aC aC,ZiU hN hm _ aC,Zab,←ct,low t.1 t.2,p1]
def Ziz (p:Zah):Bool:=(tgt p.Limit p.Limit).2&&decide (2≤p.Interval∧p.Interval≤64∧1≤p.Spacing∧p.Spacing≤10000∧0≤p.Future∧p.Future<4294967296)
theorem Zkp (hN:10≤N) (p:Zah):Zeq N p=some (Ziz p):=by
 unfold Zeq;rw [Zfd hN,Zab];dsimp only;unfold Ziz;cases (tgt p.Limit p.Limit).2
 ·rfl
 simp only [aA,Bool.true_and,decide_eq_true_eq]
 repeat' split
 all_goals (congr 1;rw [wA];simp only [decide_eq_true_eq,yR,false_iff];omega)
def Zhm (p:Zah):Int:=p.Interval*p.Spacing
theorem ZgR {p:Zah} (h:Ziz p=true):2≤Zhm p∧Zhm p≤640000:=by
 simp only [Ziz,zV,decide_eq_true_eq] at h;obtain ⟨_,h1,h2,h3,h4,_⟩:=h;unfold Zhm;have a:=tL h1 h3 aC (by omega:0≤p.Interval);have b:=tL h2 h4 aC (by omega:(0:Int)≤64);omega
def ZfB (p:Zah) (f t:Int):Int:=
 if Zhm p*4<(if Zhm p/4>w64 (t-f) then Zhm p/4 else w64 (t-f)) then Zhm p*4 else (if Zhm p/4>w64 (t-f) then Zhm p/4 else w64 (t-f))
theorem Zli {p:Zah} (h:Ziz p=true) (f t:Int):0≤ZfB p f t∧ZfB p f t≤2560000:=by
 have:=ZgR h;unfold ZfB;split<;>split<;>omega
theorem ZkT {p:Zah} (h:Ziz p=true):w64 (p.Interval*p.Spacing)=Zhm p:=by
 have:=ZgR h;exact ZaH (by unfold Zhm at this;omega) (by unfold Zhm at this;omega)
theorem Zot {p:Zah} (h:Ziz p=true) (f t:Int):ZeT N p f t=some (ZfB p f t):=by
 have:=ZgR h;unfold ZeT ZfB;rw [ZkT h,ZeB aC,ZaH (n:=Zhm p*4) aC aC,ZaH (n:=Zhm p/4) aC aC]
def retg (p:Zah) (b f t:Int):Int:=
 if Ziz p=true∧(tgt b p.Limit).2=true∧(tgt b p.Limit).1*ZfB p f t/Zhm p<2^256∧(tgt b p.Limit).1*ZfB p f t/Zhm p≤(tgt p.Limit p.Limit).1
 then Zrz (if (tgt b p.Limit).1*ZfB p f t/Zhm p=0 then 1 else (tgt b p.Limit).1*ZfB p f t/Zhm p) else p.Limit
theorem Ztb {n S D:Int} (hD:0<D):n*S/D=n/D*S+n%D*S/D:=by
 have e:=yZ n D;have:n*S=D*(n/D*S)+n%D*S:=by
  conv=>lhs;rw [←e,yQ]
  rw [Int.mul_right_comm,yJ _ D]
 rw [this,Int.mul_add_ediv_left _ _ aC]
theorem Zky (hN:10≤N) (p:Zah) (b f t:Int):ZbF N p b f t=some (retg p b f t):=by
 unfold ZbF retg;rw [Zfd hN,Zab];dsimp only;rw [Zkp hN,Zab];cases hg:Ziz p with
 | false=>rw [aA (by rfl),aB aD]
 | true=>
  rw [aB aD];cases ht:(tgt b p.Limit).2 with
  | false=>rw [aA (by rfl),aB aD]
  | true=>
   rw [aB aD];have hn:=ZjM b p.Limit;have hL:=ZjM p.Limit p.Limit;have D:=ZgR hg;have S:=Zli hg f t;rw [Zot hg,Zab,ZkT hg,ZcO (n:=Zhm p) aC aC,ZcO (n:=ZfB p f t) aC aC,ZmJ hN hn aC aC,Zab];dsimp only;have hLt:=Zfd hN p.Limit p.Limit;have dp:=Ztb (n:=(tgt b p.Limit).1) (S:=ZfB p f t) (D:=Zhm p) aC;rw [dp];generalize (tgt b p.Limit).1=n at *;generalize (tgt p.Limit p.Limit).1=L at *;generalize ZfB p f t=S' at *;generalize Zhm p=D' at *;have q0:isN (n/D'):=by
    unfold isN at *;have:n/D'≤n:=uC _ hn.1;have:0≤n/D':=xD hn.1 aC;omega
   have r0:=vJ n (b:=D') aC;have r1:=wW n (b:=D') aC;have rs0:0≤n%D'*S':=wD r0 S.1;have rs1:n%D'*S'≤640000*2560000:=tL aC aC S.1 aC;have rs2:n%D'*S'/D'≤n%D'*S':=uC _ rs0;have rs3:0≤n%D'*S'/D':=xD rs0 aC;have qs0:0≤n/D'*S':=wD (by unfold isN at q0;omega) S.1;rw [ZlQ hN q0 (by unfold isW;omega),Zab];dsimp only;rw [Zag aC,ZcO (n:=n%D'*S') aC aC,ZeB rs0,ZcO (n:=n%D'*S'/D') aC aC,Zgm (by unfold isW;omega),Zab,ZfM hN (by unfold isN;omega) (by unfold isN;omega),Zab];dsimp only;rw [hLt,Zab];dsimp only;generalize n/D'*S'=Q at *;generalize n%D'*S'/D'=R at *;have big:(2^256:Int)≤Q∨Q<2^256:=aC
   rcases big with big | big
   ·rw [aA (aH big),aB aC]
   rw [aB (aH big),xH qs0 big];by_cases big2:(2^256:Int)≤Q+R
   ·rw [aA (aH big2),aB aC]
   rw [aB (aH big2),xH aC aC];have qr:isN (Q+R):=by unfold isN;omega
   rw [ZfY hN hL qr,Zab];by_cases hl:L<Q+R
   ·rw [aA (aH hl),aB aC]
   rw [aB (aH hl),Zej qr,Zab,aA (c:=true=true∧true=true∧Q+R<2^256∧Q+R≤L) ⟨rfl,rfl,aC,aC⟩];have enc : ∀{x:Int},isN x→ZbF.p1 N (nw x)=some (Zrz x):=fun h=>by
    unfold ZbF.p1;rw [Zkc hN h,Zab]
   by_cases h0:Q+R=0
   ·rw [aA (aH h0),aA h0,Zgm (by unfold isW;omega),Zab,enc (by unfold isN;omega)]
   rw [aB (aH h0),aB h0,enc qr]
def Zkz (p:Zah) (at_:Zdy) (time:Int):Int:=
 if at_.Height≤0 then p.Limit
 else if Zff p at_.Height then retg p at_.Bits at_.First at_.Time
 else if p.Easy=false then at_.Bits
 else if w64 (time-at_.Time)>w64 (2*p.Spacing) then p.Limit else at_.Hard
theorem Zou (hN:10≤N) (p:Zah) (at_:Zdy) (time:Int):ZeU N p at_ time=some (Zkz p at_ time):=by
 unfold ZeU Zkz;rw [ZlM,Zab,Zky hN,Zab];cases p.Easy<;>cases Zff p at_.Height<;>(simp only [decide_eq_true_eq];repeat' split)<;>first | rfl | simp_all | omega
end Go.Dn.F
namespace Go.Dn.F
open Go.Dn
@[simp] theorem Zel (l:List Int):len (ZdL l)=(l.length:Int):=by simp [len]
theorem rowI_isI (l:List Int):isI (ZdL l)=true:=by simp [isI,ZdL]
theorem Zse (l:List Int):ZkX (ZdL l)=ZdL (l.mergeSort fun x y=>decide (x≤y)):=by
 simp only [ZkX,ZdL,List.map_map]
 congr 2
 have:(Zfr ∘ fun n=>[L.int .i64 n])=id:=rfl;rw [this,List.map_id]
theorem Zsw (n:Nat):(if (11:Int)<(n:Int) then 11 else (n:Int))=((min n 11:Nat):Int):=by
 split<;>omega
abbrev srt (l:List Int):List Int:=l.mergeSort fun x y=>decide (x≤y)
theorem Zmg (l:List Int):(srt l).length=l.length:=List.length_mergeSort l
theorem Zoa (l:List Int):(srt l).Pairwise (fun a b=>a≤b):=by
 have:=List.pairwise_mergeSort (le:=fun x y:Int=>decide (x≤y)) aE aE l;simpa using this
theorem ZmO (l:List Int):(srt l).Perm l:=List.mergeSort_perm _ _
def M (zs:List Int):Int:=(srt (zs.take 11)).getD ((zs.take 11).length/2) 0
theorem tdiv2 (n:Nat):zR (n:Int) 2=((n/2:Nat):Int):=by
 rw [Int.tdiv_eq_ediv];simp
theorem Zsy (N:Nat) (zs:List Int):ZeW N (ZdL zs)=some (M zs):=by
 have e:(min zs.length 11)=(zs.take 11).length:=by simp;omega
 have e':zs.take (zs.take 11).length=zs.take 11:=by rw [←e];apply List.ext_getElem? ;intro i;simp only [List.getElem?_take];split<;>split<;>first | rfl | omega | (rw [List.getElem?_eq_none aC])
 unfold ZeW;simp only [Zel,ZdK,Zsw,List.drop_zero];rw [Zag aC,Zag aE];simp only [zH,Zoi,e,e'];rw [Zbm,Zag aE,Zab];by_cases h0:(zs.take 11).length=0
 ·simp [h0,M]
 simp only [Zel,ZdK];rw [aB (aH h0),Zag (rowI_isI _),Zag aE,Zse,tdiv2];rw [ZaH aC aE,Zag aC,Zag aC];simp only [zH,Nat.zero_add];have hl:(zs.take 11).length/2<(srt (zs.take 11)).length:=by rw [Zmg];omega
 rw [Zin hl,Zax,ZdV];simp only [M,zF,zO hl,Option.getD_some]
theorem ZpA (N:Nat) (t:Int) (zs:List Int):Zdz N t (ZdL zs)=some (zs.length==0||decide (t>M zs)):=by
 unfold Zdz;rw [Zsy,Zab];by_cases h:zs.length=0
 ·simp [h]
 simp [h]
theorem Zsx {s:List Int} (hs:s.Pairwise (fun a b=>a≤b)) {k:Nat} (hk:k<s.length):s.countP (fun y=>decide (y<s[k]))≤k∧k<s.countP (fun y=>decide (y≤s[k])):=by
 have hsplit:s=s.take k++s[k]::s.drop (k+1):=by
  rw [List.getElem_cons_drop hk,wO]
 generalize hx:s[k]=x at *;rw [hsplit] at hs;obtain ⟨_,h2,h3⟩:=List.pairwise_append.1 hs;have h4 : ∀a∈s.take k,a≤x:=fun a ha=>h3 a ha x aD;have h5 : ∀b∈s.drop (k+1),x≤b:=fun b hb=>(List.pairwise_cons.1 h2).1 b hb;have hlen:(s.take k).length=k:=by simp;omega
 rw [hsplit];constructor
 ·rw [rR,List.countP_cons_of_neg aD];have:(s.drop (k+1)).countP (fun y=>decide (y<x))=0:=List.countP_eq_zero.2 fun b hb=>by have:=h5 b hb;simp;omega
  have:=uQ (p:=fun y=>decide (y<x)) (l:=s.take k);omega
 rw [rR,List.countP_cons_of_pos aD];have:(s.take k).countP (fun y=>decide (y≤x))=(s.take k).length:=List.countP_eq_length.2 fun a ha=>by have:=h4 a ha;simp;omega
 omega
theorem ZlF {l:List Int} {x:Int}:l.countP (fun y=>decide (y≤x))=l.countP (fun y=>decide (y<x))+l.countP (fun y=>y==x):=by
 induction l with
 | nil=>rfl
 | cons a l ih=>
  simp only [List.countP_cons,ih];by_cases h1:a<x
  ·simp [h1,show a≤x by omega,show ¬ a=x by omega];omega
  by_cases h2:a=x
  ·simp [h2];omega
  simp [h1,h2,show ¬ a≤x by omega]
theorem ZmE {l:List Int} {x y:Int} (h:x<y):l.countP (fun z=>decide (z≤x))≤l.countP (fun z=>decide (z<y)):=
 List.countP_mono_left fun z _ hz=>by simp at hz ⊢;omega
def ZoF (ys:List Int) (y:Int):Prop:=ys.countP (fun z=>decide (z<y))≤ys.length/2∧ys.length/2<ys.countP (fun z=>decide (z<y))+ys.countP (fun z=>z==y)
theorem mid_of {ys:List Int} (h:ys ≠ []):ZoF ys ((srt ys).getD (ys.length/2) 0)∧(srt ys).getD (ys.length/2) 0∈ys:=by
 have hl:ys.length/2<(srt ys).length:=by
  rw [Zmg];have:0<ys.length:=List.length_pos_iff.2 h;omega
 have e:(srt ys).getD (ys.length/2) 0=(srt ys)[ys.length/2]:=by simp only [zF,zO hl,Option.getD_some]
 rw [e];have:=Zsx (Zoa ys) hl;rw [(ZmO ys).countP_eq,(ZmO ys).countP_eq,ZlF] at this;exact ⟨this,(ZmO ys).mem_iff.1 (yL hl)⟩
theorem mid_one {ys:List Int} {x y:Int} (hx:ZoF ys x) (hy:ZoF ys y):x=y:=by
 obtain ⟨a1,a2⟩:=hx;obtain ⟨b1,b2⟩:=hy;rw [←ZlF] at a2 b2;rcases Int.lt_trichotomy x y with h | h | h
 ·have:=ZmE (l:=ys) h;omega
 ·exact h
 have:=ZmE (l:=ys) h;omega
theorem mid_M {zs:List Int} {y:Int} (h:zs.take 11 ≠ []) (hy:ZoF (zs.take 11) y):y=M zs:=mid_one hy (mid_of h).1
theorem ZqJ (p:Int→Bool) (ys:List Int) (j:Nat) (h:j<ys.length):(ys.take (j+1)).countP p=(ys.take j).countP p+if p ys[j]=true then 1 else 0:=by
 rw [zZ h,rR,List.countP_singleton]
theorem ref_in (N:Nat) (c:Int→Option Int) (zs:List Int) (i:Nat) (hi:i<(zs.take 11).length) : ∀(m j k:Nat),m+j=(zs.take 11).length→m<k →
  loopN (ZaM.p2 N c (ZdL zs) i) k ((((zs.take 11).take j).countP (fun z=>decide (z<(zs.take 11)[i])):Nat),(((zs.take 11).take j).countP (fun z=>z==(zs.take 11)[i]):Nat),(j:Int)) =
   if (zs.take 11).countP (fun z=>decide (z<(zs.take 11)[i]))≤(zs.take 11).length/2∧(zs.take 11).length/2<(zs.take 11).countP (fun z=>decide (z<(zs.take 11)[i]))+(zs.take 11).countP (fun z=>z==(zs.take 11)[i])
   then some (zs.take 11)[i] else c (i+1):=by
 have e:(min zs.length 11)=(zs.take 11).length:=by simp;omega
 have hn:(zs.take 11).length≤11:=by simp;omega
 have hzl:(zs.take 11).length≤zs.length:=by simp;omega
 have hy : ∀(x:Nat) (hx:x<(zs.take 11).length),zs[x]? = some (zs.take 11)[x]:=fun x hx=>by simp
 intro m
 induction m with
 | zero=>
  intro j k hj hk;obtain ⟨k,rfl⟩ : ∃l,k=l+1:=⟨k-1,aC⟩
  have hj':j=(zs.take 11).length:=aC
  rw [Zay];unfold ZaM.p2;simp only [Zel,ZdK,Zsw,e];have ht:(zs.take 11).take j=zs.take 11:=by rw [hj'];exact List.take_length
  rw [ht];have c1:=uQ (p:=fun z=>decide (z<(zs.take 11)[i])) (l:=zs.take 11);have c2:=uQ (p:=fun z=>z==(zs.take 11)[i]) (l:=zs.take 11);rw [aB (by simp only [decide_eq_true_eq];omega),tdiv2,ZaH aC aC,ZaH (n:=_+_) aC aC,ZaH (n:=_+1) aC aC];by_cases h1:(zs.take 11).countP (fun z=>decide (z<(zs.take 11)[i]))≤(zs.take 11).length/2
  ·rw [aA (by simp only [decide_eq_true_eq];omega)];by_cases h2:(zs.take 11).length/2<(zs.take 11).countP (fun z=>decide (z<(zs.take 11)[i]))+(zs.take 11).countP (fun z=>z==(zs.take 11)[i])
   ·rw [aA (by simp only [decide_eq_true_eq];omega),aA ⟨h1,h2⟩,Zag aC,Zag aC,ZiG (hy i hi),Zax,ZdV]
   rw [aB (by simp only [decide_eq_true_eq];omega),aB (fun h=>h2 h.2)]
  rw [aB (by simp only [decide_eq_true_eq];omega),aB (fun h=>h1 h.1)]
 | succ m ih=>
  intro j k hj hk;obtain ⟨k,rfl⟩ : ∃l,k=l+1:=⟨k-1,aC⟩
  have hj':j<(zs.take 11).length:=aC
  rw [←ih (j+1) k aC aC,ZqJ _ _ _ hj',ZqJ _ _ _ hj',Zay];have c1:=uQ (p:=fun z=>decide (z<(zs.take 11)[i])) (l:=(zs.take 11).take j);have c2:=uQ (p:=fun z=>z==(zs.take 11)[i]) (l:=(zs.take 11).take j);rw [xY] at c1 c2;generalize hL:List.countP (fun z=>decide (z<(zs.take 11)[i])) ((zs.take 11).take j)=lc at *;generalize hS:List.countP (fun z=>z==(zs.take 11)[i]) ((zs.take 11).take j)=sc at *;generalize loopN (ZaM.p2 N c (ZdL zs) i) k=G;unfold ZaM.p2;simp only [Zel,ZdK,Zsw,e];rw [aA (by simp only [decide_eq_true_eq];omega),Zag aC,Zag aC,ZiG (hy j hj'),Zax,ZdV,Zag aC,Zag aC,ZiG (hy i hi),Zax,ZdV];have p3 : ∀l:Int,ZaM.p3 N G c (ZdL zs) i l sc j =
    G (l,((sc+if ((zs.take 11)[j]==(zs.take 11)[i])=true then 1 else 0:Nat):Int),((j+1:Nat):Int)):=by
   intro l;unfold ZaM.p3 ZaM.p4;simp only [Zel,ZdK];rw [Zag aC,Zag aC,ZiG (hy j hj'),Zax,ZdV,Zag aC,Zag aC,ZiG (hy i hi),Zax,ZdV];rw [ZaH (n:=_+1) aC aC,ZaH (n:=_+1) aC aC];split<;>rfl
  rw [p3,p3,ZaH (n:=_+1) aC aC];by_cases hc:(zs.take 11)[j]<(zs.take 11)[i]
  ·have t:(lc+if decide ((zs.take 11)[j]<(zs.take 11)[i])=true then 1 else 0:Nat)=lc+1:=by rw [aA (decide_eq_true hc)]
   rw [aA (decide_eq_true hc),t];rfl
  have t:(lc+if decide ((zs.take 11)[j]<(zs.take 11)[i])=true then 1 else 0:Nat)=lc:=by rw [aB (by simpa only [decide_eq_true_eq] using hc)];rfl
  rw [aB (by simpa only [decide_eq_true_eq] using hc),t]
theorem ref_out (N:Nat) (hN:12≤N) (zs:List Int) : ∀(m i k:Nat),m+i=(zs.take 11).length→m<k→(∀(x:Nat) (hx:x<(zs.take 11).length),x<i→¬ ZoF (zs.take 11) (zs.take 11)[x]) →
  loopN (ZaM.p1 N (ZdL zs)) k (i:Int)=some (M zs):=by
 have e:(min zs.length 11)=(zs.take 11).length:=by simp;omega
 have hn:(zs.take 11).length≤11:=by simp;omega
 intro m
 induction m with
 | zero=>
  intro i k hi hk hno;obtain ⟨k,rfl⟩ : ∃l,k=l+1:=⟨k-1,aC⟩
  rw [Zay];unfold ZaM.p1;simp only [Zel,ZdK,Zsw,e];rw [aB (by simp only [decide_eq_true_eq];omega)];by_cases h0:zs.take 11 = []
  ·simp [M,h0]
  obtain ⟨h1,h2⟩:=mid_of h0;obtain ⟨x,hx,h3⟩:=List.getElem_of_mem h2;exact absurd (h3 ▸ h1) (hno x hx aC)
 | succ m ih=>
  intro i k hi hk hno;obtain ⟨k,rfl⟩ : ∃l,k=l+1:=⟨k-1,aC⟩
  have hi':i<(zs.take 11).length:=aC
  have h:=ref_in N (loopN (ZaM.p1 N (ZdL zs)) k) zs i hi' (zs.take 11).length 0 N aC aC;rw [Zay];generalize hG:loopN (ZaM.p1 N (ZdL zs)) k=G at h;unfold ZaM.p1;simp only [Zel,ZdK,Zsw,e];rw [aA (by simp only [decide_eq_true_eq];omega)];simp only [List.take_zero,List.countP_nil] at h;refine Eq.trans h ?_;subst hG;by_cases hm:ZoF (zs.take 11) (zs.take 11)[i]
  ·have hm':=hm;unfold ZoF at hm';rw [aA hm',mid_M (fun h0=>by rw [h0] at hi';simp at hi') hm]
  have hm':=hm;unfold ZoF at hm';rw [aB hm'];refine ih (i+1) k aC aC fun x hx hxi=>?_;by_cases e:x=i
  ·subst e;exact hm
  exact hno x hx aC
theorem Zri (N:Nat) (hN:13≤N) (zs:List Int):ZaM N (ZdL zs)=some (M zs):=by
 have hn:(zs.take 11).length≤11:=by simp;omega
 exact ref_out N aC zs (zs.take 11).length 0 N aC aC fun x _ h=>aC
end Go.Dn.F
namespace Go.Dn.F
open Go.Dn
variable {N:Nat}
theorem Zox {a b c d A B C D x y z u T:Int} (a7:a*T=A+18446744073709551616*x) (b7:b*T=B+18446744073709551616*y) (c7:c*T=C+18446744073709551616*z) (d7:d*T=D+18446744073709551616*u) :
  vw a b c d*T=A+18446744073709551616*vw (x+B) (y+C) (z+D) u:=by
 have:vw a b c d*T=A+18446744073709551616*x+18446744073709551616*(B+18446744073709551616*y)+2^128*(C+18446744073709551616*z)+2^192*(D+18446744073709551616*u):=by
  rw [←a7,←b7,←c7,←d7];unfold vw;rw [yQ,yQ,yQ,yG,yG,yG]
 rw [this];unfold vw;omega
theorem Zjt {l:List Int} {i:Nat} (h:i<l.length) (x:Int):(l.set i x).getD i 0=x:=by
 rw [xA,zP h];rfl
theorem Zrf (hN:10≤N) {m:Int} (hm:isN m) {n:Nat} (h0:0<n) (h1:n<64) :
  loopN (Zao.p3 N (n:Int) (nw m)) N (0,zB 4 0)=some (nw (m*2^n%2^256)):=by
 obtain ⟨a,b,c,d,ha,hb,hc,hd,rfl⟩:=ZdP hm;rw [Zer ha hb hc hd];have hk:n≤64:=aC
 obtain ⟨A,x,a1,a2,a3,a4,a5,a6,a7,a8⟩:=ZdC ha hk;obtain ⟨B,y,b1,b2,b3,b4,b5,b6,b7,b8⟩:=ZdC hb hk;obtain ⟨C,z,c1,c2,c3,c4,c5,c6,c7,c8⟩:=ZdC hc hk;obtain ⟨D,u,d1,d2,d3,d4,d5,d6,d7,d8⟩:=ZdC hd hk;have pT:=ZbJ n;have v1:v64 (n:Int)=((n:Nat):Int):=ZcO aC aC;have v2:v64 (w64 (64-(n:Int)))=((64-n:Nat):Int):=by rw [ZaH aC aC,ZcO aC aC];omega
 obtain ⟨N,rfl⟩ : ∃q,N=q+5:=⟨N-5,aC⟩
 have first : ∀(G:Int×List Int→Option (List Int)) (l:List Int),Zao.p3 (N+5) (n:Int) [a,b,c,d] G (0,l)=G (1,l.set 0 A):=fun G l=>by
  unfold Zao.p3 Zao.p4;dsimp only;rw [aA aD,aA aF,Zag aC,Zag (by rw [v1];omega),aB aD,v1,show zF [a,b,c,d] (zC 0) 0=a from rfl,a1,ZaH aC aC];rfl
 have next : ∀(G:Int×List Int→Option (List Int)) (j:Nat) (l:List Int) (s t A' h':Int),j<3→l.length=4→[a,b,c,d].getD (j+1) 0=s→[a,b,c,d].getD j 0=t →
   ZbB .u64 s (n:Int)=A'→Zbn .u64 t ((64-n:Nat):Int)=h'→isW (A'+h') →
   Zao.p3 (N+5) (n:Int) [a,b,c,d] G (((j+1:Nat):Int),l)=G (((j+2:Nat):Int),l.set (j+1) (A'+h')):=fun G j l s t A' h' hj hl hs ht hA hh hw=>by
  unfold isW at hw;unfold Zao.p3 Zao.p4;dsimp only;rw [aA aF,aA aF,Zag aC,Zag (by rw [v1];omega),aA aF,show ((j+1:Nat):Int)-1=(j:Int) by omega,ZaH (n:=(j:Int)) aC aC,Zag aC,Zag aC,Zag (by rw [v2];omega),v1,v2,zH,zH,hs,ht,hA,hh,xX,Zjt aC,ZcO hw.1 hw.2,ZaH aC aC];rfl
 have last : ∀(G:Int×List Int→Option (List Int)) (l:List Int),Zao.p3 (N+5) (n:Int) [a,b,c,d] G (4,l)=some l:=fun G l=>by
  unfold Zao.p3;dsimp only;rw [aB aD]
 rw [Zay];refine Eq.trans (first _ [0,0,0,0]) ?_;rw [Zay];refine Eq.trans (next _ 0 [A,0,0,0] b a B x aC rfl rfl rfl b1 a2 (by unfold isW;omega)) ?_;rw [Zay];refine Eq.trans (next _ 1 [A,B+x,0,0] c b C y aC rfl rfl rfl c1 b2 (by unfold isW;omega)) ?_;rw [Zay];refine Eq.trans (next _ 2 [A,B+x,C+y,0] d c D z aC rfl rfl rfl d1 c2 (by unfold isW;omega)) ?_;rw [Zay];refine Eq.trans (last _ [A,B+x,C+y,D+z]) ?_;rw [←Zer (a:=A) (b:=B+x) (c:=C+y) (d:=D+z) (by unfold isW;omega) (by unfold isW;omega) (by unfold isW;omega) (by unfold isW;omega)]
 congr 2
 rw [Zox a7 b7 c7 d7];unfold vw;omega
theorem Zoy (hN:10≤N) {m:Int} (hm:isN m) {n:Nat} (h0:0<n) (h1:n<64) :
  loopN (Zao.p3 N (-(n:Int)) (nw m)) N (0,zB 4 0)=some (nw (m/2^n)):=by
 obtain ⟨a,b,c,d,ha,hb,hc,hd,rfl⟩:=ZdP hm;rw [Zer ha hb hc hd];have hk:64-n≤64:=aC
 obtain ⟨A,x,a1,a2,a3,a4,a5,a6,a7,a8⟩:=ZdC ha hk;obtain ⟨B,y,b1,b2,b3,b4,b5,b6,b7,b8⟩:=ZdC hb hk;obtain ⟨C,z,c1,c2,c3,c4,c5,c6,c7,c8⟩:=ZdC hc hk;obtain ⟨D,u,d1,d2,d3,d4,d5,d6,d7,d8⟩:=ZdC hd hk;rw [show 64-(64-n)=n by omega] at a2 b2 c2 d2;have pT:=ZbJ n;have pU:=ZbJ (64-n);have tu:=Zfo (k:=n) aC;have v1:v64 (w64 (0 - -(n:Int)))=((n:Nat):Int):=by rw [ZaH aC aC,ZcO aC aC];omega
 have v2:v64 (w64 (64 + -(n:Int)))=((64-n:Nat):Int):=by rw [ZaH aC aC,ZcO aC aC];omega
 obtain ⟨N,rfl⟩ : ∃q,N=q+5:=⟨N-5,aC⟩
 have next : ∀(G:Int×List Int→Option (List Int)) (j:Nat) (l:List Int) (s t A' h':Int),j<3→l.length=4→[a,b,c,d].getD j 0=s→[a,b,c,d].getD (j+1) 0=t →
   Zbn .u64 s (n:Int)=h'→ZbB .u64 t ((64-n:Nat):Int)=A'→isW (h'+A') →
   Zao.p3 (N+5) (-(n:Int)) [a,b,c,d] G ((j:Int),l)=G (((j+1:Nat):Int),l.set j (h'+A')):=fun G j l s t A' h' hj hl hs ht hh hA hw=>by
  unfold isW at hw;unfold Zao.p3 Zao.p4;dsimp only;rw [aA aF,aB aF,Zag aC,Zag (by rw [v1];omega),aA aF,show (j:Int)+1=((j+1:Nat):Int) by omega,ZaH (n:=((j+1:Nat):Int)) aC aC,Zag aC,Zag aC,Zag (by rw [v2];omega),v1,v2,zH,zH,hs,ht,hA,hh,xX,Zjt aC,ZcO hw.1 hw.2]
 have top : ∀(G:Int×List Int→Option (List Int)) (l:List Int),Zao.p3 (N+5) (-(n:Int)) [a,b,c,d] G (3,l)=G (4,l.set 3 u):=fun G l=>by
  unfold Zao.p3 Zao.p4;dsimp only;rw [aA aD,aB aF,Zag aC,Zag (by rw [v1];omega),aB aD,v1,show zF [a,b,c,d] (zC 3) 0=d from rfl,d2,ZaH aC aC];rfl
 have last : ∀(G:Int×List Int→Option (List Int)) (l:List Int),Zao.p3 (N+5) (-(n:Int)) [a,b,c,d] G (4,l)=some l:=fun G l=>by
  unfold Zao.p3;dsimp only;rw [aB aD]
 rw [Zay];refine Eq.trans (next _ 0 [0,0,0,0] a b B x aC rfl rfl rfl a2 b1 (by unfold isW;omega)) ?_;rw [Zay];refine Eq.trans (next _ 1 [x+B,0,0,0] b c C y aC rfl rfl rfl b2 c1 (by unfold isW;omega)) ?_;rw [Zay];refine Eq.trans (next _ 2 [x+B,y+C,0,0] c d D z aC rfl rfl rfl c2 d1 (by unfold isW;omega)) ?_;rw [Zay];refine Eq.trans (top _ [x+B,y+C,z+D,0]) ?_;rw [Zay];refine Eq.trans (last _ [x+B,y+C,z+D,u]) ?_;rw [←Zer (a:=x+B) (b:=y+C) (c:=z+D) (d:=u) (by unfold isW;omega) (by unfold isW;omega) (by unfold isW;omega) (by unfold isW;omega)]
 congr 2
 exact (ZqH pT pU tu aC (Zox a7 b7 c7 d7)).symm
theorem Zrg (hN:10≤N) {m:Int} (hm:isN m) {n:Nat} (h1:n<64) :
  loopN (Zao.p2 N) N ((n:Int),nw m)=some (nw (m*2^n%2^256)):=by
 obtain ⟨K,e⟩ : ∃q,N=q+1:=⟨N-1,aC⟩
 rw [show loopN (Zao.p2 N) N=loopN (Zao.p2 N) (K+1) by rw [←e],Zay];unfold Zao.p2;dsimp only;rw [aB aF];by_cases h0:n=0
 ·subst h0;unfold isN at hm;rw [aA (by rfl),show (2:Int)^0=1 from rfl,tM,xH hm.1 hm.2]
 rw [aB aF,Zrf hN hm aC h1]
theorem Zkq (hN:10≤N) : ∀(K:Nat) {m:Int},isN m→∀n:Nat,n<64*K→n<1000→loopN (Zao.p2 N) K (-(n:Int),nw m)=some (nw (m/2^n))
 | 0,_,_,n,h,_=>aC
 | K+1,m,hm,n,h,hk=>by
  rw [Zay];have ih:=Zkq hN K (m:=m/18446744073709551616) (by unfold isN at *;omega) (n-64);generalize loopN (Zao.p2 N) K=G at ih ⊢;unfold Zao.p2;dsimp only;by_cases h64:64≤n
  ·rw [aA aF,ZaH aC aC];have e : [zF (nw m) 1 0,zF (nw m) 2 0,zF (nw m) 3 0,0]=nw (m/18446744073709551616):=by
    obtain ⟨a,b,c,d,ha,hb,hc,hd,rfl⟩:=ZdP hm;have:vw a b c d/18446744073709551616=vw b c d 0:=by unfold isW vw at *;omega
    rw [this,Zer ha hb hc hd,Zer hb hc hd isW0];rfl
   rw [e,show -(n:Int)+64 = -((n-64:Nat):Int) by omega,ih aC aC,xM aC,show (18446744073709551616:Int)=2^64 from rfl,←xO,show 64+(n-64)=n by omega]
  rw [aB aF];by_cases h0:n=0
  ·subst h0;rw [aA (by rfl),show (2:Int)^0=1 from rfl,Int.ediv_one]
  rw [aB aF,Zoy hN hm aC aC]
theorem Zmz (hN:10≤N) : ∀(K:Nat) {m:Int},isN m→∀n:Nat,n<64*K→n<1000→loopN (Zao.p1 N) K ((n:Int),nw m)=some (nw (m*2^n%2^256))
 | 0,_,_,n,h,_=>aC
 | K+1,m,hm,n,h,hk=>by
  rw [Zay];have ih:=Zmz hN K (m:=m*18446744073709551616%2^256) (by unfold isN at *;omega) (n-64);generalize loopN (Zao.p1 N) K=G at ih ⊢;unfold Zao.p1;dsimp only;by_cases h64:64≤n
  ·rw [aA aF,ZaH aC aC];have e : [0,zF (nw m) 0 0,zF (nw m) 1 0,zF (nw m) 2 0]=nw (m*18446744073709551616%2^256):=by
    obtain ⟨a,b,c,d,ha,hb,hc,hd,rfl⟩:=ZdP hm;have:vw a b c d*18446744073709551616%2^256=vw 0 a b c:=by unfold isW vw at *;omega
    rw [this,Zer ha hb hc hd,Zer isW0 ha hb hc];rfl
   rw [e,show (n:Int)-64=((n-64:Nat):Int) by omega,ih aC aC];have e2:m*2^n=m*18446744073709551616*2^(n-64):=by
    rw [yG,show (18446744073709551616:Int)=2^64 from rfl,←xO,show 64+(n-64)=n by omega]
   rw [e2,Int.mul_emod (_%_),pE,←Int.mul_emod]
  rw [aB aF,Zrg hN hm aC]
theorem Zlo (hN:10≤N) {m:Int} (hm:isN m) (n:Nat):Zao N (nw m) (n:Int)=some (nw (m*2^n%2^256)):=by
 unfold Zao;rw [aB aF];by_cases h:256≤n
 ·have:m*2^n%2^256=0:=by
   have e:(2:Int)^n=2^(n-256)*2^256:=by rw [←xO,show n-256+256=n by omega]
   rw [e,←yG];exact uW _ _
  rw [aA aF,this,Zef]
 rw [aB aF,Zmz hN N hm n aC aC]
theorem ZhS (hN:10≤N) {m:Int} (hm:isN m) (n:Nat):Zao N (nw m) (-(n:Int))=some (nw (m/2^n)):=by
 unfold Zao;by_cases h:256≤n
 ·have:m/2^n=0:=by
   have l:=Zek h;exact uL hm.1 (wX hm.2 l)
  rw [aA aF,this,Zef]
 rw [aB aF,aB aF];obtain ⟨K,e⟩ : ∃q,N=q+1:=⟨N-1,aC⟩
 rw [show loopN (Zao.p1 N) N=loopN (Zao.p1 N) (K+1) by rw [←e],Zay]
 conv=>lhs;unfold Zao.p1
 dsimp only;rw [aB aF,Zkq hN N hm n aC aC]
theorem Ztt (x:Int) {r:Nat} (h:r<64):(x%18446744073709551616)/2^r%2=x/2^r%2:=by
 have p:=ZbJ r;have e:=yZ x 18446744073709551616;have s:(18446744073709551616:Int)=2^r*(2*2^(63-r)):=by
  rw [show (2:Int)*2^(63-r)=2^(64-r) by rw [show 64-r=(63-r)+1 by omega,uK];omega,Zfo aC]
 have k:x=x%18446744073709551616+2^r*(2*2^(63-r)*(x/18446744073709551616)):=by
  rw [←yG,←s];omega
 conv=>rhs;rw [k,Int.add_mul_ediv_left _ _ aC]
 rw [yG 2];omega
theorem ZgQ {m:Int} (hm:isN m) {i:Nat} (hi:i<256):ZcL N (nw m) (i:Int)=some (m/2^i%2):=by
 unfold ZcL;have e1:w64 (zR (i:Int) 64)=((i/64:Nat):Int):=by rw [ZeB aC,ZaH aC aC];omega
 have e2:v64 (yA (i:Int) 64)=((i%64:Nat):Int):=by rw [Zfi aC,ZcO aC aC];omega
 have p:=ZbJ (i%64);have q:=ZbJ (64*(i/64));have nn:0≤(m/2^(64*(i/64))%18446744073709551616)/2^(i%64):=xD aC aC;rw [aB aF,aB aF,e1,e2,Zag aC,Zag aC,Zag aC,zH,ZhQ hm aC,ZlS _ (k:=i%64) aC,Zfi nn,Ztt _ aC,xM aC,←xO,qL,ZaH aC aC]
theorem half (x:Int) (i:Nat):x/2^i=2*(x/2^(i+1))+x/2^i%2:=by
 have:x/2^(i+1)=x/2^i/2:=by rw [xM (vX (ZbJ i)),uK]
 omega
theorem ZsA {a b:Int} (i:Nat) (h:a/2^i<b/2^i):a<b:=by
 rcases Int.lt_or_le a b with k | k
 ·exact k
 have:=Int.ediv_le_ediv (ZbJ i) k;omega
theorem Zfn (hN:300≤N) {a b:Int} (ha:isN a) (hb:isN b):Zbt N (nw a) (nw b)=some (decide (a<b)):=by
 unfold Zbt;refine ZbZ (fun m (x:Int)=>m≤256∧x=(m:Int)-1∧a/2^m=b/2^m) ?_ N 256 255 ⟨aC,aC,?_⟩ aC
 ·rintro G m _ ⟨hm,rfl,he⟩ hG;unfold Zbt.p1;by_cases h0:m=0
  ·subst h0;rw [aB aD];have e:a=b:=by simpa using he
   simp [e]
  obtain ⟨i,rfl⟩ : ∃i,m=i+1:=⟨m-1,aC⟩
  have h1:=half a i;have h2:=half b i;rw [aA aF,show ((i+1:Nat):Int)-1=(i:Int) by omega,ZgQ ha aC,ZgQ hb aC,Zab,Zab];by_cases hd:a/2^i%2=b/2^i%2
  ·rw [aB (by simp [hd]),ZaH aC aC];exact hG i _ aC ⟨aC,aC,aC⟩
  rw [aA (aH hd)]
  congr 1
  rw [decide_eq_decide];constructor
  ·intro h;exact ZsA i aC
  intro h;have:=Int.ediv_le_ediv (ZbJ i) (vX h);omega
 rw [show (2:Int)^256=2^256 from rfl,uL ha.1 ha.2,uL hb.1 hb.2]
theorem Zpv {x:Int} (h:isW x) : [x,0,0,0]=nw x:=by
 have:=Zgm (N:=0) h;unfold Zdp at this;exact xZ this
theorem Zhk (hN:300≤N) (b:Int):ZaQ N b=some (nw (Zgr b).1,(Zgr b).2.1,(Zgr b).2.2):=by
 unfold ZaQ Zgr;by_cases h0:b<0
 ·rw [aA (aH h0),aB (by simp [ZpG]<;>omega),Zef]
 rw [aB (aH h0)];by_cases h1:b>4294967295
 ·rw [aA (aH h1),aB (by simp [ZpG]<;>omega),Zef]
 rw [aB (aH h1),aA (by simp [ZpG]<;>omega)];have w:0≤ZfW b∧ZfW b<8388608:=by unfold ZfW;omega
 have e1:yA b 8388608=ZfW b:=by rw [Zfi aC];rfl
 have s:zR b 16777216=(ZeO b:Int):=by rw [ZeB aC];unfold ZeO;omega
 have s2:ZeO b<256:=by unfold ZeO;omega
 have e3:yA (w64 (zR b 8388608)) 2=b/8388608%2:=by rw [ZeB aC,ZaH aC aC,Zfi aC]
 have wN:isN (ZfW b):=by unfold isN;omega
 have mv:Zao N [v64 (ZfW b),0,0,0] (w64 (8*w64 (w64 (ZeO b:Int)-3)))=some (nw (cN b)):=by
  rw [ZcO w.1 aC,Zpv (by unfold isW;omega),ZaH (n:=(ZeO b:Int)) aC aC,ZaH (n:=(ZeO b:Int)-3) aC aC,ZaH aC aC];unfold cN;by_cases h3:3<ZeO b
  ·rw [aB aC,show (8:Int)*((ZeO b:Int)-3)=((8*(ZeO b-3):Nat):Int) by omega,Zlo aC wN]
  rw [aA aC,show (8:Int)*((ZeO b:Int)-3) = -((8*(3-ZeO b):Nat):Int) by omega,ZhS aC wN]
 rw [e1,s,mv,Zab,ZaH (n:=(ZeO b:Int)) aC aC];have p1 : ∀o:Bool,ZaQ.p1 N b o (nw (cN b))=some (nw (cN b),cNeg b,o):=fun o=>by
  unfold ZaQ.p1;rw [e1,e3];unfold cNeg;by_cases h:ZfW b=0
  ·rw [aB (by simp [h])];simp [h]
  rw [aA aF]
  congr 3
  rw [wA];simp [h]
 simp only [p1,decide_eq_true_eq,gt_iff_lt];unfold Ztl
 repeat' split
 all_goals (congr 3;rw [wA];simp only [decide_eq_true_eq,iff_true,true_iff,yR,false_iff,ne_eq];omega)
theorem Zgb (hN:300≤N) (b l:Int):Zcz N b l=some (nw (tgt b l).1,(tgt b l).2):=by
 unfold Zcz;rw [Zhk hN,Zab];dsimp only;rw [Zhk hN,Zab];dsimp only;unfold tgt;have z:(nw (Zgr b).1==zB 4 0)=decide ((Zgr b).1=0):=xZ (Zej (N:=0) (Zfm b));have le:=Zfn hN (Zfm l) (Zfm b);rw [z,le,Zab,Zef];cases (Zgr b).2.1<;>cases (Zgr b).2.2<;>cases (Zgr l).2.1<;>cases (Zgr l).2.2<;>cases (decide ((Zgr b).1=0))<;>cases (decide ((Zgr l).1<(Zgr b).1))<;>rfl
theorem Zmx {x:Int}:(nw x).getD 0 0=x%18446744073709551616:=rfl
theorem ZmZ (hN:300≤N) {h:List Int} (hl:h.length=32) (hb:bys h):ZbG N h=some (nw (hv h)):=by
 unfold ZbG;refine ZbZ (fun m (x:Int×List Int)=>m≤32∧x=((m:Int)-1,nw (hv (h.drop m)))) ?_ N 32 _ ⟨aC,?_⟩ aC
 ·rintro G m _ ⟨hm,rfl⟩ hG;unfold ZbG.p1;dsimp only;by_cases h0:m=0
  ·subst h0;rw [aB aD];rfl
  obtain ⟨i,rfl⟩ : ∃i,m=i+1:=⟨m-1,aC⟩
  have hi:i<h.length:=aC
  have x:=hb h[i] (yL hi);have r:=ZkL (l:=h.drop (i+1)) fun y hy=>hb y (List.mem_of_mem_drop hy);have mono:=Zek (a:=8*(h.drop (i+1)).length) (b:=248) (by rw [List.length_drop];omega);have r2:hv (h.drop (i+1))<452312848583266388373324160190187140051835877600158453279131187530910662656:=by
   rw [show (452312848583266388373324160190187140051835877600158453279131187530910662656:Int)=2^248 from rfl];omega
  have hN':isN (hv (h.drop (i+1))):=by unfold isN;omega
  have hN2:isN (hv (h.drop (i+1))*256):=by unfold isN;omega
  have hx:zF h i 0=h[i]:=by rw [xA,zO hi];rfl
  have st:=(Zmw hN2 (j:=0) aC x.1 (by rw [Zmx];omega)).1;rw [aA aF,show (8:Int)=((8:Nat):Int) from rfl,Zlo aC hN',Zab,show ((i+1:Nat):Int)-1=(i:Int) by omega,Zag aC,Zag aC,zH,hx,show (2:Int)^8=256 from rfl,xH hN2.1 hN2.2,ZcO (n:=h[i]) x.1 aC,ZcO (by rw [Zmx];omega) (by rw [Zmx];omega),st,ZaH aC aC];refine hG i _ aC ⟨aC,?_⟩;rw [xE hi,hv,show (2:Int)^(64*0)=1 from rfl,tM,pL,yJ 256]
 rw [wL aC,Zef];rfl
theorem cLen_of {x:Int} {i:Nat} (h:2^(8*i)≤x) (h2:x<2^(8*(i+1))):Zfp x=i+1:=by
 have:=Ztr h;have:=Zih h2;unfold Zfp;omega
theorem Zna (hN:300≤N) {m:Int} (hm:isN m):ZaA N (nw m)=some (Zrz m):=by
 have t:=ZmG hm;have l:=Ztm hm;unfold ZaA;refine ZbZ (fun k (x:Int×Int)=>∃i:Nat,i+k=32∧x=((Zfp (m%2^(8*i)):Int),(i:Int))) ?_ N 32 (0,0) ⟨0,aC,?_⟩ aC
 ·rintro G k _ ⟨i,hi,rfl⟩ hG;have st:ZaA.p1 N (nw m) G ((Zfp (m%2^(8*i)):Int),(i:Int))=some (Zrz m):=by
   unfold ZaA.p1 ZaA.p2;dsimp only;by_cases hlt:i<32
   ·have p:=ZbJ (8*i);have nn:0≤m/2^(8*i):=xD hm.1 aC;rw [aA aF,show (-8:Int)*(i:Int) = -((8*i:Nat):Int) by omega,ZaH aC aC,ZhS aC hm,Zab,Zmx,Zfi aC,ZaH (n:=(i:Int)+1) aC aC];have nx:m%2^(8*(i+1))=m%2^(8*i)+2^(8*i)*(m/2^(8*i)%256):=by
     rw [show (2:Int)^(8*(i+1))=2^(8*i)*256 by rw [show 8*(i+1)=8*i+8 by omega,xO];rfl];have a1:=yZ m (2^(8*i)*256);have a2:=yZ m (2^(8*i));have a3:m/(2^(8*i)*256)=m/2^(8*i)/256:=(xM aC).symm;have a4:=yZ (m/2^(8*i)) 256;rw [a3,yJ (2^(8*i)) 256,←yG] at a1;have a5:m/2^(8*i)*2^(8*i)=m/2^(8*i)/256*256*2^(8*i)+2^(8*i)*(m/2^(8*i)%256):=by
      conv=>lhs;rw [←a4,yQ]
      rw [yJ (2^(8*i)) (m/2^(8*i)%256)]
     rw [yJ (2^(8*i)) 256];omega
    have lo:=vJ m (b:=2^(8*i)) aC;have lo2:=wW m p;have low:m/2^(8*i)%18446744073709551616%256=m/2^(8*i)%256:=aC
    rw [low];by_cases hz:m/2^(8*i)%256>0
    ·rw [aA (aH hz)];have:Zfp (m%2^(8*(i+1)))=i+1:=by
      refine cLen_of ?_ (wW m (ZbJ _));rw [nx];have:=wQ (show (1:Int)≤m/2^(8*i)%256 by omega) (show (0:Int)≤2^(8*i) by omega);rw [tM] at this;omega
     exact hG (k-1) _ aC ⟨i+1,aC,by rw [this];rfl⟩
    rw [aB (aH hz)];have z:m/2^(8*i)%256=0:=aC
    rw [z,sH,sG] at nx;exact hG (k-1) _ aC ⟨i+1,aC,by rw [nx];rfl⟩
   have hi32:i=32:=aC
   subst hi32;have e:m%2^(8*32)=m:=xH hm.1 hm.2;rw [aB aD,e];have p3 : ∀w:Int,w=ZnN m→ZaA.p3 N (Zfp m:Int) w=some (Zrz m):=fun w hw=>by
    subst hw;unfold ZaA.p3 ZaA.p4 Zrz;by_cases h:8388608≤ZnN m
    ·rw [aA (aH h),aA h,ZeB t.1,ZaH (n:=ZnN m/256) aC aC,ZaH (n:=(Zfp m:Int)+1) aC aC,ZaH (n:=((Zfp m:Int)+1)*16777216) aC aC,ZaH aC aC];rfl
    rw [aB (aH h),aB h,ZaH (n:=(Zfp m:Int)*16777216) aC aC,ZaH aC aC]
   have ct:ZnN m=if Zfp m≤3 then m*2^(8*(3-Zfp m)) else m/2^(8*(Zfp m-3)):=rfl
   have low : ∀{w:Int},w=ZnN m→w64 (yA (zF (nw w) 0 0) 16777216)=ZnN m:=fun {w} hw=>by
    subst hw;rw [Zmx,Zfi aC,ZaH aC aC];omega
   by_cases h3:3<Zfp m
   ·rw [aB aC] at ct;rw [ZaH (n:=(3:Int)-(Zfp m:Int)) aC aC,ZaH (n:=8*((3:Int)-(Zfp m:Int))) aC aC,show (8:Int)*((3:Int)-(Zfp m:Int)) = -((8*(Zfp m-3):Nat):Int) by omega,ZhS aC hm,Zab,aA aF,ZaH (n:=(Zfp m:Int)-3) aC aC,ZaH (n:=(-8)*((Zfp m:Int)-3)) aC aC,show (-8:Int)*((Zfp m:Int)-3) = -((8*(Zfp m-3):Nat):Int) by omega,ZhS aC hm,Zab,p3 _ (low ct.symm)]
   rw [aA aC] at ct;rw [ZaH (n:=(3:Int)-(Zfp m:Int)) aC aC,ZaH (n:=8*((3:Int)-(Zfp m:Int))) aC aC,show (8:Int)*((3:Int)-(Zfp m:Int))=((8*(3-Zfp m):Nat):Int) by omega,Zlo aC hm,Zab,aB aF,←ct,xH t.1 aC,p3 _ (low rfl)]
  exact st
 simp;decide
theorem emod_mul' (m:Int) {P K:Int} (hP:0<P) (hK:0<K):m%(P*K)=m%P+P*(m/P%K):=by
 have a1:=yZ m (P*K);have a2:=yZ m P;have a3:m/(P*K)=m/P/K:=(xM aC).symm;have a4:=yZ (m/P) K;rw [a3,yJ P K,←yG] at a1;have a5:m/P*P=m/P/K*K*P+P*(m/P%K):=by
  conv=>lhs;rw [←a4,yQ]
  rw [yJ P (m/P%K)]
 rw [yJ P K];omega
def dv:List Int→Int
 | []=>0
 | x::l=>x+4294967296*dv l
def dg (l:List Int):Prop:=∀x∈l,0≤x∧x<4294967296
theorem dg_nil:dg []:=fun x hx=>by cases hx
theorem pow32 (k:Nat):(2:Int)^(32*(k+1))=4294967296*2^(32*k):=by rw [show 32*(k+1)=32+32*k by omega,xO];rfl
theorem Zjv : ∀(l m:List Int),dv (l++m)=dv l+2^(32*l.length)*dv m
 | [],m=>by simp [dv]
 | y::l,m=>by
  rw [List.cons_append,dv,Zjv l m,dv,xW,tX,pow32,yG];omega
theorem ZkO : ∀{l:List Int},dg l→0≤dv l∧dv l<2^(32*l.length)
 | [],_=>by simp [dv]
 | y::l,h=>by
  have ih:=ZkO (l:=l) fun x hx=>h x (List.mem_cons_of_mem _ hx);have:=h y aD;rw [dv,xW,pow32];omega
theorem set_at (ds:List Int) (a x:Int) (r:List Int) (i:Nat) (h:ds.length=i):(ds++a::r).set i x=ds++x::r:=by subst h;simp
theorem Zji (hN:300≤N) (p:Zah):ZdA N p=some (Ziz p):=by
 unfold ZdA;rw [Zgb hN,Zab];dsimp only;unfold Ziz;cases (tgt p.Limit p.Limit).2
 ·rfl
 simp only [aA,Bool.true_and,decide_eq_true_eq]
 repeat' split
 all_goals (congr 1;rw [wA];simp only [decide_eq_true_eq,yR,false_iff];omega)
theorem ZrW (hN:300≤N) (q:List Int) (hq:q.length=10) (hd:dg q) :
  loopN (Zaw.p4 N q) N (0,zB 4 0)=some (nw (dv q%2^256),decide (dv q<2^256)):=by
 refine ZbZ (fun m (x:Int×List Int)=>∃i:Nat,i+m=8∧x=((i:Int),nw (dv (q.take i)))) ?_ N 8 _ ⟨0,aC,?_⟩ aC
 ·rintro G m _ ⟨i,hi,rfl⟩ hG;unfold Zaw.p4;dsimp only;by_cases hlt:i<8
  ·have hm:dg (q.take i):=fun x hx=>hd x (uV hx);have lt:=ZkO hm;have ll:(q.take i).length=i:=by rw [xY];omega
   rw [ll] at lt;have x:=hd q[i] (yL aC);have e1:w64 (zR (i:Int) 2)=((i/2:Nat):Int):=by rw [ZeB aC,ZaH aC aC];omega
   have e2:v64 (w64 (32*yA (i:Int) 2))=((32*(i%2):Nat):Int):=by rw [Zfi aC,ZaH aC aC,ZcO aC aC];omega
   have pk:=ZbJ (32*(i%2));have le:(2:Int)^(32*i)=2^(64*(i/2))*2^(32*(i%2)):=by rw [←xO];congr 1;omega
   have mi:isN (dv (q.take i)):=⟨lt.1,wX lt.2 (Zek (b:=256) aC)⟩
   have gd:=ZhQ mi (j:=i/2) aC;have sm:dv (q.take i)/2^(64*(i/2))<2^(32*(i%2)):=wG (ZbJ _) (by rw [yJ,←le];exact lt.2);have sm0:0≤dv (q.take i)/2^(64*(i/2)):=xD lt.1 (vX (ZbJ _));have T32:(2:Int)^(32*(i%2))*4294967296≤18446744073709551616:=by
    have:=Zek (show 32*(i%2)+32≤64 by omega);rw [xO] at this;exact this
   rw [xH sm0 aC] at gd;have xs:(q[i]+1)*2^(32*(i%2))≤4294967296*2^(32*(i%2)):=wT aC aC;rw [yQ,uG] at xs;have xs0:0≤q[i]*2^(32*(i%2)):=wD x.1 aC;have sh:ZbB .u64 q[i] ((32*(i%2):Nat):Int)=q[i]*2^(32*(i%2)):=by rw [Zpj _ aC];omega
   have st:=(Zmw mi (j:=i/2) aC xs0 (by rw [gd];omega)).1;have hx:zF q i 0=q[i]:=by rw [xA,zO aC];rfl
   rw [aA aF,e1,e2,Zag aC,Zag aC,Zag aC,Zag aC,Zag aC,zH,zH,hx,ZcO (n:=q[i]) x.1 aC,sh,ZcO (by rw [gd];omega) (by rw [gd];omega),st,ZaH aC aC];refine hG (m-1) _ aC ⟨i+1,aC,?_⟩;have tk:q.take (i+1)=q.take i ++ [q[i]]:=zZ aC;rw [tk,Zjv,ll,le,dv,dv,sH,sG,yG,yJ (2^(32*(i%2))),yJ (2^(64*(i/2))),yJ q[i]];rfl
  have h8:i=8:=aC
  subst h8;rw [aB aD];have sp:dv q=dv (q.take 8)+2^256*dv (q.drop 8):=by
   conv=>lhs;rw [←wO 8 q,Zjv]
   rw [show (q.take 8).length=8 by rw [xY];omega]<;>rfl
  have lt:=ZkO (l:=q.take 8) fun x hx=>hd x (uV hx);rw [show (q.take 8).length=8 by rw [xY];omega,show (2:Int)^(32*8)=2^256 from rfl] at lt;have x8:=hd q[8] (yL aC);have x9:=hd q[9] (yL aC);have dr:q.drop 8 = [q[8],q[9]]:=by
   rw [xE aC,xE aC,wL aC]
  rw [dr] at sp;simp only [dv,sH,sG] at sp;have g8:zF q 8 0=q[8]:=by rw [xA,zO aC];rfl
  have g9:zF q 9 0=q[9]:=by rw [xA,zO aC];rfl
  have e:dv q%2^256=dv (q.take 8):=aC
  rw [g8,g9,e];by_cases h0:q[8]=0
  ·rw [aA (aH h0)]
   congr 2
   rw [wA];simp only [beq_iff_eq,decide_eq_true_eq];omega
  rw [aB (aH h0)]
  congr 2
  rw [wA];simp only [decide_eq_true_eq,yR,false_iff];omega
 rw [Zef];rfl
theorem ZrX (hN:300≤N) (D:Int) (hD:0<D∧D≤640000) (d:List Int) (hl:d.length=10) (hd:dg d) :
  loopN (Zaw.p3 N D d) N (0,9,zB 10 0)=some (nw (dv d/D%2^256),decide (dv d/D<2^256)):=by
 refine ZbZ (fun m (x:Int×Int×List Int)=>m≤10∧∃(rest:Int) (qs:List Int),x=(rest,(m:Int)-1,zB m 0++qs)∧qs.length=10-m∧dg qs∧dv qs*D+rest=dv (d.drop m)∧0≤rest∧rest<D) ?_ N 10 _ ⟨aC,0,[],rfl,rfl,dg_nil,by rw [wL aC];simp [dv],aC,hD.1⟩ aC;rintro G m _ ⟨hm,rest,qs,rfl,hq,hdq,he,h0,h1⟩ hG;unfold Zaw.p3;dsimp only;by_cases hz:m=0
 ·subst hz;rw [aB aD];have hq':(zB 0 (0:Int)++qs)=qs:=rfl;rw [hq',ZrW hN qs hq hdq];rw [List.drop_zero] at he;have dd:=(uY hD.1 (a:=dv d) (q:=dv qs) (r:=rest)).2 ⟨by rw [yJ D];omega,h0,h1⟩;rw [dd.1]
 obtain ⟨j,rfl⟩ : ∃i,m=i+1:=⟨m-1,aC⟩
 have hj:j<d.length:=aC
 have x:=hd d[j] (yL hj);have hx:zF d j 0=d[j]:=by rw [xA,zO hj];rfl
 have cur0:0≤rest*4294967296+d[j]:=aC
 have e:=yZ (rest*4294967296+d[j]) D;have r0:=vJ (rest*4294967296+d[j]) (b:=D) aC;have r1:=wW (rest*4294967296+d[j]) hD.1;have q0:0≤(rest*4294967296+d[j])/D:=xD cur0 aC;have q1:(rest*4294967296+d[j])/D<4294967296:=wG hD.1 aC;rw [aA aF,show ((j+1:Nat):Int)-1=(j:Int) by omega,Zag aC,Zag aC,Zag aC,zH,hx,ZaH (n:=rest*4294967296) aC aC,ZaH (n:=rest*4294967296+d[j]) aC aC,Zfi cur0,ZeB cur0,ZaH (n:=(rest*4294967296+d[j])/D) aC aC,ZaH aC aC];refine hG j _ aC ⟨aC,_,(rest*4294967296+d[j])/D::qs,?_,by simp;omega,?_,?_,r0,r1⟩
 ·have:zB (j+1) (0:Int)++qs=zB j 0++0::qs:=by rw [List.replicate_succ',List.append_assoc];rfl
  rw [this,set_at _ _ _ _ j aD]
 ·intro y hy;rcases List.mem_cons.1 hy with rfl | hy
  ·exact ⟨q0,q1⟩
  exact hdq y hy
 rw [xE hj,dv,dv,←he,yQ,yG];omega
theorem ZrY (hN:300≤N) {n S D:Int} (hn:isN n) (hS:0≤S∧S≤2560000) (hD:0<D∧D≤640000) :
  Zaw N (nw n) S D=some (nw (n*S/D%2^256),decide (n*S/D<2^256)):=by
 unfold Zaw;refine ZbZ (fun m (x:Int×Int×List Int)=>∃(i:Nat) (c:Int) (ds:List Int),i+m=10∧x=(c,(i:Int),ds++zB (10-i) 0)∧ds.length=i∧dg ds∧dv ds+c*2^(32*i)=n%2^(32*i)*S∧0≤c∧c≤S) ?_ N 10 _ ⟨0,0,[],rfl,rfl,rfl,dg_nil,by simp [dv,pP],aC,hS.1⟩ aC;rintro G m _ ⟨i,c,ds,hi,rfl,hl,hd,he,h0,h1⟩ hG;unfold Zaw.p1;dsimp only;by_cases hlt:i<10
 ·have p:=ZbJ (32*i);have wr:0≤n/2^(32*i)%4294967296∧n/2^(32*i)%4294967296<4294967296:=by omega
  have p2 : ∀w:Int,w=n/2^(32*i)%4294967296→Zaw.p2 N G S D c (i:Int) w (nw n) (ds++zB (10-i) 0)=some (nw (n*S/D%2^256),decide (n*S/D<2^256)):=fun w hw=>by
   rw [←hw] at wr;have ws0:0≤w*S:=wD wr.1 hS.1;have ws1:w*S≤4294967295*S:=wT aC hS.1;unfold Zaw.p2;rw [Zag aC,Zag aC,zH,ZaH (n:=w*S) aC aC,ZaH (n:=w*S+c) aC aC,ZeB aC,Zfi aC,ZaH (n:=(w*S+c)/4294967296) aC aC,ZaH aC aC];refine hG (m-1) _ aC ⟨i+1,(w*S+c)/4294967296,ds ++ [(w*S+c)%4294967296],aC,?_,by simp;omega,?_,?_,aC,aC⟩
   ·have:zB (10-i) (0:Int)=0::zB (10-(i+1)) 0:=by rw [←List.replicate_succ];congr 1;omega
    rw [this,set_at _ _ _ _ i hl,List.append_assoc];rfl
   ·intro y hy;rcases List.mem_append.1 hy with hy | hy
    ·exact hd y hy
    cases List.mem_singleton.1 hy;omega
   have nx:n%2^(32*(i+1))=n%2^(32*i)+2^(32*i)*w:=by
    rw [hw,show (2:Int)^(32*(i+1))=2^(32*i)*4294967296 by rw [pow32,yJ]];exact emod_mul' n p aC
   have k:(w*S+c)%4294967296+4294967296*((w*S+c)/4294967296)=w*S+c:=aC
   rw [Zjv,hl,dv,dv,sH,sG,nx,yQ,←he,pow32,yJ c,yG (2^(32*i)),vM ((w*S+c)/4294967296)];have k2:2^(32*i)*((w*S+c)%4294967296)+2^(32*i)*(4294967296*((w*S+c)/4294967296))=2^(32*i)*(w*S)+2^(32*i)*c:=by rw [←tX,←tX,k]
   rw [yJ ((w*S+c)/4294967296) (2^(32*i)),vM 4294967296 (2^(32*i))];omega
  by_cases h8:i<8
  ·have e1:w64 (zR (i:Int) 2)=((i/2:Nat):Int):=by rw [ZeB aC,ZaH aC aC];omega
   have e2:v64 (w64 (32*yA (i:Int) 2))=((32*(i%2):Nat):Int):=by rw [Zfi aC,ZaH aC aC,ZcO aC aC];omega
   rw [aA aF,aA aF,e1,e2,Zag aC,Zag aC,Zag aC,zH,ZhQ hn aC,ZlS _ (k:=32*(i%2)) aC];refine p2 _ ?_;have pk:=ZbJ (32*(i%2));have nn:0≤n/2^(64*(i/2))%18446744073709551616/2^(32*(i%2)):=xD aC aC;have le:n/2^(32*i)=n/2^(64*(i/2))/2^(32*(i%2)):=by rw [xM (vX (ZbJ _)),←xO];congr 2;omega
   rw [Zfi nn,ZaH aC aC,le];generalize n/2^(64*(i/2))=X;rcases (show i%2=0∨i%2=1 by omega) with h | h<;>rw [h]
   ·rw [show (2:Int)^(32*0)=1 from rfl];omega
   rw [show (2:Int)^(32*1)=4294967296 from rfl];omega
  rw [aA aF,aB aF];refine p2 0 ?_;have:n/2^(32*i)=0:=uL hn.1 (wX hn.2 (Zek (a:=256) aC));rw [this];rfl
 have h10:i=10:=aC
 subst h10;have dr:=ZkO hd;rw [hl] at dr;have big:n%2^(32*10)=n:=xH hn.1 (wX hn.2 (Zek (a:=256) aC));rw [big] at he;have sm:n*S≤2^256*2560000:=tL (by unfold isN at hn;omega) hS.2 hS.1 aC;rw [show (2:Int)^(32*10)=2135987035920910082395021706169552114602704522356652769947041607822219725780640550022962086936576 by rw [show 32*10=256+64 from rfl,xO];rfl] at he dr;have c0:c=0:=aC
 rw [aB aD,show ds++zB (10-10) 0=ds by simp,ZrX hN D hD ds hl hd];have:dv ds=n*S:=by rw [c0] at he;omega
 rw [this]
end Go.Dn.F
set_option maxRecDepth 4000
namespace Go.Dn.F
open Go.Dn
variable {N:Nat}
theorem Zkg (hN:10≤N) {m n:Int} (hm:isN m) (hn:isN n) :
  ZcB N (nw m) (nw n)=some (nw ((m-n)%2^256),decide (m<n)):=by
 obtain ⟨a,b,c,d,ha,hb,hc,hd,rfl⟩:=ZdP hm;obtain ⟨e,f,g,i,he,hf,hg,hi,rfl⟩:=ZdP hn;rw [Zer ha hb hc hd,Zer he hf hg hi];obtain ⟨N,rfl⟩ : ∃q,N=q+5:=⟨N-5,aC⟩
 obtain ⟨s0,c0,e0,k0,l0,m0,n0⟩:=sub64 (N:=N+5) ha he (c:=0) aC;obtain ⟨s1,c1,e1,k1,l1,m1,n1⟩:=sub64 (N:=N+5) hb hf (c:=c0) aC;obtain ⟨s2,c2,e2,k2,l2,m2,n2⟩:=sub64 (N:=N+5) hc hg (c:=c1) aC;obtain ⟨s3,c3,e3,k3,l3,m3,n3⟩:=sub64 (N:=N+5) hd hi (c:=c2) aC;unfold ZcB;have t : ∀(G:Int×Int×List Int→Option (List Int×Bool)) (j:Nat) (l:List Int) (c s c':Int),j<4→Zfe (N+5) (l.getD j 0) ([e,f,g,i].getD j 0) c=some (s,c') →
   ZcB.p1 (N+5) [e,f,g,i] G (c,(j:Int),l)=G (c',(j:Int)+1,l.set j s):=fun G j l c s c' hj h=>by
  unfold ZcB.p1;dsimp only;rw [aA aE,Zag aC,zH,h,Zab,ZaH aC aC]
 have u : ∀(G:Int×Int×List Int→Option (List Int×Bool)) (l:List Int) (c:Int),ZcB.p1 (N+5) [e,f,g,i] G (c,4,l)=some (l,c != 0):=fun G l c=>by
  unfold ZcB.p1;dsimp only;rw [aB aD]
 rw [Zay];refine Eq.trans (t _ 0 [a,b,c,d] 0 s0 c0 aC e0) ?_;rw [Zay];refine Eq.trans (t _ 1 [s0,b,c,d] c0 s1 c1 aC e1) ?_;rw [Zay];refine Eq.trans (t _ 2 [s0,s1,c,d] c1 s2 c2 aC e2) ?_;rw [Zay];refine Eq.trans (t _ 3 [s0,s1,s2,d] c2 s3 c3 aC e3) ?_;rw [Zay];refine Eq.trans (u _ [s0,s1,s2,s3] c3) ?_;rw [←Zer k0 k1 k2 k3];have key:vw a b c d-vw e f g i=vw s0 s1 s2 s3-2^256*c3:=by unfold vw;omega
 have r:=ZkU k0 k1 k2 k3;unfold isN at r;have e5:(vw a b c d-vw e f g i)%2^256=vw s0 s1 s2 s3:=aC
 rw [e5];have e6:(c3 != 0)=decide (vw a b c d<vw e f g i):=by
  rw [wA];simp only [bne_iff_ne,ne_eq,decide_eq_true_eq];omega
 rw [e6]
theorem Zkh (hN:10≤N) {m:Int} (hm:isN m):Zcq N (nw m)=some (nw (115792089237316195423570985008687907853269984665640564039457584007913129639935-m)):=by
 obtain ⟨a,b,c,d,ha,hb,hc,hd,rfl⟩:=ZdP hm;have key:115792089237316195423570985008687907853269984665640564039457584007913129639935-vw a b c d=vw (18446744073709551615-a) (18446744073709551615-b) (18446744073709551615-c) (18446744073709551615-d):=by unfold vw;omega
 have q : ∀{x:Int},isW x→isW (18446744073709551615-x):=fun h=>by unfold isW at *;omega
 rw [key,Zer (q ha) (q hb) (q hc) (q hd),Zer ha hb hc hd];obtain ⟨N,rfl⟩ : ∃q,N=q+5:=⟨N-5,aC⟩
 unfold Zcq;have t : ∀(G:Int×List Int→Option (List Int)) (j:Nat) (l:List Int),j<4→isW (l.getD j 0)→Zcq.p1 (N+5) G ((j:Int),l)=G ((j:Int)+1,l.set j (18446744073709551615-l.getD j 0)):=fun G j l hj h=>by
  unfold Zcq.p1;dsimp only;rw [aA aE,Zag aC,zH,xor_max h,ZaH aC aC]
 have u : ∀(G:Int×List Int→Option (List Int)) (l:List Int),Zcq.p1 (N+5) G (4,l)=some l:=fun G l=>by
  unfold Zcq.p1;dsimp only;rw [aB aD]
 rw [Zay];refine Eq.trans (t _ 0 [a,b,c,d] aC ha) ?_;rw [Zay];refine Eq.trans (t _ 1 [_,b,c,d] aC hb) ?_;rw [Zay];refine Eq.trans (t _ 2 [_,_,c,d] aC hc) ?_;rw [Zay];refine Eq.trans (t _ 3 [_,_,_,d] aC hd) ?_;rw [Zay];exact u _ _
end Go.Dn.F
set_option maxRecDepth 40000
namespace Go.Dn.F
open Go.Dn
variable {N:Nat}
theorem bit_of {m:Int} (hm:isN m) {j:Nat} (hj:j<256):ZaG .and .u64 (Zbn .u64 ((nw m).getD (j/64) 0) ((j%64:Nat):Int)) 1=m/2^j%2:=by
 have w:isW (m/2^(64*(j/64))%18446744073709551616/2^(j%64)):=by
  have p:=ZbJ (j%64);have:m/2^(64*(j/64))%18446744073709551616/2^(j%64)≤m/2^(64*(j/64))%18446744073709551616:=uC _ aC;have:0≤m/2^(64*(j/64))%18446744073709551616/2^(j%64):=xD aC aC;unfold isW;omega
 rw [ZhQ hm aC,ZlS _ (k:=j%64) aC,show (1:Int)=2^1-1 from rfl,ZqN w 1 aC,show (2:Int)^1=2 from rfl,Ztt _ aC,xM (vX (ZbJ _)),←xO,qL]
theorem top_bit {m:Int} (hm:isN m):(Zbn .u64 ((nw m).getD 3 0) 63==1)=decide (57896044618658097711785492504343953926634992332820282019728792003956564819968≤m):=by
 unfold isN at hm;rw [ZhQ hm aC,show (63:Int)=((63:Nat):Int) from rfl,ZlS _ (k:=63) aC,show (2:Int)^(64*3)=2^192 from rfl,show (2:Int)^63=9223372036854775808 from rfl,wA];simp only [beq_iff_eq,decide_eq_true_eq];omega
theorem set_bit {m:Int} (hm:isN m) {j:Nat} (hj:j<256) (h:m%2^(j+1)=0) :
  (nw m).set (j/64) (ZaG .or .u64 ((nw m).getD (j/64) 0) (ZbB .u64 1 ((j%64:Nat):Int)))=nw (m+2^j)∧isN (m+2^j):=by
 have p:=ZbJ (j%64);have p2:(2:Int)^(j%64+1)=2*2^(j%64):=by rw [uK];omega
 have le:(2:Int)^(j%64+1)≤18446744073709551616:=Zek (b:=64) aC;have sh:ZbB .u64 1 ((j%64:Nat):Int)=2^(j%64):=by rw [Zpj _ aC];omega
 have e:(2:Int)^(j+1)=2^(64*(j/64))*2^(j%64+1):=by rw [←xO];congr 1;omega
 have q:=ZbJ (64*(j/64));have gd:=ZhQ hm (j:=j/64) aC;have md:m/2^(64*(j/64))%2^(j%64+1)=0:=by
  have:=emod_mul' m q (show (0:Int)<2^(j%64+1) by omega);rw [←e,h] at this;have a1:=vJ m (b:=2^(64*(j/64))) aC;have a2:=vJ (m/2^(64*(j/64))) (b:=2^(j%64+1)) aC;have a3:0≤2^(64*(j/64))*(m/2^(64*(j/64))%2^(j%64+1)):=wD aC a2;rcases (by omega:m/2^(64*(j/64))%2^(j%64+1)=0∨0<m/2^(64*(j/64))%2^(j%64+1)) with k | k
  ·exact k
  have:=qV q k;omega
 have ev:(nw m).getD (j/64) 0%2^(j%64+1)=0:=by
  rw [gd,show (18446744073709551616:Int)=2^(j%64+1)*2^(64-(j%64+1)) from (Zfo aC).symm,emod_mul' _ aC (ZbJ _),md,pN];exact Int.mul_emod_right _ _
 have lt:(nw m).getD (j/64) 0+2^(j%64+1)≤18446744073709551616:=by
  have w:0≤(nw m).getD (j/64) 0∧(nw m).getD (j/64) 0<18446744073709551616:=by rw [gd];omega
  generalize (nw m).getD (j/64) 0=x at *;have s:=Zfo (k:=j%64+1) aC;have e1:=yZ x (2^(j%64+1));rw [ev,sG] at e1;have:x/2^(j%64+1)<2^(64-(j%64+1)):=wG aC (by rw [yJ,s];exact w.2);have:=wT (show x/2^(j%64+1)+1≤2^(64-(j%64+1)) by omega) (show (0:Int)≤2^(j%64+1) by omega);rw [yJ (2^(64-(j%64+1))),s,yQ,uG] at this;omega
 have nn:0≤(nw m).getD (j/64) 0:=by rw [gd];omega
 have st:=Zmw hm (j:=j/64) (X:=2^(j%64)) aC aC aC;rw [sh,ZhP (k:=j%64+1) aC nn lt ev aC aC];have e3:(2:Int)^(j%64)*2^(64*(j/64))=2^j:=by rw [←xO];congr 1;omega
 rw [e3] at st;exact st
theorem ZnQ (hN:300≤N) {a b:Int} (ha:isN a) (hb:isN b) (hb0:0<b):ZbD N (nw a) (nw b)=some (nw (a/b),nw (a%b)):=by
 have bl:Zhe a≤256:=Zih ha.2;unfold ZbD;rw [Zej hb,Zab,aB aF,Zki aC ha,Zab,ZaH aC aC];have a0:a/2^Zhe a=0:=uL ha.1 (ZnI ha.1);refine ZbZ (fun m (x:Int×List Int×List Int)=>m≤256∧x=((m:Int)-1,nw (a/2^m/b*2^m),nw (a/2^m%b))∧isN (a/2^m/b*2^m)) ?_ N (Zhe a) _ ⟨bl,?_,?_⟩ aC
 ·rintro G m _ ⟨hm,rfl,hq⟩ hG;unfold ZbD.p1;dsimp only;by_cases h0:m=0
  ·subst h0;rw [aB aD];simp
  obtain ⟨j,rfl⟩ : ∃i,m=i+1:=⟨m-1,aC⟩
  have hj:j<256:=aC
  have e1:w64 (zR (j:Int) 64)=((j/64:Nat):Int):=by rw [ZeB aC,ZaH aC aC];omega
  have e2:yA (j:Int) 64=((j%64:Nat):Int):=by rw [Zfi aC];omega
  have hf:=half a j;have bt:0≤a/2^j%2∧a/2^j%2<2:=aC
  have r0:=vJ (a/2^(j+1)) (b:=b) aC;have r1:=wW (a/2^(j+1)) hb0;have de:=yZ (a/2^(j+1)) b;have rN:isN (a/2^(j+1)%b):=by unfold isN at *;omega
  have sb:=set_bit hq hj (uW _ _);have pj:=ZbJ j;have qe:a/2^(j+1)/b*2^(j+1)=(2*(a/2^(j+1)/b))*2^j:=by rw [uK,yJ (2^j) 2,←yG,yJ _ 2]
  have top:=top_bit rN;have bit:=bit_of ha hj;generalize hB:a/2^j%2=B at *;generalize hR:a/2^(j+1)%b=R at *;generalize hQ:a/2^(j+1)/b=Q at *;have x14:isN (R*2^1%2^256):=by unfold isN;omega
  have low:(nw (R*2^1%2^256)).getD 0 0=R*2%18446744073709551616:=by
   rw [Zmx,show (2:Int)^1=2 from rfl];omega
  have orb:ZaG .or .u64 (R*2%18446744073709551616) B=R*2%18446744073709551616+B:=ZhP (k:=1) aC aC (by rw [show (2:Int)^1=2 from rfl];omega) (by rw [show (2:Int)^1=2 from rfl];omega) bt.1 (by rw [show (2:Int)^1=2 from rfl];omega);have st:=Zmw x14 (j:=0) (X:=B) aC bt.1 (by rw [low];omega);rw [low,show (2:Int)^(64*0)=1 from rfl,tM,show (2:Int)^1=2 from rfl] at st;have done : ∀(Q' R':Int),2*(Q*b+R)+B=Q'*b+R'→0≤R'→R'<b→∀o:List Int,o=nw (Q'*2^j)→isN (Q'*2^j)→ZbD.p2 N G (j:Int) (nw a) (nw b) o (nw R')=some (nw (a/b),nw (a%b)):=fun Q' R' hE h1 h2 o ho hi=>by
   have dd:=(uY hb0 (a:=a/2^j) (q:=Q') (r:=R')).2 ⟨by rw [yJ b,hf,←de];omega,h1,h2⟩;unfold ZbD.p2;rw [ZaH aC aC,ho];exact hG j _ aC ⟨aC,by rw [dd.1,dd.2],by rw [dd.1];exact hi⟩
  have Q1:isN ((2*Q+1)*2^j):=by rw [yQ,uG,←qe];exact sb.2
  have O1:(nw (Q*2^(j+1))).set (j/64) (ZaG .or .u64 ((nw (Q*2^(j+1))).getD (j/64) 0) (ZbB .u64 1 ((j%64:Nat):Int)))=nw ((2*Q+1)*2^j):=by
   rw [sb.1,qe,yQ (2*Q),uG]
  rw [aA aF,show ((j+1:Nat):Int)-1=(j:Int) by omega,show (1:Int)=((1:Nat):Int) from rfl,ZiC aC rN 1 aC,Zab,e1,e2,Zag aC,Zag aC,Zag aC,zH,show ((1:Nat):Int)=1 from rfl,top,bit,low,orb,show (2:Int)^1=2 from rfl,st.1,O1];by_cases ht:(57896044618658097711785492504343953926634992332820282019728792003956564819968:Int)≤R
  ·rw [aA (aH ht),Zkg aC st.2 hb,Zab];dsimp only;have:(R*2%2^256+B-b)%2^256=2*R+B-b:=by unfold isN at *;omega
   rw [this];exact done (2*Q+1) (2*R+B-b) (by rw [yQ,yG];omega) (by unfold isN at *;omega) aC _ rfl Q1
  rw [aB (aH ht),ZfY aC st.2 hb,Zab];have v:R*2%2^256+B=2*R+B:=by unfold isN at *;omega
  rw [v];by_cases hl:2*R+B<b
  ·rw [aB (aH hl)];exact done (2*Q) (2*R+B) (by rw [yG];omega) aC hl _ (by rw [qe]) (by rw [←qe];exact hq)
  rw [aA (aH hl),Zkg aC (by rw [←v];exact st.2) hb,Zab];dsimp only;have:(2*R+B-b)%2^256=2*R+B-b:=by unfold isN at *;omega
  rw [this];exact done (2*Q+1) (2*R+B-b) (by rw [yQ,yG];omega) aC aC _ rfl Q1
 ·rw [a0];simp [Zef]
 rw [a0];simp;unfold isN;omega
theorem ZiT (hN:10≤N):ZdS N=some (nw 115792089237316195423570985008687907853269984665640564039457584007913129639935):=by
 unfold ZdS;rw [Zef,Zkh hN (by unfold isN;omega),Zab,Int.sub_zero]
def wkOf (t:Int):Int:=
 if 2^256≤t+1 then 1
 else if 2^256≤(115792089237316195423570985008687907853269984665640564039457584007913129639935-t)/(t+1)+1 then 115792089237316195423570985008687907853269984665640564039457584007913129639935
 else (115792089237316195423570985008687907853269984665640564039457584007913129639935-t)/(t+1)+1
theorem wkQ {t:Int} (h:isN t):0≤(115792089237316195423570985008687907853269984665640564039457584007913129639935-t)/(t+1)∧(115792089237316195423570985008687907853269984665640564039457584007913129639935-t)/(t+1)≤115792089237316195423570985008687907853269984665640564039457584007913129639935-t:=by
 unfold isN at h;exact ⟨xD aC aC,uC _ aC⟩
theorem ZpR {t:Int} (h:isN t):isN (wkOf t):=by
 have:=wkQ h;unfold wkOf isN at *;split
 ·omega
 split<;>omega
theorem ZqV (hN:300≤N) {t:Int} (h:isN t):Zgl N (nw t)=some (nw (wkOf t)):=by
 have q:=wkQ h;unfold Zgl wkOf;rw [Zgm (by unfold isW;omega),Zab,ZfM aC h (by unfold isN;omega),Zab];dsimp only;by_cases h1:(2^256:Int)≤t+1
 ·rw [aA (aH h1),aA h1]
 unfold isN at h;have e:(t+1)%2^256=t+1:=aC
 rw [aB (aH h1),aB h1,Zkh aC h,Zab,e,ZnQ hN (by unfold isN;omega) (by unfold isN;omega) aC,Zab];dsimp only;rw [ZfM aC (by unfold isN;omega) (by unfold isN;omega),Zab];dsimp only;by_cases h2:(2^256:Int)≤(115792089237316195423570985008687907853269984665640564039457584007913129639935-t)/(t+1)+1
 ·rw [aA (aH h2),aA h2,ZiT aC,Zab]
 rw [aB (aH h2),aB h2,xH aC aC]
def Zgu (b:Int):Int:=if (Zgr b).2.1||(Zgr b).2.2||decide ((Zgr b).1=0) then 0 else wkOf (Zgr b).1
theorem Zij (b:Int):isN (Zgu b):=by
 unfold Zgu;split
 ·unfold isN;omega
 exact ZpR (Zfm b)
theorem ZiA (hN:300≤N) (b:Int):ZdJ N b=some (nw (Zgu b)):=by
 unfold ZdJ Zgu;rw [ZfI aC,Zab];dsimp only;rw [Zej (Zfm b),Zab,ZqV hN (Zfm b),Zab,Zef];cases (Zgr b).2.1<;>cases (Zgr b).2.2<;>cases (decide ((Zgr b).1=0))<;>rfl
def ZlP (a b:Int):Int:=if 2^256≤a+b then 115792089237316195423570985008687907853269984665640564039457584007913129639935 else a+b
theorem ZrC {a b:Int} (ha:isN a) (hb:isN b):isN (ZlP a b):=by
 unfold ZlP isN at *;split<;>omega
theorem Zpa (hN:10≤N) {a b:Int} (ha:isN a) (hb:isN b):Zft N [[zK .u64 4 (nw a)],[zK .u64 4 (nw b)]]=some (nw (ZlP a b)):=by
 obtain ⟨N,rfl⟩ : ∃q,N=q+3:=⟨N-3,aC⟩
 have s:Zcv (N+3) [[zK .u64 4 (nw a)],[zK .u64 4 (nw b)]]=some (nw ((a+b)%2^256),decide (2^256≤a+b)):=by
  unfold Zcv;have z:isN 0:=by unfold isN;omega
  have t0 : ∀G:Bool×Int×List Int→Option (List Int×Bool),Zcv.p1 (N+3) [[zK .u64 4 (nw a)],[zK .u64 4 (nw b)]] G (false,0,nw 0)=G (false,1,nw a):=fun G=>by
   unfold isN at ha;unfold Zcv.p1;dsimp only;rw [aA (by simp [len]),Zag aC,show ([[zK .u64 4 (nw a)],[zK .u64 4 (nw b)]]:LL)[zC 0]? = some [zK .u64 4 (nw a)] from rfl,Zax];show Zbj (ZbT (N+3) (nw 0) (nw a)) _=_;rw [ZfM aC z ha,Zab,ZaH aC aC,show (0+a)%2^256=a by omega,show decide ((2^256:Int)≤0+a)=false by simp;omega];rfl
  have t1 : ∀G:Bool×Int×List Int→Option (List Int×Bool),Zcv.p1 (N+3) [[zK .u64 4 (nw a)],[zK .u64 4 (nw b)]] G (false,1,nw a)=G (decide (2^256≤a+b),2,nw ((a+b)%2^256)):=fun G=>by
   unfold Zcv.p1;dsimp only;rw [aA (by simp [len]),Zag aC,show ([[zK .u64 4 (nw a)],[zK .u64 4 (nw b)]]:LL)[zC 1]? = some [zK .u64 4 (nw b)] from rfl,Zax];show Zbj (ZbT (N+3) (nw a) (nw b)) _=_;rw [ZfM aC ha hb,Zab,ZaH aC aC];rfl
  have t2 : ∀(G:Bool×Int×List Int→Option (List Int×Bool)) (o:Bool) (l:List Int),Zcv.p1 (N+3) [[zK .u64 4 (nw a)],[zK .u64 4 (nw b)]] G (o,2,l)=some (l,o):=fun G o l=>by
   unfold Zcv.p1;dsimp only;rw [aB (by simp [len])]
  rw [Zef,Zay,t0,Zay,t1,Zay,t2]
 unfold Zft ZlP;rw [s,Zab];dsimp only;by_cases h:(2^256:Int)≤a+b
 ·rw [aA (aH h),aA h,ZiT aC,Zab]
 unfold isN at *;rw [aB (aH h),aB h,xH aC aC]
theorem Zmr {m:Int} (hm:isN m) {j:Nat} (hj:j<256) (h:m<2^j):ZdX N (nw m) (j:Int)=some (nw (m+2^j))∧isN (m+2^j):=by
 have e1:w64 (zR (j:Int) 64)=((j/64:Nat):Int):=by rw [ZeB aC,ZaH aC aC];omega
 have e2:v64 (yA (j:Int) 64)=((j%64:Nat):Int):=by rw [Zfi aC,ZcO aC aC];omega
 have p:=ZbJ (j%64);have p2:(2:Int)^(j%64+1)=2*2^(j%64):=by rw [uK];omega
 have le:(2:Int)^(j%64+1)≤18446744073709551616:=Zek (b:=64) aC;have sh:ZbB .u64 1 ((j%64:Nat):Int)=2^(j%64):=by rw [Zpj _ aC];omega
 have gd:=ZhQ hm (j:=j/64) aC;have e:(2:Int)^j=2^(64*(j/64))*2^(j%64):=by rw [←xO];congr 1;omega
 have sm:m/2^(64*(j/64))<2^(j%64):=wG (ZbJ _) (by rw [yJ,←e];exact h);have sm0:0≤m/2^(64*(j/64)):=xD hm.1 (vX (ZbJ _));rw [xH sm0 aC] at gd;have or1:ZaG .or .u64 ((nw m).getD (j/64) 0) (2^(j%64))=(nw m).getD (j/64) 0+2^(j%64):=by
  rw [gd,Zlk (by unfold isW;omega) (by unfold isW;omega),ZhP (k:=j%64) aC aC aC (Int.emod_self) sm0 sm];omega
 have st:=Zmw hm (j:=j/64) (X:=2^(j%64)) aC aC (by rw [gd];omega);have e3:(2:Int)^(j%64)*2^(64*(j/64))=2^j:=by rw [e,yJ]
 rw [e3] at st;unfold ZdX;rw [e1,e2,Zag aC,Zag aC,Zag aC,zH,sh,or1,st.1];exact ⟨rfl,st.2⟩
theorem Znm (a:Int) (i:Nat):a%2^(i+1)=a%2^i+2^i*(a/2^i%2):=by
 rw [uK];exact emod_mul' a (ZbJ i) aC
theorem Zgh (hN:300≤N) {a b:Int} (ha:isN a) (hb:isN b) :
  Zbc N (nw a) (nw b)=some (nw ((a+b)%2^256),decide (2^256≤a+b)):=by
 unfold Zbc;refine ZbZ (fun m (x:Int×Int×List Int)=>∃(i:Nat) (c o:Int),i+m=256∧x=(c,(i:Int),nw o)∧0≤c∧c≤1∧0≤o∧o<2^i∧o+c*2^i=a%2^i+b%2^i) ?_ N 256 _ ⟨0,0,0,aC,by rw [Zef];rfl,aC,aC,aC,by decide,by simp [pP]⟩ aC;rintro G m _ ⟨i,c,o,hi,rfl,c0,c1,o0,o1,he⟩ hG;unfold Zbc.p1 Zbc.p2;dsimp only;by_cases hlt:i<256
 ·have p:=ZbJ i;have oN:isN o:=⟨o0,wX o1 (Zek (b:=256) aC)⟩
  have ma:=Znm a i;have mb:=Znm b i;have x:0≤a/2^i%2∧a/2^i%2<2:=aC
  have y:0≤b/2^i%2∧b/2^i%2<2:=aC
  rw [aA aF,ZgQ ha hlt,Zab,ZgQ hb hlt,Zab];generalize a/2^i%2=X at *;generalize b/2^i%2=Y at *;rw [ZaH (n:=X+Y) aC aC,ZaH (n:=X+Y+c) aC aC,Zfi aC,ZeB aC,ZaH (n:=(X+Y+c)/2) aC aC,ZaH aC aC];have ps:(2:Int)^(i+1)=2*2^i:=by rw [uK];omega
  generalize hP:(2:Int)^i=P at *;have key : ∀k:Int,X+Y+c=k→P*X+P*Y+c*P=k*P:=fun k hk=>by rw [←hk,yQ,yQ,yJ P X,yJ P Y]
  by_cases hs:(X+Y+c)%2=1
  ·have st:=Zmr (N:=N) oN hlt (by rw [hP];exact o1);rw [hP] at st;rw [aA (aH hs),st.1,Zab];refine hG (m-1) _ aC ⟨i+1,(X+Y+c)/2,o+P,aC,rfl,aC,aC,aC,aC,?_⟩;have k:=key ((X+Y+c)/2*2+1) aC;rw [yQ,uG,yG] at k;rw [ma,mb,ps];omega
  rw [aB (aH hs)];refine hG (m-1) _ aC ⟨i+1,(X+Y+c)/2,o,aC,rfl,aC,aC,aC,aC,?_⟩;have k:=key ((X+Y+c)/2*2) aC;rw [yG] at k;rw [ma,mb,ps];omega
 have:i=256:=aC
 subst this;unfold isN at ha hb;rw [aB aD];rw [show (2:Int)^256=2^256 from rfl] at *;have e1:(a+b)%2^256=o:=aC
 rw [e1]
 congr 2
 rw [wA];simp only [beq_iff_eq,decide_eq_true_eq];omega
theorem Zmt (hN:300≤N) {a:Int} (ha:isN a):Zbz N (nw a)=some (nw (115792089237316195423570985008687907853269984665640564039457584007913129639935-a)):=by
 unfold Zbz;refine ZbZ (fun m (x:Int×List Int)=>∃(i:Nat) (o:Int),i+m=256∧x=((i:Int),nw o)∧0≤o∧o<2^i∧o+a%2^i=2^i-1) ?_ N 256 _ ⟨0,0,aC,by rw [Zef];rfl,aC,by decide,by simp [pP]⟩ aC;rintro G m _ ⟨i,o,hi,rfl,o0,o1,he⟩ hG;unfold Zbz.p1 Zbz.p2;dsimp only;by_cases hlt:i<256
 ·have p:=ZbJ i;have oN:isN o:=⟨o0,wX o1 (Zek (b:=256) aC)⟩
  have ma:=Znm a i;have x:0≤a/2^i%2∧a/2^i%2<2:=aC
  have ps:(2:Int)^(i+1)=2*2^i:=by rw [uK];omega
  rw [aA aF,ZgQ ha hlt,Zab,ZaH aC aC];by_cases hs:a/2^i%2=0
  ·have st:=Zmr (N:=N) oN hlt o1;rw [aA (aH hs),st.1,Zab];rw [hs] at ma;exact hG (m-1) _ aC ⟨i+1,o+2^i,aC,rfl,aC,aC,by rw [ma,ps];omega⟩
  have h1:a/2^i%2=1:=aC
  rw [h1] at ma;rw [aB (aH hs)];exact hG (m-1) _ aC ⟨i+1,o,aC,rfl,aC,aC,by rw [ma,ps];omega⟩
 have:i=256:=aC
 subst this;unfold isN at ha;rw [aB aD];rw [show (2:Int)^256=2^256 from rfl] at *
 congr 2;omega
theorem Zqo : [1,0,0,0]=nw 1:=Zpv (by unfold isW;omega)
theorem Zms (hN:300≤N) {a b:Int} (ha:isN a) (hb:isN b):ZdY N (nw a) (nw b)=some (nw ((a-b)%2^256),decide (a<b)):=by
 unfold ZdY;rw [Zmt hN hb,Zab,Zgh hN ha (by unfold isN at *;omega),Zab];dsimp only;rw [Zqo,Zgh hN (by unfold isN;omega) (by unfold isN;omega),Zab];dsimp only;rw [Zfn hN ha hb,Zab];have:((a+(115792089237316195423570985008687907853269984665640564039457584007913129639935-b))%2^256+1)%2^256=(a-b)%2^256:=aC
 rw [this]
theorem ZiJ (hN:300≤N):Zda N=some (nw 115792089237316195423570985008687907853269984665640564039457584007913129639935):=by
 unfold Zda;rw [Zef,Zmt hN (by unfold isN;omega),Zab,Int.sub_zero]
theorem Zoo (hN:300≤N) {a b:Int} (ha:isN a) (hb:isN b):Zey N (nw a) (nw b)=some (nw (ZlP a b)):=by
 unfold Zey ZlP;rw [Zgh hN ha hb,Zab];dsimp only;by_cases h:(2^256:Int)≤a+b
 ·rw [aA (aH h),aA h,ZiJ hN,Zab]
 unfold isN at *;rw [aB (aH h),aB h,xH aC aC]
theorem ZkS {t:Int} (ht:isN t) (h0:t≠0) (h1:t+1<2^256) {Q R:Int} (he:Q*(t+1)+R=2^256) (hR:0≤R) (hR1:R<t+1):wkOf t=Q:=by
 have q:=wkQ ht;unfold isN at ht;have dd:=(uY (a:=115792089237316195423570985008687907853269984665640564039457584007913129639935-t) (b:=t+1) (q:=Q-1) (r:=R) aC).2 ⟨by rw [Int.mul_sub,yJ (t+1) Q];omega,hR,hR1⟩;have le:(115792089237316195423570985008687907853269984665640564039457584007913129639935-t)/(t+1)+1<2^256:=aC
 unfold wkOf;rw [aB aC,aB aC,dd.1];omega
theorem Zpq (hN:300≤N) {t:Int} (ht:isN t):Zbp N (nw t)=some (nw (wkOf t)):=by
 unfold Zbp;have ht':=ht;unfold isN at ht';have oneN:isN 1:=by unfold isN;omega
 rw [Zqo,Zgh hN ht oneN,Zab];dsimp only;by_cases h1:(2^256:Int)≤t+1
 ·rw [aA (aH h1)];unfold wkOf;rw [aA h1]
 rw [aB (aH h1),show (t+1)%2^256=t+1 by omega];have z:(nw t==zB 4 0)=decide (t=0):=xZ (Zej (N:=0) ht);rw [z,ZiJ hN,Zab];by_cases h0:t=0
 ·rw [aA (aH h0)];subst h0;rfl
 rw [aB (aH h0),Zab];have dN:isN (t+1):=by unfold isN;omega
 refine ZbZ (fun m (x:Int×List Int×List Int)=>m≤256∧∃Q R:Int,x=((m:Int)-1,nw (Q*2^m),nw (R-1))∧0≤Q∧0<R∧R≤2^256∧R≤(t+1)*2^m∧Q*2^m*(t+1)+R=2^256) ?_ N 256 _ ⟨aC,0,2^256,by rw [Zef];rfl,aC,aC,aC,by rw [show (2:Int)^256=2^256 from rfl];omega,aC⟩ aC;rintro G m _ ⟨hm,Q,R,rfl,hQ,hR,hR2,hR3,he⟩ hG;have qN:isN (Q*2^m):=by
  have p:=ZbJ m;have a:0≤Q*2^m:=wD hQ aC;have:=wQ (show (1:Int)≤t+1 by omega) a;rw [tM] at this;unfold isN;omega
 have rN:isN (R-1):=by unfold isN;omega
 unfold Zbp.p1 Zbp.p2 Zbp.p3;dsimp only;by_cases hz:m=0
 ·subst hz;rw [show (2:Int)^0=1 from rfl,tM] at *;rw [aB aD,Zfn hN rN ht,Zab];by_cases hl:R-1<t
  ·rw [aB (aH hl),ZkS ht h0 aC he aC aC]
  have:R=t+1:=aC
  have e2:(Q+1)*(t+1)+0=2^256:=by rw [yQ];omega
  have w:=ZkS ht h0 aC e2 aC aC;have wN:=ZpR ht;rw [w] at wN;unfold isN at wN;rw [aA (aH hl),Zqo,Zgh hN qN oneN,Zab];dsimp only;rw [xH aC aC,w]
 obtain ⟨j,rfl⟩ : ∃i,m=i+1:=⟨m-1,aC⟩
 have hj:j<256:=aC
 have p:=ZbJ j;have ps:(2:Int)^(j+1)=2*2^j:=by rw [uK];omega
 have qs:Q*2^(j+1)=2*Q*2^j:=by rw [ps,←yG,yJ Q 2]
 have ds:(t+1)*2^(j+1)=2*((t+1)*2^j):=by rw [ps,vM]
 have D0:0<(t+1)*2^j:=qV aC p;rw [aA aF,show ((j+1:Nat):Int)-1=(j:Int) by omega,Zlo aC dN,Zab,show w64 (0-(j:Int)) = -(j:Int) by rw [ZaH aC aC];omega];rw [ZaH (n:=(j:Int)-1) aC aC];have xN:isN ((t+1)*2^j%2^256):=by unfold isN;omega
 rw [ZhS aC xN,Zab];by_cases hov:(2^256:Int)≤(t+1)*2^j
 ·have ne : ¬ (t+1)*2^j%2^256/2^j=t+1:=by
   intro k;have a1:(t+1)*2^j%2^256<(t+1)*2^j:=aC
   have a2:(t+1)*2^j%2^256/2^j<t+1:=wG p a1;omega
  have nN:isN ((t+1)*2^j%2^256/2^j):=by
   have a2:(t+1)*2^j%2^256/2^j≤(t+1)*2^j%2^256:=uC _ aC;have a3:0≤(t+1)*2^j%2^256/2^j:=xD aC aC;unfold isN;omega
  rw [aA (by simp only [Bool.not_eq_true',beq_eq_false_iff_ne,ne_eq];exact fun k=>ne (Zqp nN dN k))];exact hG j _ aC ⟨aC,2*Q,R,by rw [qs],aC,hR,hR2,aC,by rw [←qs];exact he⟩
 have em:(t+1)*2^j%2^256=(t+1)*2^j:=aC
 rw [em,Int.mul_ediv_cancel _ aC];have DN:isN ((t+1)*2^j):=by unfold isN;omega
 rw [aB aD,Zqo,Zms hN DN oneN,Zab];dsimp only;rw [show ((t+1)*2^j-1)%2^256=(t+1)*2^j-1 by omega,Zfn hN rN (by unfold isN;omega),Zab];by_cases hl:R-1<(t+1)*2^j-1
 ·rw [aB (aH hl)];exact hG j _ aC ⟨aC,2*Q,R,by rw [qs],aC,hR,hR2,aC,by rw [←qs];exact he⟩
 rw [aA (aH hl),Zms hN rN DN,Zab];dsimp only;rw [Zlo aC oneN,Zab,uG];have pj:(2:Int)^j<2^256:=wX (show (2:Int)^j<2^(j+1) by omega) (Zek (b:=256) aC);have qo:Q*2^(j+1)+2^j=(2*Q+1)*2^j:=by rw [qs,yQ,uG]
 have he2:(2*Q+1)*2^j*(t+1)+(R-(t+1)*2^j)=2^256:=by
  rw [←qo,yQ,yJ (2^j) (t+1)];omega
 have oN:(2*Q+1)*2^j<2^256:=by
  have a:0≤(2*Q+1)*2^j:=wD aC aC;have:=wQ (show (2:Int)≤t+1 by omega) a;omega
 have o0:0≤(2*Q+1)*2^j:=wD aC aC;rw [xH (a:=(2:Int)^j) aC pj,Zgh hN qN (by unfold isN;omega),Zab];dsimp only;rw [qo,xH o0 oN,ZiJ hN,Zab];by_cases hx:R=(t+1)*2^j
 ·have e:(R-1-(t+1)*2^j)%2^256=115792089237316195423570985008687907853269984665640564039457584007913129639935:=by omega
  rw [e,aA aD,ZkS ht h0 aC (Q:=(2*Q+1)*2^j) (R:=0) aC aC aC]
 have e:(R-1-(t+1)*2^j)%2^256=R-(t+1)*2^j-1:=aC
 rw [e,aB (by
  intro k;have:=Zqp (by unfold isN;omega) (by unfold isN;omega) (eq_of_beq k);omega)]
 exact hG j _ aC ⟨aC,2*Q+1,R-(t+1)*2^j,rfl,aC,aC,aC,aC,he2⟩
theorem ZhN (hN:300≤N) (b:Int):Zcj N b=some (nw (Zgu b)):=by
 unfold Zcj Zgu;rw [Zhk hN,Zab];dsimp only;have z:(nw (Zgr b).1==zB 4 0)=decide ((Zgr b).1=0):=xZ (Zej (N:=0) (Zfm b));rw [z,Zpq hN (Zfm b),Zab,Zef];cases (Zgr b).2.1<;>cases (Zgr b).2.2<;>cases (decide ((Zgr b).1=0))<;>rfl
end Go.Dn.F
