import Derived.Test.YtlofpeadcmldhaaGreatDoorGa
import Derived.Test.YtlofpeadcmldhaaGreatDoorFa
import Derived.Test.YtlofpeadcmldhaaGreatDoorKc
set_option linter.all false
open Bool renaming and_eq_true→zV
open Go.Dn.L renaming int→zM
open Int renaming toNat_natCast→zH,toNat→zC,fdiv_eq_ediv_of_nonneg→uP,tmod_eq_emod_of_nonneg→xJ
open List renaming getElem?_eq_getElem→zO,getElem?_eq_some_iff→yE,getElem?_set_self→zP,set_set→xX,replicate→zB,drop_drop→sD,append_assoc→yH,take_append_drop→wO,length_append→zT,take_succ_eq_append_getElem→zZ,flatten_append→rF,flatten_cons→uU,flatten_nil→tN,append_nil→vI,take_of_length_le→zW,nil_append→vZ,map_map→rK,map_congr_left→tR,flatMap_cons→vW
open Nat renaming le_refl→zJ
set_option maxRecDepth 4000
namespace Go.Dn.F
open Go.Dn
def byI (x:UInt8):Int:=(x.toNat:Int)
theorem Ztq (x:UInt8):byI x<256:=by have:=x.toNat_lt;simp only [byI];omega
theorem Ztp (x:UInt8):0≤byI x:=Int.natCast_nonneg _
def Zga (b:Bs):LL:=b.map fun x=>[zM .u8 (byI x)]
def mkB (b:Bs):ByteArray:=⟨b.toArray⟩
theorem Zfc (b:Bs):(Zga b).length=b.length:=by simp [Zga]
theorem Zto (b:Bs):ZnH (mkB b)=Zga b:=by simp [ZnH,mkB,Zga,byI]
theorem ZkG {b:Bs} {i:Nat} (h:i<b.length):(Zga b)[i]? = some [zM .u8 (byI (b.getD i 0))]:=by
 simp [Zga,zO h,List.getD]
theorem ZnR (x:UInt8):v32 (byI x)=iW (Zgt x):=by
 have:=Ztq x;rw [iW_byte (Ztp x) this];simp [byI,Zgt]
theorem xor0 (x:W):(0:W) ^^^ x=x:=by simp
theorem rot_eq (N:Nat) (x:W) (n:Nat) (h0:0<n) (h1:n<32) (h:ZaG .and .u64 (v64 (w64 (0-(n:Int)))) 31=((32-n:Nat):Int)):Zca N (iW x) (w64 (0-(n:Int)))=some (iW (ror x n)):=by
 unfold Zca;rw [h];have e:v64 (32-((32-n:Nat):Int))=(n:Int):=by rw [ZcO aC aC];omega
 rw [Zag aC,e,Zag aC,ZoI _ _ aC,ZmC _ _ aC,ZsI,BitVec.or_comm];rfl
theorem ZhE (N:Nat) (G:Int×Int→Option Int) (x o:W) (l:LL) (i n:Nat) (h0:0<n) (h1:n<32) (hb:ZaG .and .u64 (v64 (w64 (0-(n:Int)))) 31=((32-n:Nat):Int)) (hl:l[i]? = some [zM .i64 (n:Int)]) (hi:i<1000) :
  Zbi.p1 N (iW x) l G (iW o,(i:Int))=G (iW (o ^^^ ror x n),((i+1:Nat):Int)):=by
 have hlt:=(yE.1 hl).1;unfold Zbi.p1;dsimp only;rw [aA aE,Zag aC,zH,hl,Zax,ZdV,rot_eq N x n h0 h1 hb,Zab,ZoH,ZaH aC aC];rfl
theorem ZpV (N:Nat) (G:Int×Int→Option Int) (x o:W) (l:LL) (i:Nat) (hi:l.length≤i):Zbi.p1 N (iW x) l G (iW o,(i:Int))=some (iW o):=by
 unfold Zbi.p1;dsimp only;rw [aB aE]
theorem turn2 (N:Nat) (hN:10≤N) (x:W) (a b:Nat) (h0:0<a) (h1:a<32) (h2:0<b) (h3:b<32) (ha:ZaG .and .u64 (v64 (w64 (0-(a:Int)))) 31=((32-a:Nat):Int)) (hb:ZaG .and .u64 (v64 (w64 (0-(b:Int)))) 31=((32-b:Nat):Int)) :
  Zbi N (iW x) [[zM .i64 (a:Int)],[zM .i64 (b:Int)]]=some (iW (ror x a ^^^ ror x b)):=by
 obtain ⟨N',e⟩ : ∃N',N=N'+3:=⟨N-3,aC⟩
 unfold Zbi;have key : ∀k,loopN (Zbi.p1 N (iW x) [[zM .i64 (a:Int)],[zM .i64 (b:Int)]]) (k+3) (iW 0,((0:Nat):Int))=some (iW (ror x a ^^^ ror x b)):=fun k=>by
  rw [Zay,ZhE N _ x 0 _ 0 a h0 h1 ha rfl aC,Zay,ZhE N _ x _ _ 1 b h2 h3 hb rfl aC,Zay,ZpV N _ x _ _ _ aD,xor0]
 have:=key N';rw [←e] at this;exact this
theorem turn3 (N:Nat) (hN:10≤N) (x:W) (a b c:Nat) (h0:0<a) (h1:a<32) (h2:0<b) (h3:b<32) (h4:0<c) (h5:c<32) (ha:ZaG .and .u64 (v64 (w64 (0-(a:Int)))) 31=((32-a:Nat):Int)) (hb:ZaG .and .u64 (v64 (w64 (0-(b:Int)))) 31=((32-b:Nat):Int))
  (hc:ZaG .and .u64 (v64 (w64 (0-(c:Int)))) 31=((32-c:Nat):Int)) :
  Zbi N (iW x) [[zM .i64 (a:Int)],[zM .i64 (b:Int)],[zM .i64 (c:Int)]]=some (iW ((ror x a ^^^ ror x b) ^^^ ror x c)):=by
 obtain ⟨N',e⟩ : ∃N',N=N'+4:=⟨N-4,aC⟩
 unfold Zbi;have key : ∀k,loopN (Zbi.p1 N (iW x) [[zM .i64 (a:Int)],[zM .i64 (b:Int)],[zM .i64 (c:Int)]]) (k+4) (iW 0,((0:Nat):Int))=some (iW ((ror x a ^^^ ror x b) ^^^ ror x c)):=fun k=>by
  rw [Zay,ZhE N _ x 0 _ 0 a h0 h1 ha rfl aC,Zay,ZhE N _ x _ _ 1 b h2 h3 hb rfl aC,Zay,ZhE N _ x _ _ 2 c h4 h5 hc rfl aC,Zay,ZpV N _ x _ _ _ aD,xor0]
 have:=key N';rw [←e] at this;exact this
theorem t_6 (N:Nat) (hN:10≤N) (x:W):Zbi N (iW x) [[zM .i64 6],[zM .i64 11],[zM .i64 25]]=some (iW (bg1 x)):=turn3 N hN x 6 11 25 aC aC aC aC aC aC (by decide +kernel) (by decide +kernel) (by decide +kernel)
theorem t_2 (N:Nat) (hN:10≤N) (x:W):Zbi N (iW x) [[zM .i64 2],[zM .i64 13],[zM .i64 22]]=some (iW (bg0 x)):=turn3 N hN x 2 13 22 aC aC aC aC aC aC (by decide +kernel) (by decide +kernel) (by decide +kernel)
theorem t_7 (N:Nat) (hN:10≤N) (x:W):Zbi N (iW x) [[zM .i64 7],[zM .i64 18]]=some (iW (ror x 7 ^^^ ror x 18)):=turn2 N hN x 7 18 aC aC aC aC (by decide +kernel) (by decide +kernel)
theorem t_17 (N:Nat) (hN:10≤N) (x:W):Zbi N (iW x) [[zM .i64 17],[zM .i64 19]]=some (iW (ror x 17 ^^^ ror x 19)):=turn2 N hN x 17 19 aC aC aC aC (by decide +kernel) (by decide +kernel)
theorem shr3 (x:W):Zbn .u32 (iW x) 3=iW (x >>> 3):=ZmC x 3 aC
theorem shr10 (x:W):Zbn .u32 (iW x) 10=iW (x >>> 10):=ZmC x 10 aC
theorem shl24 (x:W):ZbB .u32 (iW x) 24=iW (x <<< 24):=ZoI x 24 aC
theorem shl16 (x:W):ZbB .u32 (iW x) 16=iW (x <<< 16):=ZoI x 16 aC
theorem shl8 (x:W):ZbB .u32 (iW x) 8=iW (x <<< 8):=ZoI x 8 aC
theorem ZdO {i:Nat} (h:i<1000000):w64 ((i:Int)+1)=((i+1:Nat):Int):=by rw [ZaH aC aC];rfl
theorem Zgv {i m:Nat} (h:i<1000000) (hm:m≤i):w64 ((i:Int)-(m:Int))=((i-m:Nat):Int):=by rw [ZaH aC aC];omega
theorem Zqa (i:Nat):glob_digest_steps.getD i 0=iW (kks.getD i 0):=by
 have:glob_digest_steps=kks.map iW:=by decide +kernel
 rw [this,ZfV]
theorem ZrG (N:Nat) (hN:100≤N) (i:Nat) (st:LL) (h:List W) (rest:LL) (size:Int) (hst:st[i]? = some (Zaq.lo ⟨h.map iW,rest,size⟩)) (hh:h.length=8) (b:Bs) (hb:b.length=64) :
  Zaj N (some i) (Zga b) st=some (st.set i (Zaq.lo ⟨(comp h b).map iW,rest,size⟩)):=by
 have hi:=(yE.1 hst).1;have e4 : ∀(s:List W) (hs:s.length=8),loopN (Zaj.p4 N i (s.map iW)) N (((0:Nat):Int),st.set i (Zaq.lo ⟨h.map iW,rest,size⟩))=some (st.set i (Zaq.lo ⟨(run (adw s) 0 8 h).map iW,rest,size⟩)):=fun s hs=>by
  refine Zir (fun (j:Nat) (x:List W)=>((j:Int),st.set i (Zaq.lo ⟨x.map iW,rest,size⟩))) (fun x=>x.length=8) (adw s) 0 8 (fun x=>some (st.set i (Zaq.lo ⟨x.map iW,rest,size⟩))) ?_ ?_ 8 0 N h (zJ _) rfl aC hh
  ·intro G j x h16 hj hx;refine ⟨?_,by simpa [adw] using hx⟩;unfold Zaj.p4;dsimp only;rw [aA aE,Zag aC,zP hi,Zax,ZeN];dsimp only;rw [zH,ZfV,ZfV,Zkt,Zml,xX,ZdO aC];rfl
  intro G x hx;unfold Zaj.p4;dsimp only;rw [aB aD]
 have e3 : ∀(w:List W),loopN (Zaj.p3 N i (w.map iW) st) N (((0:Nat):Int),h.map iW)=some (st.set i (Zaq.lo ⟨(run (adw (run (rnd w) 0 64 h)) 0 8 h).map iW,rest,size⟩)):=fun w=>by
  refine Zir (fun (j:Nat) (x:List W)=>((j:Int),x.map iW)) (fun x=>x.length=8) (rnd w) 0 64 (fun x=>some (st.set i (Zaq.lo ⟨(run (adw x) 0 8 h).map iW,rest,size⟩))) ?_ ?_ 64 0 N h (zJ _) rfl aC hh
  ·intro G j x h16 hj hx;refine ⟨?_,rfl⟩;unfold Zaj.p3;dsimp only;rw [aA aE];simp only [ZfV,zH,Zqa];rw [t_6 N aC,Zab,Zag aC,t_2 N aC,Zab,iW_max];simp only [iW_and,ZoH,Zkt];rw [ZdO aC];rfl
  intro G x hx;unfold Zaj.p3;dsimp only;rw [aB aD];have:=e4 x hx;rw [ZrR hst] at this;exact this
 have e2 : ∀(w:List W),w.length=64→loopN (Zaj.p2 N (some i) st) N (((16:Nat):Int),w.map iW)=some (st.set i (Zaq.lo ⟨(run (adw (run (rnd (run exw 16 48 w)) 0 64 h)) 0 8 h).map iW,rest,size⟩)):=fun w hw=>by
  refine Zir (fun (j:Nat) (x:List W)=>((j:Int),x.map iW)) (fun x=>x.length=64) exw 16 64 (fun x=>some (st.set i (Zaq.lo ⟨(run (adw (run (rnd x) 0 64 h)) 0 8 h).map iW,rest,size⟩))) ?_ ?_ 48 16 N w (zJ _) rfl aC hw
  ·intro G j x h16 hj hx;refine ⟨?_,by simpa [exw] using hx⟩;have a15:=Zgv (i:=j) (m:=15) aC aC;have a2:=Zgv (i:=j) (m:=2) aC aC;have a16:=Zgv (i:=j) (m:=16) aC aC;have a7:=Zgv (i:=j) (m:=7) aC aC;simp only [Int.cast_ofNat_Int] at a15 a2 a16 a7;unfold Zaj.p2;dsimp only;rw [aA aE,a15,a2,a16,a7];simp only [ZfV,zH];rw [Zag aC,Zag aC,Zag aC,Zag aC,Zag aC,Zag aC,t_7 N aC,Zab,Zag aC,Zag aC,t_17 N aC,Zab,Zag aC,shr3,shr10];simp only [ZoH,Zkt];rw [ZdO aC,Zml];rfl
  intro G x hx;unfold Zaj.p2;dsimp only;rw [aB aD,Zab,hst,Zax,ZeN];exact e3 x
 have e1:loopN (Zaj.p1 N (some i) (Zga b) st) N (((0:Nat):Int),(zB 64 (0:W)).map iW)=some (st.set i (Zaq.lo ⟨(comp h b).map iW,rest,size⟩)):=by
  refine Zir (fun (j:Nat) (x:List W)=>((j:Int),x.map iW)) (fun x=>x.length=64) (ldw b) 0 16 (fun x=>some (st.set i (Zaq.lo ⟨(run (adw (run (rnd (run exw 16 48 x)) 0 64 h)) 0 8 h).map iW,rest,size⟩))) ?_ ?_ 16 0 N _ (zJ _) rfl aC aD
  ·intro G j x h16 hj hx;refine ⟨?_,by simpa [ldw] using hx⟩;have b0:w64 (4*(j:Int))=((4*j:Nat):Int):=by rw [ZaH aC aC];omega
   have b1:=ZaH (n:=((4*j:Nat):Int)+1) aC aC;have b2:=ZaH (n:=((4*j:Nat):Int)+2) aC aC;have b3:=ZaH (n:=((4*j:Nat):Int)+3) aC aC;have c1:(((4*j:Nat):Int)+1).toNat=4*j+1:=aC
   have c2:(((4*j:Nat):Int)+2).toNat=4*j+2:=aC
   have c3:(((4*j:Nat):Int)+3).toNat=4*j+3:=aC
   have hl:len (Zga b)=64:=by have:=Zfc b;simp only [len];omega
   unfold Zaj.p1;dsimp only;rw [aA aE,b0,b1,b2,b3,c1,c2,c3,zH,Zag aC,Zag aC,ZkG aC,Zax,Zjw,Zag aC,Zag aC,ZkG aC,Zax,Zjw,Zag aC,Zag aC,ZkG aC,Zax,Zjw,Zag aC,Zag aC,ZkG aC,Zax,Zjw,Zag aC,Zag aC,
    ZnR,ZnR,ZnR,ZnR,shl24,shl16,shl8,ZsI,ZsI,ZsI,zH,Zml,ZdO aC]
   rfl
  intro G x hx;unfold Zaj.p1;dsimp only;rw [aB aD];exact e2 x hx
 exact e1
theorem ZiI (a b:Bs):Zga a++Zga b=Zga (a++b):=by simp [Zga]
theorem Zoj (n:Nat) (a:Bs):(Zga a).take n=Zga (a.take n):=by simp [Zga,List.map_take]
theorem Zok (n:Nat) (a:Bs):(Zga a).drop n=Zga (a.drop n):=by simp [Zga,List.map_drop]
theorem Zqu (a:Bs):len (Zga a)=(a.length:Int):=by simp only [len,Zfc]
theorem ZjC (n:Nat):byI (UInt8.ofNat n)=((n%256:Nat):Int):=by simp [byI]
theorem v8_nat (n:Nat):v8 (n:Int)=byI (UInt8.ofNat n):=by rw [Zkj,ZjC];omega
theorem shr_u64 (n k:Nat) (h:k≤64):Zbn .u64 (n:Int) (k:Int)=((n >>> k:Nat):Int):=by
 have e:min (zC (k:Int)) (IntKind.bits .u64)=k:=by simp only [IntKind.bits,zH];omega
 unfold Zbn;rw [e,Nat.shiftRight_eq_div_pow,uP _ (Int.le_of_lt (Int.pow_pos (by decide)))]
 push_cast
 rfl
noncomputable def hsh (h:List W) (r:Bs) (n:Nat):List L:=Zaq.lo ⟨h.map iW,Zga r,(n:Int)⟩
theorem ZlE {α:Type} (h:List W) (r:Bs) (n:Nat) (k:Zaq→Option α):Zcd (hsh h r n) k=k ⟨h.map iW,Zga r,(n:Int)⟩:=rfl
theorem write_p2 (N:Nat) (hN:100≤N) (c1:Option Nat×Int×LL→Option LL) (i:Nat) (parts:LL) (v:Int) (st:LL) (hi:i<st.length) (n:Nat) (h:List W) (hh:h.length=8) (x:Bs) (hx:x.length/64<N) :
  loopN (ZaD.p2 N c1 i parts v) N (st.set i (hsh h x n))=c1 (some i,w64 (v+1),st.set i (hsh (ZcY (x.length/64) h x) (x.drop (64*(x.length/64))) n)):=by
 refine ZbZ (fun m (y:LL)=>∃h' x',y=st.set i (hsh h' x' n)∧h'.length=8∧m=x'.length/64∧ZcY (x'.length/64) h' x'=ZcY (x.length/64) h x∧x'.drop (64*(x'.length/64))=x.drop (64*(x.length/64))) ?_ N (x.length/64) _ ⟨h,x,rfl,hh,rfl,rfl,rfl⟩ aC;rintro G m _ ⟨h',x',rfl,hh',hm,e1,e2⟩ ih;unfold ZaD.p2;rw [zP hi,Zax,ZlE];dsimp only;rw [Zqu];by_cases hx':64≤x'.length
 ·have hi':i<(st.set i (hsh h' x' n)).length:=by simpa using hi
  have tk:Zaj N (some i) (Zga (x'.take 64)) (st.set i (hsh h' x' n))=some ((st.set i (hsh h' x' n)).set i (Zaq.lo ⟨(comp h' (x'.take 64)).map iW,Zga x',(n:Int)⟩)):=ZrG N hN i _ h' (Zga x') n (zP hi) hh' _ aE;rw [aA aE,Zag (by rw [Zfc];exact hx'),Zoj,tk,Zab,xX,zP hi,Zax,ZeN];dsimp only;rw [Zag (by rw [Zfc];exact hx'),Zok,xX];obtain ⟨q,hq⟩ : ∃q,x'.length/64=q+1:=⟨x'.length/64-1,aC⟩
  have hq2:(x'.drop 64).length/64=q:=by simp;omega
  refine ih q _ aC ⟨comp h' (x'.take 64),x'.drop 64,rfl,by rw [ZkP];exact hh',hq2.symm,?_,?_⟩
  ·rw [←e1,hq,hq2,ZcY]
  rw [←e2,hq,hq2,sD,show 64+64*q=64*(q+1) by omega]
 have h0:x'.length/64=0:=aC
 rw [aB aE,←e1,←e2,h0];simp [ZcY]
noncomputable def hob (d:Bs):List L:=hsh (ZcY (d.length/64) iv d) (d.drop (64*(d.length/64))) d.length
theorem ZmH (n:Nat) (h:List W) (a b:Bs) (ha:a.length=64*n):ZcY n h (a++b)=ZcY n h a:=by
 have:=Ziw n 0 h a b ha;simpa [ZcY] using this
theorem hob_more (d s:Bs):hsh (ZcY (((d.drop (64*(d.length/64)))++s).length/64) (ZcY (d.length/64) iv d) ((d.drop (64*(d.length/64)))++s)) (((d.drop (64*(d.length/64)))++s).drop (64*(((d.drop (64*(d.length/64)))++s).length/64))) (d.length+s.length)=hob (d++s):=by
 obtain ⟨q,hq⟩ : ∃q,q=d.length/64:=⟨_,rfl⟩
 obtain ⟨x,hx⟩ : ∃x,x=(d.drop (64*q))++s:=⟨_,rfl⟩
 have ht:(d.take (64*q)).length=64*q:=by simp;omega
 have hd:d++s=d.take (64*q)++x:=by rw [hx,←yH,wO]
 have hb:ZcY q iv d=ZcY q iv (d.take (64*q)):=by
  conv=>lhs;rw [←wO (64*q) d]
  exact ZmH _ _ _ _ ht
 have hl:(d++s).length/64=q+x.length/64:=by rw [hd,zT,ht];omega
 rw [←hq,←hx];unfold hob;rw [hl,hd,Ziw q _ iv _ x ht,←hb];have e:(d.take (64*q)++x).drop (64*(q+x.length/64))=x.drop (64*(x.length/64)):=by
  rw [Nat.mul_add,←sD,List.drop_left' ht]
 rw [e,←hd,zT]
theorem write_eq (N:Nat) (hN:100≤N) (i:Nat) (ps:List Bs) (st:LL) (hi:i<st.length) (d:Bs) (hN2:d.length+ps.flatten.length<64*N) (hb:d.length+ps.flatten.length<1099511627776) (hps:ps.length<N) (hps2:ps.length<1000000) :
  ZaD N (some i) (ps.map fun s=>[L.str (mkB s)]) (st.set i (hob d))=some (st.set i (hob (d++ps.flatten))):=by
 unfold ZaD;rw [aB aD];refine ZbZ (fun m (y:Option Nat×Int×LL)=>∃j:Nat,y=(some i,(j:Int),st.set i (hob (d++(ps.take j).flatten)))∧m+j=ps.length) ?_ N ps.length _ ⟨0,by simp,aC⟩ hps;rintro G m _ ⟨j,rfl,hm⟩ ih;unfold ZaD.p1;dsimp only;by_cases hj:j<ps.length
 ·obtain ⟨e,he⟩ : ∃e,e=d++(ps.take j).flatten:=⟨_,rfl⟩
  have h3:(ps.take (j+1)).flatten=(ps.take j).flatten++ps[j]:=by rw [zZ hj,rF,uU,tN,vI]
  have h4:ps.flatten.length=(ps.take (j+1)).flatten.length+(ps.drop (j+1)).flatten.length:=by
   conv=>lhs;rw [←wO (j+1) ps]
   rw [rF,zT]
  rw [h3,zT] at h4;have h5:e.length+ps[j].length≤d.length+ps.flatten.length:=by rw [he,zT];omega
  have hg:(ps.map fun s=>[L.str (mkB s)])[zC (j:Int)]? = some [L.str (mkB ps[j])]:=by rw [zH,List.getElem?_map,zO hj];rfl
  rw [aA (by simp [len];omega),Zag aC,hg,Zax,dec_t_ls,Zab,zP hi,Zax,←he];unfold hob;rw [ZlE];dsimp only;have hs:(mkB ps[j]).size=ps[j].length:=by simp [mkB,ByteArray.size]
  rw [Zto,ZiI,xX,xX,xX,Zag (by rw [Zfc];simp;omega),hs,ZcO (n:=((ps[j].length:Nat):Int)) aC aC,ZcO aC aC];have:=write_p2 N hN G i (ps.map fun s=>[L.str (mkB s)]) (j:Int) st hi (e.length+ps[j].length) (ZcY (e.length/64) iv e) (by rw [Ziv];rfl) (e.drop (64*(e.length/64))++ps[j]) (by
   have:(e.drop (64*(e.length/64))++ps[j]).length≤e.length+ps[j].length:=by simp
   omega)
  rw [hob_more e ps[j]] at this;refine Eq.trans this ?_;rw [ZdO aC,he,yH,←h3];exact ih (m-1) _ aC ⟨j+1,rfl,aC⟩
 rw [aB (by simp [len];omega),zW aC]
theorem be8_get (n k:Nat) (hk:k<8):(be8 n).take (k+1)=(be8 n).take k ++ [UInt8.ofNat (n >>> (8*(7-k)))]:=by
 have:k=0∨k=1∨k=2∨k=3∨k=4∨k=5∨k=6∨k=7:=aC
 rcases this with rfl | rfl | rfl | rfl | rfl | rfl | rfl | rfl<;>rfl
def outF (h:List W) (i:Nat) (o:List Int):List Int:=(((o.set (4*i) (byI (UInt8.ofNat ((h.getD i 0).toNat >>> 24)))).set (4*i+1) (byI (UInt8.ofNat ((h.getD i 0).toNat >>> 16)))).set (4*i+2) (byI (UInt8.ofNat ((h.getD i 0).toNat >>> 8)))).set (4*i+3) (byI (UInt8.ofNat (h.getD i 0).toNat))
theorem out8 (a b c d e f g k:W):run (outF [a,b,c,d,e,f,g,k]) 0 8 (zB 32 0)=(Zsp [a,b,c,d,e,f,g,k]).map byI:=by kernel_rfl
theorem out_eq8 (h:List W) (hh:h.length=8):run (outF h) 0 8 (zB 32 0)=(Zsp h).map byI:=by
 match h,hh with
 | [a,b,c,d,e,f,g,k],_=>exact out8 a b c d e f g k
theorem v8_iW (x:W):v8 (iW x)=byI (UInt8.ofNat x.toNat):=v8_nat _
theorem ZjZ (x:W) (n:Nat) (h:n≤32):v8 (Zbn .u32 (iW x) (n:Int))=byI (UInt8.ofNat (x.toNat >>> n)):=by
 rw [ZmC x n h,v8_iW,BitVec.toNat_ushiftRight]
theorem sum_p4 (N:Nat) (hN:100≤N) (h:List W) (hh:h.length=8) (r:LL) (z:Int) (st:LL) :
  loopN (Zam.p4 N ⟨h.map iW,r,z⟩ st) N (0,zB 32 0)=some ((Zsp h).map byI,st):=by
 have:=Zir (body:=Zam.p4 N ⟨h.map iW,r,z⟩ st) (fun (j:Nat) (x:List Int)=>((j:Int),x)) (fun x=>x.length=32)
  (outF h) 0 8 (fun x=>some (x,st)) ?_ ?_ 8 0 N (zB 32 0) (zJ _) rfl aC aD
 ·rw [out_eq8 h hh] at this;exact this
 ·intro G j x _ hj hx;refine ⟨?_,by simpa [outF] using hx⟩;have b0:w64 (4*(j:Int))=((4*j:Nat):Int):=by rw [ZaH aC aC];omega
  have b1:=ZaH (n:=((4*j:Nat):Int)+1) aC aC;have b2:=ZaH (n:=((4*j:Nat):Int)+2) aC aC;have b3:=ZaH (n:=((4*j:Nat):Int)+3) aC aC;have c1:(((4*j:Nat):Int)+1).toNat=4*j+1:=aC
  have c2:(((4*j:Nat):Int)+2).toNat=4*j+2:=aC
  have c3:(((4*j:Nat):Int)+3).toNat=4*j+3:=aC
  have k24:=ZjZ (h.getD j 0) 24 aC;have k16:=ZjZ (h.getD j 0) 16 aC;have k8:=ZjZ (h.getD j 0) 8 aC;simp only [Int.cast_ofNat_Int] at k24 k16 k8;unfold Zam.p4;dsimp only;rw [aA aE,b0,b1,b2,b3,c1,c2,c3,zH,zH,ZfV,k24,k16,k8,v8_iW,Zag aC,Zag aC,Zag aC,Zag aC,Zag aC,Zag aC,Zag aC,Zag aC,Zag aC,ZdO aC];rfl
 intro G x hx;unfold Zam.p4;dsimp only;rw [aB aD]
theorem sum_p3 (N:Nat) (hN:100≤N) (st t0:LL) (b:Bs) (h0:List W) (hh:h0.length=8) (n:Nat) (hb:b.length=64*n) (hn:n<N) (hn2:n<100000000000) :
  ∃x,loopN (Zam.p3 N st (Zga b)) N (0,b.length,st ++ [hsh h0 [] 0])=some ((Zsp (ZcY n h0 b)).map byI,st ++ [x]):=by
 refine ⟨hsh (ZcY n h0 b) [] 0,?_⟩;have hlt : ∀y:List L,st.length<(st ++ [y]).length:=fun y=>by simp
 have hget : ∀y:List L,(st ++ [y])[st.length]? = some y:=fun y=>by simp
 have hset : ∀y z:List L,(st ++ [y]).set st.length z=st ++ [z]:=fun y z=>by simp
 refine ZbZ (fun m (y:Nat×Nat×LL)=>∃(j:Nat) (h:List W),y=(64*j,64*m,st ++ [hsh h [] 0])∧m+j=n∧h.length=8∧ZcY m h (b.drop (64*j))=ZcY n h0 b) ?_ N n _ ⟨0,h0,by rw [hb],aC,hh,rfl⟩ hn;rintro G m _ ⟨j,h,rfl,hm,hh1,hbl⟩ ih;unfold Zam.p3;dsimp only;cases m with
 | succ m=>
  have tk:Zaj N (some st.length) (Zga ((b.drop (64*j)).take 64)) (st ++ [hsh h [] 0])=some ((st ++ [hsh h [] 0]).set st.length (hsh (comp h ((b.drop (64*j)).take 64)) [] 0)):=
   ZrG N hN st.length _ h [] ((0:Nat):Int) (hget _) hh1 _ aE
  rw [aA aE,Zag (by rw [Zfc];omega),Zok,Zoj,tk,Zab,hset,Zag aC];refine ih m _ aC ⟨j+1,comp h ((b.drop (64*j)).take 64),?_,aC,by rw [ZkP];exact hh1,?_⟩
  ·congr 2
  rw [←hbl,ZcY,sD,show 64*j+64=64*(j+1) by omega]
 | zero=>
  rw [aB aD,hget,Zax,ZlE];rw [sum_p4 N hN h hh1];simp only [ZcY] at hbl;rw [hbl]
theorem sum_eq (N:Nat) (i:Nat) (st:LL) (d:Bs) (hst:st[i]? = some (hob d)) (hd:d.length<1099511627776) (hN:d.length+200≤N) :
  ∃x,Zam N (some i) st=some ((sha d).map byI,st ++ [x]):=by
 have hi:=ZqB hst;obtain ⟨q,hq⟩ : ∃q,q=d.length/64:=⟨_,rfl⟩
 obtain ⟨r,hr⟩ : ∃r,r=d.drop (64*q):=⟨_,rfl⟩
 have hrl:r.length=d.length%64:=by rw [hr];simp;omega
 obtain ⟨t,ht⟩ : ∃t,t=(r++128::zB (zs d.length) 0)++be8 (8*d.length):=⟨_,rfl⟩
 have hpad:pad d=d.take (64*q)++t:=by
  rw [ht,pad];have e:d=d.take (64*q)++r:=by rw [hr,wO]
  conv=>lhs;lhs;lhs;rw [e]
  simp only [yH]
 have hz:=ZrA d.length;have htl:t.length=64*((r.length+9+zs d.length)/64):=by
  rw [ht];simp [be8];omega
 have htq:(d.take (64*q)).length=64*q:=by simp;omega
 have hpl:(pad d).length/64=q+t.length/64:=by rw [hpad,zT,htq];omega
 have hsha:sha d=Zsp (ZcY (t.length/64) (ZcY q iv d) t):=by
  have hb:ZcY q iv d=ZcY q iv (d.take (64*q)):=by
   conv=>lhs;rw [←wO (64*q) d]
   exact ZmH _ _ _ _ htq
  rw [sha,hpl,hpad,Ziw q _ iv _ t htq,←hb]
 have hob':hob d=hsh (ZcY q iv d) r d.length:=by unfold hob;rw [←hq,←hr]
 rw [hob'] at hst;have hz64:zs d.length<64:=by unfold zs;omega
 obtain ⟨x,e3⟩:=sum_p3 N aC st st t (ZcY q iv d) (by rw [Ziv];rfl) (t.length/64) aC aC aC;refine ⟨x,?_⟩;have hzero:Zaq.lo ⟨(ZcY q iv d).map iW,[],0⟩=hsh (ZcY q iv d) [] 0:=rfl;have e2:loopN (Zam.p2 N i st ⟨(ZcY q iv d).map iW,Zga r,(d.length:Int)⟩) N (Zga (r++128::zB (zs d.length) 0),7)=some ((sha d).map byI,st ++ [x]):=by
  refine ZbZ (fun m (y:LL×Int)=>∃k,y=(Zga ((r++128::zB (zs d.length) 0)++(be8 (8*d.length)).take k),7-(k:Int))∧m+k=8) ?_ N 8 _ ⟨0,by simp,rfl⟩ aC;rintro G m _ ⟨k,rfl,hk⟩ ih;unfold Zam.p2;dsimp only;by_cases hk8:k<8
  ·have hs:7-(k:Int)=((7-k:Nat):Int):=by omega
   have g1:(st ++ [Zaq.lo (Zaq.mk (List.map iW (ZcY q iv d)) [] 0)])[i]? = some (hsh (ZcY q iv d) r d.length):=by rw [List.getElem?_append_left hi];exact hst
   have b0:w64 (8*((7-k:Nat):Int))=((8*(7-k):Nat):Int):=by rw [ZaH aC aC];omega
   have b1:v64 ((d.length:Int)*8)=((8*d.length:Nat):Int):=by rw [ZcO aC aC];omega
   rw [aA aE,g1,Zax,ZlE];dsimp only;rw [hs,b0,b1,Zag aC,shr_u64 _ _ aC,v8_nat];have e1:Zga ((r++128::zB (zs d.length) 0)++(be8 (8*d.length)).take k) ++ [[zM .u8 (byI (UInt8.ofNat ((8*d.length) >>> (8*(7-k)))))]]=Zga ((r++128::zB (zs d.length) 0)++(be8 (8*d.length)).take (k+1)):=by
    rw [be8_get _ k hk8,←yH];simp [Zga]
   rw [e1,Zag (by rw [Zfc];simp;omega)];refine ih (m-1) _ aC ⟨k+1,?_,aC⟩
   congr 1
   rw [ZaH aC aC];omega
  have hk9:k=8:=aC
  subst hk9;have e5:(be8 (8*d.length)).take 8=be8 (8*d.length):=rfl;rw [aB aD,e5,←ht,Zfc,hzero,e3,←hsha]
 unfold Zam;rw [aB aD,Zab,hst,Zax,ZlE];dsimp only;have e0:([]:LL)++Zga r ++ [[zM .u8 128]]=Zga (r ++ [128]):=by simp [Zga,byI]
 rw [e0,Zag (by rw [vZ,Zfc];omega),Zag (by rw [Zfc];simp;omega)];refine ZbZ (fun m (y:LL)=>∃k,y=Zga (r++128::zB k 0)∧m+k=zs d.length) ?_ N (zs d.length) _ ⟨0,rfl,aC⟩ aC;rintro G m _ ⟨k,rfl,hk⟩ ih;unfold Zam.p1;rw [Zqu];have hlen:(r++128::zB k 0).length=r.length+1+k:=by simp;omega
 by_cases hm:m=0
 ·have:k=zs d.length:=by omega
  subst this;rw [hlen,aB,e2];simp only [bne_iff_ne,ne_eq,Decidable.not_not];rw [xJ aC];omega
 have e1:Zga (r++128::zB k 0) ++ [[zM .u8 0]]=Zga (r++128::zB (k+1) 0):=by
  rw [List.replicate_succ'];simp [Zga,byI]
 rw [hlen,aA,e1,Zag (by rw [Zfc];simp;omega)]
 ·exact ih (m-1) _ aC ⟨k+1,rfl,aC⟩
 simp only [bne_iff_ne,ne_eq];rw [xJ aC];unfold zs at hk hz64;omega
theorem hob_nil:hob []=Zaq.lo ⟨glob_digest_starts,[],0⟩:=by
 have:glob_digest_starts=iv.map iW:=by decide +kernel
 rw [this];rfl
theorem Of_eq (N:Nat) (ps:List Bs) (st:LL) (h1:ps.flatten.length<1099511627776) (h2:ps.flatten.length+200≤N) (h3:ps.length<N) (h4:ps.length<1000000) :
  ∃ex,Zet N (ps.map fun s=>[L.str (mkB s)]) st=some ((sha ps.flatten).map byI,st++ex):=by
 unfold Zet ZeL;rw [Zab];dsimp only;rw [←hob_nil];have hw:=write_eq N aC st.length ps (st ++ [hob []]) aD [] (by rw [List.length_nil];omega) (by rw [List.length_nil];omega) h3 h4;have hset : ∀y z:List L,(st ++ [y]).set st.length z=st ++ [z]:=fun y z=>by simp
 rw [hset,hset,vZ] at hw;rw [hw,Zab];obtain ⟨x,hs⟩:=sum_eq N st.length (st ++ [hob ps.flatten]) ps.flatten aD h1 h2;rw [hs,Zab];exact ⟨[hob ps.flatten,x],by simp⟩
theorem ZpD (b:Bs):ZkA (b.map byI)=mkB b:=by
 unfold ZkA mkB
 congr 2
 rw [rK]
 conv=>rhs;rw [←List.map_id b]
 refine tR fun x _=>?_;simp [byI]
theorem ZtF (N:Nat) (ps:List Bs) (st:LL) (h1:ps.flatten.length<1099511627776) (h2:ps.flatten.length+300≤N) (h3:ps.length<N) (h4:ps.length<1000000) :
  ∃ex,Zdr N (ps.map fun s=>[L.str (mkB s)]) st=some ((sha2 ps.flatten).map byI,st++ex):=by
 obtain ⟨e1,h5⟩:=Of_eq N ps st h1 aC h3 h4;unfold Zdr;rw [h5,Zab];dsimp only;have hl:=Zpk ps.flatten;obtain ⟨e2,h6⟩:=Of_eq N [sha ps.flatten] (st++e1) aE aE aE aD;rw [ZpD];simp only [List.map_cons,List.map_nil,uU,tN,vI] at h6;rw [h6,Zab];exact ⟨e1++e2,by rw [yH];rfl⟩
def leB (x:Int) (j:Nat):UInt8:=UInt8.ofNat ((x/256^j)%256).toNat
def le (k:Nat) (x:Int):Bs:=(List.range k).map (leB x)
theorem ZhA (k:Nat) (x:Int):(le k x).length=k:=by simp [le]
theorem le_succ (k:Nat) (x:Int):le (k+1) x=le k x ++ [leB x k]:=by simp [le,List.range_succ]
theorem v8_by (x:Int):v8 x=byI (UInt8.ofNat (x%256).toNat):=by
 rw [Zkj,ZjC];omega
theorem Zpi (x:Int) (k:Nat) (h:k≤64):Zbn .i64 x (k:Int)=x/2^k:=by
 have e:min (zC (k:Int)) (IntKind.bits .i64)=k:=by simp only [IntKind.bits,zH];omega
 unfold Zbn;rw [e,uP _ (Int.le_of_lt (Int.pow_pos (by decide)))]
theorem v8_shr (x:Int) (j:Nat) (h:j<8):v8 (Zbn .i64 x ((8*j:Nat):Int))=byI (leB x j):=by
 rw [Zpi x _ aC,v8_by,Int.pow_mul];rfl
abbrev Zrb (d:Bs):List L:=[L.own true 1 (Zga d)]
theorem rowB_one (x:UInt8) : [[zM .u8 (byI x)]]=Zga [x]:=rfl
def ZkE (size:Int):Nat:=(if (8:Int)<(if (1:Int)>size then 1 else size) then 8 else (if (1:Int)>size then 1 else size)).toNat
theorem Zpf (size:Int):ZkE size≤8:=by unfold ZkE;split<;>split<;>omega
theorem ZnX (size:Int):(if (8:Int)<(if (1:Int)>size then 1 else size) then 8 else (if (1:Int)>size then 1 else size))=(ZkE size:Int):=by unfold ZkE;split<;>split<;>omega
section
variable {N:Nat} {st:LL} {i:Nat} {d:Bs}
theorem put_p2 (hN:10≤N) (hi:i<st.length) (c1:Option Nat×Int×LL→Option LL) (size x:Int) (l:LL) (v:Int) (d:Bs) (hd:d.length<1099511627776) :
  loopN (ZaR.p2 N c1 size x l v) N (some i,0,st.set i (Zrb d))=c1 (some i,w64 (v+1),st.set i (Zrb (d++le (ZkE size) x))):=by
 have hs:=Zpf size;refine ZbZ (fun m (y:Option Nat×Int×LL)=>∃j:Nat,y=(some i,(j:Int),st.set i (Zrb (d++le j x)))∧m+j=ZkE size) ?_ N (ZkE size) _ ⟨0,by simp [le],aC⟩ aC;rintro G m _ ⟨j,rfl,hj⟩ ih;unfold ZaR.p2;dsimp only;rw [ZnX];by_cases hm:j<ZkE size
 ·have b0:w64 (8*(j:Int))=((8*j:Nat):Int):=by rw [ZaH aC aC];omega
  have hl:=ZhA j x;rw [aA aE,Zab,zP hi,Zax,Zic,b0,Zag aC,v8_shr _ _ aC,rowB_one,ZiI,Zag (by rw [Zfc];simp [hl];omega),xX,xX,yH,←le_succ,ZdO aC];exact ih (m-1) _ aC ⟨j+1,rfl,aC⟩
 have:j=ZkE size:=aC
 subst this;rw [aB aD]
theorem Put_eq (hN:10≤N) (hst:st[i]? = some (Zrb d)) (size:Int) (xs:List Int) (hx:xs.length<N) (hx2:xs.length<1000000) (hd:d.length<1000000000000) :
  ZaR N (some i) size (ZdL xs) st=some (st.set i (Zrb (d++xs.flatMap (le (ZkE size))))):=by
 have hi:=ZqB hst;have hs:=Zpf size;have hfl : ∀ys:List Int,(ys.flatMap (le (ZkE size))).length=ZkE size*ys.length:=fun ys=>by
  induction ys with
  | nil=>rfl
  | cons y ys ih=>simp only [vW,zT,ZhA,ih,List.length_cons,Nat.mul_add];omega
 unfold ZaR;refine ZbZ (fun m (y:Option Nat×Int×LL)=>∃j:Nat,y=(some i,(j:Int),st.set i (Zrb (d++(xs.take j).flatMap (le (ZkE size)))))∧m+j=xs.length) ?_ N xs.length _ ⟨0,by simp [ZrR hst],aC⟩ hx;rintro G m _ ⟨j,rfl,hj⟩ ih;unfold ZaR.p1;dsimp only;have hlen:len (ZdL xs)=(xs.length:Int):=by simp [len]
 rw [hlen];by_cases hm:j<xs.length
 ·have h9:=hfl (xs.take j);have h10:ZkE size*(xs.take j).length≤8*1000000:=Nat.mul_le_mul hs aE;rw [aA aE,Zag aC,ZiG (zO hm),Zax,ZdV,put_p2 hN hi G size xs[j] (ZdL xs) j _ (by rw [zT,h9];omega),yH];have e:(xs.take (j+1)).flatMap (le (ZkE size))=(xs.take j).flatMap (le (ZkE size))++le (ZkE size) xs[j]:=by
   rw [zZ hm,List.flatMap_append,vW,List.flatMap_nil,vI]
  rw [←e,ZdO aC];exact ih (m-1) _ aC ⟨j+1,rfl,aC⟩
 rw [aB aE,zW aC]
theorem Names_eq (hN:10≤N) (hst:st[i]? = some (Zrb d)) (xs:List Bs) (hx:xs.length<N) (hx2:xs.length<1000000) (hd:d.length<1000000000000) (hl : ∀x∈xs,x.length≤32) :
  Zbr N (some i) (xs.map fun x=>[L.arr .u8 32 (x.map byI)]) st=some (st.set i (Zrb (d++xs.flatten))):=by
 have hi:=ZqB hst;unfold Zbr;refine ZbZ (fun m (y:Option Nat×Int×LL)=>∃j:Nat,y=(some i,(j:Int),st.set i (Zrb (d++(xs.take j).flatten)))∧m+j=xs.length) ?_ N xs.length _ ⟨0,by simp [ZrR hst],aC⟩ hx;rintro G m _ ⟨j,rfl,hj⟩ ih;unfold Zbr.p1;dsimp only;have hlen:len (xs.map fun x=>[L.arr .u8 32 (x.map byI)])=(xs.length:Int):=by simp [len]
 rw [hlen];by_cases hm:j<xs.length
 ·have h9 : ∀ys:List Bs,(∀x∈ys,x.length≤32)→ys.flatten.length≤32*ys.length:=fun ys=>by
   induction ys with
   | nil=>intro _;simp
   | cons y ys ih=>
    intro h;have h1:=h y (List.mem_cons_self ..);have h2:=ih fun x hx=>h x (List.mem_cons_of_mem _ hx);rw [uU,zT,List.length_cons];omega
  have h10:=h9 (xs.take j) fun x hx=>hl x (List.mem_of_mem_take hx);have h11:=hl xs[j] (List.getElem_mem hm);have hg:(xs.map fun x=>[L.arr .u8 32 (x.map byI)])[zC (j:Int)]? = some [L.arr .u8 32 (xs[j].map byI)]:=by rw [zH,List.getElem?_map,zO hm];rfl
  have hrow:List.map (fun x=>[zM .u8 x]) (xs[j].map byI)=Zga xs[j]:=by simp [Zga]
  have e:(xs.take (j+1)).flatten=(xs.take j).flatten++xs[j]:=by
   rw [zZ hm,rF,uU,tN,vI]
  have h12:(xs.take j).length≤1000000:=by simp;omega
  rw [aA aE,Zag aC,hg,Zax,Zku,Zab,zP hi,Zax,Zic,hrow,ZiI,Zag (by rw [Zfc,zT,zT];omega),xX,xX,yH,←e,ZdO aC];exact ih (m-1) _ aC ⟨j+1,rfl,aC⟩
 rw [aB aE,zW aC]
end
structure HW (h:Zal) (p r:Bs):Prop where
 prev:h.Prev=p.map byI
 root:h.Root=r.map byI
 lp:p.length=32
 lr:r.length=32
def Zgd (h:Zal):Bool:=decide (-2147483648≤h.Version∧h.Version<2147483648∧0≤h.Time∧h.Time<4294967296∧0≤h.Bits∧h.Bits<4294967296∧0≤h.Nonce∧h.Nonce<4294967296)
theorem ZoJ (h:Zal):Zgd h=true↔(-2147483648≤h.Version∧h.Version<2147483648∧0≤h.Time∧h.Time<4294967296∧0≤h.Bits∧h.Bits<4294967296∧0≤h.Nonce∧h.Nonce<4294967296):=by simp [Zgd]
theorem ZfZ {b:Bool} {P:Prop} [Decidable P] (h:b=true↔P):some b=some (decide P):=by
 congr 1;rw [Bool.eq_iff_iff,decide_eq_true_eq];exact h
theorem Zif (N:Nat) (b:Int):Zdn N b=some (decide (0≤b∧b<4294967296)):=by
 unfold Zdn;split<;>(refine ZfZ ⟨fun h=>?_,fun h=>?_⟩<;>simp only [decide_eq_true_eq,Bool.false_eq_true] at * <;> omega)
theorem ZeK (N:Nat) (h:Zal):Zcx N h=some (Zgd h):=by
 unfold Zcx Zgd;simp only [Zif,Zab]
 repeat' split
 all_goals (refine ZfZ ⟨fun h=>?_,fun h=>?_⟩<;>simp only [decide_eq_true_eq,Bool.false_eq_true] at * <;> omega)
def byOf (l:List Int):Bs:=l.map fun n=>UInt8.ofNat n.toNat
theorem ZkQ (b:Bs):byOf (b.map byI)=b:=by
 unfold byOf;rw [rK]
 conv=>rhs;rw [←List.map_id b]
 refine tR fun x _=>?_;simp [byI]
def ZhZ (h:Zal):Bs:=le 4 h.Version++byOf h.Prev++byOf h.Root++le 4 h.Time++le 4 h.Bits++le 4 h.Nonce
def hid (h:Zal):List Int:=if Zgd h=true then (sha2 (ZhZ h)).map byI else zB 32 0
theorem Text_eq (N:Nat) (d:Bs):ZcI N (Zga d)=some (mkB d):=by
 unfold ZcI;have h1:isB (Zga d)=true:=by simp [isB,Zga]
 have h2:List.map Zfr (Zga d)=d.map byI:=by simp [Zga,Zfr]
 rw [Zag h1,h2,ZpD]
theorem Bytes_eq (N:Nat) (hN:10≤N) (h:Zal) {p r:Bs} (hw:HW h p r) (hg:Zgd h=true) (st:LL) :
  ∃ex,Zdm N h st=some (mkB (ZhZ h),0,st++ex):=by
 have hb:ZhZ h=((le 4 h.Version ++ [p,r].flatten) ++ [h.Time,h.Bits,h.Nonce].flatMap (le 4)):=by
  simp [ZhZ,hw.prev,hw.root,ZkQ]
 have hset : ∀y z:List L,(st ++ [y]).set st.length z=st ++ [z]:=fun y z=>by simp
 have hget : ∀y:List L,(st ++ [y])[st.length]? = some y:=fun y=>by simp
 have h4:ZkE 4=4:=rfl;have e1:=Put_eq (N:=N) (st:=st ++ [Zrb []]) (i:=st.length) (d:=[]) hN (hget _) 4 [h.Version] aE aD aD;have e2:=Names_eq (N:=N) (st:=st ++ [Zrb (le 4 h.Version)]) (i:=st.length) (d:=le 4 h.Version) hN (hget _) [p,r] aE aD (by rw [ZhA];omega) (by simp [hw.lp,hw.lr]);have e3:=Put_eq (N:=N) (st:=st ++ [Zrb (le 4 h.Version ++ [p,r].flatten)]) (i:=st.length) (d:=le 4 h.Version ++ [p,r].flatten) hN (hget _) 4 [h.Time,h.Bits,h.Nonce] aE aD (by simp [ZhA,hw.lp,hw.lr]);simp only [h4,hset,vW,List.flatMap_nil,vI,vZ] at e1;rw [hset] at e2;rw [h4,hset,←hb] at e3;unfold Zdm Zcg Zcg.p1;rw [ZeK,Zab,hg,aB aD,Zab,aB aD];have i1 : [[zM .i64 h.Version]]=ZdL [h.Version]:=rfl;have i2 : [[L.arr .u8 32 h.Prev],[L.arr .u8 32 h.Root]] = [p,r].map fun x=>[L.arr .u8 32 (x.map byI)]:=by simp [hw.prev,hw.root]
 have i3 : [[zM .i64 h.Time],[zM .i64 h.Bits],[zM .i64 h.Nonce]]=ZdL [h.Time,h.Bits,h.Nonce]:=rfl;have i0:([L.own true 1 []]:List L)=Zrb []:=rfl;rw [i0,i1,i2,i3,e1,Zab,e2,Zab,e3,Zab,Zab,hget,Zax,Zic,Text_eq,Zab];exact ⟨_,rfl⟩
theorem Id_eq (N:Nat) (hN:500≤N) (h:Zal) {p r:Bs} (hw:HW h p r) (st:LL) : ∃ex,Zem N h st=some (hid h,st++ex):=by
 unfold Zem hid;cases hg:Zgd h with
 | false=>
  unfold Zdm;rw [ZeK,hg,Zab];exact ⟨[],by simp⟩
 | true=>
  obtain ⟨e1,h1⟩:=Bytes_eq N aC h hw hg st;have hl:(ZhZ h).length=80:=by simp [ZhZ,ZhA,hw.prev,hw.root,ZkQ,hw.lp,hw.lr]
  obtain ⟨e2,h2⟩:=ZtF N [ZhZ h] (st++e1) (by simp [hl]) (by simp [hl];omega) aE aD;simp only [List.map_cons,List.map_nil,uU,tN,vI] at h2;rw [h1,Zab];dsimp only;rw [aB aD,h2,Zab];exact ⟨e1++e2,by simp⟩
theorem hid_by (h:Zal) : ∃b:Bs,hid h=b.map byI∧b.length=32:=by
 unfold hid;split
 ·exact ⟨_,rfl,Zpk _⟩
 exact ⟨zB 32 0,by simp [byI],by simp⟩
end Go.Dn.F
namespace Go.Dn.F
open Go.Dn
def wfB (l:List Int):Bool:=l.length==32&&l.all fun n=>decide (0≤n∧n<256)
theorem wfB_iff (l:List Int):wfB l=true↔∃b:Bs,l=b.map byI∧b.length=32:=by
 constructor
 ·intro h;simp only [wfB,zV,beq_iff_eq,List.all_eq_true,decide_eq_true_eq] at h;refine ⟨byOf l,?_,by simpa [byOf] using h.1⟩;unfold byOf;rw [rK]
  conv=>lhs;rw [←List.map_id l]
  refine tR fun n hn=>?_;have:=h.2 n hn;simp only [id,Function.comp,ZjC];omega
 rintro ⟨b,rfl,h⟩;simp only [wfB,zV,beq_iff_eq,List.all_eq_true,decide_eq_true_eq,List.length_map];refine ⟨h,fun n hn=>?_⟩;obtain ⟨x,_,rfl⟩:=List.mem_map.1 hn;exact ⟨Ztp x,Ztq x⟩
def wfH (h:Zal):Bool:=wfB h.Prev&&wfB h.Root
theorem ZrD (h:Zal):wfH h=true↔∃p r,HW h p r:=by
 simp only [wfH,zV,wfB_iff];constructor
 ·rintro ⟨⟨p,h1,h2⟩,r,h3,h4⟩;exact ⟨p,r,h1,h3,h2,h4⟩
 rintro ⟨p,r,h1,h3,h2,h4⟩;exact ⟨⟨p,h1,h2⟩,r,h3,h4⟩
noncomputable def ZdU (N:Nat) (h_0:Zal):Option (List Int):=chk (500≤N)<|chk (wfH h_0=true)<|some (hid h_0)
theorem Zge {N:Nat} (hN:500≤N) {h:Zal} (hw:wfH h=true):ZdU N h=some (hid h):=by
 unfold ZdU;rw [Zag hN,Zag hw]
theorem ZiB {N:Nat} {h:Zal} {r:List Int} (hr:ZdU N h=some r) (st:LL) : ∃ex,Zem N h st=some (r,st++ex):=by
 unfold ZdU at hr;obtain ⟨h1,hr⟩:=ZaW hr;obtain ⟨h2,hr⟩:=ZaW hr;cases hr;obtain ⟨p,q,hw⟩:=(ZrD h).1 h2;exact Id_eq N h1 h hw st
def Zff (p:Zah) (h:Int):Bool:=decide (0<p.Interval∧Int.tmod h p.Interval=0)
theorem ZlM (N:Nat) (p:Zah) (h:Int):Zdk N p h=some (Zff p h):=by
 unfold Zdk Zff;by_cases hi:0<p.Interval
 ·rw [aA (aH hi),Zag aC];refine ZfZ ?_;simp [hi]
 rw [aB (aH hi)];refine ZfZ ?_;simp [hi]
def ZlN (l:LL):List Int:=l.map Zfr
def Zfx (p:Zah) (a:ZaT) (h:Zal):ZaT:=
 ⟨⟨w64 (a.Point.Height+1),h.Bits,h.Time,if Zff p a.Point.Height then h.Time else a.Point.First,if p.Easy&&h.Bits==p.Limit && !Zff p a.Point.Height then a.Point.Hard else h.Bits⟩,hid h,ZdL (h.Time::(ZlN a.Times).take 10)⟩
theorem ZtD (N:Nat) (hN:10≤N) (st:LL) (i:Nat) (l:List Int) (t:Int) (hst:st[i]? = some [L.own true 1 (ZdL l)]) (hl:l.length<1000000) :
  ZaX N (some i) [[zM .i64 t]] st=some (st.set i [L.own true 1 (ZdL (t::l.take 10))]):=by
 have hi:=ZqB hst;obtain ⟨N',rfl⟩ : ∃q,N=q+2:=⟨N-2,aC⟩
 unfold ZaX;rw [aB aD,Zay];have hlen:len (ZdL l)=(l.length:Int):=by simp [len]
 have hmin:zC (if (10:Int)<(l.length:Int) then 10 else (l.length:Int))=min 10 l.length:=by split<;>omega
 have ht:(ZdL l).take (min 10 l.length)=ZdL (l.take 10):=by
  rw [Zoi];congr 1;rcases Nat.le_total 10 l.length with h | h
  ·rw [Nat.min_eq_left h]
  rw [Nat.min_eq_right h,zW (zJ _),zW h]
 have h0:([[zM .i64 t]]:LL)[zC (0:Int)]? = some [zM .i64 t]:=rfl;have h1:([[zM .i64 t]]:LL)++ZdL (l.take 10)=ZdL (t::l.take 10):=rfl;have e1:(w64 (0+1):Int)=1:=by rw [ZaH aC aC];omega
 conv=>lhs;unfold ZaX.p1
 dsimp only;rw [aA (by simp [len]),Zag aC,h0,Zax,ZdV,Zab,hst,Zax,Zic,hlen,Zag (by split<;>omega),hmin,Zag aE,ht,h1,Zag aE,e1,Zay]
 conv=>lhs;unfold ZaX.p1
 dsimp only;rw [aB (by simp [len])]
theorem Times_eq (N:Nat) (l:List Int) (hl:l.length<1000000):Zcf N (ZdL l)=some (ZdL l):=by
 unfold Zcf;rw [Zbm,Zag aE,Zab]
theorem p2_eq (N:Nat) (hN:30≤N) (a:ZaT) (h:Zal) (out:ZaT) (st:LL) (ha:isI a.Times=true) (hl:a.Times.length<1000000) :
  ∃ex,ZaP.p2 N a h out st=some ({out with Times:=ZdL (h.Time::(ZlN a.Times).take 10)},st++ex):=by
 obtain ⟨l,hll⟩ : ∃l,l=ZlN a.Times:=⟨_,rfl⟩
 have hr:a.Times=ZdL l:=by rw [hll];exact Zis ha
 have hlen:l.length<1000000:=by rw [hll,ZlN,List.length_map];exact hl
 refine ⟨[[L.own true 1 (ZdL (h.Time::l.take 10))]],?_⟩;rw [←hll];unfold ZaP.p2;have hlen2:len a.Times=(l.length:Int):=by rw [hr];simp [len]
 have hset : ∀y z:List L,(st ++ [y]).set st.length z=st ++ [z]:=fun y z=>by simp
 have hget : ∀y:List L,(st ++ [y])[st.length]? = some y:=fun y=>by simp
 obtain ⟨m0,hm0⟩ : ∃m0,m0=min 11 l.length:=⟨_,rfl⟩
 have e0:w64 ((if (11:Int)<len a.Times then 11 else len a.Times)-1)=(m0:Int)-1:=by
  rw [hlen2,ZaH]<;>split<;>omega
 rw [e0];refine ZbZ (fun m (y:Int×LL)=>y=((m:Int)-1,st ++ [[L.own true 1 (ZdL ((l.take m0).drop m))]])∧m≤m0) ?_ N m0 _ ⟨by simp [ZdL],zJ _⟩ aC;rintro G m _ ⟨rfl,hm⟩ ih;unfold ZaP.p3;dsimp only;cases m with
 | succ m=>
  have hml:m<l.length:=aC
  have hc:((m+1:Nat):Int)-1=(m:Int):=aC
  have hcons:(l.take m0).drop m=l[m]::(l.take m0).drop (m+1):=by
   rw [List.drop_eq_getElem_cons aE,List.getElem_take]
  have ht:((l.take m0).drop (m+1)).take 10=(l.take m0).drop (m+1):=zW aE;rw [hc,aA aD,Zag aC,hlen2,Zag aC,hr,ZiG (zO hml),Zax,ZdV,ZtD N aC _ _ _ _ (hget _) aE,Zab,hset,ht,←hcons];exact ih m _ (Nat.lt_succ_self _) ⟨by rw [ZaH aC aC],aC⟩
 | zero=>
  have ht:((l.take m0).drop 0).take 10=l.take 10:=by
   rw [List.drop_zero,List.take_take];by_cases h':10≤l.length
   ·rw [show min 10 m0=10 by omega]
   rw [show min 10 m0=l.length by omega,zW (zJ _),zW aC]
  rw [aB aD,ZtD N aC _ _ _ _ (hget _) aE,Zab,hset,hget,Zax,Zic,ht,Times_eq N _ aE,Zab,Zag (Zmn _)]
theorem ZtG (N:Nat) (hN:500≤N) (p:Zah) (a:ZaT) (h:Zal) (hw:wfH h=true) (ha:isI a.Times=true) (hl:a.Times.length<1000000) (st:LL) :
  ∃ex,ZaP N p a h st=some (Zfx p a h,st++ex):=by
 obtain ⟨e1,h1⟩:=ZiB (Zge hN hw) st;have key : ∀out:ZaT,∃ex,ZaP.p1 N p a h out (st++e1)=some (⟨⟨out.Point.Height,out.Point.Bits,out.Point.Time,out.Point.First,if p.Easy&&h.Bits==p.Limit && !Zff p a.Point.Height then a.Point.Hard else out.Point.Hard⟩,out.Prev,ZdL (h.Time::(ZlN a.Times).take 10)⟩,st++ex):=fun out=>by
  obtain ⟨e2,h2⟩:=p2_eq N aC a h out (st++e1) ha hl;obtain ⟨e3,h3⟩:=p2_eq N aC a h {out with Point:={out.Point with Hard:=a.Point.Hard}} (st++e1) ha hl;rw [yH] at h2 h3;unfold ZaP.p1;rw [ZlM,Zab];cases he:p.Easy with
  | false=>rw [aB aD,h2];exact ⟨e1++e2,rfl⟩
  | true=>
   rw [aA rfl];by_cases hb:h.Bits=p.Limit
   ·rw [aA (aH hb)];cases hs:Zff p a.Point.Height with
    | true=>rw [aB aD,h2];exact ⟨e1++e2,by simp⟩
    | false=>rw [aA (by rfl),h3];exact ⟨e1++e3,by simp [hb]⟩
   rw [aB (aH hb),h2];exact ⟨e1++e2,by simp [hb]⟩
 unfold ZaP;rw [h1,Zab];dsimp only;rw [ZlM,Zab];cases hs:Zff p a.Point.Height with
 | true=>
  obtain ⟨e2,h2⟩:=key (ZaT.mk (Zdy.mk (w64 (a.Point.Height+1)) h.Bits h.Time h.Time h.Bits) (hid h) []);rw [aA rfl,h2];exact ⟨e2,by unfold Zfx;rw [hs];rfl⟩
 | false=>
  obtain ⟨e2,h2⟩:=key (ZaT.mk (Zdy.mk (w64 (a.Point.Height+1)) h.Bits h.Time a.Point.First h.Bits) (hid h) []);rw [aB aD,h2];exact ⟨e2,by unfold Zfx;rw [hs];rfl⟩
def wfS (a:ZaT):Bool:=isI a.Times&&decide (a.Times.length<1000000)
noncomputable def ZdD (N:Nat) (p:Zah) (a:ZaT) (h:Zal):Option ZaT:=chk (500≤N)<|chk (wfH h=true)<|chk (wfS a=true)<|some (Zfx p a h)
theorem ZhJ {N:Nat} (hN:500≤N) {p:Zah} {a:ZaT} {h:Zal} (hw:wfH h=true) (ha:wfS a=true):ZdD N p a h=some (Zfx p a h):=by
 unfold ZdD;rw [Zag hN,Zag hw,Zag ha]
theorem Zhv {N:Nat} {p:Zah} {a:ZaT} {h:Zal} {r:ZaT} (hr:ZdD N p a h=some r) (st:LL) : ∃ex,ZaP N p a h st=some (r,st++ex):=by
 unfold ZdD at hr;obtain ⟨h1,hr⟩:=ZaW hr;obtain ⟨h2,hr⟩:=ZaW hr;obtain ⟨h3,hr⟩:=ZaW hr;cases hr;simp only [wfS,zV,decide_eq_true_eq] at h3;exact ZtG N h1 p a h h2 h3.1 h3.2 st
theorem ZgO {N:Nat} {p:Zah} {a:ZaT} {h:Zal} {r:ZaT} (hr:ZdD N p a h=some r):([.agg r.ls]:List CV).all flatV=true:=by
 unfold ZdD at hr;obtain ⟨h1,hr⟩:=ZaW hr;obtain ⟨h2,hr⟩:=ZaW hr;obtain ⟨h3,hr⟩:=ZaW hr;cases hr;have h4 : ∀l:List Int,((ZdL l).all fun x=>x.all flatE)=true:=fun l=>by simp [ZdL,flatE]
 have h5:=h4 (h.Time::(ZlN a.Times).take 10);have e1 : ∀k n,flatL (.int k n)=true:=fun _ _=>rfl;have e2 : ∀k n xs,flatL (.arr k n xs)=true:=fun _ _ _=>rfl;have e3 : ∀n xs,flatL (.sl n xs)=xs.all fun x=>x.all flatE:=fun _ _=>rfl;simp only [List.all_cons,List.all_nil,flatV,ZaT.ls,Zfx,e1,e2,e3,Bool.and_true,Bool.true_and];exact h5
def begin_ (p:Zah):ZaT:=Zfx p ⟨⟨0,0,0,0,p.Limit⟩,zB 32 0,[]⟩ p.Genesis
noncomputable def ZfF (N:Nat) (p:Zah):Option ZaT:=ZdD N p ⟨⟨0,0,0,0,p.Limit⟩,zB 32 0,[]⟩ p.Genesis
theorem ZlU {N:Nat} (hN:500≤N) {p:Zah} (hw:wfH p.Genesis=true):ZfF N p=some (begin_ p):=ZhJ hN hw rfl
theorem Zlc {N:Nat} {p:Zah} {r:ZaT} (hr:ZfF N p=some r) (st:LL) : ∃ex,ZeI N p st=some (r,st++ex):=by
 obtain ⟨ex,h⟩:=Zhv hr st;exact ⟨ex,by unfold ZeI;rw [h,Zab]⟩
end Go.Dn.F
