import Derived.Test.YthiibbfaabjpgaaGreatDoorKd
set_option linter.all false
namespace Go.Dn.F
open Go.Dn
def Zag {α:Type} {p:Prop} [Decidable p] {A:Option α} (h:p):chk p A=A:=aD h
@[simp] def Zaa {α β:Type} (x:β) (f:β->Option α):Zbb (some x) f=f x:=rfl
def ZaK {n:Int} (a : -9223372036854775808<=n) (b:n<9223372036854775808):w64 n=n:=by
 simp only [w64,IntKind.wrap,IntKind.signed,IntKind.bits];simp;omega
def Zdq {n:Int} (a:0<=n) (b:n<18446744073709551616):v64 n=n:=by
 simp only [v64,IntKind.wrap,IntKind.signed,IntKind.bits];simp;omega
def Zgv (n:Int):v64 n=n%18446744073709551616:=by
 simp only [v64,IntKind.wrap,IntKind.signed,IntKind.bits];simp
def ZlV (n:Int):v32 n=n%4294967296:=by
 simp only [v32,IntKind.wrap,IntKind.signed,IntKind.bits];simp
def Zlg (n:Int):v8 n=n%256:=by
 simp only [v8,IntKind.wrap,IntKind.signed,IntKind.bits];simp
def Zry {n:Int} (a:0<=n) (b:n<4294967296):v32 n=n:=by rw [ZlV];omega
def v8_id {n:Int} (a:0<=n) (b:n<256):v8 n=n:=by rw [Zlg];omega
abbrev W:=BitVec 32
def iW (x:W):Int:=(x.toNat:Int)
def Zuo (x:W):0<=iW x:=Int.natCast_nonneg _
def iW_lt (x:W):iW x<4294967296:=by have:=x.isLt;simp only [iW];omega
def Zjo (x:W):BitVec.ofInt 32 (iW x)=x:=by
 apply BitVec.eq_of_toNat_eq;have:=x.isLt;simp only [iW,BitVec.toNat_ofInt];omega
def ZkA (x:W):IntKind.wrap .u32 (x.toNat:Int)=iW x:=by
 have:=x.isLt;show v32 _=_;rw [Zry aF aF];rfl
def Zqd (a b:W):ZaI .xor .u32 (iW a) (iW b)=iW (a ^^^ b):=by
 show IntKind.wrap .u32 ((BitVec.ofInt 32 (iW a) ^^^ BitVec.ofInt 32 (iW b)).toNat:Int)=_;rw [Zjo,Zjo,ZkA]
def iW_and (a b:W):ZaI .and .u32 (iW a) (iW b)=iW (a &&& b):=by
 show IntKind.wrap .u32 ((BitVec.ofInt 32 (iW a) &&& BitVec.ofInt 32 (iW b)).toNat:Int)=_;rw [Zjo,Zjo,ZkA]
def Zun (a b:W):ZaI .or .u32 (iW a) (iW b)=iW (a ||| b):=by
 show IntKind.wrap .u32 ((BitVec.ofInt 32 (iW a) ||| BitVec.ofInt 32 (iW b)).toNat:Int)=_;rw [Zjo,Zjo,ZkA]
def iW_max:IntKind.max .u32=iW (BitVec.allOnes 32):=rfl
def Zlq (a b:W):v32 (iW a+iW b)=iW (a+b):=by
 rw [ZlV];simp only [iW,BitVec.toNat_add];omega
def iW_sub (a b:W):v32 (iW a-iW b)=iW (a-b):=by
 have:=a.isLt;have:=b.isLt;rw [ZlV];simp only [iW,BitVec.toNat_sub];omega
def ZnR (a:W) (n:Nat) (hn:n<=32):Zbx .u32 (iW a) (n:Int)=iW (a >>> n):=by
 have e:min (Int.toNat (n:Int)) (IntKind.bits .u32)=n:=by simp only [IntKind.bits,Int.toNat_natCast];omega
 unfold Zbx iW;rw [e,BitVec.toNat_ushiftRight,Nat.shiftRight_eq_div_pow,Int.fdiv_eq_ediv_of_nonneg _ (Int.le_of_lt (Int.pow_pos (by decide)))]
 push_cast
 rfl
def Zqe (a:W) (n:Nat) (hn:n<=32):ZbP .u32 (iW a) (n:Int)=iW (a <<< n):=by
 have e:min (Int.toNat (n:Int)) (IntKind.bits .u32)=n:=by simp only [IntKind.bits,Int.toNat_natCast];omega
 unfold ZbP;rw [e];show v32 _=_;rw [ZlV];unfold iW;rw [BitVec.toNat_shiftLeft,Nat.shiftLeft_eq,Int.natCast_emod,Int.natCast_mul,Int.natCast_pow];rfl
def iW_byte {n:Int} (h0:0<=n) (h1:n<256):v32 n=iW (BitVec.ofNat 32 n.toNat):=by
 rw [Zry h0 aF];simp only [iW,BitVec.toNat_ofNat];omega
def run {α:Type} (f:Nat->α->α):Nat->Nat->α->α
 | _,0,x=>x
 | i,n+1,x=>run f (i+1) n (f i x)
def Zjp {α X ρ:Type} {body:(X->Option ρ)->X->Option ρ} (enc:Nat->α->X) (Q:α->Prop) (f:Nat->α->α) (i0 n:Nat) (fin:α->Option ρ)
  (hs : ∀G i x,i0<=i->i<n->Q x->body G (enc i x)=G (enc (i+1) (f i x))/\Q (f i x)) (hf : ∀G x,Q x->body G (enc n x)=fin x) :
  ∀(m i k:Nat) (x:α),i0<=i->i+m=n->m<k->Q x->loopN body k (enc i x)=fin (run f i m x)
 | 0,i,k,x,h0,h,hk,hx=>by
  obtain ⟨k,rfl⟩ : ∃q,k=q+1:=⟨k-1,aF⟩
  obtain rfl:i=n:=aF
  exact hf _ x hx
 | m+1,i,k,x,h0,h,hk,hx=>by
  obtain ⟨k,rfl⟩ : ∃q,k=q+1:=⟨k-1,aF⟩
  obtain ⟨h1,h2⟩:=hs (loopN body k) i x h0 aF hx;show body (loopN body k) (enc i x)=_;rw [h1];exact Zjp enc Q f i0 n fin hs hf m (i+1) k (f i x) aF aF aF h2
def ZtD {α:Type} {f:Nat->α->α} {Q:α->Prop} (h : ∀i x,Q x->Q (f i x)) : ∀n i x,Q x->Q (run f i n x)
 | 0,_,_,hx=>hx
 | n+1,i,x,hx=>ZtD h n (i+1) _ (h i x hx)
def ror (x:W) (n:Nat):W:=(x >>> n) ||| (x <<< (32-n))
def sg0 (x:W):W:=(ror x 7 ^^^ ror x 18) ^^^ (x >>> 3)
def sg1 (x:W):W:=(ror x 17 ^^^ ror x 19) ^^^ (x >>> 10)
def bg1 (x:W):W:=(ror x 6 ^^^ ror x 11) ^^^ ror x 25
def bg0 (x:W):W:=(ror x 2 ^^^ ror x 13) ^^^ ror x 22
def chs (e f g:W):W:=(e &&& f) ^^^ ((BitVec.allOnes 32 ^^^ e) &&& g)
def mjr (a b c:W):W:=((a &&& b) ^^^ (a &&& c)) ^^^ (b &&& c)
abbrev Bs:=List UInt8
def Zhv (b:UInt8):W:=BitVec.ofNat 32 b.toNat
def word (b:Bs) (i:Nat):W:=(((Zhv (b.getD (4*i) 0) <<< 24) ||| (Zhv (b.getD (4*i+1) 0) <<< 16)) ||| (Zhv (b.getD (4*i+2) 0) <<< 8)) ||| Zhv (b.getD (4*i+3) 0)
def ldw (b:Bs) (i:Nat) (w:List W):List W:=w.set i (word b i)
def exw (i:Nat) (w:List W):List W:=w.set i (((w.getD (i-16) 0+sg0 (w.getD (i-15) 0))+w.getD (i-7) 0)+sg1 (w.getD (i-2) 0))
def sched (b:Bs):List W:=run exw 16 48 (run (ldw b) 0 16 (List.replicate 64 0))
def kks:List W:=[1116352408,1899447441,3049323471,3921009573,961987163,1508970993,2453635748,2870763221,3624381080,310598401,607225278,1426881987,1925078388,2162078206,2614888103,3248222580,3835390401,4022224774,264347078,604807628,770255983,1249150122,1555081692,1996064986,2554220882,2821834349,2952996808,3210313671,3336571891,3584528711,113926993,338241895,666307205,773529912,1294757372,1396182291,1695183700,1986661051,2177026350,2456956037,2730485921,2820302411,3259730800,3345764771,3516065817,3600352804,4094571909,275423344,430227734,506948616,659060556,883997877,958139571,1322822218,1537002063,1747873779,1955562222,2024104815,2227730452,2361852424,2428436474,2756734187,3204031479,3329325298]
def iv:List W:=[1779033703,3144134277,1013904242,2773480762,1359893119,2600822924,528734635,1541459225]
def rnd (w:List W) (i:Nat) (s:List W):List W:=
 let x:=(((s.getD 7 0+bg1 (s.getD 4 0))+chs (s.getD 4 0) (s.getD 5 0) (s.getD 6 0))+kks.getD i 0)+w.getD i 0;let y:=bg0 (s.getD 0 0)+mjr (s.getD 0 0) (s.getD 1 0) (s.getD 2 0)
 [x+y,s.getD 0 0,s.getD 1 0,s.getD 2 0,s.getD 3 0+x,s.getD 4 0,s.getD 5 0,s.getD 6 0]
def adw (s:List W) (i:Nat) (h:List W):List W:=h.set i (h.getD i 0+s.getD i 0)
def comp (h:List W) (b:Bs):List W:=run (adw (run (rnd (sched b)) 0 64 h)) 0 8 h
def ZlO (h:List W) (b:Bs):(comp h b).length=h.length:=by
 unfold comp;exact ZtD (f:=adw _) (Q:=fun l=>l.length=h.length) (fun i x hx=>by simpa [adw] using hx) 8 0 h rfl
def ZdE:Nat->List W->Bs->List W
 | 0,h,_=>h
 | n+1,h,b=>ZdE n (comp h (b.take 64)) (b.drop 64)
def Zjt : ∀n h b,(ZdE n h b).length=h.length
 | 0,_,_=>rfl
 | n+1,h,b=>by rw [ZdE,Zjt,ZlO]
def be8 (n:Nat):Bs:=[UInt8.ofNat (n >>> 56),UInt8.ofNat (n >>> 48),UInt8.ofNat (n >>> 40),UInt8.ofNat (n >>> 32),UInt8.ofNat (n >>> 24),UInt8.ofNat (n >>> 16),UInt8.ofNat (n >>> 8),UInt8.ofNat n]
def zs (n:Nat):Nat:=(64-(n+9)%64)%64
def pad (b:Bs):Bs:=(b++128::List.replicate (zs b.length) 0)++be8 (8*b.length)
def Zth (n:Nat):(n+1+zs n)%64=56:=by unfold zs;omega
def pad_len (b:Bs):(pad b).length=64*((b.length+9+zs b.length)/64):=by
 have:=Zth b.length;simp [pad,be8];omega
def ZtS (h:List W):Bs:=h.flatMap fun w=>[UInt8.ofNat (w.toNat >>> 24),UInt8.ofNat (w.toNat >>> 16),UInt8.ofNat (w.toNat >>> 8),UInt8.ofNat w.toNat]
def sha (b:Bs):Bs:=ZtS (ZdE ((pad b).length/64) iv (pad b))
def ZrN : ∀h:List W,(ZtS h).length=4*h.length
 | []=>rfl
 | w::h=>by
  have:=ZrN h;simp only [ZtS,List.flatMap_cons,List.length_append,List.length_cons] at this |-;simp at this |-;omega
def ZqP (b:Bs):(sha b).length=32:=by rw [sha,ZrN,Zjt];rfl
def sha2 (b:Bs):Bs:=sha (sha b)
def Zju : ∀(n m:Nat) (h:List W) (a b:Bs),a.length=64*n->ZdE (n+m) h (a++b)=ZdE m (ZdE n h a) b
 | 0,m,h,a,b,ha=>by
  obtain rfl:a = []:=List.length_eq_zero_iff.1 aF;simp [ZdE]
 | n+1,m,h,a,b,ha=>by
  rw [(aF:n+1+m=(n+m)+1),ZdE,ZdE,List.take_append_of_le_length aF,List.drop_append_of_le_length aF];exact Zju n m _ _ b aH
def ZgT (l:List W) (i:Nat):(l.map iW).getD i 0=iW (l.getD i 0):=by
 simp only [List.getD,List.getElem?_map];cases l[i]? <;> rfl
def Znz (l:List W) (i:Nat) (x:W):(l.map iW).set i (iW x)=(l.set i x).map iW:=by rw [List.map_set]
def ror_add (x:W) (n:Nat) (h0:0<n) (h1:n<32):(x >>> n)+(x <<< (32-n))=ror x n:=by
 unfold ror;refine BitVec.add_eq_or_of_and_eq_zero _ _ ?_;ext i hi;simp only [BitVec.getElem_and,BitVec.getElem_ushiftRight,BitVec.getElem_shiftLeft,BitVec.getElem_zero];by_cases h:i<32-n
 ·simp [h]
 simp [h,BitVec.getLsbD_of_ge x (n+i) aF]
def chs_or (e f g:W):(e &&& f) ||| ((4294967295#32-e) &&& g)=chs e f g:=by
 have h:(4294967295#32-e:W)=BitVec.allOnes 32 ^^^ e:=by
  rw [BitVec.allOnes_xor];have:=BitVec.allOnes_sub_eq_not e;exact this
 rw [h];unfold chs;ext i hi;simp only [BitVec.getElem_or,BitVec.getElem_and,BitVec.getElem_xor,BitVec.getElem_allOnes];cases e[i]<;>cases f[i]<;>cases g[i]<;>rfl
def mjr_or (a b c:W):((a &&& b) ||| (a &&& c)) ||| (b &&& c)=mjr a b c:=by
 unfold mjr;ext i hi;simp only [BitVec.getElem_or,BitVec.getElem_and,BitVec.getElem_xor];cases a[i]<;>cases b[i]<;>cases c[i]<;>rfl
end Go.Dn.F
