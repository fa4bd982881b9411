import Derived.Test.YtlofpeadcmldhaaGreatDoorGb
import Derived.Test.YtlofpeadcmldhaaGreatDoorFbb
import Derived.Test.YtlofpeadcmldhaaGreatDoorKc
import Derived.Test.YtlofpeadcmldhaaGreatDoorGa
set_option linter.all false
open Bool renaming false_eq_true→yD,and_eq_true→zO,eq_iff_iff→xX
open Go.Dn.L renaming arr→zL
open Int renaming toNat_natCast→zI,toNat→zD,le_of_lt→vO,pow_add→xB,ediv_mul_add_emod→yS,ediv_nonneg→xE,toNat_of_nonneg→tQ,emod_nonneg→wI,emod_lt_of_pos→wJ,ediv_lt_of_lt_mul→wB,add_mul→yL,mul_assoc→zZ,mul_comm→yT,mul_le_mul_of_nonneg_right→wK,one_mul→uG,mul_nonneg→xQ,mul_emod_left→vP,tdiv→zU,tdiv_eq_ediv_of_nonneg→uH,tmod→yH,tmod_eq_emod_of_nonneg→wH,mul_left_comm→vQ,ediv_ediv_of_nonneg→xC,mul_le_mul_of_nonneg_left→wR,mul_le_mul→uX,mul_add→rC,lt_of_lt_of_le→uO,mul_one→rD,zero_add→rV,ediv_emod_unique→tN,ediv_le_self→vW,mul_lt_mul_of_pos_right→uE,emod_eq_of_lt→wU,ediv_eq_zero_of_lt→vY,pow_succ→sM
open List renaming replicate→zC,getD→zF,set_set→yX,getD_eq_getElem?_getD→vD,getElem?_set_self→zN,getElem?_eq_getElem→zM
open Nat renaming shiftLeft_eq→tD,shiftLeft_add_eq_or_of_lt→tM,div_add_mod→sS,and_two_pow_sub_one_eq_mod→tE,log2→rU,testBit_two_pow→vR
set_option maxRecDepth 4000
namespace Go.Dn.F
open Go.Dn
def blk (b:Bs) (j:Nat):Bs:=(b.drop (64*j)).take 64
section
variable {N:Nat}
end
end Go.Dn.F
namespace Go.Dn.F
open Go.Dn
section
variable {N:Nat}
theorem ZnO (h:Zan):ZcZ N h=some (Zfe h):=by
 unfold ZcZ Zfe
 repeat' split
 all_goals (refine ZeC ⟨fun h=>?_,fun h=>?_⟩<;>simp only [decide_eq_true_eq,yD] at * <;> omega)
end
end Go.Dn.F
namespace Go.Dn.F
open Go.Dn Go.Proofs
def Zkw (n:Int):Prop:=-9223372036854775808≤n∧n≤9223372036854775807
theorem Zel {n:Int} (h:(Lit.int .i64 n).wf=true):Zkw n:=by
 simp only [Lit.wf,zO,decide_eq_true_eq] at h
 exact h
abbrev tysH:List Ty:=[.int .i64,.arr .u8 32,.arr .u8 32,.int .i64,.int .i64,.int .i64]
abbrev tysP:List Ty:=[.int .i64,.int .i64,.int .i64,.int .i64,.bool,.sl 2 [.int .i64,.int .i64],.sl 33 [.int .i64,.arr .u8 32],.arr .u64 4,.arr .u64 4,.int .i64,.arr .u8 32,.arr .u8 32,.int .i64,.int .i64,.int .i64]
structure WfH (h:Zan):Prop where
 v:Zkw h.Version
 w:wfH h=true
 t:Zkw h.Time
 b:Zkw h.Bits
 n:Zkw h.Nonce
theorem ZmQ {l:List Int} (h:l.length=32) (hw : ∀x∈l,(Lit.int .u8 x).wf=true):wfB l=true:=by
 simp only [wfB,zO,beq_iff_eq,List.all_eq_true,decide_eq_true_eq]
 refine ⟨h,fun n hn=>?_⟩
 have:=hw n hn
 simp only [Lit.wf,zO,decide_eq_true_eq] at this
 have e1:IntKind.u8.min=0:=rfl
 have e2:IntKind.u8.max=255:=rfl
 omega
theorem open_H {ls:List L} (h:Zfg tysH ls) : ∃x:Zan,ls=x.ls∧WfH x:=by
 obtain ⟨_,_,rfl,h1,h⟩:=h.cons_inv
 obtain ⟨_,_,rfl,h2,h⟩:=h.cons_inv
 obtain ⟨_,_,rfl,h3,h⟩:=h.cons_inv
 obtain ⟨_,_,rfl,h4,h⟩:=h.cons_inv
 obtain ⟨_,_,rfl,h5,h⟩:=h.cons_inv
 obtain ⟨_,_,rfl,h6,h⟩:=h.cons_inv
 cases h.nil_inv
 obtain ⟨a1,rfl,w1⟩:=h1.int_inv
 obtain ⟨a2,rfl,k2,w2⟩:=h2.arr_inv
 obtain ⟨a3,rfl,k3,w3⟩:=h3.arr_inv
 obtain ⟨a4,rfl,w4⟩:=h4.int_inv
 obtain ⟨a5,rfl,w5⟩:=h5.int_inv
 obtain ⟨a6,rfl,w6⟩:=h6.int_inv
 refine ⟨⟨a1,a2,a3,a4,a5,a6⟩,rfl,⟨Zel w1,?_,Zel w4,Zel w5,Zel w6⟩⟩
 simp only [wfH,zO]
 exact ⟨ZmQ k2 w2,ZmQ k3 w3⟩
structure WfP (p:Zaj):Prop where
 l:Zkw p.Limit
 i:Zkw p.Interval
 s:Zkw p.Spacing
 f:Zkw p.Future
 g : ∀x∈p.Gates,Zfg [.int .i64,.int .i64] x
 gl:p.Gates.length≤maxLen
 c : ∀x∈p.Checks,Zfg [.int .i64,.arr .u8 32] x
 cl:p.Checks.length≤maxLen
 m:p.MinWork.length=4∧∀x∈p.MinWork,(Lit.int .u64 x).wf=true
 r:p.Margin.length=4∧∀x∈p.Margin,(Lit.int .u64 x).wf=true
 h:WfH p.Genesis
theorem open_P {ls:List L} (h:Zfg tysP ls) : ∃x:Zaj,ls=x.ls∧WfP x:=by
 obtain ⟨_,_,rfl,h1,h⟩:=h.cons_inv
 obtain ⟨_,_,rfl,h2,h⟩:=h.cons_inv
 obtain ⟨_,_,rfl,h3,h⟩:=h.cons_inv
 obtain ⟨_,_,rfl,h4,h⟩:=h.cons_inv
 obtain ⟨_,_,rfl,h5,h⟩:=h.cons_inv
 obtain ⟨_,_,rfl,h6,h⟩:=h.cons_inv
 obtain ⟨_,_,rfl,h7,h⟩:=h.cons_inv
 obtain ⟨_,_,rfl,h8,h⟩:=h.cons_inv
 obtain ⟨_,_,rfl,h9,h⟩:=h.cons_inv
 obtain ⟨x,rfl,hx⟩:=open_H h
 obtain ⟨a1,rfl,w1⟩:=h1.int_inv
 obtain ⟨a2,rfl,w2⟩:=h2.int_inv
 obtain ⟨a3,rfl,w3⟩:=h3.int_inv
 obtain ⟨a4,rfl,w4⟩:=h4.int_inv
 obtain ⟨a5,rfl⟩:=h5.bool_inv
 obtain ⟨a6,rfl,k6,w6⟩:=h6.sl_inv
 obtain ⟨a7,rfl,k7,w7⟩:=h7.sl_inv
 obtain ⟨a8,rfl,k8,w8⟩:=h8.arr_inv
 obtain ⟨a9,rfl,k9,w9⟩:=h9.arr_inv
 exact ⟨⟨a1,a2,a3,a4,a5,a6,a7,a8,a9,x⟩,rfl,⟨Zel w1,Zel w2,Zel w3,Zel w4,w6,k6,w7,k7,⟨k8,w8⟩,⟨k9,w9⟩,hx⟩⟩
theorem rev_ind {α:Type} {P:List α→Prop} (h0:P []) (h1 : ∀l a,P l→P (l ++ [a])) (l:List α):P l:=by
 rw [←List.reverse_reverse l]
 induction l.reverse with
 | nil=>exact h0
 | cons a m ih=>rw [List.reverse_cons];exact h1 _ _ ih
theorem isI_row (l:List Int):isI (Zda l)=true:=by simp [isI,Zda]
def spots (p:Zaj) (l:List Zan):ZaE:=l.foldl (Zft p) (begin_ p)
end Go.Dn.F
namespace Go.Dn.F
open Go.Dn
def isW (a:Int):Prop:=0≤a∧a<18446744073709551616
def isN (n:Int):Prop:=0≤n∧n<2^256
def nw (n:Int):List Int:=[n%18446744073709551616,n/18446744073709551616%18446744073709551616,n/2^128%18446744073709551616,n/2^192%18446744073709551616]
def vw (a b c d:Int):Int:=a+18446744073709551616*b+2^128*c+2^192*d
theorem Zdh {a b c d:Int} (ha:isW a) (hb:isW b) (hc:isW c) (hd:isW d):nw (vw a b c d) = [a,b,c,d]:=by
 unfold isW at *
 unfold nw vw
 have e1:(a+18446744073709551616*b+2^128*c+2^192*d)/18446744073709551616=b+18446744073709551616*c+2^128*d:=by omega
 have e2:(a+18446744073709551616*b+2^128*c+2^192*d)/2^128=c+18446744073709551616*d:=by omega
 have e3:(a+18446744073709551616*b+2^128*c+2^192*d)/2^192=d:=by omega
 rw [e1,e2,e3]
 congr 1
 ·omega
 congr 1
 ·omega
 congr 1
 ·omega
 congr 1
 omega
theorem ZiC {a b c d:Int} (ha:isW a) (hb:isW b) (hc:isW c) (hd:isW d):isN (vw a b c d):=by
 unfold isW at *;unfold isN vw;omega
theorem ZcO {n:Int} (h:isN n) : ∃a b c d,isW a∧isW b∧isW c∧isW d∧n=vw a b c d:=by
 unfold isN at h
 refine ⟨n%18446744073709551616,n/18446744073709551616%18446744073709551616,n/18446744073709551616/18446744073709551616%18446744073709551616,n/18446744073709551616/18446744073709551616/18446744073709551616,?_⟩
 unfold isW vw
 refine ⟨by omega,by omega,by omega,by omega,by omega⟩
theorem vw_lt {a b c d e f g h:Int} (ha:isW a) (hb:isW b) (hc:isW c) (hd:isW d) (he:isW e) (hf:isW f) (hg:isW g) (hh:isW h) :
  vw a b c d<vw e f g h↔(d<h∨d=h∧(c<g∨c=g∧(b<f∨b=f∧a<e))):=by
 unfold isW vw at *;omega
theorem vw_eq {a b c d e f g h:Int} (ha:isW a) (hb:isW b) (hc:isW c) (hd:isW d) (he:isW e) (hf:isW f) (hg:isW g) (hh:isW h) :
  vw a b c d=vw e f g h↔(a=e∧b=f∧c=g∧d=h):=by
 unfold isW vw at *;omega
theorem nw_inj {m n:Int} (hm:isN m) (hn:isN n) (h:nw m=nw n):m=n:=by
 obtain ⟨a,b,c,d,ha,hb,hc,hd,rfl⟩:=ZcO hm
 obtain ⟨e,f,g,i,he,hf,hg,hi,rfl⟩:=ZcO hn
 rw [Zdh ha hb hc hd,Zdh he hf hg hi] at h
 simp only [List.cons.injEq,and_true] at h
 exact (vw_eq ha hb hc hd he hf hg hi).2 h
theorem ZdV:zC 4 0=nw 0:=by decide +kernel
variable {N:Nat}
theorem ZeN {n:Int} (h:isW n):Zcs N n=some (nw n):=by
 have:nw n = [n,0,0,0]:=by
  have:=Zdh h (b:=0) (c:=0) (d:=0) (by unfold isW;omega) (by unfold isW;omega) (by unfold isW;omega)
  rw [←this];congr 1;unfold vw;omega
 unfold Zcs;rw [this]
theorem Zea {n:Int} (h:isN n):Zcc N (nw n)=some (decide (n=0)):=by
 unfold Zcc
 rw [ZdV]
 refine ZeC ⟨fun e=>nw_inj h (by unfold isN;omega) (by simpa using e),fun e=>by subst e;simp⟩
def cmp (a b:Int):Int:=if a<b then -1 else if b<a then 1 else 0
theorem ZfL (hN:10≤N) {m n:Int} (hm:isN m) (hn:isN n):ZaV N (nw m) (nw n)=some (cmp m n):=by
 obtain ⟨a,b,c,d,ha,hb,hc,hd,rfl⟩:=ZcO hm
 obtain ⟨e,f,g,i,he,hf,hg,hi,rfl⟩:=ZcO hn
 have k1:=vw_lt ha hb hc hd he hf hg hi
 have k2:=vw_lt he hf hg hi ha hb hc hd
 rw [Zdh ha hb hc hd,Zdh he hf hg hi]
 obtain ⟨N,rfl⟩ : ∃q,N=q+5:=⟨N-5,by omega⟩
 unfold ZaV
 have t : ∀G:Int→Option Int,∀j:Nat,j<4→ZaV.p1 (N+5) [a,b,c,d] [e,f,g,i] G (j:Int)=if [a,b,c,d].getD j 0 < [e,f,g,i].getD j 0 then some (-1) else if [e,f,g,i].getD j 0 < [a,b,c,d].getD j 0 then some 1 else G ((j:Int)-1):=fun G j hj=>by
  unfold ZaV.p1
  rw [if_pos (by simp),Zal (by omega),Zal (by omega),zI,ZaJ (by omega) (by omega)]
  simp only [decide_eq_true_eq,gt_iff_lt]
 have u : ∀G:Int→Option Int,ZaV.p1 (N+5) [a,b,c,d] [e,f,g,i] G (-1)=some 0:=fun G=>by
  unfold ZaV.p1
  rw [if_neg (by simp)]
 rw [Zar,show (3:Int)=((3:Nat):Int) from rfl,t _ 3 (by omega),Zar,show ((3:Nat):Int)-1=((2:Nat):Int) from rfl,t _ 2 (by omega),Zar,show ((2:Nat):Int)-1=((1:Nat):Int) from rfl,t _ 1 (by omega),Zar,show ((1:Nat):Int)-1=((0:Nat):Int) from rfl,t _ 0 (by omega),Zar,show ((0:Nat):Int)-1 = -1 from rfl,u]
 have g0 : ∀a b c d:Int,[a,b,c,d].getD 0 0=a:=fun _ _ _ _=>rfl
 have g1 : ∀a b c d:Int,[a,b,c,d].getD 1 0=b:=fun _ _ _ _=>rfl
 have g2 : ∀a b c d:Int,[a,b,c,d].getD 2 0=c:=fun _ _ _ _=>rfl
 have g3 : ∀a b c d:Int,[a,b,c,d].getD 3 0=d:=fun _ _ _ _=>rfl
 simp only [g0,g1,g2,g3]
 unfold cmp
 simp only [k1,k2]
 repeat' split
 all_goals first | rfl | (exfalso;omega)
theorem ZeA (hN:10≤N) {m n:Int} (hm:isN m) (hn:isN n):Zck N (nw m) (nw n)=some (decide (m<n)):=by
 unfold Zck
 rw [ZfL hN hm hn,Zab]
 refine ZeC ?_
 simp only [decide_eq_true_eq]
 unfold cmp
 repeat' split
 all_goals omega
end Go.Dn.F
namespace Go.Dn.F
open Go.Dn
variable {N:Nat}
theorem Zqk {x y c:Int} (hx:isW x) (hy:isW y) (hc:0≤c∧c≤1) : ∃s c':Int,ZcS N x y c=some (s,c')∧isW s∧0≤c'∧c'≤1∧s+18446744073709551616*c'=x+y+c:=by
 unfold isW at *
 refine ⟨(x+y+c)%18446744073709551616,(x+y+c)/18446744073709551616,?_,by omega,by omega,by omega,by omega⟩
 unfold ZcS
 rw [Zal (by omega),Zal (by omega),Zal (by omega),Zal (by omega)]
theorem sub64 {x y c:Int} (hx:isW x) (hy:isW y) (hc:0≤c∧c≤1) : ∃s c':Int,ZdO N x y c=some (s,c')∧isW s∧0≤c'∧c'≤1∧s-18446744073709551616*c'=x-y-c:=by
 unfold isW at *
 unfold ZdO
 rw [Zal (by omega),Zal (by omega),Zal (by omega),Zal (by omega),Zal (by omega)]
 refine ⟨_,_,rfl,?_⟩
 split<;>refine ⟨by omega,by omega,by omega,by omega⟩
theorem Zeq (hN:10≤N) {m n:Int} (hm:isN m) (hn:isN n) :
  Zbm N (nw m) (nw n)=some (nw ((m+n)%2^256),decide (2^256≤m+n)):=by
 obtain ⟨a,b,c,d,ha,hb,hc,hd,rfl⟩:=ZcO hm
 obtain ⟨e,f,g,i,he,hf,hg,hi,rfl⟩:=ZcO hn
 rw [Zdh ha hb hc hd,Zdh he hf hg hi]
 obtain ⟨N,rfl⟩ : ∃q,N=q+5:=⟨N-5,by omega⟩
 obtain ⟨s0,c0,e0,k0,l0,m0,n0⟩:=Zqk (N:=N+5) ha he (c:=0) (by omega)
 obtain ⟨s1,c1,e1,k1,l1,m1,n1⟩:=Zqk (N:=N+5) hb hf (c:=c0) (by omega)
 obtain ⟨s2,c2,e2,k2,l2,m2,n2⟩:=Zqk (N:=N+5) hc hg (c:=c1) (by omega)
 obtain ⟨s3,c3,e3,k3,l3,m3,n3⟩:=Zqk (N:=N+5) hd hi (c:=c2) (by omega)
 unfold Zbm
 have t : ∀(G:Int×Int×List Int→Option (List Int×Bool)) (j:Nat) (l:List Int) (c s c':Int),j<4→ZcS (N+5) (l.getD j 0) ([e,f,g,i].getD j 0) c=some (s,c') →
   Zbm.p1 (N+5) [e,f,g,i] G (c,(j:Int),l)=G (c',(j:Int)+1,l.set j s):=fun G j l c s c' hj h=>by
  unfold Zbm.p1
  dsimp only
  rw [if_pos (by simp;omega),Zal (by omega),zI,h,Zab,ZaJ (by omega) (by omega)]
 have u : ∀(G:Int×Int×List Int→Option (List Int×Bool)) (l:List Int) (c:Int),Zbm.p1 (N+5) [e,f,g,i] G (c,4,l)=some (l,c != 0):=fun G l c=>by
  unfold Zbm.p1
  dsimp only
  rw [if_neg (by simp)]
 rw [Zar]
 refine Eq.trans (t _ 0 [a,b,c,d] 0 s0 c0 (by omega) e0) ?_
 rw [Zar]
 refine Eq.trans (t _ 1 [s0,b,c,d] c0 s1 c1 (by omega) e1) ?_
 rw [Zar]
 refine Eq.trans (t _ 2 [s0,s1,c,d] c1 s2 c2 (by omega) e2) ?_
 rw [Zar]
 refine Eq.trans (t _ 3 [s0,s1,s2,d] c2 s3 c3 (by omega) e3) ?_
 rw [Zar]
 refine Eq.trans (u _ [s0,s1,s2,s3] c3) ?_
 rw [←Zdh k0 k1 k2 k3]
 have key:vw a b c d+vw e f g i=vw s0 s1 s2 s3+2^256*c3:=by unfold vw;omega
 have r:=ZiC k0 k1 k2 k3
 unfold isN at r
 have e5:(vw a b c d+vw e f g i)%2^256=vw s0 s1 s2 s3:=by omega
 rw [e5]
 have e6:(c3 != 0)=decide (2^256≤vw a b c d+vw e f g i):=by
  rw [xX];simp only [bne_iff_ne,ne_eq,decide_eq_true_eq];omega
 rw [e6]
theorem of_w (x:Int) (h:isW x):(BitVec.ofInt 64 x).toNat=x.toNat:=by
 unfold isW at h
 rw [BitVec.toNat_ofInt];omega
theorem Zor (n:Nat) (h:n<18446744073709551616):IntKind.wrap .u64 (n:Int)=n:=Zco (by omega) (by omega)
theorem and64 {x y:Int} (hx:isW x) (hy:isW y):Zaz .and .u64 x y=((x.toNat &&& y.toNat:Nat):Int):=by
 show IntKind.wrap .u64 (((BitVec.ofInt 64 x &&& BitVec.ofInt 64 y).toNat:Nat):Int)=_
 rw [Zor _ (BitVec.isLt _),BitVec.toNat_and,of_w x hx,of_w y hy]
theorem or64 {x y:Int} (hx:isW x) (hy:isW y):Zaz .or .u64 x y=((x.toNat ||| y.toNat:Nat):Int):=by
 show IntKind.wrap .u64 (((BitVec.ofInt 64 x ||| BitVec.ofInt 64 y).toNat:Nat):Int)=_
 rw [Zor _ (BitVec.isLt _),BitVec.toNat_or,of_w x hx,of_w y hy]
theorem xor_max {x:Int} (h:isW x):Zaz .xor .u64 (IntKind.max IntKind.u64) x=18446744073709551615-x:=by
 show IntKind.wrap .u64 (((BitVec.ofInt 64 (IntKind.max IntKind.u64) ^^^ BitVec.ofInt 64 x).toNat:Nat):Int)=_
 rw [Zor _ (BitVec.isLt _),show BitVec.ofInt 64 (IntKind.max IntKind.u64)=BitVec.allOnes 64 by decide,BitVec.allOnes_xor,BitVec.toNat_not,of_w x h]
 unfold isW at h
 omega
theorem ZoI (x:Int) {k:Nat} (h:k≤64):Zbd .u64 x (k:Int)=x*2^k%18446744073709551616:=by
 have e:min (zD (k:Int)) (IntKind.bits .u64)=k:=by simp only [IntKind.bits,zI];omega
 unfold Zbd
 rw [e]
 show v64 _=_
 rw [Zet]
theorem Zkd (x:Int) {k:Nat} (h:k≤64):ZaQ .u64 x (k:Int)=x/2^k:=by
 have e:min (zD (k:Int)) (IntKind.bits .u64)=k:=by simp only [IntKind.bits,zI];omega
 unfold ZaQ
 rw [e,Int.fdiv_eq_ediv_of_nonneg _ (vO (Int.pow_pos (by decide)))]
theorem ZbO (k:Nat):(0:Int)<2^k:=Int.pow_pos (by decide)
theorem ZdW {k:Nat} (h:k≤64):(2:Int)^k*2^(64-k)=18446744073709551616:=by
 rw [←xB,show k+(64-k)=64 by omega];rfl
theorem ZgD {A h:Int} {k:Nat} (hk:k≤64) (hA:0≤A) (hA2:A+2^k≤18446744073709551616) (hd:A%2^k=0) (h0:0≤h) (h1:h<2^k):Zaz .or .u64 A h=A+h:=by
 have p:=ZbO k
 rw [or64 (by unfold isW;omega) (by unfold isW;omega)]
 have e1:A.toNat=(A/2^k).toNat <<< k:=by
  rw [tD]
  have e:=yS A (2^k)
  rw [hd,Int.add_zero] at e
  have q:0≤A/2^k:=xE hA (by omega)
  apply Int.ofNat_inj.1
  push_cast
  rw [tQ hA,tQ q,e]
 have e2:h.toNat<2^k:=by
  have:((h.toNat:Nat):Int)<((2^k:Nat):Int):=by push_cast;omega
  omega
 rw [e1,←tM e2,←e1]
 omega
theorem ZcE {a:Int} (ha:isW a) {k:Nat} (hk:k≤64) : ∃A h:Int,Zbd .u64 a (k:Int)=A∧ZaQ .u64 a ((64-k:Nat):Int)=h∧0≤A∧A+2^k≤18446744073709551616∧0≤h∧h<2^k∧a*2^k=A+18446744073709551616*h∧A%2^k=0:=by
 have p:=ZbO k
 have p':=ZbO (64-k)
 have s:=ZdW hk
 unfold isW at ha
 refine ⟨_,_,ZoI a hk,Zkd a (by omega),?_⟩
 generalize (2:Int)^(64-k)=U at *
 generalize (2:Int)^k=T at *
 have e:=yS a U
 have r0:=wI a (b:=U) (by omega)
 have r1:=wJ a p'
 have hq:0≤a/U:=xE ha.1 (by omega)
 have hT:a/U<T:=wB p' (by rw [s];exact ha.2)
 have aT:a*T=(a%U)*T+18446744073709551616*(a/U):=by
  conv=>lhs;rw [←e,yL,zZ,yT U T,s,Int.add_comm,yT (a/U)]
 have l1:(a%U)*T+T≤18446744073709551616:=by
  have:(a%U+1)*T≤U*T:=wK (by omega) (by omega)
  rw [yT U T,s,yL,uG] at this
  exact this
 have l0:0≤(a%U)*T:=xQ r0 (by omega)
 have e3:a*T%18446744073709551616=(a%U)*T:=by rw [aT];omega
 rw [e3]
 exact ⟨l0,l1,hq,hT,aT,vP _ _⟩
theorem isW0:isW 0:=by unfold isW;omega
theorem Zlu (n:Nat):(2:Int)^n=2^(64*(n/64))*2^(n%64):=by rw [←xB,sS]
theorem ZgF (hN:10≤N) {m:Int} (hm:isN m) (n:Nat) (hn:n<1000000) :
  Zbi N (nw m) (n:Int)=some (nw (m*2^n%2^256)):=by
 unfold Zbi
 by_cases h256:256≤n
 ·rw [if_pos (by simp;omega),ZdV]
  have:m*2^n%2^256=0:=by
   have e:(2:Int)^n=2^(n-256)*2^256:=by rw [←xB,show n-256+256=n by omega]
   rw [e,←zZ]
   exact vP _ _
  rw [this]
 rw [if_neg (by simp;omega)]
 obtain ⟨a,b,c,d,ha,hb,hc,hd,rfl⟩:=ZcO hm
 rw [Zdh ha hb hc hd]
 have hk:n%64≤64:=by omega
 obtain ⟨A,x,a1,a2,a3,a4,a5,a6,a7,a8⟩:=ZcE ha hk
 obtain ⟨B,y,b1,b2,b3,b4,b5,b6,b7,b8⟩:=ZcE hb hk
 obtain ⟨C,z,c1,c2,c3,c4,c5,c6,c7,c8⟩:=ZcE hc hk
 obtain ⟨D,u,d1,d2,d3,d4,d5,d6,d7,d8⟩:=ZcE hd hk
 have o1:=ZgD hk b3 b4 b8 a5 a6
 have o2:=ZgD hk c3 c4 c8 b5 b6
 have o3:=ZgD hk d3 d4 d8 c5 c6
 have pT:=ZbO (n%64)
 have hq:zU (if (0:Int)>(n:Int) then 0 else (n:Int)) 64=((n/64:Nat):Int):=by rw [if_neg (by omega),uH (by omega)];omega
 have hr:yH (if (0:Int)>(n:Int) then 0 else (n:Int)) 64=((n%64:Nat):Int):=by rw [if_neg (by omega),wH (by omega)];omega
 obtain ⟨N,rfl⟩ : ∃q,N=q+5:=⟨N-5,by omega⟩
 rw [hq,ZaJ (by omega) (by omega)]
 have first : ∀(G:Int×List Int→Option (List Int)) (l:List Int),n/64<4 →
   Zbi.p1 (N+5) (n:Int) [a,b,c,d] G (((n/64:Nat):Int),l)=G (((n/64:Nat):Int)+1,l.set (n/64) A):=fun G l hl=>by
  unfold Zbi.p1
  dsimp only
  rw [hq,hr,ZaJ (n:=((n/64:Nat):Int)) (by omega) (by omega),Int.sub_self,ZaJ (n:=0) (by omega) (by omega),if_pos (by simp;omega),Zal (by omega),Zal (by omega),Zal (by omega),Zal (by omega),if_neg (by simp)]
  unfold Zbi.p2
  rw [ZaJ (by omega) (by omega),zI,show zF [a,b,c,d] (zD 0) 0=a from rfl,a1]
 have next : ∀(G:Int×List Int→Option (List Int)) (j:Nat) (l:List Int) (s t X:Int),n/64+j+1<4→l.length=4→[a,b,c,d].getD (j+1) 0=s→[a,b,c,d].getD j 0=t →
   Zaz .or .u64 (Zbd .u64 s ((n%64:Nat):Int)) (ZaQ .u64 t ((64-n%64:Nat):Int))=X →
   Zbi.p1 (N+5) (n:Int) [a,b,c,d] G (((n/64+j+1:Nat):Int),l)=G (((n/64+j+1:Nat):Int)+1,l.set (n/64+j+1) X):=fun G j l s t X hl hl4 hs ht hX=>by
  unfold Zbi.p1
  dsimp only
  rw [hq,hr,ZaJ (n:=((n/64:Nat):Int)) (by omega) (by omega),show (((n/64+j+1:Nat):Int)-((n/64:Nat):Int))=((j+1:Nat):Int) by omega,ZaJ (n:=((j+1:Nat):Int)) (by omega) (by omega),show ((j+1:Nat):Int)-1=(j:Int) by omega,ZaJ (n:=(j:Int)) (by omega) (by omega),show (64:Int)-((n%64:Nat):Int)=((64-n%64:Nat):Int) by omega,ZaJ (n:=((64-n%64:Nat):Int)) (by omega) (by omega),
   if_pos (by simp;omega),Zal (by omega),Zal (by omega),Zal (by omega),Zal (by omega),if_pos (by simp;omega),Zal (by omega),Zal (by omega),Zal (by omega)]
  unfold Zbi.p2
  rw [ZaJ (by omega) (by omega),zI,zI,zI,hs,ht,yX]
  have:(l.set (n/64+j+1) (Zbd .u64 s ((n%64:Nat):Int))).getD (n/64+j+1) 0=Zbd .u64 s ((n%64:Nat):Int):=by
   rw [vD,zN (by omega)];rfl
  rw [this,hX]
 have last : ∀(G:Int×List Int→Option (List Int)) (l:List Int),Zbi.p1 (N+5) (n:Int) [a,b,c,d] G (4,l)=some l:=fun G l=>by
  unfold Zbi.p1
  dsimp only
  rw [if_neg (by simp)]
 have n1:=fun G l X e=>next G 0 l b a X e
 have n2:=fun G l X e=>next G 1 l c b X e
 have n3:=fun G l X e=>next G 2 l d c X e
 rw [b1,a2] at n1
 rw [c1,b2] at n2
 rw [d1,c2] at n3
 have pw:=Zlu n
 have cases4:n/64=0∨n/64=1∨n/64=2∨n/64=3:=by omega
 have vT:vw a b c d*2^(n%64)=A+18446744073709551616*x+18446744073709551616*(B+18446744073709551616*y)+2^128*(C+18446744073709551616*z)+2^192*(D+18446744073709551616*u):=by
  rw [←a7,←b7,←c7,←d7]
  unfold vw
  rw [yL,yL,yL,zZ,zZ,zZ]
 rcases cases4 with q | q | q | q
 ·rw [q] at first n1 n2 n3 pw ⊢
  rw [Zar];refine Eq.trans (first _ [0,0,0,0] (by omega)) ?_
  rw [Zar];refine Eq.trans (n1 _ [A,0,0,0] _ (by omega) rfl rfl rfl o1) ?_
  rw [Zar];refine Eq.trans (n2 _ [A,B+x,0,0] _ (by omega) rfl rfl rfl o2) ?_
  rw [Zar];refine Eq.trans (n3 _ [A,B+x,C+y,0] _ (by omega) rfl rfl rfl o3) ?_
  rw [Zar];refine Eq.trans (last _ [A,B+x,C+y,D+z]) ?_
  rw [←Zdh (a:=A) (b:=B+x) (c:=C+y) (d:=D+z) (by unfold isW;omega) (by unfold isW;omega) (by unfold isW;omega) (by unfold isW;omega)]
  congr 2
  rw [pw,show (2:Int)^(64*0)=1 from rfl,uG,vT]
  unfold vw;omega
 ·rw [q] at first n1 n2 n3 pw ⊢
  rw [Zar];refine Eq.trans (first _ [0,0,0,0] (by omega)) ?_
  rw [Zar];refine Eq.trans (n1 _ [0,A,0,0] _ (by omega) rfl rfl rfl o1) ?_
  rw [Zar];refine Eq.trans (n2 _ [0,A,B+x,0] _ (by omega) rfl rfl rfl o2) ?_
  rw [Zar];refine Eq.trans (last _ [0,A,B+x,C+y]) ?_
  rw [←Zdh (a:=0) (b:=A) (c:=B+x) (d:=C+y) (by unfold isW;omega) (by unfold isW;omega) (by unfold isW;omega) (by unfold isW;omega)]
  congr 2
  rw [pw,show (2:Int)^(64*1)=18446744073709551616 from rfl,vQ,vT]
  unfold vw;omega
 ·rw [q] at first n1 n2 n3 pw ⊢
  rw [Zar];refine Eq.trans (first _ [0,0,0,0] (by omega)) ?_
  rw [Zar];refine Eq.trans (n1 _ [0,0,A,0] _ (by omega) rfl rfl rfl o1) ?_
  rw [Zar];refine Eq.trans (last _ [0,0,A,B+x]) ?_
  rw [←Zdh (a:=0) (b:=0) (c:=A) (d:=B+x) (by unfold isW;omega) (by unfold isW;omega) (by unfold isW;omega) (by unfold isW;omega)]
  congr 2
  rw [pw,show (2:Int)^(64*2)=2^128 from rfl,vQ,vT]
  unfold vw;omega
 ·rw [q] at first n1 n2 n3 pw ⊢
  rw [Zar];refine Eq.trans (first _ [0,0,0,0] (by omega)) ?_
  rw [Zar];refine Eq.trans (last _ [0,0,0,A]) ?_
  rw [←Zdh (a:=0) (b:=0) (c:=0) (d:=A) (by unfold isW;omega) (by unfold isW;omega) (by unfold isW;omega) (by unfold isW;omega)]
  congr 2
  rw [pw,show (2:Int)^(64*3)=2^192 from rfl,vQ,vT]
  unfold vw;omega
theorem Zlx {x y:Int} (hx:isW x) (hy:isW y):Zaz .or .u64 x y=Zaz .or .u64 y x:=by rw [or64 hx hy,or64 hy hx,Nat.or_comm]
theorem Zny {m A S T U:Int} (hT:0<T) (hU:0<U) (hTU:T*U=18446744073709551616) (hA:0≤A∧A<18446744073709551616) (h:m*U=A+18446744073709551616*S):m/T=S:=by
 rw [←Int.mul_ediv_mul_of_pos_left m T hU,hTU,h];omega
theorem ZgV (hN:10≤N) {m:Int} (hm:isN m) (n:Nat) (hn:n<1000000) :
  ZaO N (nw m) (n:Int)=some (nw (m/2^n)):=by
 unfold ZaO
 by_cases h256:256≤n
 ·rw [if_pos (by simp;omega),ZdV]
  have:m/2^n=0:=by
   have e:(2:Int)^n=2^256*2^(n-256):=by rw [←xB,show 256+(n-256)=n by omega]
   rw [e,←xC (by decide)]
   unfold isN at hm
   rw [show m/2^256=0 by rw [show (2:Int)^256=2^256 from rfl];omega]
   simp
  rw [this]
 rw [if_neg (by simp;omega)]
 obtain ⟨a,b,c,d,ha,hb,hc,hd,rfl⟩:=ZcO hm
 rw [Zdh ha hb hc hd]
 have hk:64-n%64≤64:=by omega
 obtain ⟨A,x,a1,a2,a3,a4,a5,a6,a7,a8⟩:=ZcE ha hk
 obtain ⟨B,y,b1,b2,b3,b4,b5,b6,b7,b8⟩:=ZcE hb hk
 obtain ⟨C,z,c1,c2,c3,c4,c5,c6,c7,c8⟩:=ZcE hc hk
 obtain ⟨D,u,d1,d2,d3,d4,d5,d6,d7,d8⟩:=ZcE hd hk
 rw [show 64-(64-n%64)=n%64 by omega] at a2 b2 c2 d2
 have pT:=ZbO (n%64)
 have pU:=ZbO (64-n%64)
 have tu:=ZdW (k:=n%64) (by omega)
 have o1:=ZgD hk b3 b4 b8 a5 a6
 have o2:=ZgD hk c3 c4 c8 b5 b6
 have o3:=ZgD hk d3 d4 d8 c5 c6
 rw [Zlx (by unfold isW;omega) (by unfold isW;omega),Int.add_comm] at o1 o2 o3
 have hq:zU (if (0:Int)>(n:Int) then 0 else (n:Int)) 64=((n/64:Nat):Int):=by rw [if_neg (by omega),uH (by omega)];omega
 have hr:yH (if (0:Int)>(n:Int) then 0 else (n:Int)) 64=((n%64:Nat):Int):=by rw [if_neg (by omega),wH (by omega)];omega
 obtain ⟨N,rfl⟩ : ∃q,N=q+5:=⟨N-5,by omega⟩
 have top : ∀(G:Int×List Int→Option (List Int)) (j:Nat) (l:List Int) (s X:Int),n/64+j=3→[a,b,c,d].getD 3 0=s→ZaQ .u64 s ((n%64:Nat):Int)=X →
   ZaO.p1 (N+5) (n:Int) [a,b,c,d] G ((j:Int),l)=G ((j:Int)+1,l.set j X):=fun G j l s X hl hs hX=>by
  unfold ZaO.p1
  dsimp only
  rw [hq,hr,ZaJ (n:=((n/64:Nat):Int)) (by omega) (by omega),show (4:Int)-((n/64:Nat):Int)=((4-n/64:Nat):Int) by omega,ZaJ (n:=((4-n/64:Nat):Int)) (by omega) (by omega),show ((j:Int)+((n/64:Nat):Int))=((3:Nat):Int) by omega,ZaJ (n:=((3:Nat):Int)) (by omega) (by omega),if_pos (by simp;omega),Zal (by omega),Zal (by omega),Zal (by omega),Zal (by omega),Zal (by omega),if_neg (by rw [ZaJ (by omega) (by omega)];simp)]
  unfold ZaO.p2
  rw [ZaJ (by omega) (by omega),zI,zI,hs,hX]
 have next : ∀(G:Int×List Int→Option (List Int)) (j:Nat) (l:List Int) (s t X:Int),n/64+j<3→l.length=4→[a,b,c,d].getD (n/64+j) 0=s→[a,b,c,d].getD (n/64+j+1) 0=t →
   Zaz .or .u64 (ZaQ .u64 s ((n%64:Nat):Int)) (Zbd .u64 t ((64-n%64:Nat):Int))=X →
   ZaO.p1 (N+5) (n:Int) [a,b,c,d] G ((j:Int),l)=G ((j:Int)+1,l.set j X):=fun G j l s t X hl hl4 hs ht hX=>by
  unfold ZaO.p1
  dsimp only
  rw [hq,hr,ZaJ (n:=((n/64:Nat):Int)) (by omega) (by omega),show (4:Int)-((n/64:Nat):Int)=((4-n/64:Nat):Int) by omega,ZaJ (n:=((4-n/64:Nat):Int)) (by omega) (by omega),show ((j:Int)+((n/64:Nat):Int))=((n/64+j:Nat):Int) by omega,ZaJ (n:=((n/64+j:Nat):Int)) (by omega) (by omega),show ((n/64+j:Nat):Int)+1=((n/64+j+1:Nat):Int) by omega,ZaJ (n:=((n/64+j+1:Nat):Int)) (by omega) (by omega),show (64:Int)-((n%64:Nat):Int)=((64-n%64:Nat):Int) by omega,ZaJ (n:=((64-n%64:Nat):Int)) (by omega) (by omega),
   if_pos (by simp;omega),Zal (by omega),Zal (by omega),Zal (by omega),Zal (by omega),Zal (by omega),if_pos (by simp;omega),Zal (by omega),Zal (by omega)]
  unfold ZaO.p2
  rw [ZaJ (by omega) (by omega),zI,zI,zI,hs,ht,yX]
  have:(l.set j (ZaQ .u64 s ((n%64:Nat):Int))).getD j 0=ZaQ .u64 s ((n%64:Nat):Int):=by
   rw [vD,zN (by omega)];rfl
  rw [this,hX]
 have last : ∀(G:Int×List Int→Option (List Int)) (l:List Int) (j:Nat),n/64+j=4→ZaO.p1 (N+5) (n:Int) [a,b,c,d] G ((j:Int),l)=some l:=fun G l j hj=>by
  unfold ZaO.p1
  dsimp only
  rw [hq,ZaJ (n:=((n/64:Nat):Int)) (by omega) (by omega),ZaJ (by omega) (by omega),if_neg (by simp;omega)]
 have pw:=Zlu n
 have cases4:n/64=0∨n/64=1∨n/64=2∨n/64=3:=by omega
 have fin : ∀(a b c d A S:Int),isW A→vw a b c d*2^(64-n%64)=A+18446744073709551616*S→vw a b c d/2^(n%64)=S:=fun a b c d A S hA h=>Zny pT pU tu hA h
 have vT : ∀(a b c d A B C D x y z u:Int),a*2^(64-n%64)=A+18446744073709551616*x→b*2^(64-n%64)=B+18446744073709551616*y→c*2^(64-n%64)=C+18446744073709551616*z→d*2^(64-n%64)=D+18446744073709551616*u →
   vw a b c d*2^(64-n%64)=A+18446744073709551616*vw (x+B) (y+C) (z+D) u:=fun a b c d A B C D x y z u a7 b7 c7 d7=>by
  have:vw a b c d*2^(64-n%64)=A+18446744073709551616*x+18446744073709551616*(B+18446744073709551616*y)+2^128*(C+18446744073709551616*z)+2^192*(D+18446744073709551616*u):=by
   rw [←a7,←b7,←c7,←d7]
   unfold vw
   rw [yL,yL,yL,zZ,zZ,zZ]
  rw [this];unfold vw;omega
 have z0:(0:Int)*2^(64-n%64)=0+18446744073709551616*0:=by omega
 have W0:isW A∧isW B∧isW C∧isW D:=by unfold isW;omega
 rcases cases4 with q | q | q | q
 ·rw [q] at next top last pw
  rw [Zar];refine Eq.trans (next _ 0 [0,0,0,0] a b (x+B) (by omega) rfl rfl rfl (by rw [a2,b1];exact o1)) ?_
  rw [Zar];refine Eq.trans (next _ 1 [_,0,0,0] b c (y+C) (by omega) rfl rfl rfl (by rw [b2,c1];exact o2)) ?_
  rw [Zar];refine Eq.trans (next _ 2 [_,_,0,0] c d (z+D) (by omega) rfl rfl rfl (by rw [c2,d1];exact o3)) ?_
  rw [Zar];refine Eq.trans (top _ 3 [_,_,_,0] _ _ (by omega) rfl d2) ?_
  rw [Zar];refine Eq.trans (last _ _ 4 (by omega)) ?_
  rw [pw,show (2:Int)^(64*0)=1 from rfl,uG,fin a b c d A _ W0.1 (vT _ _ _ _ _ _ _ _ _ _ _ _ a7 b7 c7 d7),Zdh (by unfold isW;omega) (by unfold isW;omega) (by unfold isW;omega) (by unfold isW;omega)]
  simp
 ·rw [q] at next top last pw
  rw [Zar];refine Eq.trans (next _ 0 [0,0,0,0] b c (y+C) (by omega) rfl rfl rfl (by rw [b2,c1];exact o2)) ?_
  rw [Zar];refine Eq.trans (next _ 1 [_,0,0,0] c d (z+D) (by omega) rfl rfl rfl (by rw [c2,d1];exact o3)) ?_
  rw [Zar];refine Eq.trans (top _ 2 [_,_,0,0] _ _ (by omega) rfl d2) ?_
  rw [Zar];refine Eq.trans (last _ _ 3 (by omega)) ?_
  have:vw a b c d/18446744073709551616=vw b c d 0:=by unfold isW vw at *;omega
  rw [pw,show (2:Int)^(64*1)=18446744073709551616 from rfl,←xC (by omega),this,fin b c d 0 B _ W0.2.1 (vT _ _ _ _ _ _ _ _ _ _ _ _ b7 c7 d7 z0),Zdh (by unfold isW;omega) (by unfold isW;omega) (by unfold isW;omega) (by unfold isW;omega)]
  simp
 ·rw [q] at next top last pw
  rw [Zar];refine Eq.trans (next _ 0 [0,0,0,0] c d (z+D) (by omega) rfl rfl rfl (by rw [c2,d1];exact o3)) ?_
  rw [Zar];refine Eq.trans (top _ 1 [_,0,0,0] _ _ (by omega) rfl d2) ?_
  rw [Zar];refine Eq.trans (last _ _ 2 (by omega)) ?_
  have:vw a b c d/2^128=vw c d 0 0:=by unfold isW vw at *;omega
  rw [pw,show (2:Int)^(64*2)=2^128 from rfl,←xC (by omega),this,fin c d 0 0 C _ W0.2.2.1 (vT _ _ _ _ _ _ _ _ _ _ _ _ c7 d7 z0 z0),Zdh (by unfold isW;omega) (by unfold isW;omega) (by unfold isW;omega) (by unfold isW;omega)]
  simp
 ·rw [q] at next top last pw
  rw [Zar];refine Eq.trans (top _ 0 [0,0,0,0] _ _ (by omega) rfl d2) ?_
  rw [Zar];refine Eq.trans (last _ _ 1 (by omega)) ?_
  have:vw a b c d/2^192=vw d 0 0 0:=by unfold isW vw at *;omega
  rw [pw,show (2:Int)^(64*3)=2^192 from rfl,←xC (by omega),this,fin d 0 0 0 D _ W0.2.2.2 (vT _ _ _ _ _ _ _ _ _ _ _ _ d7 z0 z0 z0),Zdh (by unfold isW;omega) (by unfold isW;omega) (by unfold isW;omega) (by unfold isW;omega)]
  simp
theorem ZnD {x:Int} (hx:isW x) (k:Nat) (hk:k≤64):Zaz .and .u64 x (2^k-1)=x%2^k:=by
 have p:=ZbO k
 have q:=ZbO (64-k)
 have s:=ZdW hk
 have l:(2:Int)^k≤18446744073709551616:=by
  have:=wR (show (1:Int)≤2^(64-k) by omega) (show (0:Int)≤2^k by omega)
  omega
 rw [and64 hx (by unfold isW;omega)]
 have:((2:Int)^k-1).toNat=2^k-1:=by
  have:((2^k:Nat):Int)=(2:Int)^k:=by push_cast;rfl
  omega
 rw [this,tE]
 unfold isW at hx
 push_cast
 rw [tQ hx.1]
theorem Zqi {x:Int} (hx:isW x):Zaz .and .u64 x 4294967295=x%4294967296:=ZnD hx 32 (by omega)
theorem Zlj (x:Int):ZaQ .u64 x 32=x/4294967296:=Zkd x (k:=32) (by omega)
theorem mul64 {x y:Int} (hx:isW x) (hy:isW y):ZbT N x y=some (x*y/18446744073709551616,x*y%18446744073709551616):=by
 unfold ZbT
 rw [Zlj x,Zlj y,Zqi hx,Zqi hy]
 unfold isW at hx hy
 obtain ⟨x1,x0,ex,hx1,hx2,hx3,hx4⟩ : ∃x1 x0:Int,x=x1*4294967296+x0∧0≤x1∧x1≤4294967295∧0≤x0∧x0≤4294967295:=⟨x/4294967296,x%4294967296,by omega,by omega,by omega,by omega,by omega⟩
 obtain ⟨y1,y0,ey,hy1,hy2,hy3,hy4⟩ : ∃x1 x0:Int,y=x1*4294967296+x0∧0≤x1∧x1≤4294967295∧0≤x0∧x0≤4294967295:=⟨y/4294967296,y%4294967296,by omega,by omega,by omega,by omega,by omega⟩
 rw [show x/4294967296=x1 by omega,show x%4294967296=x0 by omega,show y/4294967296=y1 by omega,show y%4294967296=y0 by omega]
 have b : ∀{u v:Int},0≤u→u≤4294967295→0≤v→v≤4294967295→0≤u*v∧u*v≤18446744065119617025:=fun h1 h2 h3 h4=>⟨xQ h1 h3,by
  have:=uX h2 h4 h3 (by omega:(0:Int)≤4294967295)
  omega⟩
 obtain ⟨p1,p2⟩:=b hx1 hx2 hy1 hy2
 obtain ⟨q1,q2⟩:=b hx1 hx2 hy3 hy4
 obtain ⟨r1,r2⟩:=b hx3 hx4 hy1 hy2
 obtain ⟨s1,s2⟩:=b hx3 hx4 hy3 hy4
 have prod:x*y=18446744073709551616*(x1*y1)+4294967296*(x1*y0)+4294967296*(x0*y1)+x0*y0:=by
  rw [ex,ey,yL,rC,rC]
  have e1:x1*4294967296*(y1*4294967296)=18446744073709551616*(x1*y1):=by
   rw [zZ,vQ 4294967296 y1,←zZ x1 y1];omega
  have e2:x1*4294967296*y0=4294967296*(x1*y0):=by rw [yT x1,zZ]
  have e3:x0*(y1*4294967296)=4294967296*(x0*y1):=by rw [←zZ,yT]
  rw [e1,e2,e3];omega
 rw [prod]
 generalize x1*y1=P at *
 generalize x1*y0=Q at *
 generalize x0*y1=R at *
 generalize x0*y0=S at *
 rw [Zco (n:=S) (by omega) (by omega),Zco (n:=Q) (by omega) (by omega),Zco (n:=R) (by omega) (by omega),Zco (n:=P) (by omega) (by omega),Zlj S,Zco (n:=Q+S/4294967296) (by omega) (by omega),Zlj,Zqi (by unfold isW;omega),Zco (n:=P+(Q+S/4294967296)/4294967296) (by omega) (by omega),Zco (n:=(Q+S/4294967296)%4294967296+R) (by omega) (by omega),Zlj,Zco (by omega) (by omega),Zet]
 have:P+(Q+S/4294967296)/4294967296+((Q+S/4294967296)%4294967296+R)/4294967296=(18446744073709551616*P+4294967296*Q+4294967296*R+S)/18446744073709551616:=by omega
 rw [this]
theorem mulc {x y c:Int} (hx:isW x) (hy:isW y) (hc:isW c) : ∃hi lo s c':Int,ZbT N x y=some (hi,lo)∧ZcS N lo c 0=some (s,c')∧isW s∧isW (v64 (hi+c'))∧s+18446744073709551616*(v64 (hi+c'))=x*y+c:=by
 have h:=mul64 (N:=N) hx hy
 obtain ⟨s,c',e,k,l,m,n⟩:=Zqk (N:=N) (x:=x*y%18446744073709551616) (y:=c) (c:=0) (by unfold isW;omega) hc (by omega)
 refine ⟨_,_,s,c',h,e,k,?_⟩
 have:0≤x*y∧x*y≤340282366920938463426481119284349108225:=by
  unfold isW at hx hy
  refine ⟨xQ hx.1 hy.1,?_⟩
  have:=uX (show x≤18446744073709551615 by omega) (show y≤18446744073709551615 by omega) hy.1 (by omega)
  omega
 unfold isW at *
 generalize x*y=P at *
 rw [Zco (by omega) (by omega)]
 omega
theorem Zjv (hN:10≤N) {m y:Int} (hm:isN m) (hy:isW y) :
  Zbt N (nw m) y=some (nw (m*y%2^256),decide (2^256≤m*y)):=by
 obtain ⟨a,b,c,d,ha,hb,hc,hd,rfl⟩:=ZcO hm
 rw [Zdh ha hb hc hd]
 obtain ⟨N,rfl⟩ : ∃q,N=q+5:=⟨N-5,by omega⟩
 obtain ⟨x0,l0,s0,c0,e0,f0,g0,h0,i0⟩:=mulc (N:=N+5) ha hy isW0
 obtain ⟨x1,l1,s1,c1,e1,f1,g1,h1,i1⟩:=mulc (N:=N+5) hb hy h0
 obtain ⟨x2,l2,s2,c2,e2,f2,g2,h2,i2⟩:=mulc (N:=N+5) hc hy h1
 obtain ⟨x3,l3,s3,c3,e3,f3,g3,h3,i3⟩:=mulc (N:=N+5) hd hy h2
 unfold Zbt
 have t : ∀(G:Int×Int×List Int→Option (List Int×Bool)) (j:Nat) (l:List Int) (c hi lo s c':Int),j<4→ZbT (N+5) (l.getD j 0) y=some (hi,lo)→ZcS (N+5) lo c 0=some (s,c') →
   Zbt.p1 (N+5) y G (c,(j:Int),l)=G (v64 (hi+c'),(j:Int)+1,l.set j s):=fun G j l c hi lo s c' hj h h'=>by
  unfold Zbt.p1
  dsimp only
  rw [if_pos (by simp;omega),Zal (by omega),zI,h,Zab]
  dsimp only
  rw [h',Zab,ZaJ (by omega) (by omega)]
 have u : ∀(G:Int×Int×List Int→Option (List Int×Bool)) (l:List Int) (c:Int),Zbt.p1 (N+5) y G (c,4,l)=some (l,c != 0):=fun G l c=>by
  unfold Zbt.p1
  dsimp only
  rw [if_neg (by simp)]
 rw [Zar]
 refine Eq.trans (t _ 0 [a,b,c,d] 0 x0 l0 s0 c0 (by omega) e0 f0) ?_
 rw [Zar]
 refine Eq.trans (t _ 1 [s0,b,c,d] _ x1 l1 s1 c1 (by omega) e1 f1) ?_
 rw [Zar]
 refine Eq.trans (t _ 2 [s0,s1,c,d] _ x2 l2 s2 c2 (by omega) e2 f2) ?_
 rw [Zar]
 refine Eq.trans (t _ 3 [s0,s1,s2,d] _ x3 l3 s3 c3 (by omega) e3 f3) ?_
 rw [Zar]
 refine Eq.trans (u _ [s0,s1,s2,s3] _) ?_
 rw [←Zdh g0 g1 g2 g3]
 have ex:vw a b c d*y=a*y+18446744073709551616*(b*y)+2^128*(c*y)+2^192*(d*y):=by
  unfold vw
  rw [yL,yL,yL,zZ,zZ,zZ]
 have key:vw a b c d*y=vw s0 s1 s2 s3+2^256*(v64 (x3+c3)):=by rw [ex];unfold vw;omega
 have r:=ZiC g0 g1 g2 g3
 unfold isN at r
 unfold isW at h3
 have e5:(vw a b c d*y)%2^256=vw s0 s1 s2 s3:=by omega
 rw [e5]
 have e6:(v64 (x3+c3) != 0)=decide (2^256≤vw a b c d*y):=by
  rw [xX];simp only [bne_iff_ne,ne_eq,decide_eq_true_eq];omega
 rw [e6]
end Go.Dn.F
set_option maxRecDepth 40000
namespace Go.Dn.F
open Go.Dn
variable {N:Nat}
def Zfz (x:Int):Nat:=if x.toNat=0 then 0 else rU x.toNat+1
theorem ZgR {x:Int} {k:Nat} (h:x<2^k):Zfz x≤k:=by
 unfold Zfz
 split
 ·omega
 ·rename_i h0
  have:x.toNat<2^k:=by
   have:((2^k:Nat):Int)=(2:Int)^k:=by push_cast;rfl
   omega
  have:=(Nat.log2_lt h0).2 this
  omega
theorem blen_gt {x:Int} {k:Nat} (h:2^k≤x):k<Zfz x:=by
 unfold Zfz
 have c:((2^k:Nat):Int)=(2:Int)^k:=by push_cast;rfl
 have p:=Nat.two_pow_pos k
 have:2^k≤x.toNat:=by omega
 rw [if_neg (by omega)]
 have:=(Nat.le_log2 (by omega)).2 this
 omega
theorem blen_eq {x:Int} {k:Nat} (h:2^k≤x) (h2:x<2^(k+1)):Zfz x=k+1:=by
 have:=ZgR h2
 have:=blen_gt h
 omega
theorem ZkO {x:Int} (h:0≤x):x<2^Zfz x:=by
 unfold Zfz
 split
 ·have:x=0:=by omega
  subst this;decide
 ·rename_i h0
  have:=@Nat.lt_log2_self x.toNat
  have c:((2^(rU x.toNat+1):Nat):Int)=(2:Int)^(rU x.toNat+1):=by push_cast;rfl
  omega
theorem Zqa {x:Int} (h:0<x):2^(Zfz x-1)≤x∧0<Zfz x:=by
 unfold Zfz
 rw [if_neg (by omega)]
 have:=Nat.log2_self_le (n:=x.toNat) (by omega)
 have c:((2^(rU x.toNat):Nat):Int)=(2:Int)^(rU x.toNat):=by push_cast;rfl
 rw [Nat.add_sub_cancel]
 omega
theorem ZeL {x:Int} (k:Nat) (h:0≤x) (h2:2^k≤x):Zfz x=k+Zfz (x/2^k):=by
 have p:=ZbO k
 have q:0<x/2^k:=uO (by omega) ((Int.le_ediv_iff_mul_le p).2 (by omega:(1:Int)*2^k≤x))
 have a:=ZkO (x:=x/2^k) (by omega)
 obtain ⟨b,b0⟩:=Zqa q
 have e:=yS x (2^k)
 have r0:=wI x (b:=2^k) (by omega)
 have r1:=wJ x p
 obtain ⟨j,hj⟩ : ∃j,Zfz (x/2^k)=j+1:=⟨Zfz (x/2^k)-1,by omega⟩
 rw [hj] at a b ⊢
 rw [Nat.add_sub_cancel] at b
 refine blen_eq (k:=k+j) ?_ ?_
 ·rw [xB]
  have:=wR b (show (0:Int)≤2^k by omega)
  rw [yT (2^k) (x/2^k)] at this
  omega
 ·rw [show k+j+1=k+(j+1) by omega,xB]
  have:=wR (show x/2^k+1≤2^(j+1) by omega) (show (0:Int)≤2^k by omega)
  rw [rC,yT (2^k) (x/2^k),rD] at this
  omega
def tab8:List UInt8:=(List.range 256).map fun i:Nat=>UInt8.ofNat (Zfz (i:Int))
theorem Znk (x:Int) (hx:0≤x∧x<256) (n:Int) (hn:0≤n∧n<1000):Zap.p3 N x n=some (n+Zfz x):=by
 unfold Zap.p3
 rw [v8_id hx.1 hx.2,Zal hx.1]
 rw [Zal (by
  refine uO hx.2 ?_
  decide +kernel)]
 have tb : ∀i:Fin 256,(UInt8.toNat (zF tab8 i.val 0):Nat)=Zfz (i.val:Int):=by decide +kernel
 have:=tb ⟨x.toNat,by omega⟩
 rw [show ((x.toNat:Nat):Int)=x by omega] at this
 have te:(UInt8.toNat (zF tab8 (zD x) 0))=Zfz x:=this
 have hb:Zfz x≤8:=ZgR (k:=8) (by omega)
 rw [show ∀(l:List UInt8),l=tab8→(UInt8.toNat (zF l (zD x) 0))=Zfz x from fun l e=>by rw [e];exact te]
 ·rw [ZaJ (n:=(Zfz x:Int)) (by omega) (by omega),ZaJ (by omega) (by omega)]
 ·decide +kernel
theorem len64 {x:Int} (hx:isW x):Zap N x=some (Zfz x:Int):=by
 have sh : ∀y:Int,ZaQ .u64 y 16=y/65536:=fun y=>Zkd y (k:=16) (by omega)
 have sh8 : ∀y:Int,ZaQ .u64 y 8=y/256:=fun y=>Zkd y (k:=8) (by omega)
 unfold isW at hx
 have p2 : ∀(y n:Int),0≤y∧y<65536→0≤n∧n<900→Zap.p2 N y n=some (n+Zfz y):=fun y n hy hn=>by
  unfold Zap.p2
  by_cases h:256≤y
  ·rw [if_pos (by simpa using h),sh8,ZaJ (by omega) (by omega),Znk _ (by omega) _ (by omega),ZeL (x:=y) 8 (by omega) (by omega),show (2:Int)^8=256 from rfl]
   congr 1;omega
  ·rw [if_neg (by simpa using h),Znk _ (by omega) _ (by omega)]
 have p1 : ∀(y n:Int),0≤y∧y<4294967296→0≤n∧n<800→Zap.p1 N y n=some (n+Zfz y):=fun y n hy hn=>by
  unfold Zap.p1
  by_cases h:65536≤y
  ·rw [if_pos (by simpa using h),sh,ZaJ (by omega) (by omega),p2 _ _ (by omega) (by omega),ZeL (x:=y) 16 (by omega) (by omega),show (2:Int)^16=65536 from rfl]
   congr 1;omega
  ·rw [if_neg (by simpa using h),p2 _ _ (by omega) (by omega)]
 unfold Zap
 by_cases h:4294967296≤x
 ·rw [if_pos (by simpa using h),Zlj,p1 _ _ (by omega) (by omega),ZeL (x:=x) 32 (by omega) (by omega),show (2:Int)^32=4294967296 from rfl]
  congr 1
 ·rw [if_neg (by simpa using h),p1 _ _ (by omega) (by omega),rV]
theorem Zib (hN:10≤N) {m:Int} (hm:isN m):ZbJ N (nw m)=some (Zfz m:Int):=by
 obtain ⟨a,b,c,d,ha,hb,hc,hd,rfl⟩:=ZcO hm
 rw [Zdh ha hb hc hd]
 obtain ⟨N,rfl⟩ : ∃q,N=q+5:=⟨N-5,by omega⟩
 have bl : ∀{x:Int},isW x→Zfz x≤64:=fun h=>ZgR (by unfold isW at h;exact h.2)
 unfold ZbJ
 have t : ∀(G:Int→Option Int) (j:Nat) (x:Int),j<4→[a,b,c,d].getD j 0=x→isW x→ZbJ.p1 (N+5) [a,b,c,d] G (j:Int)=if x≠0 then some ((64*j+Zfz x:Nat):Int) else G ((j:Int)-1):=fun G j x hj h hx=>by
  have:=bl hx
  unfold ZbJ.p1
  rw [if_pos (by simp),Zal (by omega),Zal (by omega),zI,h,len64 hx,Zab,ZaJ (n:=64*(j:Int)) (by omega) (by omega),ZaJ (by omega) (by omega),ZaJ (by omega) (by omega)]
  simp only [bne_iff_ne]
  push_cast
  rfl
 have u : ∀G:Int→Option Int,ZbJ.p1 (N+5) [a,b,c,d] G (-1)=some 0:=fun G=>by
  unfold ZbJ.p1
  rw [if_neg (by simp)]
 rw [Zar]
 refine Eq.trans (t _ 3 d (by omega) rfl hd) ?_
 have ha':=ha;have hb':=hb;have hc':=hc;have hd':=hd
 unfold isW at ha' hb' hc' hd'
 by_cases h3:d=0
 ·rw [if_neg (by simpa using h3),Zar]
  refine Eq.trans (t _ 2 c (by omega) rfl hc) ?_
  by_cases h2:c=0
  ·rw [if_neg (by simpa using h2),Zar]
   refine Eq.trans (t _ 1 b (by omega) rfl hb) ?_
   by_cases h1:b=0
   ·rw [if_neg (by simpa using h1),Zar]
    refine Eq.trans (t _ 0 a (by omega) rfl ha) ?_
    have:vw a b c d=a:=by unfold vw;omega
    rw [this]
    by_cases h0:a=0
    ·rw [if_neg (by simpa using h0),Zar]
     refine Eq.trans (u _) ?_
     rw [h0];rfl
    ·rw [if_pos h0];congr 2;omega
   ·rw [if_pos h1]
    have e:vw a b c d/2^64=b:=by rw [show (2:Int)^64=18446744073709551616 from rfl];unfold vw;omega
    rw [ZeL (x:=vw a b c d) 64 (by unfold vw;omega) (by rw [show (2:Int)^64=18446744073709551616 from rfl];unfold vw;omega),e]
  ·rw [if_pos h2]
   have e:vw a b c d/2^128=c:=by rw [show (2:Int)^128=2^128 from rfl];unfold vw;omega
   rw [ZeL (x:=vw a b c d) 128 (by unfold vw;omega) (by rw [show (2:Int)^128=2^128 from rfl];unfold vw;omega),e]
 ·rw [if_pos h3]
  have e:vw a b c d/2^192=d:=by rw [show (2:Int)^192=2^192 from rfl];unfold vw;omega
  rw [ZeL (x:=vw a b c d) 192 (by unfold vw;omega) (by rw [show (2:Int)^192=2^192 from rfl];unfold vw;omega),e]
theorem ZeO {a b:Int} (h:0≤a):zU a b=a/b:=uH h
theorem ZgH {a b:Int} (h:0≤a):yH a b=a%b:=wH h
theorem div_two {M y T V q1 q0 R R2 un1 un0 un32:Int} (hT:0<T) (hy:y*T=V*4294967296) (hM:M*T=un32*18446744073709551616+un1*4294967296+un0)
  (h1:un32=q1*V+R) (h2:R*4294967296+un1=q0*V+R2) (hR2:0≤R2∧R2<V) (h0:0≤un0∧un0<4294967296) (hy0:0<y) :
  (q1*4294967296+q0)=M/y∧(R2*4294967296+un0)/T=M%y:=by
 have k:M*T=(q1*4294967296+q0)*y*T+(R2*4294967296+un0):=by
  have e1:(q1*4294967296+q0)*y*T=(q1*V)*18446744073709551616+(q0*V)*4294967296:=by
   rw [zZ,hy,yL,←zZ q0,zZ q1,vQ 4294967296 V,←zZ q1 V];omega
  rw [e1,hM,h1]
  rw [yL]
  omega
 have e:(M-(q1*4294967296+q0)*y)*T=R2*4294967296+un0:=by rw [Int.sub_mul];omega
 have lt:(M-(q1*4294967296+q0)*y)*T<y*T:=by rw [e,hy];omega
 have lt':=Int.lt_of_mul_lt_mul_right lt (vO hT)
 have ge:0*T≤(M-(q1*4294967296+q0)*y)*T:=by rw [e];omega
 have ge':=Int.le_of_mul_le_mul_right ge hT
 have d:=(tN hy0 (a:=M) (b:=y) (q:=q1*4294967296+q0) (r:=M-(q1*4294967296+q0)*y)).2 ⟨by rw [yT y];omega,ge',lt'⟩
 refine ⟨d.1.symm,?_⟩
 rw [←e,Int.mul_ediv_cancel _ (by omega),d.2]
theorem div64 (hN:10≤N) {hi lo y:Int} (hy0:0<y) (hy:y<4294967296) (h0:0≤hi) (h1:hi<y) (hl:isW lo) :
  Zaf N hi lo y=some ((hi*18446744073709551616+lo)/y,(hi*18446744073709551616+lo)%y):=by
 have hl':=hl
 unfold isW at hl'
 unfold Zaf
 rw [if_neg (by simp;omega),if_neg (by simp;omega)]
 by_cases hz:hi=0
 ·subst hz
  rw [if_pos (by rfl),Zal (by omega),ZeO hl'.1,ZgH hl'.1,Int.zero_mul,rV]
  have:lo/y≤lo:=vW _ hl'.1
  have:0≤lo/y:=xE hl'.1 (by omega)
  rw [Zco (by omega) (by omega)]
 rw [if_neg (by simpa using hz)]
 have by1:=ZgR (x:=y) (k:=32) (by rw [show (2:Int)^32=4294967296 from rfl];omega)
 obtain ⟨by2,by3⟩:=Zqa hy0
 have by4:=ZkO (x:=y) (by omega)
 obtain ⟨s,hs,hs1,hs2⟩ : ∃s:Nat,64-s=Zfz y∧32≤s∧s<64:=⟨64-Zfz y,by omega,by omega,by omega⟩
 have lz:Zbk N y=some (s:Int):=by
  unfold Zbk
  rw [len64 (by unfold isW;omega),Zab,ZaJ (by omega) (by omega),←hs]
  congr 1;omega
 rw [lz,Zab]
 have vs:v64 (s:Int)=(s:Int):=Zco (by omega) (by omega)
 have vs':v64 (64-(s:Int))=((64-s:Nat):Int):=by rw [Zco (by omega) (by omega)];omega
 have pT:=ZbO s
 have split:=ZdW (k:=s) (by omega)
 have t32:(2:Int)^s=2^(s-32)*4294967296:=by rw [show (4294967296:Int)=2^32 from rfl,←xB,show s-32+32=s by omega]
 rw [hs] at split
 have Ylt:y*2^s<18446744073709551616:=by
  have:=uE by4 pT
  rw [yT (2^Zfz y),split] at this
  exact this
 have Yge:0<y*2^s:=Int.mul_pos hy0 pT
 have eY:Zbd .u64 y (v64 (s:Int))=y*2^s:=by rw [vs,ZoI y (by omega)];omega
 have yV:y*2^s=y*2^(s-32)*4294967296:=by rw [t32,zZ]
 obtain ⟨A,h,a1,a2,a3,a4,a5,a6,a7,a8⟩:=ZcE hl (k:=s) (by omega)
 have hiA:Zbd .u64 hi (v64 (s:Int))=hi*2^s:=by
  rw [vs,ZoI hi (by omega)]
  have:=uE h1 pT
  have:0≤hi*2^s:=xQ h0 (by omega)
  omega
 have hi1:(hi+1)*2^s≤y*2^s:=wK (by omega) (by omega)
 rw [yL,uG] at hi1
 have hi0:0≤hi*2^s:=xQ h0 (by omega)
 have eU:Zaz .or .u64 (Zbd .u64 hi (v64 (s:Int))) (ZaQ .u64 lo (v64 (64-v64 (s:Int))))=hi*2^s+h:=by
  rw [hiA,vs,vs',a2]
  exact ZgD (k:=s) (by omega) hi0 (by omega) (vP _ _) a5 a6
 have eL:Zbd .u64 lo (v64 (s:Int))=A:=by rw [vs];exact a1
 have hM:(hi*18446744073709551616+lo)*2^s=(hi*2^s+h)*18446744073709551616+A/4294967296*4294967296+A%4294967296:=by
  rw [yL,a7,zZ,yT 18446744073709551616,←zZ,yL];omega
 have pV:0<y*2^(s-32):=Int.mul_pos hy0 (ZbO _)
 generalize hV:y*2^(s-32)=V at *
 generalize hUU:hi*2^s+h=U at *
 generalize hTT:(2:Int)^s=T at *
 have eV:ZaQ .u64 (y*T) 32=V:=by rw [Zlj];omega
 have eZ:Zaz .and .u64 (y*T) 4294967295=0:=by rw [Zqi (by unfold isW;omega)];omega
 have eA1:ZaQ .u64 A 32=A/4294967296:=Zlj A
 have eA0:Zaz .and .u64 A 4294967295=A%4294967296:=Zqi (by unfold isW;omega)
 have U0:0≤U∧U<V*4294967296:=by omega
 have dU:=yS U V
 have rU0:=wI U (b:=V) (by omega)
 have rU1:=wJ U pV
 have qU0:0≤U/V:=xE U0.1 (by omega)
 have qU1:U/V<4294967296:=wB pV (by rw [yT];exact U0.2)
 generalize hq1:U/V=q1 at *
 generalize hR:U%V=R at *
 have mq1:0≤q1*V:=xQ qU0 (by omega)
 have B0:0≤R*4294967296+A/4294967296∧R*4294967296+A/4294967296<V*4294967296:=by omega
 generalize hB:R*4294967296+A/4294967296=B at *
 have dB:=yS B V
 have rB0:=wI B (b:=V) (by omega)
 have rB1:=wJ B pV
 have qB0:0≤B/V:=xE B0.1 (by omega)
 have qB1:B/V<4294967296:=wB pV (by rw [yT];exact B0.2)
 generalize hq0:B/V=q0 at *
 generalize hR2:B%V=R2 at *
 have mq0:0≤q0*V:=xQ qB0 (by omega)
 obtain ⟨f1,f2⟩:=div_two (M:=hi*18446744073709551616+lo) (y:=y) (T:=T) (V:=V) (q1:=q1) (q0:=q0) (R:=R) (R2:=R2) (un1:=A/4294967296) (un0:=A%4294967296) (un32:=U) pT (by omega) hM dU.symm (by rw [hB];exact dB.symm) ⟨rB0,rB1⟩ (by omega) hy0
 have yq1:q1*(y*T)=(q1*V)*4294967296:=by rw [yV,←zZ]
 have yq0:q0*(y*T)=(q0*V)*4294967296:=by rw [yV,←zZ]
 obtain ⟨N,rfl⟩ : ∃q,N=q+1:=⟨N-1,by omega⟩
 have vB:v64 (v64 (v64 (U*4294967296)+A/4294967296)-v64 (q1*(y*T)))=B:=by
  rw [yq1,Zet,Zet,Zet,Zet];omega
 have vE:v64 (v64 (v64 (B*4294967296)+A%4294967296)-v64 (q0*(y*T)))=R2*4294967296+A%4294967296:=by
  rw [yq0,Zet,Zet,Zet,Zet];omega
 have s1 : ∀G,Zaf.p1 (N+1) y (s:Int) hi lo G (q1,R)=Zaf.p3 (N+1) y (s:Int) hi lo q1:=fun G=>by
  unfold Zaf.p1
  dsimp only
  rw [eY,eL,eZ,eA1,if_neg (by simp;omega),Int.mul_zero,Zco (n:=0) (by omega) (by omega),if_neg (by
   simp only [decide_eq_true_eq,gt_iff_lt,Int.not_lt]
   rw [Zet];omega)]
 have s4 : ∀G,Zaf.p4 (N+1) y (s:Int) lo q1 hi G (R2,q0)=Zaf.p6 (N+1) y (s:Int) lo q1 hi q0:=fun G=>by
  unfold Zaf.p4
  dsimp only
  rw [eY,eL,eZ,eA0,if_neg (by simp;omega),Int.mul_zero,Zco (n:=0) (by omega) (by omega),if_neg (by
   simp only [decide_eq_true_eq,gt_iff_lt,Int.not_lt]
   rw [Zet];omega)]
 rw [Zal (by rw [vs];omega),Zal (by rw [vs,vs'];omega),eY,eV,Zal (by omega),eU,ZeO U0.1,hq1,Zco (n:=q1) (by omega) (by omega),Zco (n:=q1*V) (by omega) (by omega),show U-q1*V=R by omega,Zco (n:=R) (by omega) (by omega),Zar,s1]
 unfold Zaf.p3
 rw [eY,eL,eV,eU,eA1,Zal (by omega),vB,ZeO B0.1,hq0,Zco (n:=q0) (by omega) (by omega),Zco (n:=q0*V) (by omega) (by omega),show B-q0*V=R2 by omega,Zco (n:=R2) (by omega) (by omega),Zar,s4]
 unfold Zaf.p6
 rw [Zal (by rw [vs];omega),eY,eL,eU,eA1,eA0,vB,vE,vs,Zkd _ (k:=s) (by omega),hTT,f2,Zco (n:=q1*4294967296) (by omega) (by omega),Zco (n:=q1*4294967296+q0) (by omega) (by omega),f1]
theorem Zka (hN:10≤N) {m y:Int} (hm:isN m) (hy0:0<y) (hy:y<4294967296):ZbE N (nw m) y=some (nw (m/y),m%y):=by
 obtain ⟨a,b,c,d,ha,hb,hc,hd,rfl⟩:=ZcO hm
 rw [Zdh ha hb hc hd]
 obtain ⟨N,rfl⟩ : ∃q,N=q+5:=⟨N-5,by omega⟩
 unfold ZbE
 rw [if_neg (by simp;omega)]
 have t : ∀(G:Int×Int×List Int→Option (List Int×Int)) (j:Nat) (l:List Int) (x r q r':Int),j<4→l.getD j 0=x→isW x→0≤r→r<y→(r*18446744073709551616+x)/y=q→(r*18446744073709551616+x)%y=r' →
   ZbE.p1 (N+5) y G (r,(j:Int),l)=G (r',(j:Int)-1,l.set j q):=fun G j l x r q r' hj hx hw h0 h1 hq hr=>by
  unfold ZbE.p1
  dsimp only
  rw [if_pos (by simp),Zal (by omega),Zal (by omega),zI,hx,div64 (by omega) hy0 hy h0 h1 hw,Zab,hq,hr,ZaJ (by omega) (by omega)]
 have u : ∀(G:Int×Int×List Int→Option (List Int×Int)) (l:List Int) (r:Int),ZbE.p1 (N+5) y G (r,-1,l)=some (l,r):=fun G l r=>by
  unfold ZbE.p1
  dsimp only
  rw [if_neg (by simp)]
 have step : ∀{r x:Int},0≤r→r<y→isW x→∃q r',(r*18446744073709551616+x)/y=q∧(r*18446744073709551616+x)%y=r'∧isW q∧0≤r'∧r'<y∧r*18446744073709551616+x=q*y+r':=fun {r x} h0 h1 hx=>by
  unfold isW at hx
  have e:=yS (r*18446744073709551616+x) y
  refine ⟨_,_,rfl,rfl,⟨xE (by omega) (by omega),wB hy0 ?_⟩,wI _ (by omega),wJ _ hy0,e.symm⟩
  omega
 obtain ⟨q3,r3,a3,b3,c3,d3,e3,f3⟩:=step (r:=0) (x:=d) (by omega) hy0 hd
 obtain ⟨q2,r2,a2,b2,c2,d2,e2,f2⟩:=step d3 e3 hc
 obtain ⟨q1,r1,a1,b1,c1,d1,e1,f1⟩:=step d2 e2 hb
 obtain ⟨q0,r0,a0,b0,c0,d0,e0,f0⟩:=step d1 e1 ha
 rw [Zar]
 refine Eq.trans (t _ 3 [a,b,c,d] d 0 q3 r3 (by omega) rfl hd (by omega) hy0 a3 b3) ?_
 rw [Zar]
 refine Eq.trans (t _ 2 [a,b,c,q3] c r3 q2 r2 (by omega) rfl hc d3 e3 a2 b2) ?_
 rw [Zar]
 refine Eq.trans (t _ 1 [a,b,q2,q3] b r2 q1 r1 (by omega) rfl hb d2 e2 a1 b1) ?_
 rw [Zar]
 refine Eq.trans (t _ 0 [a,q1,q2,q3] a r1 q0 r0 (by omega) rfl ha d1 e1 a0 b0) ?_
 rw [Zar]
 refine Eq.trans (u _ [q0,q1,q2,q3] r0) ?_
 have key:vw a b c d=vw q0 q1 q2 q3*y+r0:=by
  have:vw q0 q1 q2 q3*y=q0*y+18446744073709551616*(q1*y)+2^128*(q2*y)+2^192*(q3*y):=by
   unfold vw
   rw [yL,yL,yL,zZ,zZ,zZ]
  rw [this];unfold vw;omega
 have d:=(tN hy0 (a:=vw a b c d) (q:=vw q0 q1 q2 q3) (r:=r0)).2 ⟨by rw [yT y];omega,d0,e0⟩
 rw [d.1,d.2,Zdh c0 c1 c2 c3]
def isU (x:Int):Prop:=0≤x∧x<9223372036854775808
theorem of_i (x:Int) (h:isU x):(BitVec.ofInt 64 x).toNat=x.toNat:=by
 unfold isU at h
 rw [BitVec.toNat_ofInt];omega
theorem wrapi (n:Nat) (h:n<9223372036854775808):IntKind.wrap .i64 (n:Int)=n:=ZaJ (by omega) (by omega)
theorem and_i {x y:Int} (hx:isU x) (hy:isU y):Zaz .and .i64 x y=((x.toNat &&& y.toNat:Nat):Int):=by
 show IntKind.wrap .i64 (((BitVec.ofInt 64 x &&& BitVec.ofInt 64 y).toNat:Nat):Int)=_
 have:x.toNat &&& y.toNat≤x.toNat:=Nat.and_le_left
 unfold isU at *
 rw [BitVec.toNat_and,of_i x hx,of_i y hy,wrapi _ (by omega)]
theorem or_i {x y:Int} (hx:isU x) (hy:isU y):Zaz .or .i64 x y=((x.toNat ||| y.toNat:Nat):Int):=by
 show IntKind.wrap .i64 (((BitVec.ofInt 64 x ||| BitVec.ofInt 64 y).toNat:Nat):Int)=_
 have:x.toNat ||| y.toNat<2^63:=Nat.or_lt_two_pow (by unfold isU at hx;omega) (by unfold isU at hy;omega)
 rw [BitVec.toNat_or,of_i x hx,of_i y hy,wrapi _ (by omega)]
theorem and_pow2 (x i:Nat):x &&& 2^i=if x.testBit i then 2^i else 0:=by
 apply Nat.eq_of_testBit_eq
 intro j
 rw [Nat.testBit_and,vR]
 by_cases h:i=j
 ·subst h
  cases hx:x.testBit i<;>simp [vR]
 ·cases hx:x.testBit i<;>simp [vR,h]
theorem and_word {b:Int} (h:isU b):Zaz .and .i64 b 8388607=b%8388608:=by
 rw [and_i h (by unfold isU;omega),show (8388607:Int).toNat=2^23-1 from rfl,tE]
 unfold isU at h
 omega
theorem ZnC {b:Int} (h:isU b):(Zaz .and .i64 b 8388608 != 0)=decide (b/8388608%2=1):=by
 rw [and_i h (by unfold isU;omega),show (8388608:Int).toNat=2^23 from rfl,and_pow2]
 have t:b.toNat.testBit 23=decide (b/8388608%2=1):=by
  rw [Nat.testBit_eq_decide_div_mod_eq]
  unfold isU at h
  rw [decide_eq_decide];omega
 rw [t]
 by_cases k:b/8388608%2=1
 ·simp [k]
 ·simp [k]
theorem ZmX {b:Int}:ZaQ .i64 b 24=b/16777216:=Zmr b 24 (by omega)
def Zex (b:Int):Int:=b%8388608
def Zdw (b:Int):Nat:=(b/16777216).toNat
def cN (b:Int):Int:=if Zdw b≤3 then Zex b/2^(8*(3-Zdw b)) else Zex b*2^(8*(Zdw b-3))%2^256
def cNeg (b:Int):Bool:=decide (Zex b≠0∧b/8388608%2=1)
def ZpV (b:Int):Bool:=decide (Zex b≠0∧(34<Zdw b∨255<Zex b∧33<Zdw b∨65535<Zex b∧32<Zdw b))
def ZmJ (b:Int):Bool:=decide (0≤b∧b<4294967296)
def Zff (b:Int):Int×Bool×Bool:=if ZmJ b then (cN b,cNeg b,ZpV b) else (0,false,false)
theorem cN_isN {b:Int} (h:ZmJ b=true):isN (cN b):=by
 simp only [ZmJ,decide_eq_true_eq] at h
 unfold cN isN
 have w:0≤Zex b∧Zex b<8388608:=by unfold Zex;omega
 split
 ·have p:=ZbO (8*(3-Zdw b))
  have:Zex b/2^(8*(3-Zdw b))≤Zex b:=vW _ w.1
  have:0≤Zex b/2^(8*(3-Zdw b)):=xE w.1 (by omega)
  omega
 ·omega
theorem Zeo (b:Int):isN (Zff b).1:=by
 unfold Zff
 split
 ·rename_i h;exact cN_isN h
 ·unfold isN;dsimp only;omega
theorem Zem (hN:10≤N) (b:Int):Zax N b=some (nw (Zff b).1,(Zff b).2.1,(Zff b).2.2):=by
 unfold Zax
 rw [Zgk,Zab]
 cases hg:ZmJ b with
 | false=>
  have:decide (0≤b∧b<4294967296)=false:=hg
  rw [this,if_pos (by rfl)]
  unfold Zff;rw [hg,ZdV];rfl
 | true=>
  have hg':decide (0≤b∧b<4294967296)=true:=hg
  rw [hg',if_neg (by simp)]
  simp only [decide_eq_true_eq] at hg'
  have hu:isU b:=by unfold isU;omega
  have w:0≤Zex b∧Zex b<8388608:=by unfold Zex;omega
  have s:b/16777216=(Zdw b:Int):=by unfold Zdw;omega
  have s2:Zdw b<256:=by unfold Zdw;omega
  have e:Zaz .and .i64 b 8388607=Zex b:=and_word hu
  have wN:isN (Zex b):=by unfold isN;omega
  have p2 : ∀(neg:Bool) (l:List Int),Zax.p2 N b neg l=some (l,neg,ZpV b):=fun neg l=>by
   unfold Zax.p2
   rw [e,ZmX,s]
   simp only [bne_iff_ne,ne_eq,decide_eq_true_eq,gt_iff_lt]
   unfold ZpV
   repeat' split
   all_goals (congr 2;congr 1;rw [xX];simp only [decide_eq_true_eq,iff_true,true_iff,yD,false_iff,ne_eq];omega)
  have p1 : ∀l:List Int,Zax.p1 N b l=some (l,cNeg b,ZpV b):=fun l=>by
   unfold Zax.p1
   rw [e,ZnC hu,p2,p2]
   unfold cNeg
   by_cases h0:Zex b=0
   ·rw [if_neg (by simp [h0])];simp [h0]
   ·rw [if_pos (by simp [h0])];simp [h0]
  rw [e,Zco w.1 (by omega),ZeN (by unfold isW;omega),Zab,ZmX,s]
  unfold Zff
  rw [hg,if_pos rfl]
  dsimp only
  unfold cN
  by_cases h3:Zdw b≤3
  ·rw [if_pos (by simp;omega),if_pos h3,show (3:Int)-(Zdw b:Int)=((3-Zdw b:Nat):Int) by omega,ZaJ (n:=((3-Zdw b:Nat):Int)) (by omega) (by omega),show (8:Int)*((3-Zdw b:Nat):Int)=((8*(3-Zdw b):Nat):Int) by omega,ZaJ (by omega) (by omega),ZgV hN wN _ (by omega),Zab,p1]
  ·rw [if_neg (by simp;omega),if_neg h3,show (Zdw b:Int)-3=((Zdw b-3:Nat):Int) by omega,ZaJ (n:=((Zdw b-3:Nat):Int)) (by omega) (by omega),show (8:Int)*((Zdw b-3:Nat):Int)=((8*(Zdw b-3):Nat):Int) by omega,ZaJ (by omega) (by omega),ZgF hN wN _ (by omega),Zab,p1]
def tgt (b l:Int):Int×Bool:=
 if (Zff b).2.1||(Zff b).2.2||(Zff l).2.1||(Zff l).2.2||decide ((Zff b).1=0)||decide ((Zff l).1<(Zff b).1) then (0,false) else ((Zff b).1,true)
theorem Zmk (b l:Int):isN (tgt b l).1:=by
 unfold tgt
 split
 ·unfold isN;dsimp only;omega
 ·exact Zeo b
theorem ZdN (hN:10≤N) (b l:Int):ZbG N b l=some (nw (tgt b l).1,(tgt b l).2):=by
 unfold ZbG
 rw [Zem hN,Zab]
 dsimp only
 rw [Zem hN,Zab]
 dsimp only
 unfold tgt
 have z:=Zea (N:=N) (Zeo b)
 have le:=ZeA hN (Zeo l) (Zeo b)
 rw [z,Zab,le,Zab,ZdV]
 cases (Zff b).2.1<;>cases (Zff b).2.2<;>cases (Zff l).2.1<;>cases (Zff l).2.2<;>cases (decide ((Zff b).1=0))<;>cases (decide ((Zff l).1<(Zff b).1))<;>rfl
theorem Zga {a b:Nat} (h:a≤b):(2:Int)^a≤2^b:=by
 have e:(2:Int)^b=2^a*2^(b-a):=by rw [←xB,show a+(b-a)=b by omega]
 have p:=ZbO a
 have q:=ZbO (b-a)
 have:=wR (show (1:Int)≤2^(b-a) by omega) (show (0:Int)≤2^a by omega)
 rw [rD] at this
 rw [e];exact this
def hv:List Int→Int
 | []=>0
 | x::l=>x+256*hv l
def bys (l:List Int):Prop:=∀x∈l,0≤x∧x<256
theorem Zpw : ∀(l:List Int) (x:Int),hv (l ++ [x])=hv l+x*2^(8*l.length)
 | [],x=>by simp [hv]
 | y::l,x=>by
  rw [List.cons_append,hv,Zpw l x,hv,List.length_cons,rC,show (2:Int)^(8*(l.length+1))=256*2^(8*l.length) by rw [show 8*(l.length+1)=8+8*l.length by omega,xB];rfl,vQ x 256];omega
theorem Zkx : ∀{l:List Int},bys l→0≤hv l∧hv l<2^(8*l.length)
 | [],_=>by simp [hv]
 | y::l,h=>by
  have ih:=Zkx (l:=l) fun x hx=>h x (List.mem_cons_of_mem _ hx)
  have:=h y (by simp)
  rw [hv,List.length_cons,show (2:Int)^(8*(l.length+1))=256*2^(8*l.length) by rw [show 8*(l.length+1)=8+8*l.length by omega,xB];rfl]
  omega
def pw (j:Nat):Int:=2^(64*j)
theorem Zpb {m X:Int} {j:Nat} (hm:isN m) (hj:j<4) (hX:0≤X) (h:(nw m).getD j 0+X<18446744073709551616):(nw m).set j ((nw m).getD j 0+X)=nw (m+X*2^(64*j))∧isN (m+X*2^(64*j)):=by
 obtain ⟨a,b,c,d,ha,hb,hc,hd,rfl⟩:=ZcO hm
 rw [Zdh ha hb hc hd] at h ⊢
 have cases4:j=0∨j=1∨j=2∨j=3:=by omega
 rcases cases4 with rfl | rfl | rfl | rfl
 ·have h':a+X<18446744073709551616:=h
  have e:vw a b c d+X*2^(64*0)=vw (a+X) b c d:=by rw [show (2:Int)^(64*0)=1 from rfl];unfold vw;omega
  have w:isW (a+X):=by unfold isW at *;omega
  rw [e,Zdh w hb hc hd];exact ⟨rfl,ZiC w hb hc hd⟩
 ·have h':b+X<18446744073709551616:=h
  have e:vw a b c d+X*2^(64*1)=vw a (b+X) c d:=by rw [show (2:Int)^(64*1)=18446744073709551616 from rfl];unfold vw;omega
  have w:isW (b+X):=by unfold isW at *;omega
  rw [e,Zdh ha w hc hd];exact ⟨rfl,ZiC ha w hc hd⟩
 ·have h':c+X<18446744073709551616:=h
  have e:vw a b c d+X*2^(64*2)=vw a b (c+X) d:=by rw [show (2:Int)^(64*2)=2^128 from rfl];unfold vw;omega
  have w:isW (c+X):=by unfold isW at *;omega
  rw [e,Zdh ha hb w hd];exact ⟨rfl,ZiC ha hb w hd⟩
 ·have h':d+X<18446744073709551616:=h
  have e:vw a b c d+X*2^(64*3)=vw a b c (d+X):=by rw [show (2:Int)^(64*3)=2^192 from rfl];unfold vw;omega
  have w:isW (d+X):=by unfold isW at *;omega
  rw [e,Zdh ha hb hc w];exact ⟨rfl,ZiC ha hb hc w⟩
theorem ZiR {m:Int} (hm:isN m) {j:Nat} (hj:j<4):(nw m).getD j 0=m/2^(64*j)%18446744073709551616:=by
 have cases4:j=0∨j=1∨j=2∨j=3:=by omega
 rcases cases4 with rfl | rfl | rfl | rfl
 ·show m%18446744073709551616=m/2^(64*0)%18446744073709551616
  rw [show (2:Int)^(64*0)=1 from rfl,Int.ediv_one]
 ·rfl
 ·rfl
 ·rfl
theorem ZhI (hN:40≤N) {h:List Int} (hl:h.length=32) (hb:bys h):ZaY N h=some (nw (hv h)):=by
 unfold ZaY
 refine ZcC (fun m (x:Int×List Int)=>∃i:Nat,i+m=32∧x=((i:Int),nw (hv (h.take i)))) ?_ N 32 _ ⟨0,by omega,?_⟩ (by omega)
 ·rintro G m _ ⟨i,hi,rfl⟩ hG
  unfold ZaY.p1
  dsimp only
  by_cases hlt:i<32
  ·have hm:bys (h.take i):=fun x hx=>hb x (List.mem_of_mem_take hx)
   have lt:=Zkx hm
   have ll:(h.take i).length=i:=by rw [List.length_take];omega
   rw [ll] at lt
   have x:=hb h[i] (List.getElem_mem (by omega))
   have e1:zU (i:Int) 8=((i/8:Nat):Int):=by rw [ZeO (by omega)];omega
   have e2:(8:Int)*yH (i:Int) 8=((8*(i%8):Nat):Int):=by rw [ZgH (by omega)];omega
   have pk:=ZbO (8*(i%8))
   have le:(2:Int)^(8*i)=2^(64*(i/8))*2^(8*(i%8)):=by rw [←xB];congr 1;omega
   have mi:isN (hv (h.take i)):=by
    refine ⟨lt.1,uO lt.2 ?_⟩
    exact Zga (show 8*i≤256 by omega)
   have gd:=ZiR mi (j:=i/8) (by omega)
   have sm:hv (h.take i)/2^(64*(i/8))<2^(8*(i%8)):=wB (ZbO _) (by rw [yT,←le];exact lt.2)
   have sm0:0≤hv (h.take i)/2^(64*(i/8)):=xE lt.1 (vO (ZbO _))
   have T56:(2:Int)^(8*(i%8))*256≤18446744073709551616:=by
    have:=Zga (show 8*(i%8)+8≤64 by omega)
    rw [xB] at this
    exact this
   rw [wU sm0 (by omega)] at gd
   have xs:(h[i]+1)*2^(8*(i%8))≤256*2^(8*(i%8)):=wK (by omega) (by omega)
   rw [yL,uG] at xs
   have xs0:0≤h[i]*2^(8*(i%8)):=xQ x.1 (by omega)
   have sh:Zbd .u64 h[i] ((8*(i%8):Nat):Int)=h[i]*2^(8*(i%8)):=by rw [ZoI _ (by omega)];omega
   have or1:Zaz .or .u64 ((nw (hv (h.take i))).getD (i/8) 0) (h[i]*2^(8*(i%8)))=(nw (hv (h.take i))).getD (i/8) 0+h[i]*2^(8*(i%8)):=by
    rw [gd,Zlx (by unfold isW;omega) (by unfold isW;omega),ZgD (k:=8*(i%8)) (by omega) xs0 (by omega) (vP _ _) sm0 sm];omega
   have st:=(Zpb mi (j:=i/8) (by omega) xs0 (by rw [gd];omega)).1
   have hx:zF h i 0=h[i]:=by rw [vD,zM (by omega)];rfl
   rw [if_pos (by simp;omega),Zal (by omega),e1,e2,ZaJ (n:=((i/8:Nat):Int)) (by omega) (by omega),ZaJ (n:=((8*(i%8):Nat):Int)) (by omega) (by omega),Zal (by omega),Zal (by omega),Zal (by omega),zI,zI,hx,Zco x.1 (by omega),sh,or1,st,ZaJ (by omega) (by omega)]
   refine hG (m-1) _ (by omega) ⟨i+1,by omega,?_⟩
   have tk:h.take (i+1)=h.take i ++ [h[i]]:=List.take_succ_eq_append_getElem (by omega)
   rw [tk,Zpw,ll,le,zZ,yT (2^(8*(i%8)))]
   rfl
  ·rw [if_neg (by simp;omega),List.take_of_length_le (by omega)]
 ·rw [ZdV];rfl
theorem hv_isN {h:List Int} (hl:h.length=32) (hb:bys h):isN (hv h):=by
 have:=Zkx hb
 rw [hl] at this
 exact this
theorem Zio (hN:40≤N) {h:List Int} (hl:h.length=32) (hb:bys h) {m:Int} (hm:isN m):Zcv N h (nw m)=some (decide (hv h≤m)):=by
 unfold Zcv
 rw [ZhI hN hl hb,Zab,ZeA (by omega) hm (hv_isN hl hb),Zab]
 refine ZeC ?_
 simp only [Bool.not_eq_true',decide_eq_false_iff_not]
 omega
def ZfQ (m:Int):Nat:=(Zfz m+7)/8
def Zoq (m:Int):Int:=if ZfQ m≤3 then m*2^(8*(3-ZfQ m)) else m/2^(8*(ZfQ m-3))
def cEnc (m:Int):Int:=if 8388608≤Zoq m then ((ZfQ m+1:Nat):Int)*16777216+Zoq m/256 else (ZfQ m:Int)*16777216+Zoq m
theorem Zog {m:Int} (hm:isN m):0≤Zoq m∧Zoq m<16777216:=by
 unfold Zoq
 unfold isN at hm
 have lt:=ZkO hm.1
 have l8:(2:Int)^Zfz m≤2^(8*ZfQ m):=Zga (show Zfz m≤8*ZfQ m by unfold ZfQ;omega)
 split
 ·have p:=ZbO (8*(3-ZfQ m))
  refine ⟨xQ hm.1 (by omega),?_⟩
  have:=uE (show m<2^(8*ZfQ m) by omega) p
  rw [←xB,show 8*ZfQ m+8*(3-ZfQ m)=24 by omega] at this
  exact this
 ·have p:=ZbO (8*(ZfQ m-3))
  refine ⟨xE hm.1 (by omega),wB p ?_⟩
  rw [show (16777216:Int)=2^24 from rfl,←xB,show 24+8*(ZfQ m-3)=8*ZfQ m by omega]
  omega
theorem cLen_le {m:Int} (hm:isN m):ZfQ m≤32:=by
 have:=ZgR (k:=256) (x:=m) hm.2
 unfold ZfQ;omega
theorem or_low {A w:Int} (hA:0≤A) (hA2:A<4294967296) (h0:0≤w) (h1:w<16777216):Zaz .or .i64 (A*16777216) w=A*16777216+w:=by
 rw [or_i (by unfold isU;omega) (by unfold isU;omega)]
 have e1:(A*16777216).toNat=A.toNat <<< 24:=by rw [tD];omega
 rw [e1,←tM (show w.toNat<2^24 by omega),tD]
 omega
theorem ZmY {s:Int} (h:0≤s∧s<1000):Zbd .i64 s 24=s*16777216:=by
 unfold Zbd
 show w64 (s*2^min (zD 24) 64)=_
 rw [show min (zD 24) 64=24 from rfl,show (2:Int)^24=16777216 from rfl,ZaJ (by omega) (by omega)]
theorem bit23 {w:Int} (h:0≤w∧w<16777216):(Zaz .and .i64 w 8388608 != 0)=decide (8388608≤w):=by
 rw [ZnC (by unfold isU;omega),decide_eq_decide];omega
theorem ZhX (hN:10≤N) {m:Int} (hm:isN m):ZaF N (nw m)=some (cEnc m):=by
 have t:=Zog hm
 have l:=cLen_le hm
 have bl:Zfz m≤256:=ZgR hm.2
 have e:w64 (zU (w64 ((Zfz m:Int)+7)) 8)=(ZfQ m:Int):=by
  rw [ZaJ (n:=(Zfz m:Int)+7) (by omega) (by omega),ZeO (by omega),ZaJ (by omega) (by omega)];unfold ZfQ;omega
 have p1:ZaF.p1 N (Zfz m:Int) (Zoq m)=some (cEnc m):=by
  unfold ZaF.p1 ZaF.p2
  rw [bit23 t,e,show ZaQ .i64 (Zoq m) 8=Zoq m/256 from Zmr (Zoq m) 8 (by omega)]
  unfold cEnc
  by_cases h:8388608≤Zoq m
  ·rw [if_pos (by simpa using h),if_pos h,show (ZfQ m:Int)+1=((ZfQ m+1:Nat):Int) by omega,ZaJ (by omega) (by omega),ZmY (by omega),or_low (by omega) (by omega) (by omega) (by omega)]
  ·rw [if_neg (by simpa using h),if_neg h,ZmY (by omega),or_low (by omega) (by omega) (by omega) (by omega)]
 have low : ∀{w:Int},0≤w→w<16777216→w64 (zF (nw w) 0 0)=w:=fun {w} h0 h1=>by
  show w64 (w%18446744073709551616)=w
  rw [ZaJ (by omega) (by omega)];omega
 unfold ZaF
 rw [Zib hN hm,Zab,e]
 have ct:Zoq m=if ZfQ m≤3 then m*2^(8*(3-ZfQ m)) else m/2^(8*(ZfQ m-3)):=rfl
 by_cases h3:ZfQ m≤3
 ·rw [if_pos h3] at ct
  rw [if_pos (by simp;omega),show (3:Int)-(ZfQ m:Int)=((3-ZfQ m:Nat):Int) by omega,ZaJ (n:=((3-ZfQ m:Nat):Int)) (by omega) (by omega),show (8:Int)*((3-ZfQ m:Nat):Int)=((8*(3-ZfQ m):Nat):Int) by omega,ZaJ (n:=((8*(3-ZfQ m):Nat):Int)) (by omega) (by omega),ZgF hN hm _ (by omega),Zab,←ct,wU t.1 (by omega),low t.1 t.2,p1]
 ·rw [if_neg h3] at ct
  rw [if_neg (by simp;omega),show (ZfQ m:Int)-3=((ZfQ m-3:Nat):Int) by omega,ZaJ (n:=((ZfQ m-3:Nat):Int)) (by omega) (by omega),show (8:Int)*((ZfQ m-3:Nat):Int)=((8*(ZfQ m-3):Nat):Int) by omega,ZaJ (n:=((8*(ZfQ m-3):Nat):Int)) (by omega) (by omega),ZgV hN hm _ (by omega),Zab,←ct,low t.1 t.2,p1]
def Zhf (p:Zaj):Bool:=(tgt p.Limit p.Limit).2&&decide (2≤p.Interval∧p.Interval≤64∧1≤p.Spacing∧p.Spacing≤10000∧0≤p.Future∧p.Future<4294967296)
theorem Zih (hN:10≤N) (p:Zaj):Zdg N p=some (Zhf p):=by
 unfold Zdg
 rw [ZdN hN,Zab]
 dsimp only
 unfold Zhf
 cases (tgt p.Limit p.Limit).2
 ·rfl
 ·simp only [if_pos,Bool.true_and,decide_eq_true_eq]
  repeat' split
  all_goals (congr 1;rw [xX];simp only [decide_eq_true_eq,yD,false_iff];omega)
def ZjA (p:Zaj):Int:=p.Interval*p.Spacing
theorem Zgr {p:Zaj} (h:Zhf p=true):2≤ZjA p∧ZjA p≤640000:=by
 simp only [Zhf,zO,decide_eq_true_eq] at h
 obtain ⟨_,h1,h2,h3,h4,_⟩:=h
 unfold ZjA
 have a:=uX h1 h3 (by omega) (by omega:0≤p.Interval)
 have b:=uX h2 h4 (by omega) (by omega:(0:Int)≤64)
 omega
def Zil (p:Zaj) (f t:Int):Int:=
 if ZjA p*4<(if ZjA p/4>w64 (t-f) then ZjA p/4 else w64 (t-f)) then ZjA p*4 else (if ZjA p/4>w64 (t-f) then ZjA p/4 else w64 (t-f))
theorem Zmy {p:Zaj} (h:Zhf p=true) (f t:Int):0≤Zil p f t∧Zil p f t≤2560000:=by
 have:=Zgr h
 unfold Zil
 split<;>split<;>omega
theorem Zou {p:Zaj} (h:Zhf p=true):w64 (p.Interval*p.Spacing)=ZjA p:=by
 have:=Zgr h
 exact ZaJ (by unfold ZjA at this;omega) (by unfold ZjA at this;omega)
theorem Zlv {p:Zaj} (h:Zhf p=true) (f t:Int):ZdB N p f t=some (Zil p f t):=by
 have:=Zgr h
 unfold ZdB Zil
 rw [Zou h,ZeO (by omega),ZaJ (n:=ZjA p*4) (by omega) (by omega),ZaJ (n:=ZjA p/4) (by omega) (by omega)]
def retg (p:Zaj) (b f t:Int):Int:=
 if Zhf p=true∧(tgt b p.Limit).2=true∧(tgt b p.Limit).1*Zil p f t/ZjA p<2^256∧(tgt b p.Limit).1*Zil p f t/ZjA p≤(tgt p.Limit p.Limit).1
 then cEnc (if (tgt b p.Limit).1*Zil p f t/ZjA p=0 then 1 else (tgt b p.Limit).1*Zil p f t/ZjA p) else p.Limit
theorem ZpL {n S D:Int} (hD:0<D):n*S/D=n/D*S+n%D*S/D:=by
 have e:=yS n D
 have:n*S=D*(n/D*S)+n%D*S:=by
  conv=>lhs;rw [←e,yL]
  rw [Int.mul_right_comm,yT _ D]
 rw [this,Int.mul_add_ediv_left _ _ (by omega)]
theorem Zim (hN:10≤N) (p:Zaj) (b f t:Int):Zbh N p b f t=some (retg p b f t):=by
 unfold Zbh retg
 rw [ZdN hN,Zab]
 dsimp only
 rw [Zih hN,Zab]
 cases hg:Zhf p with
 | false=>rw [if_pos (by rfl),if_neg (by simp)]
 | true=>
  rw [if_neg (by simp)]
  cases ht:(tgt b p.Limit).2 with
  | false=>rw [if_pos (by rfl),if_neg (by simp)]
  | true=>
   rw [if_neg (by simp)]
   have hn:=Zmk b p.Limit
   have hL:=Zmk p.Limit p.Limit
   have D:=Zgr hg
   have S:=Zmy hg f t
   rw [Zlv hg,Zab,Zou hg,Zco (n:=ZjA p) (by omega) (by omega),Zco (n:=Zil p f t) (by omega) (by omega),Zka hN hn (by omega) (by omega),Zab]
   dsimp only
   have hLt:=ZdN hN p.Limit p.Limit
   have dp:=ZpL (n:=(tgt b p.Limit).1) (S:=Zil p f t) (D:=ZjA p) (by omega)
   rw [dp]
   generalize (tgt b p.Limit).1=n at *
   generalize (tgt p.Limit p.Limit).1=L at *
   generalize Zil p f t=S' at *
   generalize ZjA p=D' at *
   have q0:isN (n/D'):=by
    unfold isN at *
    have:n/D'≤n:=vW _ hn.1
    have:0≤n/D':=xE hn.1 (by omega)
    omega
   have r0:=wI n (b:=D') (by omega)
   have r1:=wJ n (b:=D') (by omega)
   have rs0:0≤n%D'*S':=xQ r0 S.1
   have rs1:n%D'*S'≤640000*2560000:=uX (by omega) (by omega) S.1 (by omega)
   have rs2:n%D'*S'/D'≤n%D'*S':=vW _ rs0
   have rs3:0≤n%D'*S'/D':=xE rs0 (by omega)
   have qs0:0≤n/D'*S':=xQ (by unfold isN at q0;omega) S.1
   rw [Zjv hN q0 (by unfold isW;omega),Zab]
   dsimp only
   rw [Zal (by omega),Zco (n:=n%D'*S') (by omega) (by omega),ZeO rs0,Zco (n:=n%D'*S'/D') (by omega) (by omega),ZeN (by unfold isW;omega),Zab,Zeq hN (by unfold isN;omega) (by unfold isN;omega),Zab]
   dsimp only
   rw [hLt,Zab]
   dsimp only
   generalize n/D'*S'=Q at *
   generalize n%D'*S'/D'=R at *
   have big:(2^256:Int)≤Q∨Q<2^256:=by omega
   rcases big with big | big
   ·rw [if_pos (by simpa using big),if_neg (by omega)]
   rw [if_neg (by simpa using big),wU qs0 big]
   by_cases big2:(2^256:Int)≤Q+R
   ·rw [if_pos (by simpa using big2),if_neg (by omega)]
   rw [if_neg (by simpa using big2),wU (by omega) (by omega)]
   have qr:isN (Q+R):=by unfold isN;omega
   rw [ZeA hN hL qr,Zab]
   by_cases hl:L<Q+R
   ·rw [if_pos (by simpa using hl),if_neg (by omega)]
   rw [if_neg (by simpa using hl),Zea qr,Zab,if_pos (c:=true=true∧true=true∧Q+R<2^256∧Q+R≤L) ⟨rfl,rfl,by omega,by omega⟩]
   have enc : ∀{x:Int},isN x→Zbh.p1 N (nw x)=some (cEnc x):=fun h=>by
    unfold Zbh.p1
    rw [ZhX hN h,Zab]
   by_cases h0:Q+R=0
   ·rw [if_pos (by simpa using h0),if_pos h0,ZeN (by unfold isW;omega),Zab,enc (by unfold isN;omega)]
   ·rw [if_neg (by simpa using h0),if_neg h0,enc qr]
def nextB (p:Zaj) (at_:ZcI) (time:Int):Int:=
 if at_.Height≤0 then p.Limit
 else if ZgW p at_.Height then retg p at_.Bits at_.First at_.Time
 else if p.Easy=false then at_.Bits
 else if w64 (time-at_.Time)>w64 (2*p.Spacing) then p.Limit else at_.Hard
theorem Zlw (hN:10≤N) (p:Zaj) (at_:ZcI) (time:Int):ZdC N p at_ time=some (nextB p at_ time):=by
 unfold ZdC nextB
 rw [Zjr,Zab,Zim hN,Zab]
 cases p.Easy<;>cases ZgW p at_.Height<;>(simp only [decide_eq_true_eq];repeat' split)<;>first | rfl | simp_all | omega
end Go.Dn.F
namespace Go.Dn.F
open Go.Dn
@[simp] theorem Zee (l:List Int):len (Zda l)=(l.length:Int):=by simp [len]
theorem rowI_isI (l:List Int):isI (Zda l)=true:=by simp [isI,Zda]
theorem ZoR (l:List Int):ZiG (Zda l)=Zda (l.mergeSort fun x y=>decide (x≤y)):=by
 simp only [ZiG,Zda,List.map_map]
 congr 2
 have:(ZgA ∘ fun n=>[L.int .i64 n])=id:=rfl
 rw [this,List.map_id]
theorem min11 (n:Nat):(if (11:Int)<(n:Int) then 11 else (n:Int))=((min n 11:Nat):Int):=by
 split<;>omega
abbrev srt (l:List Int):List Int:=l.mergeSort fun x y=>decide (x≤y)
theorem ZnK (l:List Int):(srt l).length=l.length:=List.length_mergeSort l
def M (zs:List Int):Int:=(srt (zs.take 11)).getD ((zs.take 11).length/2) 0
theorem tdiv2 (n:Nat):zU (n:Int) 2=((n/2:Nat):Int):=by
 rw [Int.tdiv_eq_ediv];simp
theorem Zpi (N:Nat) (zs:List Int):ZdE N (Zda zs)=some (M zs):=by
 have e:(min zs.length 11)=(zs.take 11).length:=by simp;omega
 have e':zs.take (zs.take 11).length=zs.take 11:=by rw [←e];apply List.ext_getElem? ;intro i;simp only [List.getElem?_take];split<;>split<;>first | rfl | omega | (rw [List.getElem?_eq_none (by omega)])
 unfold ZdE
 simp only [Zee,ZfD,min11,List.drop_zero]
 rw [Zal (by omega),Zal (by simp;omega)]
 simp only [zI,Zlq,e,e']
 rw [ZaU,Zal (by simp;omega),Zab]
 by_cases h0:(zs.take 11).length=0
 ·simp [h0,M]
 ·simp only [Zee,ZfD]
  rw [if_neg (by simpa using h0),Zal (rowI_isI _),Zal (by simp;omega),ZoR,tdiv2]
  rw [ZaJ (by omega) (by simp;omega),Zal (by omega),Zal (by omega)]
  simp only [zI,Nat.zero_add]
  have hl:(zs.take 11).length/2<(srt (zs.take 11)).length:=by rw [ZnK];omega
  rw [Zgp hl,Zaw,ZeK]
  simp only [M,zF,zM hl,Option.getD_some]
theorem ZmE (N:Nat) (t:Int) (zs:List Int):ZcA N t (Zda zs)=some (zs.length==0||decide (t>M zs)):=by
 unfold ZcA
 rw [Zpi,Zab]
 by_cases h:zs.length=0
 ·simp [h]
 ·simp [h]
end Go.Dn.F
namespace Go.Dn.F
open Go.Dn
variable {N:Nat}
theorem ZlB {a b c d A B C D x y z u T:Int} (a7:a*T=A+18446744073709551616*x) (b7:b*T=B+18446744073709551616*y) (c7:c*T=C+18446744073709551616*z) (d7:d*T=D+18446744073709551616*u) :
  vw a b c d*T=A+18446744073709551616*vw (x+B) (y+C) (z+D) u:=by
 have:vw a b c d*T=A+18446744073709551616*x+18446744073709551616*(B+18446744073709551616*y)+2^128*(C+18446744073709551616*z)+2^192*(D+18446744073709551616*u):=by
  rw [←a7,←b7,←c7,←d7]
  unfold vw
  rw [yL,yL,yL,zZ,zZ,zZ]
 rw [this];unfold vw;omega
theorem Zht {l:List Int} {i:Nat} (h:i<l.length) (x:Int):(l.set i x).getD i 0=x:=by
 rw [vD,zN h];rfl
theorem ZnV (hN:10≤N) {m:Int} (hm:isN m) {n:Nat} (h0:0<n) (h1:n<64) :
  loopN (Zam.p3 N (n:Int) (nw m)) N (0,zC 4 0)=some (nw (m*2^n%2^256)):=by
 obtain ⟨a,b,c,d,ha,hb,hc,hd,rfl⟩:=ZcO hm
 rw [Zdh ha hb hc hd]
 have hk:n≤64:=by omega
 obtain ⟨A,x,a1,a2,a3,a4,a5,a6,a7,a8⟩:=ZcE ha hk
 obtain ⟨B,y,b1,b2,b3,b4,b5,b6,b7,b8⟩:=ZcE hb hk
 obtain ⟨C,z,c1,c2,c3,c4,c5,c6,c7,c8⟩:=ZcE hc hk
 obtain ⟨D,u,d1,d2,d3,d4,d5,d6,d7,d8⟩:=ZcE hd hk
 have pT:=ZbO n
 have v1:v64 (n:Int)=((n:Nat):Int):=Zco (by omega) (by omega)
 have v2:v64 (w64 (64-(n:Int)))=((64-n:Nat):Int):=by rw [ZaJ (by omega) (by omega),Zco (by omega) (by omega)];omega
 obtain ⟨N,rfl⟩ : ∃q,N=q+5:=⟨N-5,by omega⟩
 have first : ∀(G:Int×List Int→Option (List Int)) (l:List Int),Zam.p3 (N+5) (n:Int) [a,b,c,d] G (0,l)=G (1,l.set 0 A):=fun G l=>by
  unfold Zam.p3 Zam.p4
  dsimp only
  rw [if_pos (by simp),if_pos (by simp<;>omega),Zal (by omega),Zal (by rw [v1];omega),if_neg (by simp),v1,show zF [a,b,c,d] (zD 0) 0=a from rfl,a1,ZaJ (by omega) (by omega)]
  rfl
 have next : ∀(G:Int×List Int→Option (List Int)) (j:Nat) (l:List Int) (s t A' h':Int),j<3→l.length=4→[a,b,c,d].getD (j+1) 0=s→[a,b,c,d].getD j 0=t →
   Zbd .u64 s (n:Int)=A'→ZaQ .u64 t ((64-n:Nat):Int)=h'→isW (A'+h') →
   Zam.p3 (N+5) (n:Int) [a,b,c,d] G (((j+1:Nat):Int),l)=G (((j+2:Nat):Int),l.set (j+1) (A'+h')):=fun G j l s t A' h' hj hl hs ht hA hh hw=>by
  unfold isW at hw
  unfold Zam.p3 Zam.p4
  dsimp only
  rw [if_pos (by simp<;>omega),if_pos (by simp<;>omega),Zal (by omega),Zal (by rw [v1];omega),if_pos (by simp<;>omega),show ((j+1:Nat):Int)-1=(j:Int) by omega,ZaJ (n:=(j:Int)) (by omega) (by omega),Zal (by omega),Zal (by omega),Zal (by rw [v2];omega),v1,v2,zI,zI,hs,ht,hA,hh,yX,Zht (by omega),Zco hw.1 hw.2,ZaJ (by omega) (by omega)]
  rfl
 have last : ∀(G:Int×List Int→Option (List Int)) (l:List Int),Zam.p3 (N+5) (n:Int) [a,b,c,d] G (4,l)=some l:=fun G l=>by
  unfold Zam.p3
  dsimp only
  rw [if_neg (by simp)]
 rw [Zar];refine Eq.trans (first _ [0,0,0,0]) ?_
 rw [Zar];refine Eq.trans (next _ 0 [A,0,0,0] b a B x (by omega) rfl rfl rfl b1 a2 (by unfold isW;omega)) ?_
 rw [Zar];refine Eq.trans (next _ 1 [A,B+x,0,0] c b C y (by omega) rfl rfl rfl c1 b2 (by unfold isW;omega)) ?_
 rw [Zar];refine Eq.trans (next _ 2 [A,B+x,C+y,0] d c D z (by omega) rfl rfl rfl d1 c2 (by unfold isW;omega)) ?_
 rw [Zar];refine Eq.trans (last _ [A,B+x,C+y,D+z]) ?_
 rw [←Zdh (a:=A) (b:=B+x) (c:=C+y) (d:=D+z) (by unfold isW;omega) (by unfold isW;omega) (by unfold isW;omega) (by unfold isW;omega)]
 congr 2
 rw [ZlB a7 b7 c7 d7]
 unfold vw;omega
theorem ZlC (hN:10≤N) {m:Int} (hm:isN m) {n:Nat} (h0:0<n) (h1:n<64) :
  loopN (Zam.p3 N (-(n:Int)) (nw m)) N (0,zC 4 0)=some (nw (m/2^n)):=by
 obtain ⟨a,b,c,d,ha,hb,hc,hd,rfl⟩:=ZcO hm
 rw [Zdh ha hb hc hd]
 have hk:64-n≤64:=by omega
 obtain ⟨A,x,a1,a2,a3,a4,a5,a6,a7,a8⟩:=ZcE ha hk
 obtain ⟨B,y,b1,b2,b3,b4,b5,b6,b7,b8⟩:=ZcE hb hk
 obtain ⟨C,z,c1,c2,c3,c4,c5,c6,c7,c8⟩:=ZcE hc hk
 obtain ⟨D,u,d1,d2,d3,d4,d5,d6,d7,d8⟩:=ZcE hd hk
 rw [show 64-(64-n)=n by omega] at a2 b2 c2 d2
 have pT:=ZbO n
 have pU:=ZbO (64-n)
 have tu:=ZdW (k:=n) (by omega)
 have v1:v64 (w64 (0 - -(n:Int)))=((n:Nat):Int):=by rw [ZaJ (by omega) (by omega),Zco (by omega) (by omega)];omega
 have v2:v64 (w64 (64 + -(n:Int)))=((64-n:Nat):Int):=by rw [ZaJ (by omega) (by omega),Zco (by omega) (by omega)];omega
 obtain ⟨N,rfl⟩ : ∃q,N=q+5:=⟨N-5,by omega⟩
 have next : ∀(G:Int×List Int→Option (List Int)) (j:Nat) (l:List Int) (s t A' h':Int),j<3→l.length=4→[a,b,c,d].getD j 0=s→[a,b,c,d].getD (j+1) 0=t →
   ZaQ .u64 s (n:Int)=h'→Zbd .u64 t ((64-n:Nat):Int)=A'→isW (h'+A') →
   Zam.p3 (N+5) (-(n:Int)) [a,b,c,d] G ((j:Int),l)=G (((j+1:Nat):Int),l.set j (h'+A')):=fun G j l s t A' h' hj hl hs ht hh hA hw=>by
  unfold isW at hw
  unfold Zam.p3 Zam.p4
  dsimp only
  rw [if_pos (by simp<;>omega),if_neg (by simp<;>omega),Zal (by omega),Zal (by rw [v1];omega),if_pos (by simp<;>omega),show (j:Int)+1=((j+1:Nat):Int) by omega,ZaJ (n:=((j+1:Nat):Int)) (by omega) (by omega),Zal (by omega),Zal (by omega),Zal (by rw [v2];omega),v1,v2,zI,zI,hs,ht,hA,hh,yX,Zht (by omega),Zco hw.1 hw.2]
 have top : ∀(G:Int×List Int→Option (List Int)) (l:List Int),Zam.p3 (N+5) (-(n:Int)) [a,b,c,d] G (3,l)=G (4,l.set 3 u):=fun G l=>by
  unfold Zam.p3 Zam.p4
  dsimp only
  rw [if_pos (by simp),if_neg (by simp<;>omega),Zal (by omega),Zal (by rw [v1];omega),if_neg (by simp),v1,show zF [a,b,c,d] (zD 3) 0=d from rfl,d2,ZaJ (by omega) (by omega)]
  rfl
 have last : ∀(G:Int×List Int→Option (List Int)) (l:List Int),Zam.p3 (N+5) (-(n:Int)) [a,b,c,d] G (4,l)=some l:=fun G l=>by
  unfold Zam.p3
  dsimp only
  rw [if_neg (by simp)]
 rw [Zar];refine Eq.trans (next _ 0 [0,0,0,0] a b B x (by omega) rfl rfl rfl a2 b1 (by unfold isW;omega)) ?_
 rw [Zar];refine Eq.trans (next _ 1 [x+B,0,0,0] b c C y (by omega) rfl rfl rfl b2 c1 (by unfold isW;omega)) ?_
 rw [Zar];refine Eq.trans (next _ 2 [x+B,y+C,0,0] c d D z (by omega) rfl rfl rfl c2 d1 (by unfold isW;omega)) ?_
 rw [Zar];refine Eq.trans (top _ [x+B,y+C,z+D,0]) ?_
 rw [Zar];refine Eq.trans (last _ [x+B,y+C,z+D,u]) ?_
 rw [←Zdh (a:=x+B) (b:=y+C) (c:=z+D) (d:=u) (by unfold isW;omega) (by unfold isW;omega) (by unfold isW;omega) (by unfold isW;omega)]
 congr 2
 exact (Zny pT pU tu (by omega) (ZlB a7 b7 c7 d7)).symm
theorem ZnW (hN:10≤N) {m:Int} (hm:isN m) {n:Nat} (h1:n<64) :
  loopN (Zam.p2 N) N ((n:Int),nw m)=some (nw (m*2^n%2^256)):=by
 obtain ⟨K,e⟩ : ∃q,N=q+1:=⟨N-1,by omega⟩
 rw [show loopN (Zam.p2 N) N=loopN (Zam.p2 N) (K+1) by rw [←e],Zar]
 unfold Zam.p2
 dsimp only
 rw [if_neg (by simp<;>omega)]
 by_cases h0:n=0
 ·subst h0
  unfold isN at hm
  rw [if_pos (by rfl),show (2:Int)^0=1 from rfl,rD,wU hm.1 hm.2]
 ·rw [if_neg (by simp<;>omega),ZnV hN hm (by omega) h1]
theorem Zii (hN:10≤N) : ∀(K:Nat) {m:Int},isN m→∀n:Nat,n<64*K→n<1000→loopN (Zam.p2 N) K (-(n:Int),nw m)=some (nw (m/2^n))
 | 0,_,_,n,h,_=>by omega
 | K+1,m,hm,n,h,hk=>by
  rw [Zar]
  have ih:=Zii hN K (m:=m/18446744073709551616) (by unfold isN at *;omega) (n-64)
  generalize loopN (Zam.p2 N) K=G at ih ⊢
  unfold Zam.p2
  dsimp only
  by_cases h64:64≤n
  ·rw [if_pos (by simp<;>omega),ZaJ (by omega) (by omega)]
   have e : [zF (nw m) 1 0,zF (nw m) 2 0,zF (nw m) 3 0,0]=nw (m/18446744073709551616):=by
    obtain ⟨a,b,c,d,ha,hb,hc,hd,rfl⟩:=ZcO hm
    have:vw a b c d/18446744073709551616=vw b c d 0:=by unfold isW vw at *;omega
    rw [this,Zdh ha hb hc hd,Zdh hb hc hd isW0];rfl
   rw [e,show -(n:Int)+64 = -((n-64:Nat):Int) by omega,ih (by omega) (by omega),xC (by omega),show (18446744073709551616:Int)=2^64 from rfl,←xB,show 64+(n-64)=n by omega]
  ·rw [if_neg (by simp<;>omega)]
   by_cases h0:n=0
   ·subst h0
    rw [if_pos (by rfl),show (2:Int)^0=1 from rfl,Int.ediv_one]
   ·rw [if_neg (by simp<;>omega),ZlC hN hm (by omega) (by omega)]
theorem ZjR (hN:10≤N) : ∀(K:Nat) {m:Int},isN m→∀n:Nat,n<64*K→n<1000→loopN (Zam.p1 N) K ((n:Int),nw m)=some (nw (m*2^n%2^256))
 | 0,_,_,n,h,_=>by omega
 | K+1,m,hm,n,h,hk=>by
  rw [Zar]
  have ih:=ZjR hN K (m:=m*18446744073709551616%2^256) (by unfold isN at *;omega) (n-64)
  generalize loopN (Zam.p1 N) K=G at ih ⊢
  unfold Zam.p1
  dsimp only
  by_cases h64:64≤n
  ·rw [if_pos (by simp<;>omega),ZaJ (by omega) (by omega)]
   have e : [0,zF (nw m) 0 0,zF (nw m) 1 0,zF (nw m) 2 0]=nw (m*18446744073709551616%2^256):=by
    obtain ⟨a,b,c,d,ha,hb,hc,hd,rfl⟩:=ZcO hm
    have:vw a b c d*18446744073709551616%2^256=vw 0 a b c:=by unfold isW vw at *;omega
    rw [this,Zdh ha hb hc hd,Zdh isW0 ha hb hc];rfl
   rw [e,show (n:Int)-64=((n-64:Nat):Int) by omega,ih (by omega) (by omega)]
   have e2:m*2^n=m*18446744073709551616*2^(n-64):=by
    rw [zZ,show (18446744073709551616:Int)=2^64 from rfl,←xB,show 64+(n-64)=n by omega]
   rw [e2,Int.mul_emod (_%_),Int.emod_emod,←Int.mul_emod]
  ·rw [if_neg (by simp<;>omega),ZnW hN hm (by omega)]
theorem move_up (hN:10≤N) {m:Int} (hm:isN m) (n:Nat):Zam N (nw m) (n:Int)=some (nw (m*2^n%2^256)):=by
 unfold Zam
 rw [if_neg (by simp<;>omega)]
 by_cases h:256≤n
 ·have:m*2^n%2^256=0:=by
   have e:(2:Int)^n=2^(n-256)*2^256:=by rw [←xB,show n-256+256=n by omega]
   rw [e,←zZ]
   exact vP _ _
  rw [if_pos (by simp<;>omega),this,ZdV]
 ·rw [if_neg (by simp<;>omega),ZjR hN N hm n (by omega) (by omega)]
theorem Zpg (hN:10≤N) {m:Int} (hm:isN m) (n:Nat):Zam N (nw m) (-(n:Int))=some (nw (m/2^n)):=by
 unfold Zam
 by_cases h:256≤n
 ·have:m/2^n=0:=by
   have l:=Zga h
   exact vY hm.1 (uO hm.2 l)
  rw [if_pos (by simp<;>omega),this,ZdV]
 ·rw [if_neg (by simp<;>omega),if_neg (by simp<;>omega)]
  obtain ⟨K,e⟩ : ∃q,N=q+1:=⟨N-1,by omega⟩
  rw [show loopN (Zam.p1 N) N=loopN (Zam.p1 N) (K+1) by rw [←e],Zar]
  conv=>lhs;unfold Zam.p1
  dsimp only
  rw [if_neg (by simp<;>omega),Zii hN N hm n (by omega) (by omega)]
theorem Zqb (x:Int) {r:Nat} (h:r<64):(x%18446744073709551616)/2^r%2=x/2^r%2:=by
 have p:=ZbO r
 have e:=yS x 18446744073709551616
 have s:(18446744073709551616:Int)=2^r*(2*2^(63-r)):=by
  rw [show (2:Int)*2^(63-r)=2^(64-r) by rw [show 64-r=(63-r)+1 by omega,sM];omega,ZdW (by omega)]
 have k:x=x%18446744073709551616+2^r*(2*2^(63-r)*(x/18446744073709551616)):=by
  rw [←zZ,←s];omega
 conv=>rhs;rw [k,Int.add_mul_ediv_left _ _ (by omega)]
 rw [zZ 2]
 omega
theorem ZjO {m:Int} (hm:isN m) {i:Nat} (hi:i<256):ZcB N (nw m) (i:Int)=some (m/2^i%2):=by
 unfold ZcB
 have e1:w64 (zU (i:Int) 64)=((i/64:Nat):Int):=by rw [ZeO (by omega),ZaJ (by omega) (by omega)];omega
 have e2:v64 (yH (i:Int) 64)=((i%64:Nat):Int):=by rw [ZgH (by omega),Zco (by omega) (by omega)];omega
 have p:=ZbO (i%64)
 have q:=ZbO (64*(i/64))
 have nn:0≤(m/2^(64*(i/64))%18446744073709551616)/2^(i%64):=xE (by omega) (by omega)
 rw [if_neg (by simp<;>omega),if_neg (by simp<;>omega),e1,e2,Zal (by omega),Zal (by omega),Zal (by omega),zI,ZiR hm (by omega),Zkd _ (k:=i%64) (by omega),ZgH nn,Zqb _ (by omega),xC (by omega),←xB,sS,ZaJ (by omega) (by omega)]
theorem half (x:Int) (i:Nat):x/2^i=2*(x/2^(i+1))+x/2^i%2:=by
 have:x/2^(i+1)=x/2^i/2:=by rw [xC (vO (ZbO i)),sM]
 omega
theorem Zpk {a b:Int} (i:Nat) (h:a/2^i<b/2^i):a<b:=by
 rcases Int.lt_or_le a b with k | k
 ·exact k
 ·have:=Int.ediv_le_ediv (ZbO i) k
  omega
theorem Zmx (hN:300≤N) {a b:Int} (ha:isN a) (hb:isN b):ZbA N (nw a) (nw b)=some (decide (a<b)):=by
 unfold ZbA
 refine ZcC (fun m (x:Int)=>m≤256∧x=(m:Int)-1∧a/2^m=b/2^m) ?_ N 256 255 ⟨by omega,by omega,?_⟩ (by omega)
 ·rintro G m _ ⟨hm,rfl,he⟩ hG
  unfold ZbA.p1
  by_cases h0:m=0
  ·subst h0
   rw [if_neg (by simp)]
   have e:a=b:=by simpa using he
   simp [e]
  ·obtain ⟨i,rfl⟩ : ∃i,m=i+1:=⟨m-1,by omega⟩
   have h1:=half a i
   have h2:=half b i
   rw [if_pos (by simp<;>omega),show ((i+1:Nat):Int)-1=(i:Int) by omega,ZjO ha (by omega),ZjO hb (by omega),Zab,Zab]
   by_cases hd:a/2^i%2=b/2^i%2
   ·rw [if_neg (by simp [hd]),ZaJ (by omega) (by omega)]
    exact hG i _ (by omega) ⟨by omega,by omega,by omega⟩
   ·rw [if_pos (by simpa using hd)]
    congr 1
    rw [decide_eq_decide]
    constructor
    ·intro h;exact Zpk i (by omega)
    ·intro h
     have:=Int.ediv_le_ediv (ZbO i) (vO h)
     omega
 ·rw [show (2:Int)^256=2^256 from rfl,vY ha.1 ha.2,vY hb.1 hb.2]
theorem nw_word {x:Int} (h:isW x) : [x,0,0,0]=nw x:=by
 have:=ZeN (N:=0) h
 unfold Zcs at this
 exact Option.some.inj this
theorem Zhe (hN:300≤N) (b:Int):ZaD N b=some (nw (Zff b).1,(Zff b).2.1,(Zff b).2.2):=by
 unfold ZaD Zff
 by_cases h0:b<0
 ·rw [if_pos (by simpa using h0),if_neg (by simp [ZmJ]<;>omega),ZdV]
 rw [if_neg (by simpa using h0)]
 by_cases h1:b>4294967295
 ·rw [if_pos (by simpa using h1),if_neg (by simp [ZmJ]<;>omega),ZdV]
 rw [if_neg (by simpa using h1),if_pos (by simp [ZmJ]<;>omega)]
 have w:0≤Zex b∧Zex b<8388608:=by unfold Zex;omega
 have e1:yH b 8388608=Zex b:=by rw [ZgH (by omega)];rfl
 have s:zU b 16777216=(Zdw b:Int):=by rw [ZeO (by omega)];unfold Zdw;omega
 have s2:Zdw b<256:=by unfold Zdw;omega
 have e3:yH (w64 (zU b 8388608)) 2=b/8388608%2:=by rw [ZeO (by omega),ZaJ (by omega) (by omega),ZgH (by omega)]
 have wN:isN (Zex b):=by unfold isN;omega
 have mv:Zam N [v64 (Zex b),0,0,0] (w64 (8*w64 (w64 (Zdw b:Int)-3)))=some (nw (cN b)):=by
  rw [Zco w.1 (by omega),nw_word (by unfold isW;omega),ZaJ (n:=(Zdw b:Int)) (by omega) (by omega),ZaJ (n:=(Zdw b:Int)-3) (by omega) (by omega),ZaJ (by omega) (by omega)]
  unfold cN
  by_cases h3:3<Zdw b
  ·rw [if_neg (by omega),show (8:Int)*((Zdw b:Int)-3)=((8*(Zdw b-3):Nat):Int) by omega,move_up (by omega) wN]
  ·rw [if_pos (by omega),show (8:Int)*((Zdw b:Int)-3) = -((8*(3-Zdw b):Nat):Int) by omega,Zpg (by omega) wN]
 rw [e1,s,mv,Zab,ZaJ (n:=(Zdw b:Int)) (by omega) (by omega)]
 have p1 : ∀o:Bool,ZaD.p1 N b o (nw (cN b))=some (nw (cN b),cNeg b,o):=fun o=>by
  unfold ZaD.p1
  rw [e1,e3]
  unfold cNeg
  by_cases h:Zex b=0
  ·rw [if_neg (by simp [h])];simp [h]
  ·rw [if_pos (by simp<;>omega)]
   congr 3
   rw [xX];simp [h]
 simp only [p1,decide_eq_true_eq,gt_iff_lt]
 unfold ZpV
 repeat' split
 all_goals (congr 3;rw [xX];simp only [decide_eq_true_eq,iff_true,true_iff,yD,false_iff,ne_eq];omega)
theorem Zkk (hN:300≤N) (b l:Int):Zcw N b l=some (nw (tgt b l).1,(tgt b l).2):=by
 unfold Zcw
 rw [Zhe hN,Zab]
 dsimp only
 rw [Zhe hN,Zab]
 dsimp only
 unfold tgt
 have z:(nw (Zff b).1==zC 4 0)=decide ((Zff b).1=0):=Option.some.inj (Zea (N:=0) (Zeo b))
 have le:=Zmx hN (Zeo l) (Zeo b)
 rw [z,le,Zab,ZdV]
 cases (Zff b).2.1<;>cases (Zff b).2.2<;>cases (Zff l).2.1<;>cases (Zff l).2.2<;>cases (decide ((Zff b).1=0))<;>cases (decide ((Zff l).1<(Zff b).1))<;>rfl
theorem nw_low {x:Int}:(nw x).getD 0 0=x%18446744073709551616:=rfl
theorem emod_mul' (m:Int) {P K:Int} (hP:0<P) (hK:0<K):m%(P*K)=m%P+P*(m/P%K):=by
 have a1:=yS m (P*K)
 have a2:=yS m P
 have a3:m/(P*K)=m/P/K:=(xC (by omega)).symm
 have a4:=yS (m/P) K
 rw [a3,yT P K,←zZ] at a1
 have a5:m/P*P=m/P/K*K*P+P*(m/P%K):=by
  conv=>lhs;rw [←a4,yL]
  rw [yT P (m/P%K)]
 rw [yT P K]
 omega
theorem Zkm (hN:300≤N) (p:Zaj):ZcY N p=some (Zhf p):=by
 unfold ZcY
 rw [Zkk hN,Zab]
 dsimp only
 unfold Zhf
 cases (tgt p.Limit p.Limit).2
 ·rfl
 ·simp only [if_pos,Bool.true_and,decide_eq_true_eq]
  repeat' split
  all_goals (congr 1;rw [xX];simp only [decide_eq_true_eq,yD,false_iff];omega)
end Go.Dn.F
set_option maxRecDepth 4000
namespace Go.Dn.F
open Go.Dn
variable {N:Nat}
theorem ZhZ (hN:10≤N) {m n:Int} (hm:isN m) (hn:isN n) :
  ZbN N (nw m) (nw n)=some (nw ((m-n)%2^256),decide (m<n)):=by
 obtain ⟨a,b,c,d,ha,hb,hc,hd,rfl⟩:=ZcO hm
 obtain ⟨e,f,g,i,he,hf,hg,hi,rfl⟩:=ZcO hn
 rw [Zdh ha hb hc hd,Zdh he hf hg hi]
 obtain ⟨N,rfl⟩ : ∃q,N=q+5:=⟨N-5,by omega⟩
 obtain ⟨s0,c0,e0,k0,l0,m0,n0⟩:=sub64 (N:=N+5) ha he (c:=0) (by omega)
 obtain ⟨s1,c1,e1,k1,l1,m1,n1⟩:=sub64 (N:=N+5) hb hf (c:=c0) (by omega)
 obtain ⟨s2,c2,e2,k2,l2,m2,n2⟩:=sub64 (N:=N+5) hc hg (c:=c1) (by omega)
 obtain ⟨s3,c3,e3,k3,l3,m3,n3⟩:=sub64 (N:=N+5) hd hi (c:=c2) (by omega)
 unfold ZbN
 have t : ∀(G:Int×Int×List Int→Option (List Int×Bool)) (j:Nat) (l:List Int) (c s c':Int),j<4→ZdO (N+5) (l.getD j 0) ([e,f,g,i].getD j 0) c=some (s,c') →
   ZbN.p1 (N+5) [e,f,g,i] G (c,(j:Int),l)=G (c',(j:Int)+1,l.set j s):=fun G j l c s c' hj h=>by
  unfold ZbN.p1
  dsimp only
  rw [if_pos (by simp;omega),Zal (by omega),zI,h,Zab,ZaJ (by omega) (by omega)]
 have u : ∀(G:Int×Int×List Int→Option (List Int×Bool)) (l:List Int) (c:Int),ZbN.p1 (N+5) [e,f,g,i] G (c,4,l)=some (l,c != 0):=fun G l c=>by
  unfold ZbN.p1
  dsimp only
  rw [if_neg (by simp)]
 rw [Zar]
 refine Eq.trans (t _ 0 [a,b,c,d] 0 s0 c0 (by omega) e0) ?_
 rw [Zar]
 refine Eq.trans (t _ 1 [s0,b,c,d] c0 s1 c1 (by omega) e1) ?_
 rw [Zar]
 refine Eq.trans (t _ 2 [s0,s1,c,d] c1 s2 c2 (by omega) e2) ?_
 rw [Zar]
 refine Eq.trans (t _ 3 [s0,s1,s2,d] c2 s3 c3 (by omega) e3) ?_
 rw [Zar]
 refine Eq.trans (u _ [s0,s1,s2,s3] c3) ?_
 rw [←Zdh k0 k1 k2 k3]
 have key:vw a b c d-vw e f g i=vw s0 s1 s2 s3-2^256*c3:=by unfold vw;omega
 have r:=ZiC k0 k1 k2 k3
 unfold isN at r
 have e5:(vw a b c d-vw e f g i)%2^256=vw s0 s1 s2 s3:=by omega
 rw [e5]
 have e6:(c3 != 0)=decide (vw a b c d<vw e f g i):=by
  rw [xX];simp only [bne_iff_ne,ne_eq,decide_eq_true_eq];omega
 rw [e6]
theorem Zia (hN:10≤N) {m:Int} (hm:isN m):ZbC N (nw m)=some (nw (115792089237316195423570985008687907853269984665640564039457584007913129639935-m)):=by
 obtain ⟨a,b,c,d,ha,hb,hc,hd,rfl⟩:=ZcO hm
 have key:115792089237316195423570985008687907853269984665640564039457584007913129639935-vw a b c d=vw (18446744073709551615-a) (18446744073709551615-b) (18446744073709551615-c) (18446744073709551615-d):=by unfold vw;omega
 have q : ∀{x:Int},isW x→isW (18446744073709551615-x):=fun h=>by unfold isW at *;omega
 rw [key,Zdh (q ha) (q hb) (q hc) (q hd),Zdh ha hb hc hd]
 obtain ⟨N,rfl⟩ : ∃q,N=q+5:=⟨N-5,by omega⟩
 unfold ZbC
 have t : ∀(G:Int×List Int→Option (List Int)) (j:Nat) (l:List Int),j<4→isW (l.getD j 0)→ZbC.p1 (N+5) G ((j:Int),l)=G ((j:Int)+1,l.set j (18446744073709551615-l.getD j 0)):=fun G j l hj h=>by
  unfold ZbC.p1
  dsimp only
  rw [if_pos (by simp;omega),Zal (by omega),zI,xor_max h,ZaJ (by omega) (by omega)]
 have u : ∀(G:Int×List Int→Option (List Int)) (l:List Int),ZbC.p1 (N+5) G (4,l)=some l:=fun G l=>by
  unfold ZbC.p1
  dsimp only
  rw [if_neg (by simp)]
 rw [Zar]
 refine Eq.trans (t _ 0 [a,b,c,d] (by omega) ha) ?_
 rw [Zar]
 refine Eq.trans (t _ 1 [_,b,c,d] (by omega) hb) ?_
 rw [Zar]
 refine Eq.trans (t _ 2 [_,_,c,d] (by omega) hc) ?_
 rw [Zar]
 refine Eq.trans (t _ 3 [_,_,_,d] (by omega) hd) ?_
 rw [Zar]
 exact u _ _
end Go.Dn.F
set_option maxRecDepth 40000
namespace Go.Dn.F
open Go.Dn
variable {N:Nat}
theorem bit_of {m:Int} (hm:isN m) {j:Nat} (hj:j<256):Zaz .and .u64 (ZaQ .u64 ((nw m).getD (j/64) 0) ((j%64:Nat):Int)) 1=m/2^j%2:=by
 have w:isW (m/2^(64*(j/64))%18446744073709551616/2^(j%64)):=by
  have p:=ZbO (j%64)
  have:m/2^(64*(j/64))%18446744073709551616/2^(j%64)≤m/2^(64*(j/64))%18446744073709551616:=vW _ (by omega)
  have:0≤m/2^(64*(j/64))%18446744073709551616/2^(j%64):=xE (by omega) (by omega)
  unfold isW;omega
 rw [ZiR hm (by omega),Zkd _ (k:=j%64) (by omega),show (1:Int)=2^1-1 from rfl,ZnD w 1 (by omega),show (2:Int)^1=2 from rfl,Zqb _ (by omega),xC (vO (ZbO _)),←xB,sS]
theorem top_bit {m:Int} (hm:isN m):(ZaQ .u64 ((nw m).getD 3 0) 63==1)=decide (57896044618658097711785492504343953926634992332820282019728792003956564819968≤m):=by
 unfold isN at hm
 rw [ZiR hm (by omega),show (63:Int)=((63:Nat):Int) from rfl,Zkd _ (k:=63) (by omega),show (2:Int)^(64*3)=2^192 from rfl,show (2:Int)^63=9223372036854775808 from rfl,xX]
 simp only [beq_iff_eq,decide_eq_true_eq]
 omega
theorem set_bit {m:Int} (hm:isN m) {j:Nat} (hj:j<256) (h:m%2^(j+1)=0) :
  (nw m).set (j/64) (Zaz .or .u64 ((nw m).getD (j/64) 0) (Zbd .u64 1 ((j%64:Nat):Int)))=nw (m+2^j)∧isN (m+2^j):=by
 have p:=ZbO (j%64)
 have p2:(2:Int)^(j%64+1)=2*2^(j%64):=by rw [sM];omega
 have le:(2:Int)^(j%64+1)≤18446744073709551616:=Zga (b:=64) (by omega)
 have sh:Zbd .u64 1 ((j%64:Nat):Int)=2^(j%64):=by rw [ZoI _ (by omega)];omega
 have e:(2:Int)^(j+1)=2^(64*(j/64))*2^(j%64+1):=by rw [←xB];congr 1;omega
 have q:=ZbO (64*(j/64))
 have gd:=ZiR hm (j:=j/64) (by omega)
 have md:m/2^(64*(j/64))%2^(j%64+1)=0:=by
  have:=emod_mul' m q (show (0:Int)<2^(j%64+1) by omega)
  rw [←e,h] at this
  have a1:=wI m (b:=2^(64*(j/64))) (by omega)
  have a2:=wI (m/2^(64*(j/64))) (b:=2^(j%64+1)) (by omega)
  have a3:0≤2^(64*(j/64))*(m/2^(64*(j/64))%2^(j%64+1)):=xQ (by omega) a2
  rcases (by omega:m/2^(64*(j/64))%2^(j%64+1)=0∨0<m/2^(64*(j/64))%2^(j%64+1)) with k | k
  ·exact k
  ·have:=Int.mul_pos q k;omega
 have ev:(nw m).getD (j/64) 0%2^(j%64+1)=0:=by
  rw [gd,show (18446744073709551616:Int)=2^(j%64+1)*2^(64-(j%64+1)) from (ZdW (by omega)).symm,emod_mul' _ (by omega) (ZbO _),md,rV]
  exact Int.mul_emod_right _ _
 have lt:(nw m).getD (j/64) 0+2^(j%64+1)≤18446744073709551616:=by
  have w:0≤(nw m).getD (j/64) 0∧(nw m).getD (j/64) 0<18446744073709551616:=by rw [gd];omega
  generalize (nw m).getD (j/64) 0=x at *
  have s:=ZdW (k:=j%64+1) (by omega)
  have e1:=yS x (2^(j%64+1))
  rw [ev,Int.add_zero] at e1
  have:x/2^(j%64+1)<2^(64-(j%64+1)):=wB (by omega) (by rw [yT,s];exact w.2)
  have:=wK (show x/2^(j%64+1)+1≤2^(64-(j%64+1)) by omega) (show (0:Int)≤2^(j%64+1) by omega)
  rw [yT (2^(64-(j%64+1))),s,yL,uG] at this
  omega
 have nn:0≤(nw m).getD (j/64) 0:=by rw [gd];omega
 have st:=Zpb hm (j:=j/64) (X:=2^(j%64)) (by omega) (by omega) (by omega)
 rw [sh,ZgD (k:=j%64+1) (by omega) nn lt ev (by omega) (by omega)]
 have e3:(2:Int)^(j%64)*2^(64*(j/64))=2^j:=by rw [←xB];congr 1;omega
 rw [e3] at st
 exact st
theorem ZkZ (hN:300≤N) {a b:Int} (ha:isN a) (hb:isN b) (hb0:0<b):ZaZ N (nw a) (nw b)=some (nw (a/b),nw (a%b)):=by
 have bl:Zfz a≤256:=ZgR ha.2
 unfold ZaZ
 rw [Zea hb,Zab,if_neg (by simp<;>omega),Zib (by omega) ha,Zab,ZaJ (by omega) (by omega)]
 have a0:a/2^Zfz a=0:=vY ha.1 (ZkO ha.1)
 refine ZcC (fun m (x:Int×List Int×List Int)=>m≤256∧x=((m:Int)-1,nw (a/2^m/b*2^m),nw (a/2^m%b))∧isN (a/2^m/b*2^m)) ?_ N (Zfz a) _ ⟨bl,?_,?_⟩ (by omega)
 ·rintro G m _ ⟨hm,rfl,hq⟩ hG
  unfold ZaZ.p1
  dsimp only
  by_cases h0:m=0
  ·subst h0
   rw [if_neg (by simp)]
   simp
  ·obtain ⟨j,rfl⟩ : ∃i,m=i+1:=⟨m-1,by omega⟩
   have hj:j<256:=by omega
   have e1:w64 (zU (j:Int) 64)=((j/64:Nat):Int):=by rw [ZeO (by omega),ZaJ (by omega) (by omega)];omega
   have e2:yH (j:Int) 64=((j%64:Nat):Int):=by rw [ZgH (by omega)];omega
   have hf:=half a j
   have bt:0≤a/2^j%2∧a/2^j%2<2:=by omega
   have r0:=wI (a/2^(j+1)) (b:=b) (by omega)
   have r1:=wJ (a/2^(j+1)) hb0
   have de:=yS (a/2^(j+1)) b
   have rN:isN (a/2^(j+1)%b):=by unfold isN at *;omega
   have sb:=set_bit hq hj (vP _ _)
   have pj:=ZbO j
   have qe:a/2^(j+1)/b*2^(j+1)=(2*(a/2^(j+1)/b))*2^j:=by rw [sM,yT (2^j) 2,←zZ,yT _ 2]
   have top:=top_bit rN
   have bit:=bit_of ha hj
   generalize hB:a/2^j%2=B at *
   generalize hR:a/2^(j+1)%b=R at *
   generalize hQ:a/2^(j+1)/b=Q at *
   have x14:isN (R*2^1%2^256):=by unfold isN;omega
   have low:(nw (R*2^1%2^256)).getD 0 0=R*2%18446744073709551616:=by
    rw [nw_low,show (2:Int)^1=2 from rfl];omega
   have orb:Zaz .or .u64 (R*2%18446744073709551616) B=R*2%18446744073709551616+B:=ZgD (k:=1) (by omega) (by omega) (by rw [show (2:Int)^1=2 from rfl];omega) (by rw [show (2:Int)^1=2 from rfl];omega) bt.1 (by rw [show (2:Int)^1=2 from rfl];omega)
   have st:=Zpb x14 (j:=0) (X:=B) (by omega) bt.1 (by rw [low];omega)
   rw [low,show (2:Int)^(64*0)=1 from rfl,rD,show (2:Int)^1=2 from rfl] at st
   have done : ∀(Q' R':Int),2*(Q*b+R)+B=Q'*b+R'→0≤R'→R'<b→∀o:List Int,o=nw (Q'*2^j)→isN (Q'*2^j)→ZaZ.p2 N G (j:Int) (nw a) (nw b) o (nw R')=some (nw (a/b),nw (a%b)):=fun Q' R' hE h1 h2 o ho hi=>by
    have dd:=(tN hb0 (a:=a/2^j) (q:=Q') (r:=R')).2 ⟨by rw [yT b,hf,←de];omega,h1,h2⟩
    unfold ZaZ.p2
    rw [ZaJ (by omega) (by omega),ho]
    exact hG j _ (by omega) ⟨by omega,by rw [dd.1,dd.2],by rw [dd.1];exact hi⟩
   have Q1:isN ((2*Q+1)*2^j):=by rw [yL,uG,←qe];exact sb.2
   have O1:(nw (Q*2^(j+1))).set (j/64) (Zaz .or .u64 ((nw (Q*2^(j+1))).getD (j/64) 0) (Zbd .u64 1 ((j%64:Nat):Int)))=nw ((2*Q+1)*2^j):=by
    rw [sb.1,qe,yL (2*Q),uG]
   rw [if_pos (by simp<;>omega),show ((j+1:Nat):Int)-1=(j:Int) by omega,show (1:Int)=((1:Nat):Int) from rfl,ZgF (by omega) rN 1 (by omega),Zab,e1,e2,Zal (by omega),Zal (by omega),Zal (by omega),zI,show ((1:Nat):Int)=1 from rfl,top,bit,low,orb,show (2:Int)^1=2 from rfl,st.1,O1]
   by_cases ht:(57896044618658097711785492504343953926634992332820282019728792003956564819968:Int)≤R
   ·rw [if_pos (by simpa using ht),ZhZ (by omega) st.2 hb,Zab]
    dsimp only
    have:(R*2%2^256+B-b)%2^256=2*R+B-b:=by unfold isN at *;omega
    rw [this]
    exact done (2*Q+1) (2*R+B-b) (by rw [yL,zZ];omega) (by unfold isN at *;omega) (by omega) _ rfl Q1
   ·rw [if_neg (by simpa using ht),ZeA (by omega) st.2 hb,Zab]
    have v:R*2%2^256+B=2*R+B:=by unfold isN at *;omega
    rw [v]
    by_cases hl:2*R+B<b
    ·rw [if_neg (by simpa using hl)]
     exact done (2*Q) (2*R+B) (by rw [zZ];omega) (by omega) hl _ (by rw [qe]) (by rw [←qe];exact hq)
    ·rw [if_pos (by simpa using hl),ZhZ (by omega) (by rw [←v];exact st.2) hb,Zab]
     dsimp only
     have:(2*R+B-b)%2^256=2*R+B-b:=by unfold isN at *;omega
     rw [this]
     exact done (2*Q+1) (2*R+B-b) (by rw [yL,zZ];omega) (by omega) (by omega) _ rfl Q1
 ·rw [a0];simp [ZdV]
 ·rw [a0];simp;unfold isN;omega
theorem ZgU (hN:10≤N):ZcQ N=some (nw 115792089237316195423570985008687907853269984665640564039457584007913129639935):=by
 unfold ZcQ
 rw [ZdV,Zia hN (by unfold isN;omega),Zab,Int.sub_zero]
def wkOf (t:Int):Int:=
 if 2^256≤t+1 then 1
 else if 2^256≤(115792089237316195423570985008687907853269984665640564039457584007913129639935-t)/(t+1)+1 then 115792089237316195423570985008687907853269984665640564039457584007913129639935
 else (115792089237316195423570985008687907853269984665640564039457584007913129639935-t)/(t+1)+1
theorem wkQ {t:Int} (h:isN t):0≤(115792089237316195423570985008687907853269984665640564039457584007913129639935-t)/(t+1)∧(115792089237316195423570985008687907853269984665640564039457584007913129639935-t)/(t+1)≤115792089237316195423570985008687907853269984665640564039457584007913129639935-t:=by
 unfold isN at h
 exact ⟨xE (by omega) (by omega),vW _ (by omega)⟩
theorem wkOf_isN {t:Int} (h:isN t):isN (wkOf t):=by
 have:=wkQ h
 unfold wkOf isN at *
 split
 ·omega
 ·split<;>omega
theorem ZnJ (hN:300≤N) {t:Int} (h:isN t):ZeM N (nw t)=some (nw (wkOf t)):=by
 have q:=wkQ h
 unfold ZeM wkOf
 rw [ZeN (by unfold isW;omega),Zab,Zeq (by omega) h (by unfold isN;omega),Zab]
 dsimp only
 by_cases h1:(2^256:Int)≤t+1
 ·rw [if_pos (by simpa using h1),if_pos h1]
 ·unfold isN at h
  have e:(t+1)%2^256=t+1:=by omega
  rw [if_neg (by simpa using h1),if_neg h1,Zia (by omega) h,Zab,e,ZkZ hN (by unfold isN;omega) (by unfold isN;omega) (by omega),Zab]
  dsimp only
  rw [Zeq (by omega) (by unfold isN;omega) (by unfold isN;omega),Zab]
  dsimp only
  by_cases h2:(2^256:Int)≤(115792089237316195423570985008687907853269984665640564039457584007913129639935-t)/(t+1)+1
  ·rw [if_pos (by simpa using h2),if_pos h2,ZgU (by omega),Zab]
  ·rw [if_neg (by simpa using h2),if_neg h2,wU (by omega) (by omega)]
def ZfR (b:Int):Int:=if (Zff b).2.1||(Zff b).2.2||decide ((Zff b).1=0) then 0 else wkOf (Zff b).1
theorem ZhH (b:Int):isN (ZfR b):=by
 unfold ZfR
 split
 ·unfold isN;omega
 ·exact wkOf_isN (Zeo b)
theorem ZgB (hN:300≤N) (b:Int):ZcL N b=some (nw (ZfR b)):=by
 unfold ZcL ZfR
 rw [Zem (by omega),Zab]
 dsimp only
 rw [Zea (Zeo b),Zab,ZnJ hN (Zeo b),Zab,ZdV]
 cases (Zff b).2.1<;>cases (Zff b).2.2<;>cases (decide ((Zff b).1=0))<;>rfl
def Zmh (a b:Int):Int:=if 2^256≤a+b then 115792089237316195423570985008687907853269984665640564039457584007913129639935 else a+b
theorem Zot {a b:Int} (ha:isN a) (hb:isN b):isN (Zmh a b):=by
 unfold Zmh isN at *;split<;>omega
theorem Zmg (hN:10≤N) {a b:Int} (ha:isN a) (hb:isN b):ZdZ N [[zL .u64 4 (nw a)],[zL .u64 4 (nw b)]]=some (nw (Zmh a b)):=by
 obtain ⟨N,rfl⟩ : ∃q,N=q+3:=⟨N-3,by omega⟩
 have s:ZbI (N+3) [[zL .u64 4 (nw a)],[zL .u64 4 (nw b)]]=some (nw ((a+b)%2^256),decide (2^256≤a+b)):=by
  unfold ZbI
  have z:isN 0:=by unfold isN;omega
  have t0 : ∀G:Bool×Int×List Int→Option (List Int×Bool),ZbI.p1 (N+3) [[zL .u64 4 (nw a)],[zL .u64 4 (nw b)]] G (false,0,nw 0)=G (false,1,nw a):=fun G=>by
   unfold isN at ha
   unfold ZbI.p1
   dsimp only
   rw [if_pos (by simp [len]),Zal (by omega),show ([[zL .u64 4 (nw a)],[zL .u64 4 (nw b)]]:LL)[zD 0]? = some [zL .u64 4 (nw a)] from rfl,Zaw]
   show Zbv (Zbm (N+3) (nw 0) (nw a)) _=_
   rw [Zeq (by omega) z ha,Zab,ZaJ (by omega) (by omega),show (0+a)%2^256=a by omega,show decide ((2^256:Int)≤0+a)=false by simp;omega]
   rfl
  have t1 : ∀G:Bool×Int×List Int→Option (List Int×Bool),ZbI.p1 (N+3) [[zL .u64 4 (nw a)],[zL .u64 4 (nw b)]] G (false,1,nw a)=G (decide (2^256≤a+b),2,nw ((a+b)%2^256)):=fun G=>by
   unfold ZbI.p1
   dsimp only
   rw [if_pos (by simp [len]),Zal (by omega),show ([[zL .u64 4 (nw a)],[zL .u64 4 (nw b)]]:LL)[zD 1]? = some [zL .u64 4 (nw b)] from rfl,Zaw]
   show Zbv (Zbm (N+3) (nw a) (nw b)) _=_
   rw [Zeq (by omega) ha hb,Zab,ZaJ (by omega) (by omega)]
   rfl
  have t2 : ∀(G:Bool×Int×List Int→Option (List Int×Bool)) (o:Bool) (l:List Int),ZbI.p1 (N+3) [[zL .u64 4 (nw a)],[zL .u64 4 (nw b)]] G (o,2,l)=some (l,o):=fun G o l=>by
   unfold ZbI.p1
   dsimp only
   rw [if_neg (by simp [len])]
  rw [ZdV,Zar,t0,Zar,t1,Zar,t2]
 unfold ZdZ Zmh
 rw [s,Zab]
 dsimp only
 by_cases h:(2^256:Int)≤a+b
 ·rw [if_pos (by simpa using h),if_pos h,ZgU (by omega),Zab]
 ·unfold isN at *
  rw [if_neg (by simpa using h),if_neg h,wU (by omega) (by omega)]
end Go.Dn.F
