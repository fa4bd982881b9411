import Derived.Test.YtlofpeadcmldhaaGreatDoorGb
import Derived.Test.YtlofpeadcmldhaaGreatDoorFbb
import Derived.Test.YtlofpeadcmldhaaGreatDoorKc
import Derived.Test.YtlofpeadcmldhaaGreatDoorGa
set_option linter.all false
open Bool renaming false_eq_true→yE,and_eq_true→zO,eq_iff_iff→wH
open Go.Dn.L renaming arr→zM
open Int renaming toNat_natCast→zH,toNat→zE,le_of_lt→vW,pow_add→xI,ediv_mul_add_emod→yY,ediv_nonneg→xK,toNat_of_nonneg→tY,emod_nonneg→wS,emod_lt_of_pos→wU,ediv_lt_of_lt_mul→wK,add_mul→yO,mul_assoc→yB,mul_comm→xB,mul_le_mul_of_nonneg_right→wV,one_mul→uM,mul_nonneg→wE,mul_emod_left→vX,tdiv→zY,tdiv_eq_ediv_of_nonneg→uN,tmod→yK,tmod_eq_emod_of_nonneg→wR,mul_left_comm→vY,ediv_ediv_of_nonneg→xJ,mul_le_mul_of_nonneg_left→wZ,mul_le_mul→uZ,mul_add→rR,lt_of_lt_of_le→uR,mul_one→rS,zero_add→qM,ediv_emod_unique→tQ,ediv_le_self→uB,mul_lt_mul_of_pos_right→uK,emod_eq_of_lt→vG,ediv_eq_zero_of_lt→uE,pow_succ→rB
open List renaming replicate→zC,getD→zG,set_set→xH,getD_eq_getElem?_getD→vP,getElem?_set_self→zQ,getElem?_eq_getElem→zN
open Nat renaming shiftLeft_eq→tG,shiftLeft_add_eq_or_of_lt→tP,div_add_mod→rG,and_two_pow_sub_one_eq_mod→tI,log2→qL,testBit_two_pow→vZ
set_option maxRecDepth 4000
namespace Go.Dn.F
open Go.Dn
def blk (b:Bs) (j:Nat):Bs:=(b.drop (64*j)).take 64
section
variable {N:Nat}
end
end Go.Dn.F
namespace Go.Dn.F
open Go.Dn
section
variable {N:Nat}
theorem ZnP (h:Zap):Zdd N h=some (Zfg h):=by
 unfold Zdd Zfg
 repeat' split
 all_goals (refine ZeE ⟨fun h=>?_,fun h=>?_⟩<;>simp only [decide_eq_true_eq,yE] at * <;> omega)
end
end Go.Dn.F
namespace Go.Dn.F
open Go.Dn Go.Proofs
def ZkA (n:Int):Prop:=-9223372036854775808≤n∧n≤9223372036854775807
theorem Zeo {n:Int} (h:(Lit.int .i64 n).wf=true):ZkA n:=by
 simp only [Lit.wf,zO,decide_eq_true_eq] at h
 exact h
abbrev tysH:List Ty:=[.int .i64,.arr .u8 32,.arr .u8 32,.int .i64,.int .i64,.int .i64]
abbrev tysP:List Ty:=[.int .i64,.int .i64,.int .i64,.int .i64,.bool,.sl 2 [.int .i64,.int .i64],.sl 33 [.int .i64,.arr .u8 32],.arr .u64 4,.arr .u64 4,.int .i64,.arr .u8 32,.arr .u8 32,.int .i64,.int .i64,.int .i64]
structure WfH (h:Zap):Prop where
 v:ZkA h.Version
 w:wfH h=true
 t:ZkA h.Time
 b:ZkA h.Bits
 n:ZkA h.Nonce
theorem ZmN {l:List Int} (h:l.length=32) (hw : ∀x∈l,(Lit.int .u8 x).wf=true):wfB l=true:=by
 simp only [wfB,zO,beq_iff_eq,List.all_eq_true,decide_eq_true_eq]
 refine ⟨h,fun n hn=>?_⟩
 have:=hw n hn
 simp only [Lit.wf,zO,decide_eq_true_eq] at this
 have e1:IntKind.u8.min=0:=rfl
 have e2:IntKind.u8.max=255:=rfl
 omega
theorem open_H {ls:List L} (h:Zfw tysH ls) : ∃x:Zap,ls=x.ls∧WfH x:=by
 obtain ⟨_,_,rfl,h1,h⟩:=h.cons_inv
 obtain ⟨_,_,rfl,h2,h⟩:=h.cons_inv
 obtain ⟨_,_,rfl,h3,h⟩:=h.cons_inv
 obtain ⟨_,_,rfl,h4,h⟩:=h.cons_inv
 obtain ⟨_,_,rfl,h5,h⟩:=h.cons_inv
 obtain ⟨_,_,rfl,h6,h⟩:=h.cons_inv
 cases h.nil_inv
 obtain ⟨a1,rfl,w1⟩:=h1.int_inv
 obtain ⟨a2,rfl,k2,w2⟩:=h2.arr_inv
 obtain ⟨a3,rfl,k3,w3⟩:=h3.arr_inv
 obtain ⟨a4,rfl,w4⟩:=h4.int_inv
 obtain ⟨a5,rfl,w5⟩:=h5.int_inv
 obtain ⟨a6,rfl,w6⟩:=h6.int_inv
 refine ⟨⟨a1,a2,a3,a4,a5,a6⟩,rfl,⟨Zeo w1,?_,Zeo w4,Zeo w5,Zeo w6⟩⟩
 simp only [wfH,zO]
 exact ⟨ZmN k2 w2,ZmN k3 w3⟩
structure WfP (p:Zaj):Prop where
 l:ZkA p.Limit
 i:ZkA p.Interval
 s:ZkA p.Spacing
 f:ZkA p.Future
 g : ∀x∈p.Gates,Zfw [.int .i64,.int .i64] x
 gl:p.Gates.length≤maxLen
 c : ∀x∈p.Checks,Zfw [.int .i64,.arr .u8 32] x
 cl:p.Checks.length≤maxLen
 m:p.MinWork.length=4∧∀x∈p.MinWork,(Lit.int .u64 x).wf=true
 r:p.Margin.length=4∧∀x∈p.Margin,(Lit.int .u64 x).wf=true
 h:WfH p.Genesis
theorem open_P {ls:List L} (h:Zfw tysP ls) : ∃x:Zaj,ls=x.ls∧WfP x:=by
 obtain ⟨_,_,rfl,h1,h⟩:=h.cons_inv
 obtain ⟨_,_,rfl,h2,h⟩:=h.cons_inv
 obtain ⟨_,_,rfl,h3,h⟩:=h.cons_inv
 obtain ⟨_,_,rfl,h4,h⟩:=h.cons_inv
 obtain ⟨_,_,rfl,h5,h⟩:=h.cons_inv
 obtain ⟨_,_,rfl,h6,h⟩:=h.cons_inv
 obtain ⟨_,_,rfl,h7,h⟩:=h.cons_inv
 obtain ⟨_,_,rfl,h8,h⟩:=h.cons_inv
 obtain ⟨_,_,rfl,h9,h⟩:=h.cons_inv
 obtain ⟨x,rfl,hx⟩:=open_H h
 obtain ⟨a1,rfl,w1⟩:=h1.int_inv
 obtain ⟨a2,rfl,w2⟩:=h2.int_inv
 obtain ⟨a3,rfl,w3⟩:=h3.int_inv
 obtain ⟨a4,rfl,w4⟩:=h4.int_inv
 obtain ⟨a5,rfl⟩:=h5.bool_inv
 obtain ⟨a6,rfl,k6,w6⟩:=h6.sl_inv
 obtain ⟨a7,rfl,k7,w7⟩:=h7.sl_inv
 obtain ⟨a8,rfl,k8,w8⟩:=h8.arr_inv
 obtain ⟨a9,rfl,k9,w9⟩:=h9.arr_inv
 exact ⟨⟨a1,a2,a3,a4,a5,a6,a7,a8,a9,x⟩,rfl,⟨Zeo w1,Zeo w2,Zeo w3,Zeo w4,w6,k6,w7,k7,⟨k8,w8⟩,⟨k9,w9⟩,hx⟩⟩
theorem rev_ind {α:Type} {P:List α→Prop} (h0:P []) (h1 : ∀l a,P l→P (l ++ [a])) (l:List α):P l:=by
 rw [←List.reverse_reverse l]
 induction l.reverse with
 | nil=>exact h0
 | cons a m ih=>rw [List.reverse_cons];exact h1 _ _ ih
theorem isI_row (l:List Int):isI (Zdp l)=true:=by simp [isI,Zdp]
def spots (p:Zaj) (l:List Zap):ZaE:=l.foldl (Zfs p) (begin_ p)
end Go.Dn.F
namespace Go.Dn.F
open Go.Dn
def isW (a:Int):Prop:=0≤a∧a<18446744073709551616
def isN (n:Int):Prop:=0≤n∧n<2^256
def nw (n:Int):List Int:=[n%18446744073709551616,n/18446744073709551616%18446744073709551616,n/2^128%18446744073709551616,n/2^192%18446744073709551616]
def vw (a b c d:Int):Int:=a+18446744073709551616*b+2^128*c+2^192*d
theorem Zdk {a b c d:Int} (ha:isW a) (hb:isW b) (hc:isW c) (hd:isW d):nw (vw a b c d) = [a,b,c,d]:=by
 unfold isW at *
 unfold nw vw
 have e1:(a+18446744073709551616*b+2^128*c+2^192*d)/18446744073709551616=b+18446744073709551616*c+2^128*d:=by omega
 have e2:(a+18446744073709551616*b+2^128*c+2^192*d)/2^128=c+18446744073709551616*d:=by omega
 have e3:(a+18446744073709551616*b+2^128*c+2^192*d)/2^192=d:=by omega
 rw [e1,e2,e3]
 congr 1
 ·omega
 congr 1
 ·omega
 congr 1
 ·omega
 congr 1
 omega
theorem Ziz {a b c d:Int} (ha:isW a) (hb:isW b) (hc:isW c) (hd:isW d):isN (vw a b c d):=by
 unfold isW at *;unfold isN vw;omega
theorem ZcR {n:Int} (h:isN n) : ∃a b c d,isW a∧isW b∧isW c∧isW d∧n=vw a b c d:=by
 unfold isN at h
 refine ⟨n%18446744073709551616,n/18446744073709551616%18446744073709551616,n/18446744073709551616/18446744073709551616%18446744073709551616,n/18446744073709551616/18446744073709551616/18446744073709551616,?_⟩
 unfold isW vw
 refine ⟨by omega,by omega,by omega,by omega,by omega⟩
theorem vw_lt {a b c d e f g h:Int} (ha:isW a) (hb:isW b) (hc:isW c) (hd:isW d) (he:isW e) (hf:isW f) (hg:isW g) (hh:isW h) :
  vw a b c d<vw e f g h↔(d<h∨d=h∧(c<g∨c=g∧(b<f∨b=f∧a<e))):=by
 unfold isW vw at *;omega
theorem vw_eq {a b c d e f g h:Int} (ha:isW a) (hb:isW b) (hc:isW c) (hd:isW d) (he:isW e) (hf:isW f) (hg:isW g) (hh:isW h) :
  vw a b c d=vw e f g h↔(a=e∧b=f∧c=g∧d=h):=by
 unfold isW vw at *;omega
theorem nw_inj {m n:Int} (hm:isN m) (hn:isN n) (h:nw m=nw n):m=n:=by
 obtain ⟨a,b,c,d,ha,hb,hc,hd,rfl⟩:=ZcR hm
 obtain ⟨e,f,g,i,he,hf,hg,hi,rfl⟩:=ZcR hn
 rw [Zdk ha hb hc hd,Zdk he hf hg hi] at h
 simp only [List.cons.injEq,and_true] at h
 exact (vw_eq ha hb hc hd he hf hg hi).2 h
theorem Zeb:zC 4 0=nw 0:=by decide +kernel
variable {N:Nat}
theorem ZeR {n:Int} (h:isW n):Zcv N n=some (nw n):=by
 have:nw n = [n,0,0,0]:=by
  have:=Zdk h (b:=0) (c:=0) (d:=0) (by unfold isW;omega) (by unfold isW;omega) (by unfold isW;omega)
  rw [←this];congr 1;unfold vw;omega
 unfold Zcv;rw [this]
theorem Zee {n:Int} (h:isN n):Zce N (nw n)=some (decide (n=0)):=by
 unfold Zce
 rw [Zeb]
 refine ZeE ⟨fun e=>nw_inj h (by unfold isN;omega) (by simpa using e),fun e=>by subst e;simp⟩
def cmp (a b:Int):Int:=if a<b then -1 else if b<a then 1 else 0
theorem ZfH (hN:10≤N) {m n:Int} (hm:isN m) (hn:isN n):ZaW N (nw m) (nw n)=some (cmp m n):=by
 obtain ⟨a,b,c,d,ha,hb,hc,hd,rfl⟩:=ZcR hm
 obtain ⟨e,f,g,i,he,hf,hg,hi,rfl⟩:=ZcR hn
 have k1:=vw_lt ha hb hc hd he hf hg hi
 have k2:=vw_lt he hf hg hi ha hb hc hd
 rw [Zdk ha hb hc hd,Zdk he hf hg hi]
 obtain ⟨N,rfl⟩ : ∃q,N=q+5:=⟨N-5,by omega⟩
 unfold ZaW
 have t : ∀G:Int→Option Int,∀j:Nat,j<4→ZaW.p1 (N+5) [a,b,c,d] [e,f,g,i] G (j:Int)=if [a,b,c,d].getD j 0 < [e,f,g,i].getD j 0 then some (-1) else if [e,f,g,i].getD j 0 < [a,b,c,d].getD j 0 then some 1 else G ((j:Int)-1):=fun G j hj=>by
  unfold ZaW.p1
  rw [if_pos (by simp),Zan (by omega),Zan (by omega),zH,ZaK (by omega) (by omega)]
  simp only [decide_eq_true_eq,gt_iff_lt]
 have u : ∀G:Int→Option Int,ZaW.p1 (N+5) [a,b,c,d] [e,f,g,i] G (-1)=some 0:=fun G=>by
  unfold ZaW.p1
  rw [if_neg (by simp)]
 rw [Zat,show (3:Int)=((3:Nat):Int) from rfl,t _ 3 (by omega),Zat,show ((3:Nat):Int)-1=((2:Nat):Int) from rfl,t _ 2 (by omega),Zat,show ((2:Nat):Int)-1=((1:Nat):Int) from rfl,t _ 1 (by omega),Zat,show ((1:Nat):Int)-1=((0:Nat):Int) from rfl,t _ 0 (by omega),Zat,show ((0:Nat):Int)-1 = -1 from rfl,u]
 have g0 : ∀a b c d:Int,[a,b,c,d].getD 0 0=a:=fun _ _ _ _=>rfl
 have g1 : ∀a b c d:Int,[a,b,c,d].getD 1 0=b:=fun _ _ _ _=>rfl
 have g2 : ∀a b c d:Int,[a,b,c,d].getD 2 0=c:=fun _ _ _ _=>rfl
 have g3 : ∀a b c d:Int,[a,b,c,d].getD 3 0=d:=fun _ _ _ _=>rfl
 simp only [g0,g1,g2,g3]
 unfold cmp
 simp only [k1,k2]
 repeat' split
 all_goals first | rfl | (exfalso;omega)
theorem ZeC (hN:10≤N) {m n:Int} (hm:isN m) (hn:isN n):Zcm N (nw m) (nw n)=some (decide (m<n)):=by
 unfold Zcm
 rw [ZfH hN hm hn,Zac]
 refine ZeE ?_
 simp only [decide_eq_true_eq]
 unfold cmp
 repeat' split
 all_goals omega
end Go.Dn.F
namespace Go.Dn.F
open Go.Dn
variable {N:Nat}
theorem Zqj {x y c:Int} (hx:isW x) (hy:isW y) (hc:0≤c∧c≤1) : ∃s c':Int,ZcW N x y c=some (s,c')∧isW s∧0≤c'∧c'≤1∧s+18446744073709551616*c'=x+y+c:=by
 unfold isW at *
 refine ⟨(x+y+c)%18446744073709551616,(x+y+c)/18446744073709551616,?_,by omega,by omega,by omega,by omega⟩
 unfold ZcW
 rw [Zan (by omega),Zan (by omega),Zan (by omega),Zan (by omega)]
theorem sub64 {x y c:Int} (hx:isW x) (hy:isW y) (hc:0≤c∧c≤1) : ∃s c':Int,ZdS N x y c=some (s,c')∧isW s∧0≤c'∧c'≤1∧s-18446744073709551616*c'=x-y-c:=by
 unfold isW at *
 unfold ZdS
 rw [Zan (by omega),Zan (by omega),Zan (by omega),Zan (by omega),Zan (by omega)]
 refine ⟨_,_,rfl,?_⟩
 split<;>refine ⟨by omega,by omega,by omega,by omega⟩
theorem Zes (hN:10≤N) {m n:Int} (hm:isN m) (hn:isN n) :
  Zbr N (nw m) (nw n)=some (nw ((m+n)%2^256),decide (2^256≤m+n)):=by
 obtain ⟨a,b,c,d,ha,hb,hc,hd,rfl⟩:=ZcR hm
 obtain ⟨e,f,g,i,he,hf,hg,hi,rfl⟩:=ZcR hn
 rw [Zdk ha hb hc hd,Zdk he hf hg hi]
 obtain ⟨N,rfl⟩ : ∃q,N=q+5:=⟨N-5,by omega⟩
 obtain ⟨s0,c0,e0,k0,l0,m0,n0⟩:=Zqj (N:=N+5) ha he (c:=0) (by omega)
 obtain ⟨s1,c1,e1,k1,l1,m1,n1⟩:=Zqj (N:=N+5) hb hf (c:=c0) (by omega)
 obtain ⟨s2,c2,e2,k2,l2,m2,n2⟩:=Zqj (N:=N+5) hc hg (c:=c1) (by omega)
 obtain ⟨s3,c3,e3,k3,l3,m3,n3⟩:=Zqj (N:=N+5) hd hi (c:=c2) (by omega)
 unfold Zbr
 have t : ∀(G:Int×Int×List Int→Option (List Int×Bool)) (j:Nat) (l:List Int) (c s c':Int),j<4→ZcW (N+5) (l.getD j 0) ([e,f,g,i].getD j 0) c=some (s,c') →
   Zbr.p1 (N+5) [e,f,g,i] G (c,(j:Int),l)=G (c',(j:Int)+1,l.set j s):=fun G j l c s c' hj h=>by
  unfold Zbr.p1
  dsimp only
  rw [if_pos (by simp;omega),Zan (by omega),zH,h,Zac,ZaK (by omega) (by omega)]
 have u : ∀(G:Int×Int×List Int→Option (List Int×Bool)) (l:List Int) (c:Int),Zbr.p1 (N+5) [e,f,g,i] G (c,4,l)=some (l,c != 0):=fun G l c=>by
  unfold Zbr.p1
  dsimp only
  rw [if_neg (by simp)]
 rw [Zat]
 refine Eq.trans (t _ 0 [a,b,c,d] 0 s0 c0 (by omega) e0) ?_
 rw [Zat]
 refine Eq.trans (t _ 1 [s0,b,c,d] c0 s1 c1 (by omega) e1) ?_
 rw [Zat]
 refine Eq.trans (t _ 2 [s0,s1,c,d] c1 s2 c2 (by omega) e2) ?_
 rw [Zat]
 refine Eq.trans (t _ 3 [s0,s1,s2,d] c2 s3 c3 (by omega) e3) ?_
 rw [Zat]
 refine Eq.trans (u _ [s0,s1,s2,s3] c3) ?_
 rw [←Zdk k0 k1 k2 k3]
 have key:vw a b c d+vw e f g i=vw s0 s1 s2 s3+2^256*c3:=by unfold vw;omega
 have r:=Ziz k0 k1 k2 k3
 unfold isN at r
 have e5:(vw a b c d+vw e f g i)%2^256=vw s0 s1 s2 s3:=by omega
 rw [e5]
 have e6:(c3 != 0)=decide (2^256≤vw a b c d+vw e f g i):=by
  rw [wH];simp only [bne_iff_ne,ne_eq,decide_eq_true_eq];omega
 rw [e6]
theorem of_w (x:Int) (h:isW x):(BitVec.ofInt 64 x).toNat=x.toNat:=by
 unfold isW at h
 rw [BitVec.toNat_ofInt];omega
theorem Zos (n:Nat) (h:n<18446744073709551616):IntKind.wrap .u64 (n:Int)=n:=Zcr (by omega) (by omega)
theorem and64 {x y:Int} (hx:isW x) (hy:isW y):ZaB .and .u64 x y=((x.toNat &&& y.toNat:Nat):Int):=by
 show IntKind.wrap .u64 (((BitVec.ofInt 64 x &&& BitVec.ofInt 64 y).toNat:Nat):Int)=_
 rw [Zos _ (BitVec.isLt _),BitVec.toNat_and,of_w x hx,of_w y hy]
theorem or64 {x y:Int} (hx:isW x) (hy:isW y):ZaB .or .u64 x y=((x.toNat ||| y.toNat:Nat):Int):=by
 show IntKind.wrap .u64 (((BitVec.ofInt 64 x ||| BitVec.ofInt 64 y).toNat:Nat):Int)=_
 rw [Zos _ (BitVec.isLt _),BitVec.toNat_or,of_w x hx,of_w y hy]
theorem xor_max {x:Int} (h:isW x):ZaB .xor .u64 (IntKind.max IntKind.u64) x=18446744073709551615-x:=by
 show IntKind.wrap .u64 (((BitVec.ofInt 64 (IntKind.max IntKind.u64) ^^^ BitVec.ofInt 64 x).toNat:Nat):Int)=_
 rw [Zos _ (BitVec.isLt _),show BitVec.ofInt 64 (IntKind.max IntKind.u64)=BitVec.allOnes 64 by decide,BitVec.allOnes_xor,BitVec.toNat_not,of_w x h]
 unfold isW at h
 omega
theorem ZoN (x:Int) {k:Nat} (h:k≤64):Zbf .u64 x (k:Int)=x*2^k%18446744073709551616:=by
 have e:min (zE (k:Int)) (IntKind.bits .u64)=k:=by simp only [IntKind.bits,zH];omega
 unfold Zbf
 rw [e]
 show v64 _=_
 rw [Zev]
theorem Zkf (x:Int) {k:Nat} (h:k≤64):ZaR .u64 x (k:Int)=x/2^k:=by
 have e:min (zE (k:Int)) (IntKind.bits .u64)=k:=by simp only [IntKind.bits,zH];omega
 unfold ZaR
 rw [e,Int.fdiv_eq_ediv_of_nonneg _ (vW (Int.pow_pos (by decide)))]
theorem ZbR (k:Nat):(0:Int)<2^k:=Int.pow_pos (by decide)
theorem Zec {k:Nat} (h:k≤64):(2:Int)^k*2^(64-k)=18446744073709551616:=by
 rw [←xI,show k+(64-k)=64 by omega];rfl
theorem ZgE {A h:Int} {k:Nat} (hk:k≤64) (hA:0≤A) (hA2:A+2^k≤18446744073709551616) (hd:A%2^k=0) (h0:0≤h) (h1:h<2^k):ZaB .or .u64 A h=A+h:=by
 have p:=ZbR k
 rw [or64 (by unfold isW;omega) (by unfold isW;omega)]
 have e1:A.toNat=(A/2^k).toNat <<< k:=by
  rw [tG]
  have e:=yY A (2^k)
  rw [hd,Int.add_zero] at e
  have q:0≤A/2^k:=xK hA (by omega)
  apply Int.ofNat_inj.1
  push_cast
  rw [tY hA,tY q,e]
 have e2:h.toNat<2^k:=by
  have:((h.toNat:Nat):Int)<((2^k:Nat):Int):=by push_cast;omega
  omega
 rw [e1,←tP e2,←e1]
 omega
theorem ZcJ {a:Int} (ha:isW a) {k:Nat} (hk:k≤64) : ∃A h:Int,Zbf .u64 a (k:Int)=A∧ZaR .u64 a ((64-k:Nat):Int)=h∧0≤A∧A+2^k≤18446744073709551616∧0≤h∧h<2^k∧a*2^k=A+18446744073709551616*h∧A%2^k=0:=by
 have p:=ZbR k
 have p':=ZbR (64-k)
 have s:=Zec hk
 unfold isW at ha
 refine ⟨_,_,ZoN a hk,Zkf a (by omega),?_⟩
 generalize (2:Int)^(64-k)=U at *
 generalize (2:Int)^k=T at *
 have e:=yY a U
 have r0:=wS a (b:=U) (by omega)
 have r1:=wU a p'
 have hq:0≤a/U:=xK ha.1 (by omega)
 have hT:a/U<T:=wK p' (by rw [s];exact ha.2)
 have aT:a*T=(a%U)*T+18446744073709551616*(a/U):=by
  conv=>lhs;rw [←e,yO,yB,xB U T,s,Int.add_comm,xB (a/U)]
 have l1:(a%U)*T+T≤18446744073709551616:=by
  have:(a%U+1)*T≤U*T:=wV (by omega) (by omega)
  rw [xB U T,s,yO,uM] at this
  exact this
 have l0:0≤(a%U)*T:=wE r0 (by omega)
 have e3:a*T%18446744073709551616=(a%U)*T:=by rw [aT];omega
 rw [e3]
 exact ⟨l0,l1,hq,hT,aT,vX _ _⟩
theorem isW0:isW 0:=by unfold isW;omega
theorem Zlu (n:Nat):(2:Int)^n=2^(64*(n/64))*2^(n%64):=by rw [←xI,rG]
theorem ZgG (hN:10≤N) {m:Int} (hm:isN m) (n:Nat) (hn:n<1000000) :
  Zbl N (nw m) (n:Int)=some (nw (m*2^n%2^256)):=by
 unfold Zbl
 by_cases h256:256≤n
 ·rw [if_pos (by simp;omega),Zeb]
  have:m*2^n%2^256=0:=by
   have e:(2:Int)^n=2^(n-256)*2^256:=by rw [←xI,show n-256+256=n by omega]
   rw [e,←yB]
   exact vX _ _
  rw [this]
 rw [if_neg (by simp;omega)]
 obtain ⟨a,b,c,d,ha,hb,hc,hd,rfl⟩:=ZcR hm
 rw [Zdk ha hb hc hd]
 have hk:n%64≤64:=by omega
 obtain ⟨A,x,a1,a2,a3,a4,a5,a6,a7,a8⟩:=ZcJ ha hk
 obtain ⟨B,y,b1,b2,b3,b4,b5,b6,b7,b8⟩:=ZcJ hb hk
 obtain ⟨C,z,c1,c2,c3,c4,c5,c6,c7,c8⟩:=ZcJ hc hk
 obtain ⟨D,u,d1,d2,d3,d4,d5,d6,d7,d8⟩:=ZcJ hd hk
 have o1:=ZgE hk b3 b4 b8 a5 a6
 have o2:=ZgE hk c3 c4 c8 b5 b6
 have o3:=ZgE hk d3 d4 d8 c5 c6
 have pT:=ZbR (n%64)
 have hq:zY (if (0:Int)>(n:Int) then 0 else (n:Int)) 64=((n/64:Nat):Int):=by rw [if_neg (by omega),uN (by omega)];omega
 have hr:yK (if (0:Int)>(n:Int) then 0 else (n:Int)) 64=((n%64:Nat):Int):=by rw [if_neg (by omega),wR (by omega)];omega
 obtain ⟨N,rfl⟩ : ∃q,N=q+5:=⟨N-5,by omega⟩
 rw [hq,ZaK (by omega) (by omega)]
 have first : ∀(G:Int×List Int→Option (List Int)) (l:List Int),n/64<4 →
   Zbl.p1 (N+5) (n:Int) [a,b,c,d] G (((n/64:Nat):Int),l)=G (((n/64:Nat):Int)+1,l.set (n/64) A):=fun G l hl=>by
  unfold Zbl.p1
  dsimp only
  rw [hq,hr,ZaK (n:=((n/64:Nat):Int)) (by omega) (by omega),Int.sub_self,ZaK (n:=0) (by omega) (by omega),if_pos (by simp;omega),Zan (by omega),Zan (by omega),Zan (by omega),Zan (by omega),if_neg (by simp)]
  unfold Zbl.p2
  rw [ZaK (by omega) (by omega),zH,show zG [a,b,c,d] (zE 0) 0=a from rfl,a1]
 have next : ∀(G:Int×List Int→Option (List Int)) (j:Nat) (l:List Int) (s t X:Int),n/64+j+1<4→l.length=4→[a,b,c,d].getD (j+1) 0=s→[a,b,c,d].getD j 0=t →
   ZaB .or .u64 (Zbf .u64 s ((n%64:Nat):Int)) (ZaR .u64 t ((64-n%64:Nat):Int))=X →
   Zbl.p1 (N+5) (n:Int) [a,b,c,d] G (((n/64+j+1:Nat):Int),l)=G (((n/64+j+1:Nat):Int)+1,l.set (n/64+j+1) X):=fun G j l s t X hl hl4 hs ht hX=>by
  unfold Zbl.p1
  dsimp only
  rw [hq,hr,ZaK (n:=((n/64:Nat):Int)) (by omega) (by omega),show (((n/64+j+1:Nat):Int)-((n/64:Nat):Int))=((j+1:Nat):Int) by omega,ZaK (n:=((j+1:Nat):Int)) (by omega) (by omega),show ((j+1:Nat):Int)-1=(j:Int) by omega,ZaK (n:=(j:Int)) (by omega) (by omega),show (64:Int)-((n%64:Nat):Int)=((64-n%64:Nat):Int) by omega,ZaK (n:=((64-n%64:Nat):Int)) (by omega) (by omega),
   if_pos (by simp;omega),Zan (by omega),Zan (by omega),Zan (by omega),Zan (by omega),if_pos (by simp;omega),Zan (by omega),Zan (by omega),Zan (by omega)]
  unfold Zbl.p2
  rw [ZaK (by omega) (by omega),zH,zH,zH,hs,ht,xH]
  have:(l.set (n/64+j+1) (Zbf .u64 s ((n%64:Nat):Int))).getD (n/64+j+1) 0=Zbf .u64 s ((n%64:Nat):Int):=by
   rw [vP,zQ (by omega)];rfl
  rw [this,hX]
 have last : ∀(G:Int×List Int→Option (List Int)) (l:List Int),Zbl.p1 (N+5) (n:Int) [a,b,c,d] G (4,l)=some l:=fun G l=>by
  unfold Zbl.p1
  dsimp only
  rw [if_neg (by simp)]
 have n1:=fun G l X e=>next G 0 l b a X e
 have n2:=fun G l X e=>next G 1 l c b X e
 have n3:=fun G l X e=>next G 2 l d c X e
 rw [b1,a2] at n1
 rw [c1,b2] at n2
 rw [d1,c2] at n3
 have pw:=Zlu n
 have cases4:n/64=0∨n/64=1∨n/64=2∨n/64=3:=by omega
 have vT:vw a b c d*2^(n%64)=A+18446744073709551616*x+18446744073709551616*(B+18446744073709551616*y)+2^128*(C+18446744073709551616*z)+2^192*(D+18446744073709551616*u):=by
  rw [←a7,←b7,←c7,←d7]
  unfold vw
  rw [yO,yO,yO,yB,yB,yB]
 rcases cases4 with q | q | q | q
 ·rw [q] at first n1 n2 n3 pw ⊢
  rw [Zat];refine Eq.trans (first _ [0,0,0,0] (by omega)) ?_
  rw [Zat];refine Eq.trans (n1 _ [A,0,0,0] _ (by omega) rfl rfl rfl o1) ?_
  rw [Zat];refine Eq.trans (n2 _ [A,B+x,0,0] _ (by omega) rfl rfl rfl o2) ?_
  rw [Zat];refine Eq.trans (n3 _ [A,B+x,C+y,0] _ (by omega) rfl rfl rfl o3) ?_
  rw [Zat];refine Eq.trans (last _ [A,B+x,C+y,D+z]) ?_
  rw [←Zdk (a:=A) (b:=B+x) (c:=C+y) (d:=D+z) (by unfold isW;omega) (by unfold isW;omega) (by unfold isW;omega) (by unfold isW;omega)]
  congr 2
  rw [pw,show (2:Int)^(64*0)=1 from rfl,uM,vT]
  unfold vw;omega
 ·rw [q] at first n1 n2 n3 pw ⊢
  rw [Zat];refine Eq.trans (first _ [0,0,0,0] (by omega)) ?_
  rw [Zat];refine Eq.trans (n1 _ [0,A,0,0] _ (by omega) rfl rfl rfl o1) ?_
  rw [Zat];refine Eq.trans (n2 _ [0,A,B+x,0] _ (by omega) rfl rfl rfl o2) ?_
  rw [Zat];refine Eq.trans (last _ [0,A,B+x,C+y]) ?_
  rw [←Zdk (a:=0) (b:=A) (c:=B+x) (d:=C+y) (by unfold isW;omega) (by unfold isW;omega) (by unfold isW;omega) (by unfold isW;omega)]
  congr 2
  rw [pw,show (2:Int)^(64*1)=18446744073709551616 from rfl,vY,vT]
  unfold vw;omega
 ·rw [q] at first n1 n2 n3 pw ⊢
  rw [Zat];refine Eq.trans (first _ [0,0,0,0] (by omega)) ?_
  rw [Zat];refine Eq.trans (n1 _ [0,0,A,0] _ (by omega) rfl rfl rfl o1) ?_
  rw [Zat];refine Eq.trans (last _ [0,0,A,B+x]) ?_
  rw [←Zdk (a:=0) (b:=0) (c:=A) (d:=B+x) (by unfold isW;omega) (by unfold isW;omega) (by unfold isW;omega) (by unfold isW;omega)]
  congr 2
  rw [pw,show (2:Int)^(64*2)=2^128 from rfl,vY,vT]
  unfold vw;omega
 ·rw [q] at first n1 n2 n3 pw ⊢
  rw [Zat];refine Eq.trans (first _ [0,0,0,0] (by omega)) ?_
  rw [Zat];refine Eq.trans (last _ [0,0,0,A]) ?_
  rw [←Zdk (a:=0) (b:=0) (c:=0) (d:=A) (by unfold isW;omega) (by unfold isW;omega) (by unfold isW;omega) (by unfold isW;omega)]
  congr 2
  rw [pw,show (2:Int)^(64*3)=2^192 from rfl,vY,vT]
  unfold vw;omega
theorem Zlx {x y:Int} (hx:isW x) (hy:isW y):ZaB .or .u64 x y=ZaB .or .u64 y x:=by rw [or64 hx hy,or64 hy hx,Nat.or_comm]
theorem Znx {m A S T U:Int} (hT:0<T) (hU:0<U) (hTU:T*U=18446744073709551616) (hA:0≤A∧A<18446744073709551616) (h:m*U=A+18446744073709551616*S):m/T=S:=by
 rw [←Int.mul_ediv_mul_of_pos_left m T hU,hTU,h];omega
theorem ZgU (hN:10≤N) {m:Int} (hm:isN m) (n:Nat) (hn:n<1000000) :
  ZaO N (nw m) (n:Int)=some (nw (m/2^n)):=by
 unfold ZaO
 by_cases h256:256≤n
 ·rw [if_pos (by simp;omega),Zeb]
  have:m/2^n=0:=by
   have e:(2:Int)^n=2^256*2^(n-256):=by rw [←xI,show 256+(n-256)=n by omega]
   rw [e,←xJ (by decide)]
   unfold isN at hm
   rw [show m/2^256=0 by rw [show (2:Int)^256=2^256 from rfl];omega]
   simp
  rw [this]
 rw [if_neg (by simp;omega)]
 obtain ⟨a,b,c,d,ha,hb,hc,hd,rfl⟩:=ZcR hm
 rw [Zdk ha hb hc hd]
 have hk:64-n%64≤64:=by omega
 obtain ⟨A,x,a1,a2,a3,a4,a5,a6,a7,a8⟩:=ZcJ ha hk
 obtain ⟨B,y,b1,b2,b3,b4,b5,b6,b7,b8⟩:=ZcJ hb hk
 obtain ⟨C,z,c1,c2,c3,c4,c5,c6,c7,c8⟩:=ZcJ hc hk
 obtain ⟨D,u,d1,d2,d3,d4,d5,d6,d7,d8⟩:=ZcJ hd hk
 rw [show 64-(64-n%64)=n%64 by omega] at a2 b2 c2 d2
 have pT:=ZbR (n%64)
 have pU:=ZbR (64-n%64)
 have tu:=Zec (k:=n%64) (by omega)
 have o1:=ZgE hk b3 b4 b8 a5 a6
 have o2:=ZgE hk c3 c4 c8 b5 b6
 have o3:=ZgE hk d3 d4 d8 c5 c6
 rw [Zlx (by unfold isW;omega) (by unfold isW;omega),Int.add_comm] at o1 o2 o3
 have hq:zY (if (0:Int)>(n:Int) then 0 else (n:Int)) 64=((n/64:Nat):Int):=by rw [if_neg (by omega),uN (by omega)];omega
 have hr:yK (if (0:Int)>(n:Int) then 0 else (n:Int)) 64=((n%64:Nat):Int):=by rw [if_neg (by omega),wR (by omega)];omega
 obtain ⟨N,rfl⟩ : ∃q,N=q+5:=⟨N-5,by omega⟩
 have top : ∀(G:Int×List Int→Option (List Int)) (j:Nat) (l:List Int) (s X:Int),n/64+j=3→[a,b,c,d].getD 3 0=s→ZaR .u64 s ((n%64:Nat):Int)=X →
   ZaO.p1 (N+5) (n:Int) [a,b,c,d] G ((j:Int),l)=G ((j:Int)+1,l.set j X):=fun G j l s X hl hs hX=>by
  unfold ZaO.p1
  dsimp only
  rw [hq,hr,ZaK (n:=((n/64:Nat):Int)) (by omega) (by omega),show (4:Int)-((n/64:Nat):Int)=((4-n/64:Nat):Int) by omega,ZaK (n:=((4-n/64:Nat):Int)) (by omega) (by omega),show ((j:Int)+((n/64:Nat):Int))=((3:Nat):Int) by omega,ZaK (n:=((3:Nat):Int)) (by omega) (by omega),if_pos (by simp;omega),Zan (by omega),Zan (by omega),Zan (by omega),Zan (by omega),Zan (by omega),if_neg (by rw [ZaK (by omega) (by omega)];simp)]
  unfold ZaO.p2
  rw [ZaK (by omega) (by omega),zH,zH,hs,hX]
 have next : ∀(G:Int×List Int→Option (List Int)) (j:Nat) (l:List Int) (s t X:Int),n/64+j<3→l.length=4→[a,b,c,d].getD (n/64+j) 0=s→[a,b,c,d].getD (n/64+j+1) 0=t →
   ZaB .or .u64 (ZaR .u64 s ((n%64:Nat):Int)) (Zbf .u64 t ((64-n%64:Nat):Int))=X →
   ZaO.p1 (N+5) (n:Int) [a,b,c,d] G ((j:Int),l)=G ((j:Int)+1,l.set j X):=fun G j l s t X hl hl4 hs ht hX=>by
  unfold ZaO.p1
  dsimp only
  rw [hq,hr,ZaK (n:=((n/64:Nat):Int)) (by omega) (by omega),show (4:Int)-((n/64:Nat):Int)=((4-n/64:Nat):Int) by omega,ZaK (n:=((4-n/64:Nat):Int)) (by omega) (by omega),show ((j:Int)+((n/64:Nat):Int))=((n/64+j:Nat):Int) by omega,ZaK (n:=((n/64+j:Nat):Int)) (by omega) (by omega),show ((n/64+j:Nat):Int)+1=((n/64+j+1:Nat):Int) by omega,ZaK (n:=((n/64+j+1:Nat):Int)) (by omega) (by omega),show (64:Int)-((n%64:Nat):Int)=((64-n%64:Nat):Int) by omega,ZaK (n:=((64-n%64:Nat):Int)) (by omega) (by omega),
   if_pos (by simp;omega),Zan (by omega),Zan (by omega),Zan (by omega),Zan (by omega),Zan (by omega),if_pos (by simp;omega),Zan (by omega),Zan (by omega)]
  unfold ZaO.p2
  rw [ZaK (by omega) (by omega),zH,zH,zH,hs,ht,xH]
  have:(l.set j (ZaR .u64 s ((n%64:Nat):Int))).getD j 0=ZaR .u64 s ((n%64:Nat):Int):=by
   rw [vP,zQ (by omega)];rfl
  rw [this,hX]
 have last : ∀(G:Int×List Int→Option (List Int)) (l:List Int) (j:Nat),n/64+j=4→ZaO.p1 (N+5) (n:Int) [a,b,c,d] G ((j:Int),l)=some l:=fun G l j hj=>by
  unfold ZaO.p1
  dsimp only
  rw [hq,ZaK (n:=((n/64:Nat):Int)) (by omega) (by omega),ZaK (by omega) (by omega),if_neg (by simp;omega)]
 have pw:=Zlu n
 have cases4:n/64=0∨n/64=1∨n/64=2∨n/64=3:=by omega
 have fin : ∀(a b c d A S:Int),isW A→vw a b c d*2^(64-n%64)=A+18446744073709551616*S→vw a b c d/2^(n%64)=S:=fun a b c d A S hA h=>Znx pT pU tu hA h
 have vT : ∀(a b c d A B C D x y z u:Int),a*2^(64-n%64)=A+18446744073709551616*x→b*2^(64-n%64)=B+18446744073709551616*y→c*2^(64-n%64)=C+18446744073709551616*z→d*2^(64-n%64)=D+18446744073709551616*u →
   vw a b c d*2^(64-n%64)=A+18446744073709551616*vw (x+B) (y+C) (z+D) u:=fun a b c d A B C D x y z u a7 b7 c7 d7=>by
  have:vw a b c d*2^(64-n%64)=A+18446744073709551616*x+18446744073709551616*(B+18446744073709551616*y)+2^128*(C+18446744073709551616*z)+2^192*(D+18446744073709551616*u):=by
   rw [←a7,←b7,←c7,←d7]
   unfold vw
   rw [yO,yO,yO,yB,yB,yB]
  rw [this];unfold vw;omega
 have z0:(0:Int)*2^(64-n%64)=0+18446744073709551616*0:=by omega
 have W0:isW A∧isW B∧isW C∧isW D:=by unfold isW;omega
 rcases cases4 with q | q | q | q
 ·rw [q] at next top last pw
  rw [Zat];refine Eq.trans (next _ 0 [0,0,0,0] a b (x+B) (by omega) rfl rfl rfl (by rw [a2,b1];exact o1)) ?_
  rw [Zat];refine Eq.trans (next _ 1 [_,0,0,0] b c (y+C) (by omega) rfl rfl rfl (by rw [b2,c1];exact o2)) ?_
  rw [Zat];refine Eq.trans (next _ 2 [_,_,0,0] c d (z+D) (by omega) rfl rfl rfl (by rw [c2,d1];exact o3)) ?_
  rw [Zat];refine Eq.trans (top _ 3 [_,_,_,0] _ _ (by omega) rfl d2) ?_
  rw [Zat];refine Eq.trans (last _ _ 4 (by omega)) ?_
  rw [pw,show (2:Int)^(64*0)=1 from rfl,uM,fin a b c d A _ W0.1 (vT _ _ _ _ _ _ _ _ _ _ _ _ a7 b7 c7 d7),Zdk (by unfold isW;omega) (by unfold isW;omega) (by unfold isW;omega) (by unfold isW;omega)]
  simp
 ·rw [q] at next top last pw
  rw [Zat];refine Eq.trans (next _ 0 [0,0,0,0] b c (y+C) (by omega) rfl rfl rfl (by rw [b2,c1];exact o2)) ?_
  rw [Zat];refine Eq.trans (next _ 1 [_,0,0,0] c d (z+D) (by omega) rfl rfl rfl (by rw [c2,d1];exact o3)) ?_
  rw [Zat];refine Eq.trans (top _ 2 [_,_,0,0] _ _ (by omega) rfl d2) ?_
  rw [Zat];refine Eq.trans (last _ _ 3 (by omega)) ?_
  have:vw a b c d/18446744073709551616=vw b c d 0:=by unfold isW vw at *;omega
  rw [pw,show (2:Int)^(64*1)=18446744073709551616 from rfl,←xJ (by omega),this,fin b c d 0 B _ W0.2.1 (vT _ _ _ _ _ _ _ _ _ _ _ _ b7 c7 d7 z0),Zdk (by unfold isW;omega) (by unfold isW;omega) (by unfold isW;omega) (by unfold isW;omega)]
  simp
 ·rw [q] at next top last pw
  rw [Zat];refine Eq.trans (next _ 0 [0,0,0,0] c d (z+D) (by omega) rfl rfl rfl (by rw [c2,d1];exact o3)) ?_
  rw [Zat];refine Eq.trans (top _ 1 [_,0,0,0] _ _ (by omega) rfl d2) ?_
  rw [Zat];refine Eq.trans (last _ _ 2 (by omega)) ?_
  have:vw a b c d/2^128=vw c d 0 0:=by unfold isW vw at *;omega
  rw [pw,show (2:Int)^(64*2)=2^128 from rfl,←xJ (by omega),this,fin c d 0 0 C _ W0.2.2.1 (vT _ _ _ _ _ _ _ _ _ _ _ _ c7 d7 z0 z0),Zdk (by unfold isW;omega) (by unfold isW;omega) (by unfold isW;omega) (by unfold isW;omega)]
  simp
 ·rw [q] at next top last pw
  rw [Zat];refine Eq.trans (top _ 0 [0,0,0,0] _ _ (by omega) rfl d2) ?_
  rw [Zat];refine Eq.trans (last _ _ 1 (by omega)) ?_
  have:vw a b c d/2^192=vw d 0 0 0:=by unfold isW vw at *;omega
  rw [pw,show (2:Int)^(64*3)=2^192 from rfl,←xJ (by omega),this,fin d 0 0 0 D _ W0.2.2.2 (vT _ _ _ _ _ _ _ _ _ _ _ _ d7 z0 z0 z0),Zdk (by unfold isW;omega) (by unfold isW;omega) (by unfold isW;omega) (by unfold isW;omega)]
  simp
theorem ZnC {x:Int} (hx:isW x) (k:Nat) (hk:k≤64):ZaB .and .u64 x (2^k-1)=x%2^k:=by
 have p:=ZbR k
 have q:=ZbR (64-k)
 have s:=Zec hk
 have l:(2:Int)^k≤18446744073709551616:=by
  have:=wZ (show (1:Int)≤2^(64-k) by omega) (show (0:Int)≤2^k by omega)
  omega
 rw [and64 hx (by unfold isW;omega)]
 have:((2:Int)^k-1).toNat=2^k-1:=by
  have:((2^k:Nat):Int)=(2:Int)^k:=by push_cast;rfl
  omega
 rw [this,tI]
 unfold isW at hx
 push_cast
 rw [tY hx.1]
theorem Zqh {x:Int} (hx:isW x):ZaB .and .u64 x 4294967295=x%4294967296:=ZnC hx 32 (by omega)
theorem Zli (x:Int):ZaR .u64 x 32=x/4294967296:=Zkf x (k:=32) (by omega)
theorem mul64 {x y:Int} (hx:isW x) (hy:isW y):ZbV N x y=some (x*y/18446744073709551616,x*y%18446744073709551616):=by
 unfold ZbV
 rw [Zli x,Zli y,Zqh hx,Zqh hy]
 unfold isW at hx hy
 obtain ⟨x1,x0,ex,hx1,hx2,hx3,hx4⟩ : ∃x1 x0:Int,x=x1*4294967296+x0∧0≤x1∧x1≤4294967295∧0≤x0∧x0≤4294967295:=⟨x/4294967296,x%4294967296,by omega,by omega,by omega,by omega,by omega⟩
 obtain ⟨y1,y0,ey,hy1,hy2,hy3,hy4⟩ : ∃x1 x0:Int,y=x1*4294967296+x0∧0≤x1∧x1≤4294967295∧0≤x0∧x0≤4294967295:=⟨y/4294967296,y%4294967296,by omega,by omega,by omega,by omega,by omega⟩
 rw [show x/4294967296=x1 by omega,show x%4294967296=x0 by omega,show y/4294967296=y1 by omega,show y%4294967296=y0 by omega]
 have b : ∀{u v:Int},0≤u→u≤4294967295→0≤v→v≤4294967295→0≤u*v∧u*v≤18446744065119617025:=fun h1 h2 h3 h4=>⟨wE h1 h3,by
  have:=uZ h2 h4 h3 (by omega:(0:Int)≤4294967295)
  omega⟩
 obtain ⟨p1,p2⟩:=b hx1 hx2 hy1 hy2
 obtain ⟨q1,q2⟩:=b hx1 hx2 hy3 hy4
 obtain ⟨r1,r2⟩:=b hx3 hx4 hy1 hy2
 obtain ⟨s1,s2⟩:=b hx3 hx4 hy3 hy4
 have prod:x*y=18446744073709551616*(x1*y1)+4294967296*(x1*y0)+4294967296*(x0*y1)+x0*y0:=by
  rw [ex,ey,yO,rR,rR]
  have e1:x1*4294967296*(y1*4294967296)=18446744073709551616*(x1*y1):=by
   rw [yB,vY 4294967296 y1,←yB x1 y1];omega
  have e2:x1*4294967296*y0=4294967296*(x1*y0):=by rw [xB x1,yB]
  have e3:x0*(y1*4294967296)=4294967296*(x0*y1):=by rw [←yB,xB]
  rw [e1,e2,e3];omega
 rw [prod]
 generalize x1*y1=P at *
 generalize x1*y0=Q at *
 generalize x0*y1=R at *
 generalize x0*y0=S at *
 rw [Zcr (n:=S) (by omega) (by omega),Zcr (n:=Q) (by omega) (by omega),Zcr (n:=R) (by omega) (by omega),Zcr (n:=P) (by omega) (by omega),Zli S,Zcr (n:=Q+S/4294967296) (by omega) (by omega),Zli,Zqh (by unfold isW;omega),Zcr (n:=P+(Q+S/4294967296)/4294967296) (by omega) (by omega),Zcr (n:=(Q+S/4294967296)%4294967296+R) (by omega) (by omega),Zli,Zcr (by omega) (by omega),Zev]
 have:P+(Q+S/4294967296)/4294967296+((Q+S/4294967296)%4294967296+R)/4294967296=(18446744073709551616*P+4294967296*Q+4294967296*R+S)/18446744073709551616:=by omega
 rw [this]
theorem mulc {x y c:Int} (hx:isW x) (hy:isW y) (hc:isW c) : ∃hi lo s c':Int,ZbV N x y=some (hi,lo)∧ZcW N lo c 0=some (s,c')∧isW s∧isW (v64 (hi+c'))∧s+18446744073709551616*(v64 (hi+c'))=x*y+c:=by
 have h:=mul64 (N:=N) hx hy
 obtain ⟨s,c',e,k,l,m,n⟩:=Zqj (N:=N) (x:=x*y%18446744073709551616) (y:=c) (c:=0) (by unfold isW;omega) hc (by omega)
 refine ⟨_,_,s,c',h,e,k,?_⟩
 have:0≤x*y∧x*y≤340282366920938463426481119284349108225:=by
  unfold isW at hx hy
  refine ⟨wE hx.1 hy.1,?_⟩
  have:=uZ (show x≤18446744073709551615 by omega) (show y≤18446744073709551615 by omega) hy.1 (by omega)
  omega
 unfold isW at *
 generalize x*y=P at *
 rw [Zcr (by omega) (by omega)]
 omega
theorem Zjt (hN:10≤N) {m y:Int} (hm:isN m) (hy:isW y) :
  Zbx N (nw m) y=some (nw (m*y%2^256),decide (2^256≤m*y)):=by
 obtain ⟨a,b,c,d,ha,hb,hc,hd,rfl⟩:=ZcR hm
 rw [Zdk ha hb hc hd]
 obtain ⟨N,rfl⟩ : ∃q,N=q+5:=⟨N-5,by omega⟩
 obtain ⟨x0,l0,s0,c0,e0,f0,g0,h0,i0⟩:=mulc (N:=N+5) ha hy isW0
 obtain ⟨x1,l1,s1,c1,e1,f1,g1,h1,i1⟩:=mulc (N:=N+5) hb hy h0
 obtain ⟨x2,l2,s2,c2,e2,f2,g2,h2,i2⟩:=mulc (N:=N+5) hc hy h1
 obtain ⟨x3,l3,s3,c3,e3,f3,g3,h3,i3⟩:=mulc (N:=N+5) hd hy h2
 unfold Zbx
 have t : ∀(G:Int×Int×List Int→Option (List Int×Bool)) (j:Nat) (l:List Int) (c hi lo s c':Int),j<4→ZbV (N+5) (l.getD j 0) y=some (hi,lo)→ZcW (N+5) lo c 0=some (s,c') →
   Zbx.p1 (N+5) y G (c,(j:Int),l)=G (v64 (hi+c'),(j:Int)+1,l.set j s):=fun G j l c hi lo s c' hj h h'=>by
  unfold Zbx.p1
  dsimp only
  rw [if_pos (by simp;omega),Zan (by omega),zH,h,Zac]
  dsimp only
  rw [h',Zac,ZaK (by omega) (by omega)]
 have u : ∀(G:Int×Int×List Int→Option (List Int×Bool)) (l:List Int) (c:Int),Zbx.p1 (N+5) y G (c,4,l)=some (l,c != 0):=fun G l c=>by
  unfold Zbx.p1
  dsimp only
  rw [if_neg (by simp)]
 rw [Zat]
 refine Eq.trans (t _ 0 [a,b,c,d] 0 x0 l0 s0 c0 (by omega) e0 f0) ?_
 rw [Zat]
 refine Eq.trans (t _ 1 [s0,b,c,d] _ x1 l1 s1 c1 (by omega) e1 f1) ?_
 rw [Zat]
 refine Eq.trans (t _ 2 [s0,s1,c,d] _ x2 l2 s2 c2 (by omega) e2 f2) ?_
 rw [Zat]
 refine Eq.trans (t _ 3 [s0,s1,s2,d] _ x3 l3 s3 c3 (by omega) e3 f3) ?_
 rw [Zat]
 refine Eq.trans (u _ [s0,s1,s2,s3] _) ?_
 rw [←Zdk g0 g1 g2 g3]
 have ex:vw a b c d*y=a*y+18446744073709551616*(b*y)+2^128*(c*y)+2^192*(d*y):=by
  unfold vw
  rw [yO,yO,yO,yB,yB,yB]
 have key:vw a b c d*y=vw s0 s1 s2 s3+2^256*(v64 (x3+c3)):=by rw [ex];unfold vw;omega
 have r:=Ziz g0 g1 g2 g3
 unfold isN at r
 unfold isW at h3
 have e5:(vw a b c d*y)%2^256=vw s0 s1 s2 s3:=by omega
 rw [e5]
 have e6:(v64 (x3+c3) != 0)=decide (2^256≤vw a b c d*y):=by
  rw [wH];simp only [bne_iff_ne,ne_eq,decide_eq_true_eq];omega
 rw [e6]
end Go.Dn.F
set_option maxRecDepth 40000
namespace Go.Dn.F
open Go.Dn
variable {N:Nat}
def Zfy (x:Int):Nat:=if x.toNat=0 then 0 else qL x.toNat+1
theorem ZgS {x:Int} {k:Nat} (h:x<2^k):Zfy x≤k:=by
 unfold Zfy
 split
 ·omega
 ·rename_i h0
  have:x.toNat<2^k:=by
   have:((2^k:Nat):Int)=(2:Int)^k:=by push_cast;rfl
   omega
  have:=(Nat.log2_lt h0).2 this
  omega
theorem blen_gt {x:Int} {k:Nat} (h:2^k≤x):k<Zfy x:=by
 unfold Zfy
 have c:((2^k:Nat):Int)=(2:Int)^k:=by push_cast;rfl
 have p:=Nat.two_pow_pos k
 have:2^k≤x.toNat:=by omega
 rw [if_neg (by omega)]
 have:=(Nat.le_log2 (by omega)).2 this
 omega
theorem blen_eq {x:Int} {k:Nat} (h:2^k≤x) (h2:x<2^(k+1)):Zfy x=k+1:=by
 have:=ZgS h2
 have:=blen_gt h
 omega
theorem ZkR {x:Int} (h:0≤x):x<2^Zfy x:=by
 unfold Zfy
 split
 ·have:x=0:=by omega
  subst this;decide
 ·rename_i h0
  have:=@Nat.lt_log2_self x.toNat
  have c:((2^(qL x.toNat+1):Nat):Int)=(2:Int)^(qL x.toNat+1):=by push_cast;rfl
  omega
theorem Zqa {x:Int} (h:0<x):2^(Zfy x-1)≤x∧0<Zfy x:=by
 unfold Zfy
 rw [if_neg (by omega)]
 have:=Nat.log2_self_le (n:=x.toNat) (by omega)
 have c:((2^(qL x.toNat):Nat):Int)=(2:Int)^(qL x.toNat):=by push_cast;rfl
 rw [Nat.add_sub_cancel]
 omega
theorem ZeN {x:Int} (k:Nat) (h:0≤x) (h2:2^k≤x):Zfy x=k+Zfy (x/2^k):=by
 have p:=ZbR k
 have q:0<x/2^k:=uR (by omega) ((Int.le_ediv_iff_mul_le p).2 (by omega:(1:Int)*2^k≤x))
 have a:=ZkR (x:=x/2^k) (by omega)
 obtain ⟨b,b0⟩:=Zqa q
 have e:=yY x (2^k)
 have r0:=wS x (b:=2^k) (by omega)
 have r1:=wU x p
 obtain ⟨j,hj⟩ : ∃j,Zfy (x/2^k)=j+1:=⟨Zfy (x/2^k)-1,by omega⟩
 rw [hj] at a b ⊢
 rw [Nat.add_sub_cancel] at b
 refine blen_eq (k:=k+j) ?_ ?_
 ·rw [xI]
  have:=wZ b (show (0:Int)≤2^k by omega)
  rw [xB (2^k) (x/2^k)] at this
  omega
 ·rw [show k+j+1=k+(j+1) by omega,xI]
  have:=wZ (show x/2^k+1≤2^(j+1) by omega) (show (0:Int)≤2^k by omega)
  rw [rR,xB (2^k) (x/2^k),rS] at this
  omega
def tab8:List UInt8:=(List.range 256).map fun i:Nat=>UInt8.ofNat (Zfy (i:Int))
theorem Zni (x:Int) (hx:0≤x∧x<256) (n:Int) (hn:0≤n∧n<1000):Zar.p3 N x n=some (n+Zfy x):=by
 unfold Zar.p3
 rw [v8_id hx.1 hx.2,Zan hx.1]
 rw [Zan (by
  refine uR hx.2 ?_
  decide +kernel)]
 have tb : ∀i:Fin 256,(UInt8.toNat (zG tab8 i.val 0):Nat)=Zfy (i.val:Int):=by decide +kernel
 have:=tb ⟨x.toNat,by omega⟩
 rw [show ((x.toNat:Nat):Int)=x by omega] at this
 have te:(UInt8.toNat (zG tab8 (zE x) 0))=Zfy x:=this
 have hb:Zfy x≤8:=ZgS (k:=8) (by omega)
 rw [show ∀(l:List UInt8),l=tab8→(UInt8.toNat (zG l (zE x) 0))=Zfy x from fun l e=>by rw [e];exact te]
 ·rw [ZaK (n:=(Zfy x:Int)) (by omega) (by omega),ZaK (by omega) (by omega)]
 ·decide +kernel
theorem len64 {x:Int} (hx:isW x):Zar N x=some (Zfy x:Int):=by
 have sh : ∀y:Int,ZaR .u64 y 16=y/65536:=fun y=>Zkf y (k:=16) (by omega)
 have sh8 : ∀y:Int,ZaR .u64 y 8=y/256:=fun y=>Zkf y (k:=8) (by omega)
 unfold isW at hx
 have p2 : ∀(y n:Int),0≤y∧y<65536→0≤n∧n<900→Zar.p2 N y n=some (n+Zfy y):=fun y n hy hn=>by
  unfold Zar.p2
  by_cases h:256≤y
  ·rw [if_pos (by simpa using h),sh8,ZaK (by omega) (by omega),Zni _ (by omega) _ (by omega),ZeN (x:=y) 8 (by omega) (by omega),show (2:Int)^8=256 from rfl]
   congr 1;omega
  ·rw [if_neg (by simpa using h),Zni _ (by omega) _ (by omega)]
 have p1 : ∀(y n:Int),0≤y∧y<4294967296→0≤n∧n<800→Zar.p1 N y n=some (n+Zfy y):=fun y n hy hn=>by
  unfold Zar.p1
  by_cases h:65536≤y
  ·rw [if_pos (by simpa using h),sh,ZaK (by omega) (by omega),p2 _ _ (by omega) (by omega),ZeN (x:=y) 16 (by omega) (by omega),show (2:Int)^16=65536 from rfl]
   congr 1;omega
  ·rw [if_neg (by simpa using h),p2 _ _ (by omega) (by omega)]
 unfold Zar
 by_cases h:4294967296≤x
 ·rw [if_pos (by simpa using h),Zli,p1 _ _ (by omega) (by omega),ZeN (x:=x) 32 (by omega) (by omega),show (2:Int)^32=4294967296 from rfl]
  congr 1
 ·rw [if_neg (by simpa using h),p1 _ _ (by omega) (by omega),qM]
theorem ZhW (hN:10≤N) {m:Int} (hm:isN m):ZbM N (nw m)=some (Zfy m:Int):=by
 obtain ⟨a,b,c,d,ha,hb,hc,hd,rfl⟩:=ZcR hm
 rw [Zdk ha hb hc hd]
 obtain ⟨N,rfl⟩ : ∃q,N=q+5:=⟨N-5,by omega⟩
 have bl : ∀{x:Int},isW x→Zfy x≤64:=fun h=>ZgS (by unfold isW at h;exact h.2)
 unfold ZbM
 have t : ∀(G:Int→Option Int) (j:Nat) (x:Int),j<4→[a,b,c,d].getD j 0=x→isW x→ZbM.p1 (N+5) [a,b,c,d] G (j:Int)=if x≠0 then some ((64*j+Zfy x:Nat):Int) else G ((j:Int)-1):=fun G j x hj h hx=>by
  have:=bl hx
  unfold ZbM.p1
  rw [if_pos (by simp),Zan (by omega),Zan (by omega),zH,h,len64 hx,Zac,ZaK (n:=64*(j:Int)) (by omega) (by omega),ZaK (by omega) (by omega),ZaK (by omega) (by omega)]
  simp only [bne_iff_ne]
  push_cast
  rfl
 have u : ∀G:Int→Option Int,ZbM.p1 (N+5) [a,b,c,d] G (-1)=some 0:=fun G=>by
  unfold ZbM.p1
  rw [if_neg (by simp)]
 rw [Zat]
 refine Eq.trans (t _ 3 d (by omega) rfl hd) ?_
 have ha':=ha;have hb':=hb;have hc':=hc;have hd':=hd
 unfold isW at ha' hb' hc' hd'
 by_cases h3:d=0
 ·rw [if_neg (by simpa using h3),Zat]
  refine Eq.trans (t _ 2 c (by omega) rfl hc) ?_
  by_cases h2:c=0
  ·rw [if_neg (by simpa using h2),Zat]
   refine Eq.trans (t _ 1 b (by omega) rfl hb) ?_
   by_cases h1:b=0
   ·rw [if_neg (by simpa using h1),Zat]
    refine Eq.trans (t _ 0 a (by omega) rfl ha) ?_
    have:vw a b c d=a:=by unfold vw;omega
    rw [this]
    by_cases h0:a=0
    ·rw [if_neg (by simpa using h0),Zat]
     refine Eq.trans (u _) ?_
     rw [h0];rfl
    ·rw [if_pos h0];congr 2;omega
   ·rw [if_pos h1]
    have e:vw a b c d/2^64=b:=by rw [show (2:Int)^64=18446744073709551616 from rfl];unfold vw;omega
    rw [ZeN (x:=vw a b c d) 64 (by unfold vw;omega) (by rw [show (2:Int)^64=18446744073709551616 from rfl];unfold vw;omega),e]
  ·rw [if_pos h2]
   have e:vw a b c d/2^128=c:=by rw [show (2:Int)^128=2^128 from rfl];unfold vw;omega
   rw [ZeN (x:=vw a b c d) 128 (by unfold vw;omega) (by rw [show (2:Int)^128=2^128 from rfl];unfold vw;omega),e]
 ·rw [if_pos h3]
  have e:vw a b c d/2^192=d:=by rw [show (2:Int)^192=2^192 from rfl];unfold vw;omega
  rw [ZeN (x:=vw a b c d) 192 (by unfold vw;omega) (by rw [show (2:Int)^192=2^192 from rfl];unfold vw;omega),e]
theorem ZeS {a b:Int} (h:0≤a):zY a b=a/b:=uN h
theorem ZgJ {a b:Int} (h:0≤a):yK a b=a%b:=wR h
theorem div_two {M y T V q1 q0 R R2 un1 un0 un32:Int} (hT:0<T) (hy:y*T=V*4294967296) (hM:M*T=un32*18446744073709551616+un1*4294967296+un0)
  (h1:un32=q1*V+R) (h2:R*4294967296+un1=q0*V+R2) (hR2:0≤R2∧R2<V) (h0:0≤un0∧un0<4294967296) (hy0:0<y) :
  (q1*4294967296+q0)=M/y∧(R2*4294967296+un0)/T=M%y:=by
 have k:M*T=(q1*4294967296+q0)*y*T+(R2*4294967296+un0):=by
  have e1:(q1*4294967296+q0)*y*T=(q1*V)*18446744073709551616+(q0*V)*4294967296:=by
   rw [yB,hy,yO,←yB q0,yB q1,vY 4294967296 V,←yB q1 V];omega
  rw [e1,hM,h1]
  rw [yO]
  omega
 have e:(M-(q1*4294967296+q0)*y)*T=R2*4294967296+un0:=by rw [Int.sub_mul];omega
 have lt:(M-(q1*4294967296+q0)*y)*T<y*T:=by rw [e,hy];omega
 have lt':=Int.lt_of_mul_lt_mul_right lt (vW hT)
 have ge:0*T≤(M-(q1*4294967296+q0)*y)*T:=by rw [e];omega
 have ge':=Int.le_of_mul_le_mul_right ge hT
 have d:=(tQ hy0 (a:=M) (b:=y) (q:=q1*4294967296+q0) (r:=M-(q1*4294967296+q0)*y)).2 ⟨by rw [xB y];omega,ge',lt'⟩
 refine ⟨d.1.symm,?_⟩
 rw [←e,Int.mul_ediv_cancel _ (by omega),d.2]
theorem div64 (hN:10≤N) {hi lo y:Int} (hy0:0<y) (hy:y<4294967296) (h0:0≤hi) (h1:hi<y) (hl:isW lo) :
  Zag N hi lo y=some ((hi*18446744073709551616+lo)/y,(hi*18446744073709551616+lo)%y):=by
 have hl':=hl
 unfold isW at hl'
 unfold Zag
 rw [if_neg (by simp;omega),if_neg (by simp;omega)]
 by_cases hz:hi=0
 ·subst hz
  rw [if_pos (by rfl),Zan (by omega),ZeS hl'.1,ZgJ hl'.1,Int.zero_mul,qM]
  have:lo/y≤lo:=uB _ hl'.1
  have:0≤lo/y:=xK hl'.1 (by omega)
  rw [Zcr (by omega) (by omega)]
 rw [if_neg (by simpa using hz)]
 have by1:=ZgS (x:=y) (k:=32) (by rw [show (2:Int)^32=4294967296 from rfl];omega)
 obtain ⟨by2,by3⟩:=Zqa hy0
 have by4:=ZkR (x:=y) (by omega)
 obtain ⟨s,hs,hs1,hs2⟩ : ∃s:Nat,64-s=Zfy y∧32≤s∧s<64:=⟨64-Zfy y,by omega,by omega,by omega⟩
 have lz:Zbo N y=some (s:Int):=by
  unfold Zbo
  rw [len64 (by unfold isW;omega),Zac,ZaK (by omega) (by omega),←hs]
  congr 1;omega
 rw [lz,Zac]
 have vs:v64 (s:Int)=(s:Int):=Zcr (by omega) (by omega)
 have vs':v64 (64-(s:Int))=((64-s:Nat):Int):=by rw [Zcr (by omega) (by omega)];omega
 have pT:=ZbR s
 have split:=Zec (k:=s) (by omega)
 have t32:(2:Int)^s=2^(s-32)*4294967296:=by rw [show (4294967296:Int)=2^32 from rfl,←xI,show s-32+32=s by omega]
 rw [hs] at split
 have Ylt:y*2^s<18446744073709551616:=by
  have:=uK by4 pT
  rw [xB (2^Zfy y),split] at this
  exact this
 have Yge:0<y*2^s:=Int.mul_pos hy0 pT
 have eY:Zbf .u64 y (v64 (s:Int))=y*2^s:=by rw [vs,ZoN y (by omega)];omega
 have yV:y*2^s=y*2^(s-32)*4294967296:=by rw [t32,yB]
 obtain ⟨A,h,a1,a2,a3,a4,a5,a6,a7,a8⟩:=ZcJ hl (k:=s) (by omega)
 have hiA:Zbf .u64 hi (v64 (s:Int))=hi*2^s:=by
  rw [vs,ZoN hi (by omega)]
  have:=uK h1 pT
  have:0≤hi*2^s:=wE h0 (by omega)
  omega
 have hi1:(hi+1)*2^s≤y*2^s:=wV (by omega) (by omega)
 rw [yO,uM] at hi1
 have hi0:0≤hi*2^s:=wE h0 (by omega)
 have eU:ZaB .or .u64 (Zbf .u64 hi (v64 (s:Int))) (ZaR .u64 lo (v64 (64-v64 (s:Int))))=hi*2^s+h:=by
  rw [hiA,vs,vs',a2]
  exact ZgE (k:=s) (by omega) hi0 (by omega) (vX _ _) a5 a6
 have eL:Zbf .u64 lo (v64 (s:Int))=A:=by rw [vs];exact a1
 have hM:(hi*18446744073709551616+lo)*2^s=(hi*2^s+h)*18446744073709551616+A/4294967296*4294967296+A%4294967296:=by
  rw [yO,a7,yB,xB 18446744073709551616,←yB,yO];omega
 have pV:0<y*2^(s-32):=Int.mul_pos hy0 (ZbR _)
 generalize hV:y*2^(s-32)=V at *
 generalize hUU:hi*2^s+h=U at *
 generalize hTT:(2:Int)^s=T at *
 have eV:ZaR .u64 (y*T) 32=V:=by rw [Zli];omega
 have eZ:ZaB .and .u64 (y*T) 4294967295=0:=by rw [Zqh (by unfold isW;omega)];omega
 have eA1:ZaR .u64 A 32=A/4294967296:=Zli A
 have eA0:ZaB .and .u64 A 4294967295=A%4294967296:=Zqh (by unfold isW;omega)
 have U0:0≤U∧U<V*4294967296:=by omega
 have dU:=yY U V
 have rU0:=wS U (b:=V) (by omega)
 have rU1:=wU U pV
 have qU0:0≤U/V:=xK U0.1 (by omega)
 have qU1:U/V<4294967296:=wK pV (by rw [xB];exact U0.2)
 generalize hq1:U/V=q1 at *
 generalize hR:U%V=R at *
 have mq1:0≤q1*V:=wE qU0 (by omega)
 have B0:0≤R*4294967296+A/4294967296∧R*4294967296+A/4294967296<V*4294967296:=by omega
 generalize hB:R*4294967296+A/4294967296=B at *
 have dB:=yY B V
 have rB0:=wS B (b:=V) (by omega)
 have rB1:=wU B pV
 have qB0:0≤B/V:=xK B0.1 (by omega)
 have qB1:B/V<4294967296:=wK pV (by rw [xB];exact B0.2)
 generalize hq0:B/V=q0 at *
 generalize hR2:B%V=R2 at *
 have mq0:0≤q0*V:=wE qB0 (by omega)
 obtain ⟨f1,f2⟩:=div_two (M:=hi*18446744073709551616+lo) (y:=y) (T:=T) (V:=V) (q1:=q1) (q0:=q0) (R:=R) (R2:=R2) (un1:=A/4294967296) (un0:=A%4294967296) (un32:=U) pT (by omega) hM dU.symm (by rw [hB];exact dB.symm) ⟨rB0,rB1⟩ (by omega) hy0
 have yq1:q1*(y*T)=(q1*V)*4294967296:=by rw [yV,←yB]
 have yq0:q0*(y*T)=(q0*V)*4294967296:=by rw [yV,←yB]
 obtain ⟨N,rfl⟩ : ∃q,N=q+1:=⟨N-1,by omega⟩
 have vB:v64 (v64 (v64 (U*4294967296)+A/4294967296)-v64 (q1*(y*T)))=B:=by
  rw [yq1,Zev,Zev,Zev,Zev];omega
 have vE:v64 (v64 (v64 (B*4294967296)+A%4294967296)-v64 (q0*(y*T)))=R2*4294967296+A%4294967296:=by
  rw [yq0,Zev,Zev,Zev,Zev];omega
 have s1 : ∀G,Zag.p1 (N+1) y (s:Int) hi lo G (q1,R)=Zag.p3 (N+1) y (s:Int) hi lo q1:=fun G=>by
  unfold Zag.p1
  dsimp only
  rw [eY,eL,eZ,eA1,if_neg (by simp;omega),Int.mul_zero,Zcr (n:=0) (by omega) (by omega),if_neg (by
   simp only [decide_eq_true_eq,gt_iff_lt,Int.not_lt]
   rw [Zev];omega)]
 have s4 : ∀G,Zag.p4 (N+1) y (s:Int) lo q1 hi G (R2,q0)=Zag.p6 (N+1) y (s:Int) lo q1 hi q0:=fun G=>by
  unfold Zag.p4
  dsimp only
  rw [eY,eL,eZ,eA0,if_neg (by simp;omega),Int.mul_zero,Zcr (n:=0) (by omega) (by omega),if_neg (by
   simp only [decide_eq_true_eq,gt_iff_lt,Int.not_lt]
   rw [Zev];omega)]
 rw [Zan (by rw [vs];omega),Zan (by rw [vs,vs'];omega),eY,eV,Zan (by omega),eU,ZeS U0.1,hq1,Zcr (n:=q1) (by omega) (by omega),Zcr (n:=q1*V) (by omega) (by omega),show U-q1*V=R by omega,Zcr (n:=R) (by omega) (by omega),Zat,s1]
 unfold Zag.p3
 rw [eY,eL,eV,eU,eA1,Zan (by omega),vB,ZeS B0.1,hq0,Zcr (n:=q0) (by omega) (by omega),Zcr (n:=q0*V) (by omega) (by omega),show B-q0*V=R2 by omega,Zcr (n:=R2) (by omega) (by omega),Zat,s4]
 unfold Zag.p6
 rw [Zan (by rw [vs];omega),eY,eL,eU,eA1,eA0,vB,vE,vs,Zkf _ (k:=s) (by omega),hTT,f2,Zcr (n:=q1*4294967296) (by omega) (by omega),Zcr (n:=q1*4294967296+q0) (by omega) (by omega),f1]
theorem Zkb (hN:10≤N) {m y:Int} (hm:isN m) (hy0:0<y) (hy:y<4294967296):ZbI N (nw m) y=some (nw (m/y),m%y):=by
 obtain ⟨a,b,c,d,ha,hb,hc,hd,rfl⟩:=ZcR hm
 rw [Zdk ha hb hc hd]
 obtain ⟨N,rfl⟩ : ∃q,N=q+5:=⟨N-5,by omega⟩
 unfold ZbI
 rw [if_neg (by simp;omega)]
 have t : ∀(G:Int×Int×List Int→Option (List Int×Int)) (j:Nat) (l:List Int) (x r q r':Int),j<4→l.getD j 0=x→isW x→0≤r→r<y→(r*18446744073709551616+x)/y=q→(r*18446744073709551616+x)%y=r' →
   ZbI.p1 (N+5) y G (r,(j:Int),l)=G (r',(j:Int)-1,l.set j q):=fun G j l x r q r' hj hx hw h0 h1 hq hr=>by
  unfold ZbI.p1
  dsimp only
  rw [if_pos (by simp),Zan (by omega),Zan (by omega),zH,hx,div64 (by omega) hy0 hy h0 h1 hw,Zac,hq,hr,ZaK (by omega) (by omega)]
 have u : ∀(G:Int×Int×List Int→Option (List Int×Int)) (l:List Int) (r:Int),ZbI.p1 (N+5) y G (r,-1,l)=some (l,r):=fun G l r=>by
  unfold ZbI.p1
  dsimp only
  rw [if_neg (by simp)]
 have step : ∀{r x:Int},0≤r→r<y→isW x→∃q r',(r*18446744073709551616+x)/y=q∧(r*18446744073709551616+x)%y=r'∧isW q∧0≤r'∧r'<y∧r*18446744073709551616+x=q*y+r':=fun {r x} h0 h1 hx=>by
  unfold isW at hx
  have e:=yY (r*18446744073709551616+x) y
  refine ⟨_,_,rfl,rfl,⟨xK (by omega) (by omega),wK hy0 ?_⟩,wS _ (by omega),wU _ hy0,e.symm⟩
  omega
 obtain ⟨q3,r3,a3,b3,c3,d3,e3,f3⟩:=step (r:=0) (x:=d) (by omega) hy0 hd
 obtain ⟨q2,r2,a2,b2,c2,d2,e2,f2⟩:=step d3 e3 hc
 obtain ⟨q1,r1,a1,b1,c1,d1,e1,f1⟩:=step d2 e2 hb
 obtain ⟨q0,r0,a0,b0,c0,d0,e0,f0⟩:=step d1 e1 ha
 rw [Zat]
 refine Eq.trans (t _ 3 [a,b,c,d] d 0 q3 r3 (by omega) rfl hd (by omega) hy0 a3 b3) ?_
 rw [Zat]
 refine Eq.trans (t _ 2 [a,b,c,q3] c r3 q2 r2 (by omega) rfl hc d3 e3 a2 b2) ?_
 rw [Zat]
 refine Eq.trans (t _ 1 [a,b,q2,q3] b r2 q1 r1 (by omega) rfl hb d2 e2 a1 b1) ?_
 rw [Zat]
 refine Eq.trans (t _ 0 [a,q1,q2,q3] a r1 q0 r0 (by omega) rfl ha d1 e1 a0 b0) ?_
 rw [Zat]
 refine Eq.trans (u _ [q0,q1,q2,q3] r0) ?_
 have key:vw a b c d=vw q0 q1 q2 q3*y+r0:=by
  have:vw q0 q1 q2 q3*y=q0*y+18446744073709551616*(q1*y)+2^128*(q2*y)+2^192*(q3*y):=by
   unfold vw
   rw [yO,yO,yO,yB,yB,yB]
  rw [this];unfold vw;omega
 have d:=(tQ hy0 (a:=vw a b c d) (q:=vw q0 q1 q2 q3) (r:=r0)).2 ⟨by rw [xB y];omega,d0,e0⟩
 rw [d.1,d.2,Zdk c0 c1 c2 c3]
def isU (x:Int):Prop:=0≤x∧x<9223372036854775808
theorem of_i (x:Int) (h:isU x):(BitVec.ofInt 64 x).toNat=x.toNat:=by
 unfold isU at h
 rw [BitVec.toNat_ofInt];omega
theorem wrapi (n:Nat) (h:n<9223372036854775808):IntKind.wrap .i64 (n:Int)=n:=ZaK (by omega) (by omega)
theorem and_i {x y:Int} (hx:isU x) (hy:isU y):ZaB .and .i64 x y=((x.toNat &&& y.toNat:Nat):Int):=by
 show IntKind.wrap .i64 (((BitVec.ofInt 64 x &&& BitVec.ofInt 64 y).toNat:Nat):Int)=_
 have:x.toNat &&& y.toNat≤x.toNat:=Nat.and_le_left
 unfold isU at *
 rw [BitVec.toNat_and,of_i x hx,of_i y hy,wrapi _ (by omega)]
theorem or_i {x y:Int} (hx:isU x) (hy:isU y):ZaB .or .i64 x y=((x.toNat ||| y.toNat:Nat):Int):=by
 show IntKind.wrap .i64 (((BitVec.ofInt 64 x ||| BitVec.ofInt 64 y).toNat:Nat):Int)=_
 have:x.toNat ||| y.toNat<2^63:=Nat.or_lt_two_pow (by unfold isU at hx;omega) (by unfold isU at hy;omega)
 rw [BitVec.toNat_or,of_i x hx,of_i y hy,wrapi _ (by omega)]
theorem and_pow2 (x i:Nat):x &&& 2^i=if x.testBit i then 2^i else 0:=by
 apply Nat.eq_of_testBit_eq
 intro j
 rw [Nat.testBit_and,vZ]
 by_cases h:i=j
 ·subst h
  cases hx:x.testBit i<;>simp [vZ]
 ·cases hx:x.testBit i<;>simp [vZ,h]
theorem and_word {b:Int} (h:isU b):ZaB .and .i64 b 8388607=b%8388608:=by
 rw [and_i h (by unfold isU;omega),show (8388607:Int).toNat=2^23-1 from rfl,tI]
 unfold isU at h
 omega
theorem ZnB {b:Int} (h:isU b):(ZaB .and .i64 b 8388608 != 0)=decide (b/8388608%2=1):=by
 rw [and_i h (by unfold isU;omega),show (8388608:Int).toNat=2^23 from rfl,and_pow2]
 have t:b.toNat.testBit 23=decide (b/8388608%2=1):=by
  rw [Nat.testBit_eq_decide_div_mod_eq]
  unfold isU at h
  rw [decide_eq_decide];omega
 rw [t]
 by_cases k:b/8388608%2=1
 ·simp [k]
 ·simp [k]
theorem ZmU {b:Int}:ZaR .i64 b 24=b/16777216:=Zml b 24 (by omega)
def Zey (b:Int):Int:=b%8388608
def ZdB (b:Int):Nat:=(b/16777216).toNat
def cN (b:Int):Int:=if ZdB b≤3 then Zey b/2^(8*(3-ZdB b)) else Zey b*2^(8*(ZdB b-3))%2^256
def cNeg (b:Int):Bool:=decide (Zey b≠0∧b/8388608%2=1)
def ZpV (b:Int):Bool:=decide (Zey b≠0∧(34<ZdB b∨255<Zey b∧33<ZdB b∨65535<Zey b∧32<ZdB b))
def ZmF (b:Int):Bool:=decide (0≤b∧b<4294967296)
def Zfh (b:Int):Int×Bool×Bool:=if ZmF b then (cN b,cNeg b,ZpV b) else (0,false,false)
theorem cN_isN {b:Int} (h:ZmF b=true):isN (cN b):=by
 simp only [ZmF,decide_eq_true_eq] at h
 unfold cN isN
 have w:0≤Zey b∧Zey b<8388608:=by unfold Zey;omega
 split
 ·have p:=ZbR (8*(3-ZdB b))
  have:Zey b/2^(8*(3-ZdB b))≤Zey b:=uB _ w.1
  have:0≤Zey b/2^(8*(3-ZdB b)):=xK w.1 (by omega)
  omega
 ·omega
theorem Zer (b:Int):isN (Zfh b).1:=by
 unfold Zfh
 split
 ·rename_i h;exact cN_isN h
 ·unfold isN;dsimp only;omega
theorem Zep (hN:10≤N) (b:Int):Zaz N b=some (nw (Zfh b).1,(Zfh b).2.1,(Zfh b).2.2):=by
 unfold Zaz
 rw [Zgi,Zac]
 cases hg:ZmF b with
 | false=>
  have:decide (0≤b∧b<4294967296)=false:=hg
  rw [this,if_pos (by rfl)]
  unfold Zfh;rw [hg,Zeb];rfl
 | true=>
  have hg':decide (0≤b∧b<4294967296)=true:=hg
  rw [hg',if_neg (by simp)]
  simp only [decide_eq_true_eq] at hg'
  have hu:isU b:=by unfold isU;omega
  have w:0≤Zey b∧Zey b<8388608:=by unfold Zey;omega
  have s:b/16777216=(ZdB b:Int):=by unfold ZdB;omega
  have s2:ZdB b<256:=by unfold ZdB;omega
  have e:ZaB .and .i64 b 8388607=Zey b:=and_word hu
  have wN:isN (Zey b):=by unfold isN;omega
  have p2 : ∀(neg:Bool) (l:List Int),Zaz.p2 N b neg l=some (l,neg,ZpV b):=fun neg l=>by
   unfold Zaz.p2
   rw [e,ZmU,s]
   simp only [bne_iff_ne,ne_eq,decide_eq_true_eq,gt_iff_lt]
   unfold ZpV
   repeat' split
   all_goals (congr 2;congr 1;rw [wH];simp only [decide_eq_true_eq,iff_true,true_iff,yE,false_iff,ne_eq];omega)
  have p1 : ∀l:List Int,Zaz.p1 N b l=some (l,cNeg b,ZpV b):=fun l=>by
   unfold Zaz.p1
   rw [e,ZnB hu,p2,p2]
   unfold cNeg
   by_cases h0:Zey b=0
   ·rw [if_neg (by simp [h0])];simp [h0]
   ·rw [if_pos (by simp [h0])];simp [h0]
  rw [e,Zcr w.1 (by omega),ZeR (by unfold isW;omega),Zac,ZmU,s]
  unfold Zfh
  rw [hg,if_pos rfl]
  dsimp only
  unfold cN
  by_cases h3:ZdB b≤3
  ·rw [if_pos (by simp;omega),if_pos h3,show (3:Int)-(ZdB b:Int)=((3-ZdB b:Nat):Int) by omega,ZaK (n:=((3-ZdB b:Nat):Int)) (by omega) (by omega),show (8:Int)*((3-ZdB b:Nat):Int)=((8*(3-ZdB b):Nat):Int) by omega,ZaK (by omega) (by omega),ZgU hN wN _ (by omega),Zac,p1]
  ·rw [if_neg (by simp;omega),if_neg h3,show (ZdB b:Int)-3=((ZdB b-3:Nat):Int) by omega,ZaK (n:=((ZdB b-3:Nat):Int)) (by omega) (by omega),show (8:Int)*((ZdB b-3:Nat):Int)=((8*(ZdB b-3):Nat):Int) by omega,ZaK (by omega) (by omega),ZgG hN wN _ (by omega),Zac,p1]
def tgt (b l:Int):Int×Bool:=
 if (Zfh b).2.1||(Zfh b).2.2||(Zfh l).2.1||(Zfh l).2.2||decide ((Zfh b).1=0)||decide ((Zfh l).1<(Zfh b).1) then (0,false) else ((Zfh b).1,true)
theorem Zmh (b l:Int):isN (tgt b l).1:=by
 unfold tgt
 split
 ·unfold isN;dsimp only;omega
 ·exact Zer b
theorem ZdR (hN:10≤N) (b l:Int):ZbK N b l=some (nw (tgt b l).1,(tgt b l).2):=by
 unfold ZbK
 rw [Zep hN,Zac]
 dsimp only
 rw [Zep hN,Zac]
 dsimp only
 unfold tgt
 have z:=Zee (N:=N) (Zer b)
 have le:=ZeC hN (Zer l) (Zer b)
 rw [z,Zac,le,Zac,Zeb]
 cases (Zfh b).2.1<;>cases (Zfh b).2.2<;>cases (Zfh l).2.1<;>cases (Zfh l).2.2<;>cases (decide ((Zfh b).1=0))<;>cases (decide ((Zfh l).1<(Zfh b).1))<;>rfl
theorem ZfY {a b:Nat} (h:a≤b):(2:Int)^a≤2^b:=by
 have e:(2:Int)^b=2^a*2^(b-a):=by rw [←xI,show a+(b-a)=b by omega]
 have p:=ZbR a
 have q:=ZbR (b-a)
 have:=wZ (show (1:Int)≤2^(b-a) by omega) (show (0:Int)≤2^a by omega)
 rw [rS] at this
 rw [e];exact this
def hv:List Int→Int
 | []=>0
 | x::l=>x+256*hv l
def bys (l:List Int):Prop:=∀x∈l,0≤x∧x<256
theorem Zpz : ∀(l:List Int) (x:Int),hv (l ++ [x])=hv l+x*2^(8*l.length)
 | [],x=>by simp [hv]
 | y::l,x=>by
  rw [List.cons_append,hv,Zpz l x,hv,List.length_cons,rR,show (2:Int)^(8*(l.length+1))=256*2^(8*l.length) by rw [show 8*(l.length+1)=8+8*l.length by omega,xI];rfl,vY x 256];omega
theorem ZkB : ∀{l:List Int},bys l→0≤hv l∧hv l<2^(8*l.length)
 | [],_=>by simp [hv]
 | y::l,h=>by
  have ih:=ZkB (l:=l) fun x hx=>h x (List.mem_cons_of_mem _ hx)
  have:=h y (by simp)
  rw [hv,List.length_cons,show (2:Int)^(8*(l.length+1))=256*2^(8*l.length) by rw [show 8*(l.length+1)=8+8*l.length by omega,xI];rfl]
  omega
def pw (j:Nat):Int:=2^(64*j)
theorem Zpe {m X:Int} {j:Nat} (hm:isN m) (hj:j<4) (hX:0≤X) (h:(nw m).getD j 0+X<18446744073709551616):(nw m).set j ((nw m).getD j 0+X)=nw (m+X*2^(64*j))∧isN (m+X*2^(64*j)):=by
 obtain ⟨a,b,c,d,ha,hb,hc,hd,rfl⟩:=ZcR hm
 rw [Zdk ha hb hc hd] at h ⊢
 have cases4:j=0∨j=1∨j=2∨j=3:=by omega
 rcases cases4 with rfl | rfl | rfl | rfl
 ·have h':a+X<18446744073709551616:=h
  have e:vw a b c d+X*2^(64*0)=vw (a+X) b c d:=by rw [show (2:Int)^(64*0)=1 from rfl];unfold vw;omega
  have w:isW (a+X):=by unfold isW at *;omega
  rw [e,Zdk w hb hc hd];exact ⟨rfl,Ziz w hb hc hd⟩
 ·have h':b+X<18446744073709551616:=h
  have e:vw a b c d+X*2^(64*1)=vw a (b+X) c d:=by rw [show (2:Int)^(64*1)=18446744073709551616 from rfl];unfold vw;omega
  have w:isW (b+X):=by unfold isW at *;omega
  rw [e,Zdk ha w hc hd];exact ⟨rfl,Ziz ha w hc hd⟩
 ·have h':c+X<18446744073709551616:=h
  have e:vw a b c d+X*2^(64*2)=vw a b (c+X) d:=by rw [show (2:Int)^(64*2)=2^128 from rfl];unfold vw;omega
  have w:isW (c+X):=by unfold isW at *;omega
  rw [e,Zdk ha hb w hd];exact ⟨rfl,Ziz ha hb w hd⟩
 ·have h':d+X<18446744073709551616:=h
  have e:vw a b c d+X*2^(64*3)=vw a b c (d+X):=by rw [show (2:Int)^(64*3)=2^192 from rfl];unfold vw;omega
  have w:isW (d+X):=by unfold isW at *;omega
  rw [e,Zdk ha hb hc w];exact ⟨rfl,Ziz ha hb hc w⟩
theorem ZiQ {m:Int} (hm:isN m) {j:Nat} (hj:j<4):(nw m).getD j 0=m/2^(64*j)%18446744073709551616:=by
 have cases4:j=0∨j=1∨j=2∨j=3:=by omega
 rcases cases4 with rfl | rfl | rfl | rfl
 ·show m%18446744073709551616=m/2^(64*0)%18446744073709551616
  rw [show (2:Int)^(64*0)=1 from rfl,Int.ediv_one]
 ·rfl
 ·rfl
 ·rfl
theorem ZhB (hN:40≤N) {h:List Int} (hl:h.length=32) (hb:bys h):Zbc N h=some (nw (hv h)):=by
 unfold Zbc
 refine ZcB (fun m (x:Int×List Int)=>∃i:Nat,i+m=32∧x=((i:Int),nw (hv (h.take i)))) ?_ N 32 _ ⟨0,by omega,?_⟩ (by omega)
 ·rintro G m _ ⟨i,hi,rfl⟩ hG
  unfold Zbc.p1
  dsimp only
  by_cases hlt:i<32
  ·have hm:bys (h.take i):=fun x hx=>hb x (List.mem_of_mem_take hx)
   have lt:=ZkB hm
   have ll:(h.take i).length=i:=by rw [List.length_take];omega
   rw [ll] at lt
   have x:=hb h[i] (List.getElem_mem (by omega))
   have e1:zY (i:Int) 8=((i/8:Nat):Int):=by rw [ZeS (by omega)];omega
   have e2:(8:Int)*yK (i:Int) 8=((8*(i%8):Nat):Int):=by rw [ZgJ (by omega)];omega
   have pk:=ZbR (8*(i%8))
   have le:(2:Int)^(8*i)=2^(64*(i/8))*2^(8*(i%8)):=by rw [←xI];congr 1;omega
   have mi:isN (hv (h.take i)):=by
    refine ⟨lt.1,uR lt.2 ?_⟩
    exact ZfY (show 8*i≤256 by omega)
   have gd:=ZiQ mi (j:=i/8) (by omega)
   have sm:hv (h.take i)/2^(64*(i/8))<2^(8*(i%8)):=wK (ZbR _) (by rw [xB,←le];exact lt.2)
   have sm0:0≤hv (h.take i)/2^(64*(i/8)):=xK lt.1 (vW (ZbR _))
   have T56:(2:Int)^(8*(i%8))*256≤18446744073709551616:=by
    have:=ZfY (show 8*(i%8)+8≤64 by omega)
    rw [xI] at this
    exact this
   rw [vG sm0 (by omega)] at gd
   have xs:(h[i]+1)*2^(8*(i%8))≤256*2^(8*(i%8)):=wV (by omega) (by omega)
   rw [yO,uM] at xs
   have xs0:0≤h[i]*2^(8*(i%8)):=wE x.1 (by omega)
   have sh:Zbf .u64 h[i] ((8*(i%8):Nat):Int)=h[i]*2^(8*(i%8)):=by rw [ZoN _ (by omega)];omega
   have or1:ZaB .or .u64 ((nw (hv (h.take i))).getD (i/8) 0) (h[i]*2^(8*(i%8)))=(nw (hv (h.take i))).getD (i/8) 0+h[i]*2^(8*(i%8)):=by
    rw [gd,Zlx (by unfold isW;omega) (by unfold isW;omega),ZgE (k:=8*(i%8)) (by omega) xs0 (by omega) (vX _ _) sm0 sm];omega
   have st:=(Zpe mi (j:=i/8) (by omega) xs0 (by rw [gd];omega)).1
   have hx:zG h i 0=h[i]:=by rw [vP,zN (by omega)];rfl
   rw [if_pos (by simp;omega),Zan (by omega),e1,e2,ZaK (n:=((i/8:Nat):Int)) (by omega) (by omega),ZaK (n:=((8*(i%8):Nat):Int)) (by omega) (by omega),Zan (by omega),Zan (by omega),Zan (by omega),zH,zH,hx,Zcr x.1 (by omega),sh,or1,st,ZaK (by omega) (by omega)]
   refine hG (m-1) _ (by omega) ⟨i+1,by omega,?_⟩
   have tk:h.take (i+1)=h.take i ++ [h[i]]:=List.take_succ_eq_append_getElem (by omega)
   rw [tk,Zpz,ll,le,yB,xB (2^(8*(i%8)))]
   rfl
  ·rw [if_neg (by simp;omega),List.take_of_length_le (by omega)]
 ·rw [Zeb];rfl
theorem hv_isN {h:List Int} (hl:h.length=32) (hb:bys h):isN (hv h):=by
 have:=ZkB hb
 rw [hl] at this
 exact this
theorem Zil (hN:40≤N) {h:List Int} (hl:h.length=32) (hb:bys h) {m:Int} (hm:isN m):Zcy N h (nw m)=some (decide (hv h≤m)):=by
 unfold Zcy
 rw [ZhB hN hl hb,Zac,ZeC (by omega) hm (hv_isN hl hb),Zac]
 refine ZeE ?_
 simp only [Bool.not_eq_true',decide_eq_false_iff_not]
 omega
def ZfM (m:Int):Nat:=(Zfy m+7)/8
def Zor (m:Int):Int:=if ZfM m≤3 then m*2^(8*(3-ZfM m)) else m/2^(8*(ZfM m-3))
def cEnc (m:Int):Int:=if 8388608≤Zor m then ((ZfM m+1:Nat):Int)*16777216+Zor m/256 else (ZfM m:Int)*16777216+Zor m
theorem Zoh {m:Int} (hm:isN m):0≤Zor m∧Zor m<16777216:=by
 unfold Zor
 unfold isN at hm
 have lt:=ZkR hm.1
 have l8:(2:Int)^Zfy m≤2^(8*ZfM m):=ZfY (show Zfy m≤8*ZfM m by unfold ZfM;omega)
 split
 ·have p:=ZbR (8*(3-ZfM m))
  refine ⟨wE hm.1 (by omega),?_⟩
  have:=uK (show m<2^(8*ZfM m) by omega) p
  rw [←xI,show 8*ZfM m+8*(3-ZfM m)=24 by omega] at this
  exact this
 ·have p:=ZbR (8*(ZfM m-3))
  refine ⟨xK hm.1 (by omega),wK p ?_⟩
  rw [show (16777216:Int)=2^24 from rfl,←xI,show 24+8*(ZfM m-3)=8*ZfM m by omega]
  omega
theorem cLen_le {m:Int} (hm:isN m):ZfM m≤32:=by
 have:=ZgS (k:=256) (x:=m) hm.2
 unfold ZfM;omega
theorem or_low {A w:Int} (hA:0≤A) (hA2:A<4294967296) (h0:0≤w) (h1:w<16777216):ZaB .or .i64 (A*16777216) w=A*16777216+w:=by
 rw [or_i (by unfold isU;omega) (by unfold isU;omega)]
 have e1:(A*16777216).toNat=A.toNat <<< 24:=by rw [tG];omega
 rw [e1,←tP (show w.toNat<2^24 by omega),tG]
 omega
theorem ZmV {s:Int} (h:0≤s∧s<1000):Zbf .i64 s 24=s*16777216:=by
 unfold Zbf
 show w64 (s*2^min (zE 24) 64)=_
 rw [show min (zE 24) 64=24 from rfl,show (2:Int)^24=16777216 from rfl,ZaK (by omega) (by omega)]
theorem bit23 {w:Int} (h:0≤w∧w<16777216):(ZaB .and .i64 w 8388608 != 0)=decide (8388608≤w):=by
 rw [ZnB (by unfold isU;omega),decide_eq_decide];omega
theorem ZhQ (hN:10≤N) {m:Int} (hm:isN m):ZaG N (nw m)=some (cEnc m):=by
 have t:=Zoh hm
 have l:=cLen_le hm
 have bl:Zfy m≤256:=ZgS hm.2
 have e:w64 (zY (w64 ((Zfy m:Int)+7)) 8)=(ZfM m:Int):=by
  rw [ZaK (n:=(Zfy m:Int)+7) (by omega) (by omega),ZeS (by omega),ZaK (by omega) (by omega)];unfold ZfM;omega
 have p1:ZaG.p1 N (Zfy m:Int) (Zor m)=some (cEnc m):=by
  unfold ZaG.p1 ZaG.p2
  rw [bit23 t,e,show ZaR .i64 (Zor m) 8=Zor m/256 from Zml (Zor m) 8 (by omega)]
  unfold cEnc
  by_cases h:8388608≤Zor m
  ·rw [if_pos (by simpa using h),if_pos h,show (ZfM m:Int)+1=((ZfM m+1:Nat):Int) by omega,ZaK (by omega) (by omega),ZmV (by omega),or_low (by omega) (by omega) (by omega) (by omega)]
  ·rw [if_neg (by simpa using h),if_neg h,ZmV (by omega),or_low (by omega) (by omega) (by omega) (by omega)]
 have low : ∀{w:Int},0≤w→w<16777216→w64 (zG (nw w) 0 0)=w:=fun {w} h0 h1=>by
  show w64 (w%18446744073709551616)=w
  rw [ZaK (by omega) (by omega)];omega
 unfold ZaG
 rw [ZhW hN hm,Zac,e]
 have ct:Zor m=if ZfM m≤3 then m*2^(8*(3-ZfM m)) else m/2^(8*(ZfM m-3)):=rfl
 by_cases h3:ZfM m≤3
 ·rw [if_pos h3] at ct
  rw [if_pos (by simp;omega),show (3:Int)-(ZfM m:Int)=((3-ZfM m:Nat):Int) by omega,ZaK (n:=((3-ZfM m:Nat):Int)) (by omega) (by omega),show (8:Int)*((3-ZfM m:Nat):Int)=((8*(3-ZfM m):Nat):Int) by omega,ZaK (n:=((8*(3-ZfM m):Nat):Int)) (by omega) (by omega),ZgG hN hm _ (by omega),Zac,←ct,vG t.1 (by omega),low t.1 t.2,p1]
 ·rw [if_neg h3] at ct
  rw [if_neg (by simp;omega),show (ZfM m:Int)-3=((ZfM m-3:Nat):Int) by omega,ZaK (n:=((ZfM m-3:Nat):Int)) (by omega) (by omega),show (8:Int)*((ZfM m-3:Nat):Int)=((8*(ZfM m-3):Nat):Int) by omega,ZaK (n:=((8*(ZfM m-3):Nat):Int)) (by omega) (by omega),ZgU hN hm _ (by omega),Zac,←ct,low t.1 t.2,p1]
def Zhd (p:Zaj):Bool:=(tgt p.Limit p.Limit).2&&decide (2≤p.Interval∧p.Interval≤64∧1≤p.Spacing∧p.Spacing≤10000∧0≤p.Future∧p.Future<4294967296)
theorem Zic (hN:10≤N) (p:Zaj):Zdj N p=some (Zhd p):=by
 unfold Zdj
 rw [ZdR hN,Zac]
 dsimp only
 unfold Zhd
 cases (tgt p.Limit p.Limit).2
 ·rfl
 ·simp only [if_pos,Bool.true_and,decide_eq_true_eq]
  repeat' split
  all_goals (congr 1;rw [wH];simp only [decide_eq_true_eq,yE,false_iff];omega)
def Zjx (p:Zaj):Int:=p.Interval*p.Spacing
theorem Zgp {p:Zaj} (h:Zhd p=true):2≤Zjx p∧Zjx p≤640000:=by
 simp only [Zhd,zO,decide_eq_true_eq] at h
 obtain ⟨_,h1,h2,h3,h4,_⟩:=h
 unfold Zjx
 have a:=uZ h1 h3 (by omega) (by omega:0≤p.Interval)
 have b:=uZ h2 h4 (by omega) (by omega:(0:Int)≤64)
 omega
def Zii (p:Zaj) (f t:Int):Int:=
 if Zjx p*4<(if Zjx p/4>w64 (t-f) then Zjx p/4 else w64 (t-f)) then Zjx p*4 else (if Zjx p/4>w64 (t-f) then Zjx p/4 else w64 (t-f))
theorem Zmt {p:Zaj} (h:Zhd p=true) (f t:Int):0≤Zii p f t∧Zii p f t≤2560000:=by
 have:=Zgp h
 unfold Zii
 split<;>split<;>omega
theorem Zov {p:Zaj} (h:Zhd p=true):w64 (p.Interval*p.Spacing)=Zjx p:=by
 have:=Zgp h
 exact ZaK (by unfold Zjx at this;omega) (by unfold Zjx at this;omega)
theorem Zlv {p:Zaj} (h:Zhd p=true) (f t:Int):ZdG N p f t=some (Zii p f t):=by
 have:=Zgp h
 unfold ZdG Zii
 rw [Zov h,ZeS (by omega),ZaK (n:=Zjx p*4) (by omega) (by omega),ZaK (n:=Zjx p/4) (by omega) (by omega)]
def retg (p:Zaj) (b f t:Int):Int:=
 if Zhd p=true∧(tgt b p.Limit).2=true∧(tgt b p.Limit).1*Zii p f t/Zjx p<2^256∧(tgt b p.Limit).1*Zii p f t/Zjx p≤(tgt p.Limit p.Limit).1
 then cEnc (if (tgt b p.Limit).1*Zii p f t/Zjx p=0 then 1 else (tgt b p.Limit).1*Zii p f t/Zjx p) else p.Limit
theorem ZpO {n S D:Int} (hD:0<D):n*S/D=n/D*S+n%D*S/D:=by
 have e:=yY n D
 have:n*S=D*(n/D*S)+n%D*S:=by
  conv=>lhs;rw [←e,yO]
  rw [Int.mul_right_comm,xB _ D]
 rw [this,Int.mul_add_ediv_left _ _ (by omega)]
theorem Zij (hN:10≤N) (p:Zaj) (b f t:Int):Zbj N p b f t=some (retg p b f t):=by
 unfold Zbj retg
 rw [ZdR hN,Zac]
 dsimp only
 rw [Zic hN,Zac]
 cases hg:Zhd p with
 | false=>rw [if_pos (by rfl),if_neg (by simp)]
 | true=>
  rw [if_neg (by simp)]
  cases ht:(tgt b p.Limit).2 with
  | false=>rw [if_pos (by rfl),if_neg (by simp)]
  | true=>
   rw [if_neg (by simp)]
   have hn:=Zmh b p.Limit
   have hL:=Zmh p.Limit p.Limit
   have D:=Zgp hg
   have S:=Zmt hg f t
   rw [Zlv hg,Zac,Zov hg,Zcr (n:=Zjx p) (by omega) (by omega),Zcr (n:=Zii p f t) (by omega) (by omega),Zkb hN hn (by omega) (by omega),Zac]
   dsimp only
   have hLt:=ZdR hN p.Limit p.Limit
   have dp:=ZpO (n:=(tgt b p.Limit).1) (S:=Zii p f t) (D:=Zjx p) (by omega)
   rw [dp]
   generalize (tgt b p.Limit).1=n at *
   generalize (tgt p.Limit p.Limit).1=L at *
   generalize Zii p f t=S' at *
   generalize Zjx p=D' at *
   have q0:isN (n/D'):=by
    unfold isN at *
    have:n/D'≤n:=uB _ hn.1
    have:0≤n/D':=xK hn.1 (by omega)
    omega
   have r0:=wS n (b:=D') (by omega)
   have r1:=wU n (b:=D') (by omega)
   have rs0:0≤n%D'*S':=wE r0 S.1
   have rs1:n%D'*S'≤640000*2560000:=uZ (by omega) (by omega) S.1 (by omega)
   have rs2:n%D'*S'/D'≤n%D'*S':=uB _ rs0
   have rs3:0≤n%D'*S'/D':=xK rs0 (by omega)
   have qs0:0≤n/D'*S':=wE (by unfold isN at q0;omega) S.1
   rw [Zjt hN q0 (by unfold isW;omega),Zac]
   dsimp only
   rw [Zan (by omega),Zcr (n:=n%D'*S') (by omega) (by omega),ZeS rs0,Zcr (n:=n%D'*S'/D') (by omega) (by omega),ZeR (by unfold isW;omega),Zac,Zes hN (by unfold isN;omega) (by unfold isN;omega),Zac]
   dsimp only
   rw [hLt,Zac]
   dsimp only
   generalize n/D'*S'=Q at *
   generalize n%D'*S'/D'=R at *
   have big:(2^256:Int)≤Q∨Q<2^256:=by omega
   rcases big with big | big
   ·rw [if_pos (by simpa using big),if_neg (by omega)]
   rw [if_neg (by simpa using big),vG qs0 big]
   by_cases big2:(2^256:Int)≤Q+R
   ·rw [if_pos (by simpa using big2),if_neg (by omega)]
   rw [if_neg (by simpa using big2),vG (by omega) (by omega)]
   have qr:isN (Q+R):=by unfold isN;omega
   rw [ZeC hN hL qr,Zac]
   by_cases hl:L<Q+R
   ·rw [if_pos (by simpa using hl),if_neg (by omega)]
   rw [if_neg (by simpa using hl),Zee qr,Zac,if_pos (c:=true=true∧true=true∧Q+R<2^256∧Q+R≤L) ⟨rfl,rfl,by omega,by omega⟩]
   have enc : ∀{x:Int},isN x→Zbj.p1 N (nw x)=some (cEnc x):=fun h=>by
    unfold Zbj.p1
    rw [ZhQ hN h,Zac]
   by_cases h0:Q+R=0
   ·rw [if_pos (by simpa using h0),if_pos h0,ZeR (by unfold isW;omega),Zac,enc (by unfold isN;omega)]
   ·rw [if_neg (by simpa using h0),if_neg h0,enc qr]
def nextB (p:Zaj) (at_:ZcN) (time:Int):Int:=
 if at_.Height≤0 then p.Limit
 else if ZgW p at_.Height then retg p at_.Bits at_.First at_.Time
 else if p.Easy=false then at_.Bits
 else if w64 (time-at_.Time)>w64 (2*p.Spacing) then p.Limit else at_.Hard
theorem Zlw (hN:10≤N) (p:Zaj) (at_:ZcN) (time:Int):ZdH N p at_ time=some (nextB p at_ time):=by
 unfold ZdH nextB
 rw [Zjq,Zac,Zij hN,Zac]
 cases p.Easy<;>cases ZgW p at_.Height<;>(simp only [decide_eq_true_eq];repeat' split)<;>first | rfl | simp_all | omega
end Go.Dn.F
namespace Go.Dn.F
open Go.Dn
@[simp] theorem ZfF (l:List Int):len (Zdp l)=(l.length:Int):=by simp [len]
theorem rowI_isI (l:List Int):isI (Zdp l)=true:=by simp [isI,Zdp]
theorem ZoW (l:List Int):ZiB (Zdp l)=Zdp (l.mergeSort fun x y=>decide (x≤y)):=by
 simp only [ZiB,Zdp,List.map_map]
 congr 2
 have:(ZgB ∘ fun n=>[L.int .i64 n])=id:=rfl
 rw [this,List.map_id]
theorem min11 (n:Nat):(if (11:Int)<(n:Int) then 11 else (n:Int))=((min n 11:Nat):Int):=by
 split<;>omega
abbrev srt (l:List Int):List Int:=l.mergeSort fun x y=>decide (x≤y)
theorem ZnK (l:List Int):(srt l).length=l.length:=List.length_mergeSort l
def M (zs:List Int):Int:=(srt (zs.take 11)).getD ((zs.take 11).length/2) 0
theorem tdiv2 (n:Nat):zY (n:Int) 2=((n/2:Nat):Int):=by
 rw [Int.tdiv_eq_ediv];simp
theorem Zpl (N:Nat) (zs:List Int):ZdJ N (Zdp zs)=some (M zs):=by
 have e:(min zs.length 11)=(zs.take 11).length:=by simp;omega
 have e':zs.take (zs.take 11).length=zs.take 11:=by rw [←e];apply List.ext_getElem? ;intro i;simp only [List.getElem?_take];split<;>split<;>first | rfl | omega | (rw [List.getElem?_eq_none (by omega)])
 unfold ZdJ
 simp only [ZfF,ZfA,min11,List.drop_zero]
 rw [Zan (by omega),Zan (by simp;omega)]
 simp only [zH,Zlq,e,e']
 rw [ZaV,Zan (by simp;omega),Zac]
 by_cases h0:(zs.take 11).length=0
 ·simp [h0,M]
 ·simp only [ZfF,ZfA]
  rw [if_neg (by simpa using h0),Zan (rowI_isI _),Zan (by simp;omega),ZoW,tdiv2]
  rw [ZaK (by omega) (by simp;omega),Zan (by omega),Zan (by omega)]
  simp only [zH,Nat.zero_add]
  have hl:(zs.take 11).length/2<(srt (zs.take 11)).length:=by rw [ZnK];omega
  rw [Zkj hl,Zax,ZeM]
  simp only [M,zG,zN hl,Option.getD_some]
theorem Zmy (N:Nat) (t:Int) (zs:List Int):ZcG N t (Zdp zs)=some (zs.length==0||decide (t>M zs)):=by
 unfold ZcG
 rw [Zpl,Zac]
 by_cases h:zs.length=0
 ·simp [h]
 ·simp [h]
end Go.Dn.F
namespace Go.Dn.F
open Go.Dn
variable {N:Nat}
theorem ZlA {a b c d A B C D x y z u T:Int} (a7:a*T=A+18446744073709551616*x) (b7:b*T=B+18446744073709551616*y) (c7:c*T=C+18446744073709551616*z) (d7:d*T=D+18446744073709551616*u) :
  vw a b c d*T=A+18446744073709551616*vw (x+B) (y+C) (z+D) u:=by
 have:vw a b c d*T=A+18446744073709551616*x+18446744073709551616*(B+18446744073709551616*y)+2^128*(C+18446744073709551616*z)+2^192*(D+18446744073709551616*u):=by
  rw [←a7,←b7,←c7,←d7]
  unfold vw
  rw [yO,yO,yO,yB,yB,yB]
 rw [this];unfold vw;omega
theorem Zhn {l:List Int} {i:Nat} (h:i<l.length) (x:Int):(l.set i x).getD i 0=x:=by
 rw [vP,zQ h];rfl
theorem ZnV (hN:10≤N) {m:Int} (hm:isN m) {n:Nat} (h0:0<n) (h1:n<64) :
  loopN (Zam.p3 N (n:Int) (nw m)) N (0,zC 4 0)=some (nw (m*2^n%2^256)):=by
 obtain ⟨a,b,c,d,ha,hb,hc,hd,rfl⟩:=ZcR hm
 rw [Zdk ha hb hc hd]
 have hk:n≤64:=by omega
 obtain ⟨A,x,a1,a2,a3,a4,a5,a6,a7,a8⟩:=ZcJ ha hk
 obtain ⟨B,y,b1,b2,b3,b4,b5,b6,b7,b8⟩:=ZcJ hb hk
 obtain ⟨C,z,c1,c2,c3,c4,c5,c6,c7,c8⟩:=ZcJ hc hk
 obtain ⟨D,u,d1,d2,d3,d4,d5,d6,d7,d8⟩:=ZcJ hd hk
 have pT:=ZbR n
 have v1:v64 (n:Int)=((n:Nat):Int):=Zcr (by omega) (by omega)
 have v2:v64 (w64 (64-(n:Int)))=((64-n:Nat):Int):=by rw [ZaK (by omega) (by omega),Zcr (by omega) (by omega)];omega
 obtain ⟨N,rfl⟩ : ∃q,N=q+5:=⟨N-5,by omega⟩
 have first : ∀(G:Int×List Int→Option (List Int)) (l:List Int),Zam.p3 (N+5) (n:Int) [a,b,c,d] G (0,l)=G (1,l.set 0 A):=fun G l=>by
  unfold Zam.p3 Zam.p4
  dsimp only
  rw [if_pos (by simp),if_pos (by simp<;>omega),Zan (by omega),Zan (by rw [v1];omega),if_neg (by simp),v1,show zG [a,b,c,d] (zE 0) 0=a from rfl,a1,ZaK (by omega) (by omega)]
  rfl
 have next : ∀(G:Int×List Int→Option (List Int)) (j:Nat) (l:List Int) (s t A' h':Int),j<3→l.length=4→[a,b,c,d].getD (j+1) 0=s→[a,b,c,d].getD j 0=t →
   Zbf .u64 s (n:Int)=A'→ZaR .u64 t ((64-n:Nat):Int)=h'→isW (A'+h') →
   Zam.p3 (N+5) (n:Int) [a,b,c,d] G (((j+1:Nat):Int),l)=G (((j+2:Nat):Int),l.set (j+1) (A'+h')):=fun G j l s t A' h' hj hl hs ht hA hh hw=>by
  unfold isW at hw
  unfold Zam.p3 Zam.p4
  dsimp only
  rw [if_pos (by simp<;>omega),if_pos (by simp<;>omega),Zan (by omega),Zan (by rw [v1];omega),if_pos (by simp<;>omega),show ((j+1:Nat):Int)-1=(j:Int) by omega,ZaK (n:=(j:Int)) (by omega) (by omega),Zan (by omega),Zan (by omega),Zan (by rw [v2];omega),v1,v2,zH,zH,hs,ht,hA,hh,xH,Zhn (by omega),Zcr hw.1 hw.2,ZaK (by omega) (by omega)]
  rfl
 have last : ∀(G:Int×List Int→Option (List Int)) (l:List Int),Zam.p3 (N+5) (n:Int) [a,b,c,d] G (4,l)=some l:=fun G l=>by
  unfold Zam.p3
  dsimp only
  rw [if_neg (by simp)]
 rw [Zat];refine Eq.trans (first _ [0,0,0,0]) ?_
 rw [Zat];refine Eq.trans (next _ 0 [A,0,0,0] b a B x (by omega) rfl rfl rfl b1 a2 (by unfold isW;omega)) ?_
 rw [Zat];refine Eq.trans (next _ 1 [A,B+x,0,0] c b C y (by omega) rfl rfl rfl c1 b2 (by unfold isW;omega)) ?_
 rw [Zat];refine Eq.trans (next _ 2 [A,B+x,C+y,0] d c D z (by omega) rfl rfl rfl d1 c2 (by unfold isW;omega)) ?_
 rw [Zat];refine Eq.trans (last _ [A,B+x,C+y,D+z]) ?_
 rw [←Zdk (a:=A) (b:=B+x) (c:=C+y) (d:=D+z) (by unfold isW;omega) (by unfold isW;omega) (by unfold isW;omega) (by unfold isW;omega)]
 congr 2
 rw [ZlA a7 b7 c7 d7]
 unfold vw;omega
theorem ZlB (hN:10≤N) {m:Int} (hm:isN m) {n:Nat} (h0:0<n) (h1:n<64) :
  loopN (Zam.p3 N (-(n:Int)) (nw m)) N (0,zC 4 0)=some (nw (m/2^n)):=by
 obtain ⟨a,b,c,d,ha,hb,hc,hd,rfl⟩:=ZcR hm
 rw [Zdk ha hb hc hd]
 have hk:64-n≤64:=by omega
 obtain ⟨A,x,a1,a2,a3,a4,a5,a6,a7,a8⟩:=ZcJ ha hk
 obtain ⟨B,y,b1,b2,b3,b4,b5,b6,b7,b8⟩:=ZcJ hb hk
 obtain ⟨C,z,c1,c2,c3,c4,c5,c6,c7,c8⟩:=ZcJ hc hk
 obtain ⟨D,u,d1,d2,d3,d4,d5,d6,d7,d8⟩:=ZcJ hd hk
 rw [show 64-(64-n)=n by omega] at a2 b2 c2 d2
 have pT:=ZbR n
 have pU:=ZbR (64-n)
 have tu:=Zec (k:=n) (by omega)
 have v1:v64 (w64 (0 - -(n:Int)))=((n:Nat):Int):=by rw [ZaK (by omega) (by omega),Zcr (by omega) (by omega)];omega
 have v2:v64 (w64 (64 + -(n:Int)))=((64-n:Nat):Int):=by rw [ZaK (by omega) (by omega),Zcr (by omega) (by omega)];omega
 obtain ⟨N,rfl⟩ : ∃q,N=q+5:=⟨N-5,by omega⟩
 have next : ∀(G:Int×List Int→Option (List Int)) (j:Nat) (l:List Int) (s t A' h':Int),j<3→l.length=4→[a,b,c,d].getD j 0=s→[a,b,c,d].getD (j+1) 0=t →
   ZaR .u64 s (n:Int)=h'→Zbf .u64 t ((64-n:Nat):Int)=A'→isW (h'+A') →
   Zam.p3 (N+5) (-(n:Int)) [a,b,c,d] G ((j:Int),l)=G (((j+1:Nat):Int),l.set j (h'+A')):=fun G j l s t A' h' hj hl hs ht hh hA hw=>by
  unfold isW at hw
  unfold Zam.p3 Zam.p4
  dsimp only
  rw [if_pos (by simp<;>omega),if_neg (by simp<;>omega),Zan (by omega),Zan (by rw [v1];omega),if_pos (by simp<;>omega),show (j:Int)+1=((j+1:Nat):Int) by omega,ZaK (n:=((j+1:Nat):Int)) (by omega) (by omega),Zan (by omega),Zan (by omega),Zan (by rw [v2];omega),v1,v2,zH,zH,hs,ht,hA,hh,xH,Zhn (by omega),Zcr hw.1 hw.2]
 have top : ∀(G:Int×List Int→Option (List Int)) (l:List Int),Zam.p3 (N+5) (-(n:Int)) [a,b,c,d] G (3,l)=G (4,l.set 3 u):=fun G l=>by
  unfold Zam.p3 Zam.p4
  dsimp only
  rw [if_pos (by simp),if_neg (by simp<;>omega),Zan (by omega),Zan (by rw [v1];omega),if_neg (by simp),v1,show zG [a,b,c,d] (zE 3) 0=d from rfl,d2,ZaK (by omega) (by omega)]
  rfl
 have last : ∀(G:Int×List Int→Option (List Int)) (l:List Int),Zam.p3 (N+5) (-(n:Int)) [a,b,c,d] G (4,l)=some l:=fun G l=>by
  unfold Zam.p3
  dsimp only
  rw [if_neg (by simp)]
 rw [Zat];refine Eq.trans (next _ 0 [0,0,0,0] a b B x (by omega) rfl rfl rfl a2 b1 (by unfold isW;omega)) ?_
 rw [Zat];refine Eq.trans (next _ 1 [x+B,0,0,0] b c C y (by omega) rfl rfl rfl b2 c1 (by unfold isW;omega)) ?_
 rw [Zat];refine Eq.trans (next _ 2 [x+B,y+C,0,0] c d D z (by omega) rfl rfl rfl c2 d1 (by unfold isW;omega)) ?_
 rw [Zat];refine Eq.trans (top _ [x+B,y+C,z+D,0]) ?_
 rw [Zat];refine Eq.trans (last _ [x+B,y+C,z+D,u]) ?_
 rw [←Zdk (a:=x+B) (b:=y+C) (c:=z+D) (d:=u) (by unfold isW;omega) (by unfold isW;omega) (by unfold isW;omega) (by unfold isW;omega)]
 congr 2
 exact (Znx pT pU tu (by omega) (ZlA a7 b7 c7 d7)).symm
theorem ZnW (hN:10≤N) {m:Int} (hm:isN m) {n:Nat} (h1:n<64) :
  loopN (Zam.p2 N) N ((n:Int),nw m)=some (nw (m*2^n%2^256)):=by
 obtain ⟨K,e⟩ : ∃q,N=q+1:=⟨N-1,by omega⟩
 rw [show loopN (Zam.p2 N) N=loopN (Zam.p2 N) (K+1) by rw [←e],Zat]
 unfold Zam.p2
 dsimp only
 rw [if_neg (by simp<;>omega)]
 by_cases h0:n=0
 ·subst h0
  unfold isN at hm
  rw [if_pos (by rfl),show (2:Int)^0=1 from rfl,rS,vG hm.1 hm.2]
 ·rw [if_neg (by simp<;>omega),ZnV hN hm (by omega) h1]
theorem Zid (hN:10≤N) : ∀(K:Nat) {m:Int},isN m→∀n:Nat,n<64*K→n<1000→loopN (Zam.p2 N) K (-(n:Int),nw m)=some (nw (m/2^n))
 | 0,_,_,n,h,_=>by omega
 | K+1,m,hm,n,h,hk=>by
  rw [Zat]
  have ih:=Zid hN K (m:=m/18446744073709551616) (by unfold isN at *;omega) (n-64)
  generalize loopN (Zam.p2 N) K=G at ih ⊢
  unfold Zam.p2
  dsimp only
  by_cases h64:64≤n
  ·rw [if_pos (by simp<;>omega),ZaK (by omega) (by omega)]
   have e : [zG (nw m) 1 0,zG (nw m) 2 0,zG (nw m) 3 0,0]=nw (m/18446744073709551616):=by
    obtain ⟨a,b,c,d,ha,hb,hc,hd,rfl⟩:=ZcR hm
    have:vw a b c d/18446744073709551616=vw b c d 0:=by unfold isW vw at *;omega
    rw [this,Zdk ha hb hc hd,Zdk hb hc hd isW0];rfl
   rw [e,show -(n:Int)+64 = -((n-64:Nat):Int) by omega,ih (by omega) (by omega),xJ (by omega),show (18446744073709551616:Int)=2^64 from rfl,←xI,show 64+(n-64)=n by omega]
  ·rw [if_neg (by simp<;>omega)]
   by_cases h0:n=0
   ·subst h0
    rw [if_pos (by rfl),show (2:Int)^0=1 from rfl,Int.ediv_one]
   ·rw [if_neg (by simp<;>omega),ZlB hN hm (by omega) (by omega)]
theorem ZjT (hN:10≤N) : ∀(K:Nat) {m:Int},isN m→∀n:Nat,n<64*K→n<1000→loopN (Zam.p1 N) K ((n:Int),nw m)=some (nw (m*2^n%2^256))
 | 0,_,_,n,h,_=>by omega
 | K+1,m,hm,n,h,hk=>by
  rw [Zat]
  have ih:=ZjT hN K (m:=m*18446744073709551616%2^256) (by unfold isN at *;omega) (n-64)
  generalize loopN (Zam.p1 N) K=G at ih ⊢
  unfold Zam.p1
  dsimp only
  by_cases h64:64≤n
  ·rw [if_pos (by simp<;>omega),ZaK (by omega) (by omega)]
   have e : [0,zG (nw m) 0 0,zG (nw m) 1 0,zG (nw m) 2 0]=nw (m*18446744073709551616%2^256):=by
    obtain ⟨a,b,c,d,ha,hb,hc,hd,rfl⟩:=ZcR hm
    have:vw a b c d*18446744073709551616%2^256=vw 0 a b c:=by unfold isW vw at *;omega
    rw [this,Zdk ha hb hc hd,Zdk isW0 ha hb hc];rfl
   rw [e,show (n:Int)-64=((n-64:Nat):Int) by omega,ih (by omega) (by omega)]
   have e2:m*2^n=m*18446744073709551616*2^(n-64):=by
    rw [yB,show (18446744073709551616:Int)=2^64 from rfl,←xI,show 64+(n-64)=n by omega]
   rw [e2,Int.mul_emod (_%_),Int.emod_emod,←Int.mul_emod]
  ·rw [if_neg (by simp<;>omega),ZnW hN hm (by omega)]
theorem move_up (hN:10≤N) {m:Int} (hm:isN m) (n:Nat):Zam N (nw m) (n:Int)=some (nw (m*2^n%2^256)):=by
 unfold Zam
 rw [if_neg (by simp<;>omega)]
 by_cases h:256≤n
 ·have:m*2^n%2^256=0:=by
   have e:(2:Int)^n=2^(n-256)*2^256:=by rw [←xI,show n-256+256=n by omega]
   rw [e,←yB]
   exact vX _ _
  rw [if_pos (by simp<;>omega),this,Zeb]
 ·rw [if_neg (by simp<;>omega),ZjT hN N hm n (by omega) (by omega)]
theorem Zpj (hN:10≤N) {m:Int} (hm:isN m) (n:Nat):Zam N (nw m) (-(n:Int))=some (nw (m/2^n)):=by
 unfold Zam
 by_cases h:256≤n
 ·have:m/2^n=0:=by
   have l:=ZfY h
   exact uE hm.1 (uR hm.2 l)
  rw [if_pos (by simp<;>omega),this,Zeb]
 ·rw [if_neg (by simp<;>omega),if_neg (by simp<;>omega)]
  obtain ⟨K,e⟩ : ∃q,N=q+1:=⟨N-1,by omega⟩
  rw [show loopN (Zam.p1 N) N=loopN (Zam.p1 N) (K+1) by rw [←e],Zat]
  conv=>lhs;unfold Zam.p1
  dsimp only
  rw [if_neg (by simp<;>omega),Zid hN N hm n (by omega) (by omega)]
theorem Zqb (x:Int) {r:Nat} (h:r<64):(x%18446744073709551616)/2^r%2=x/2^r%2:=by
 have p:=ZbR r
 have e:=yY x 18446744073709551616
 have s:(18446744073709551616:Int)=2^r*(2*2^(63-r)):=by
  rw [show (2:Int)*2^(63-r)=2^(64-r) by rw [show 64-r=(63-r)+1 by omega,rB];omega,Zec (by omega)]
 have k:x=x%18446744073709551616+2^r*(2*2^(63-r)*(x/18446744073709551616)):=by
  rw [←yB,←s];omega
 conv=>rhs;rw [k,Int.add_mul_ediv_left _ _ (by omega)]
 rw [yB 2]
 omega
theorem ZjQ {m:Int} (hm:isN m) {i:Nat} (hi:i<256):ZcH N (nw m) (i:Int)=some (m/2^i%2):=by
 unfold ZcH
 have e1:w64 (zY (i:Int) 64)=((i/64:Nat):Int):=by rw [ZeS (by omega),ZaK (by omega) (by omega)];omega
 have e2:v64 (yK (i:Int) 64)=((i%64:Nat):Int):=by rw [ZgJ (by omega),Zcr (by omega) (by omega)];omega
 have p:=ZbR (i%64)
 have q:=ZbR (64*(i/64))
 have nn:0≤(m/2^(64*(i/64))%18446744073709551616)/2^(i%64):=xK (by omega) (by omega)
 rw [if_neg (by simp<;>omega),if_neg (by simp<;>omega),e1,e2,Zan (by omega),Zan (by omega),Zan (by omega),zH,ZiQ hm (by omega),Zkf _ (k:=i%64) (by omega),ZgJ nn,Zqb _ (by omega),xJ (by omega),←xI,rG,ZaK (by omega) (by omega)]
theorem half (x:Int) (i:Nat):x/2^i=2*(x/2^(i+1))+x/2^i%2:=by
 have:x/2^(i+1)=x/2^i/2:=by rw [xJ (vW (ZbR i)),rB]
 omega
theorem Zpn {a b:Int} (i:Nat) (h:a/2^i<b/2^i):a<b:=by
 rcases Int.lt_or_le a b with k | k
 ·exact k
 ·have:=Int.ediv_le_ediv (ZbR i) k
  omega
theorem Zmr (hN:300≤N) {a b:Int} (ha:isN a) (hb:isN b):ZbD N (nw a) (nw b)=some (decide (a<b)):=by
 unfold ZbD
 refine ZcB (fun m (x:Int)=>m≤256∧x=(m:Int)-1∧a/2^m=b/2^m) ?_ N 256 255 ⟨by omega,by omega,?_⟩ (by omega)
 ·rintro G m _ ⟨hm,rfl,he⟩ hG
  unfold ZbD.p1
  by_cases h0:m=0
  ·subst h0
   rw [if_neg (by simp)]
   have e:a=b:=by simpa using he
   simp [e]
  ·obtain ⟨i,rfl⟩ : ∃i,m=i+1:=⟨m-1,by omega⟩
   have h1:=half a i
   have h2:=half b i
   rw [if_pos (by simp<;>omega),show ((i+1:Nat):Int)-1=(i:Int) by omega,ZjQ ha (by omega),ZjQ hb (by omega),Zac,Zac]
   by_cases hd:a/2^i%2=b/2^i%2
   ·rw [if_neg (by simp [hd]),ZaK (by omega) (by omega)]
    exact hG i _ (by omega) ⟨by omega,by omega,by omega⟩
   ·rw [if_pos (by simpa using hd)]
    congr 1
    rw [decide_eq_decide]
    constructor
    ·intro h;exact Zpn i (by omega)
    ·intro h
     have:=Int.ediv_le_ediv (ZbR i) (vW h)
     omega
 ·rw [show (2:Int)^256=2^256 from rfl,uE ha.1 ha.2,uE hb.1 hb.2]
theorem nw_word {x:Int} (h:isW x) : [x,0,0,0]=nw x:=by
 have:=ZeR (N:=0) h
 unfold Zcv at this
 exact Option.some.inj this
theorem Zhc (hN:300≤N) (b:Int):ZaD N b=some (nw (Zfh b).1,(Zfh b).2.1,(Zfh b).2.2):=by
 unfold ZaD Zfh
 by_cases h0:b<0
 ·rw [if_pos (by simpa using h0),if_neg (by simp [ZmF]<;>omega),Zeb]
 rw [if_neg (by simpa using h0)]
 by_cases h1:b>4294967295
 ·rw [if_pos (by simpa using h1),if_neg (by simp [ZmF]<;>omega),Zeb]
 rw [if_neg (by simpa using h1),if_pos (by simp [ZmF]<;>omega)]
 have w:0≤Zey b∧Zey b<8388608:=by unfold Zey;omega
 have e1:yK b 8388608=Zey b:=by rw [ZgJ (by omega)];rfl
 have s:zY b 16777216=(ZdB b:Int):=by rw [ZeS (by omega)];unfold ZdB;omega
 have s2:ZdB b<256:=by unfold ZdB;omega
 have e3:yK (w64 (zY b 8388608)) 2=b/8388608%2:=by rw [ZeS (by omega),ZaK (by omega) (by omega),ZgJ (by omega)]
 have wN:isN (Zey b):=by unfold isN;omega
 have mv:Zam N [v64 (Zey b),0,0,0] (w64 (8*w64 (w64 (ZdB b:Int)-3)))=some (nw (cN b)):=by
  rw [Zcr w.1 (by omega),nw_word (by unfold isW;omega),ZaK (n:=(ZdB b:Int)) (by omega) (by omega),ZaK (n:=(ZdB b:Int)-3) (by omega) (by omega),ZaK (by omega) (by omega)]
  unfold cN
  by_cases h3:3<ZdB b
  ·rw [if_neg (by omega),show (8:Int)*((ZdB b:Int)-3)=((8*(ZdB b-3):Nat):Int) by omega,move_up (by omega) wN]
  ·rw [if_pos (by omega),show (8:Int)*((ZdB b:Int)-3) = -((8*(3-ZdB b):Nat):Int) by omega,Zpj (by omega) wN]
 rw [e1,s,mv,Zac,ZaK (n:=(ZdB b:Int)) (by omega) (by omega)]
 have p1 : ∀o:Bool,ZaD.p1 N b o (nw (cN b))=some (nw (cN b),cNeg b,o):=fun o=>by
  unfold ZaD.p1
  rw [e1,e3]
  unfold cNeg
  by_cases h:Zey b=0
  ·rw [if_neg (by simp [h])];simp [h]
  ·rw [if_pos (by simp<;>omega)]
   congr 3
   rw [wH];simp [h]
 simp only [p1,decide_eq_true_eq,gt_iff_lt]
 unfold ZpV
 repeat' split
 all_goals (congr 3;rw [wH];simp only [decide_eq_true_eq,iff_true,true_iff,yE,false_iff,ne_eq];omega)
theorem Zko (hN:300≤N) (b l:Int):Zcz N b l=some (nw (tgt b l).1,(tgt b l).2):=by
 unfold Zcz
 rw [Zhc hN,Zac]
 dsimp only
 rw [Zhc hN,Zac]
 dsimp only
 unfold tgt
 have z:(nw (Zfh b).1==zC 4 0)=decide ((Zfh b).1=0):=Option.some.inj (Zee (N:=0) (Zer b))
 have le:=Zmr hN (Zer l) (Zer b)
 rw [z,le,Zac,Zeb]
 cases (Zfh b).2.1<;>cases (Zfh b).2.2<;>cases (Zfh l).2.1<;>cases (Zfh l).2.2<;>cases (decide ((Zfh b).1=0))<;>cases (decide ((Zfh l).1<(Zfh b).1))<;>rfl
theorem nw_low {x:Int}:(nw x).getD 0 0=x%18446744073709551616:=rfl
theorem emod_mul' (m:Int) {P K:Int} (hP:0<P) (hK:0<K):m%(P*K)=m%P+P*(m/P%K):=by
 have a1:=yY m (P*K)
 have a2:=yY m P
 have a3:m/(P*K)=m/P/K:=(xJ (by omega)).symm
 have a4:=yY (m/P) K
 rw [a3,xB P K,←yB] at a1
 have a5:m/P*P=m/P/K*K*P+P*(m/P%K):=by
  conv=>lhs;rw [←a4,yO]
  rw [xB P (m/P%K)]
 rw [xB P K]
 omega
theorem Zkq (hN:300≤N) (p:Zaj):Zdc N p=some (Zhd p):=by
 unfold Zdc
 rw [Zko hN,Zac]
 dsimp only
 unfold Zhd
 cases (tgt p.Limit p.Limit).2
 ·rfl
 ·simp only [if_pos,Bool.true_and,decide_eq_true_eq]
  repeat' split
  all_goals (congr 1;rw [wH];simp only [decide_eq_true_eq,yE,false_iff];omega)
end Go.Dn.F
set_option maxRecDepth 4000
namespace Go.Dn.F
open Go.Dn
variable {N:Nat}
theorem ZhU (hN:10≤N) {m n:Int} (hm:isN m) (hn:isN n) :
  ZbP N (nw m) (nw n)=some (nw ((m-n)%2^256),decide (m<n)):=by
 obtain ⟨a,b,c,d,ha,hb,hc,hd,rfl⟩:=ZcR hm
 obtain ⟨e,f,g,i,he,hf,hg,hi,rfl⟩:=ZcR hn
 rw [Zdk ha hb hc hd,Zdk he hf hg hi]
 obtain ⟨N,rfl⟩ : ∃q,N=q+5:=⟨N-5,by omega⟩
 obtain ⟨s0,c0,e0,k0,l0,m0,n0⟩:=sub64 (N:=N+5) ha he (c:=0) (by omega)
 obtain ⟨s1,c1,e1,k1,l1,m1,n1⟩:=sub64 (N:=N+5) hb hf (c:=c0) (by omega)
 obtain ⟨s2,c2,e2,k2,l2,m2,n2⟩:=sub64 (N:=N+5) hc hg (c:=c1) (by omega)
 obtain ⟨s3,c3,e3,k3,l3,m3,n3⟩:=sub64 (N:=N+5) hd hi (c:=c2) (by omega)
 unfold ZbP
 have t : ∀(G:Int×Int×List Int→Option (List Int×Bool)) (j:Nat) (l:List Int) (c s c':Int),j<4→ZdS (N+5) (l.getD j 0) ([e,f,g,i].getD j 0) c=some (s,c') →
   ZbP.p1 (N+5) [e,f,g,i] G (c,(j:Int),l)=G (c',(j:Int)+1,l.set j s):=fun G j l c s c' hj h=>by
  unfold ZbP.p1
  dsimp only
  rw [if_pos (by simp;omega),Zan (by omega),zH,h,Zac,ZaK (by omega) (by omega)]
 have u : ∀(G:Int×Int×List Int→Option (List Int×Bool)) (l:List Int) (c:Int),ZbP.p1 (N+5) [e,f,g,i] G (c,4,l)=some (l,c != 0):=fun G l c=>by
  unfold ZbP.p1
  dsimp only
  rw [if_neg (by simp)]
 rw [Zat]
 refine Eq.trans (t _ 0 [a,b,c,d] 0 s0 c0 (by omega) e0) ?_
 rw [Zat]
 refine Eq.trans (t _ 1 [s0,b,c,d] c0 s1 c1 (by omega) e1) ?_
 rw [Zat]
 refine Eq.trans (t _ 2 [s0,s1,c,d] c1 s2 c2 (by omega) e2) ?_
 rw [Zat]
 refine Eq.trans (t _ 3 [s0,s1,s2,d] c2 s3 c3 (by omega) e3) ?_
 rw [Zat]
 refine Eq.trans (u _ [s0,s1,s2,s3] c3) ?_
 rw [←Zdk k0 k1 k2 k3]
 have key:vw a b c d-vw e f g i=vw s0 s1 s2 s3-2^256*c3:=by unfold vw;omega
 have r:=Ziz k0 k1 k2 k3
 unfold isN at r
 have e5:(vw a b c d-vw e f g i)%2^256=vw s0 s1 s2 s3:=by omega
 rw [e5]
 have e6:(c3 != 0)=decide (vw a b c d<vw e f g i):=by
  rw [wH];simp only [bne_iff_ne,ne_eq,decide_eq_true_eq];omega
 rw [e6]
theorem ZhV (hN:10≤N) {m:Int} (hm:isN m):ZbF N (nw m)=some (nw (115792089237316195423570985008687907853269984665640564039457584007913129639935-m)):=by
 obtain ⟨a,b,c,d,ha,hb,hc,hd,rfl⟩:=ZcR hm
 have key:115792089237316195423570985008687907853269984665640564039457584007913129639935-vw a b c d=vw (18446744073709551615-a) (18446744073709551615-b) (18446744073709551615-c) (18446744073709551615-d):=by unfold vw;omega
 have q : ∀{x:Int},isW x→isW (18446744073709551615-x):=fun h=>by unfold isW at *;omega
 rw [key,Zdk (q ha) (q hb) (q hc) (q hd),Zdk ha hb hc hd]
 obtain ⟨N,rfl⟩ : ∃q,N=q+5:=⟨N-5,by omega⟩
 unfold ZbF
 have t : ∀(G:Int×List Int→Option (List Int)) (j:Nat) (l:List Int),j<4→isW (l.getD j 0)→ZbF.p1 (N+5) G ((j:Int),l)=G ((j:Int)+1,l.set j (18446744073709551615-l.getD j 0)):=fun G j l hj h=>by
  unfold ZbF.p1
  dsimp only
  rw [if_pos (by simp;omega),Zan (by omega),zH,xor_max h,ZaK (by omega) (by omega)]
 have u : ∀(G:Int×List Int→Option (List Int)) (l:List Int),ZbF.p1 (N+5) G (4,l)=some l:=fun G l=>by
  unfold ZbF.p1
  dsimp only
  rw [if_neg (by simp)]
 rw [Zat]
 refine Eq.trans (t _ 0 [a,b,c,d] (by omega) ha) ?_
 rw [Zat]
 refine Eq.trans (t _ 1 [_,b,c,d] (by omega) hb) ?_
 rw [Zat]
 refine Eq.trans (t _ 2 [_,_,c,d] (by omega) hc) ?_
 rw [Zat]
 refine Eq.trans (t _ 3 [_,_,_,d] (by omega) hd) ?_
 rw [Zat]
 exact u _ _
end Go.Dn.F
set_option maxRecDepth 40000
namespace Go.Dn.F
open Go.Dn
variable {N:Nat}
theorem bit_of {m:Int} (hm:isN m) {j:Nat} (hj:j<256):ZaB .and .u64 (ZaR .u64 ((nw m).getD (j/64) 0) ((j%64:Nat):Int)) 1=m/2^j%2:=by
 have w:isW (m/2^(64*(j/64))%18446744073709551616/2^(j%64)):=by
  have p:=ZbR (j%64)
  have:m/2^(64*(j/64))%18446744073709551616/2^(j%64)≤m/2^(64*(j/64))%18446744073709551616:=uB _ (by omega)
  have:0≤m/2^(64*(j/64))%18446744073709551616/2^(j%64):=xK (by omega) (by omega)
  unfold isW;omega
 rw [ZiQ hm (by omega),Zkf _ (k:=j%64) (by omega),show (1:Int)=2^1-1 from rfl,ZnC w 1 (by omega),show (2:Int)^1=2 from rfl,Zqb _ (by omega),xJ (vW (ZbR _)),←xI,rG]
theorem top_bit {m:Int} (hm:isN m):(ZaR .u64 ((nw m).getD 3 0) 63==1)=decide (57896044618658097711785492504343953926634992332820282019728792003956564819968≤m):=by
 unfold isN at hm
 rw [ZiQ hm (by omega),show (63:Int)=((63:Nat):Int) from rfl,Zkf _ (k:=63) (by omega),show (2:Int)^(64*3)=2^192 from rfl,show (2:Int)^63=9223372036854775808 from rfl,wH]
 simp only [beq_iff_eq,decide_eq_true_eq]
 omega
theorem set_bit {m:Int} (hm:isN m) {j:Nat} (hj:j<256) (h:m%2^(j+1)=0) :
  (nw m).set (j/64) (ZaB .or .u64 ((nw m).getD (j/64) 0) (Zbf .u64 1 ((j%64:Nat):Int)))=nw (m+2^j)∧isN (m+2^j):=by
 have p:=ZbR (j%64)
 have p2:(2:Int)^(j%64+1)=2*2^(j%64):=by rw [rB];omega
 have le:(2:Int)^(j%64+1)≤18446744073709551616:=ZfY (b:=64) (by omega)
 have sh:Zbf .u64 1 ((j%64:Nat):Int)=2^(j%64):=by rw [ZoN _ (by omega)];omega
 have e:(2:Int)^(j+1)=2^(64*(j/64))*2^(j%64+1):=by rw [←xI];congr 1;omega
 have q:=ZbR (64*(j/64))
 have gd:=ZiQ hm (j:=j/64) (by omega)
 have md:m/2^(64*(j/64))%2^(j%64+1)=0:=by
  have:=emod_mul' m q (show (0:Int)<2^(j%64+1) by omega)
  rw [←e,h] at this
  have a1:=wS m (b:=2^(64*(j/64))) (by omega)
  have a2:=wS (m/2^(64*(j/64))) (b:=2^(j%64+1)) (by omega)
  have a3:0≤2^(64*(j/64))*(m/2^(64*(j/64))%2^(j%64+1)):=wE (by omega) a2
  rcases (by omega:m/2^(64*(j/64))%2^(j%64+1)=0∨0<m/2^(64*(j/64))%2^(j%64+1)) with k | k
  ·exact k
  ·have:=Int.mul_pos q k;omega
 have ev:(nw m).getD (j/64) 0%2^(j%64+1)=0:=by
  rw [gd,show (18446744073709551616:Int)=2^(j%64+1)*2^(64-(j%64+1)) from (Zec (by omega)).symm,emod_mul' _ (by omega) (ZbR _),md,qM]
  exact Int.mul_emod_right _ _
 have lt:(nw m).getD (j/64) 0+2^(j%64+1)≤18446744073709551616:=by
  have w:0≤(nw m).getD (j/64) 0∧(nw m).getD (j/64) 0<18446744073709551616:=by rw [gd];omega
  generalize (nw m).getD (j/64) 0=x at *
  have s:=Zec (k:=j%64+1) (by omega)
  have e1:=yY x (2^(j%64+1))
  rw [ev,Int.add_zero] at e1
  have:x/2^(j%64+1)<2^(64-(j%64+1)):=wK (by omega) (by rw [xB,s];exact w.2)
  have:=wV (show x/2^(j%64+1)+1≤2^(64-(j%64+1)) by omega) (show (0:Int)≤2^(j%64+1) by omega)
  rw [xB (2^(64-(j%64+1))),s,yO,uM] at this
  omega
 have nn:0≤(nw m).getD (j/64) 0:=by rw [gd];omega
 have st:=Zpe hm (j:=j/64) (X:=2^(j%64)) (by omega) (by omega) (by omega)
 rw [sh,ZgE (k:=j%64+1) (by omega) nn lt ev (by omega) (by omega)]
 have e3:(2:Int)^(j%64)*2^(64*(j/64))=2^j:=by rw [←xI];congr 1;omega
 rw [e3] at st
 exact st
theorem Zla (hN:300≤N) {a b:Int} (ha:isN a) (hb:isN b) (hb0:0<b):Zbd N (nw a) (nw b)=some (nw (a/b),nw (a%b)):=by
 have bl:Zfy a≤256:=ZgS ha.2
 unfold Zbd
 rw [Zee hb,Zac,if_neg (by simp<;>omega),ZhW (by omega) ha,Zac,ZaK (by omega) (by omega)]
 have a0:a/2^Zfy a=0:=uE ha.1 (ZkR ha.1)
 refine ZcB (fun m (x:Int×List Int×List Int)=>m≤256∧x=((m:Int)-1,nw (a/2^m/b*2^m),nw (a/2^m%b))∧isN (a/2^m/b*2^m)) ?_ N (Zfy a) _ ⟨bl,?_,?_⟩ (by omega)
 ·rintro G m _ ⟨hm,rfl,hq⟩ hG
  unfold Zbd.p1
  dsimp only
  by_cases h0:m=0
  ·subst h0
   rw [if_neg (by simp)]
   simp
  ·obtain ⟨j,rfl⟩ : ∃i,m=i+1:=⟨m-1,by omega⟩
   have hj:j<256:=by omega
   have e1:w64 (zY (j:Int) 64)=((j/64:Nat):Int):=by rw [ZeS (by omega),ZaK (by omega) (by omega)];omega
   have e2:yK (j:Int) 64=((j%64:Nat):Int):=by rw [ZgJ (by omega)];omega
   have hf:=half a j
   have bt:0≤a/2^j%2∧a/2^j%2<2:=by omega
   have r0:=wS (a/2^(j+1)) (b:=b) (by omega)
   have r1:=wU (a/2^(j+1)) hb0
   have de:=yY (a/2^(j+1)) b
   have rN:isN (a/2^(j+1)%b):=by unfold isN at *;omega
   have sb:=set_bit hq hj (vX _ _)
   have pj:=ZbR j
   have qe:a/2^(j+1)/b*2^(j+1)=(2*(a/2^(j+1)/b))*2^j:=by rw [rB,xB (2^j) 2,←yB,xB _ 2]
   have top:=top_bit rN
   have bit:=bit_of ha hj
   generalize hB:a/2^j%2=B at *
   generalize hR:a/2^(j+1)%b=R at *
   generalize hQ:a/2^(j+1)/b=Q at *
   have x14:isN (R*2^1%2^256):=by unfold isN;omega
   have low:(nw (R*2^1%2^256)).getD 0 0=R*2%18446744073709551616:=by
    rw [nw_low,show (2:Int)^1=2 from rfl];omega
   have orb:ZaB .or .u64 (R*2%18446744073709551616) B=R*2%18446744073709551616+B:=ZgE (k:=1) (by omega) (by omega) (by rw [show (2:Int)^1=2 from rfl];omega) (by rw [show (2:Int)^1=2 from rfl];omega) bt.1 (by rw [show (2:Int)^1=2 from rfl];omega)
   have st:=Zpe x14 (j:=0) (X:=B) (by omega) bt.1 (by rw [low];omega)
   rw [low,show (2:Int)^(64*0)=1 from rfl,rS,show (2:Int)^1=2 from rfl] at st
   have done : ∀(Q' R':Int),2*(Q*b+R)+B=Q'*b+R'→0≤R'→R'<b→∀o:List Int,o=nw (Q'*2^j)→isN (Q'*2^j)→Zbd.p2 N G (j:Int) (nw a) (nw b) o (nw R')=some (nw (a/b),nw (a%b)):=fun Q' R' hE h1 h2 o ho hi=>by
    have dd:=(tQ hb0 (a:=a/2^j) (q:=Q') (r:=R')).2 ⟨by rw [xB b,hf,←de];omega,h1,h2⟩
    unfold Zbd.p2
    rw [ZaK (by omega) (by omega),ho]
    exact hG j _ (by omega) ⟨by omega,by rw [dd.1,dd.2],by rw [dd.1];exact hi⟩
   have Q1:isN ((2*Q+1)*2^j):=by rw [yO,uM,←qe];exact sb.2
   have O1:(nw (Q*2^(j+1))).set (j/64) (ZaB .or .u64 ((nw (Q*2^(j+1))).getD (j/64) 0) (Zbf .u64 1 ((j%64:Nat):Int)))=nw ((2*Q+1)*2^j):=by
    rw [sb.1,qe,yO (2*Q),uM]
   rw [if_pos (by simp<;>omega),show ((j+1:Nat):Int)-1=(j:Int) by omega,show (1:Int)=((1:Nat):Int) from rfl,ZgG (by omega) rN 1 (by omega),Zac,e1,e2,Zan (by omega),Zan (by omega),Zan (by omega),zH,show ((1:Nat):Int)=1 from rfl,top,bit,low,orb,show (2:Int)^1=2 from rfl,st.1,O1]
   by_cases ht:(57896044618658097711785492504343953926634992332820282019728792003956564819968:Int)≤R
   ·rw [if_pos (by simpa using ht),ZhU (by omega) st.2 hb,Zac]
    dsimp only
    have:(R*2%2^256+B-b)%2^256=2*R+B-b:=by unfold isN at *;omega
    rw [this]
    exact done (2*Q+1) (2*R+B-b) (by rw [yO,yB];omega) (by unfold isN at *;omega) (by omega) _ rfl Q1
   ·rw [if_neg (by simpa using ht),ZeC (by omega) st.2 hb,Zac]
    have v:R*2%2^256+B=2*R+B:=by unfold isN at *;omega
    rw [v]
    by_cases hl:2*R+B<b
    ·rw [if_neg (by simpa using hl)]
     exact done (2*Q) (2*R+B) (by rw [yB];omega) (by omega) hl _ (by rw [qe]) (by rw [←qe];exact hq)
    ·rw [if_pos (by simpa using hl),ZhU (by omega) (by rw [←v];exact st.2) hb,Zac]
     dsimp only
     have:(2*R+B-b)%2^256=2*R+B-b:=by unfold isN at *;omega
     rw [this]
     exact done (2*Q+1) (2*R+B-b) (by rw [yO,yB];omega) (by omega) (by omega) _ rfl Q1
 ·rw [a0];simp [Zeb]
 ·rw [a0];simp;unfold isN;omega
theorem ZgT (hN:10≤N):ZcT N=some (nw 115792089237316195423570985008687907853269984665640564039457584007913129639935):=by
 unfold ZcT
 rw [Zeb,ZhV hN (by unfold isN;omega),Zac,Int.sub_zero]
def wkOf (t:Int):Int:=
 if 2^256≤t+1 then 1
 else if 2^256≤(115792089237316195423570985008687907853269984665640564039457584007913129639935-t)/(t+1)+1 then 115792089237316195423570985008687907853269984665640564039457584007913129639935
 else (115792089237316195423570985008687907853269984665640564039457584007913129639935-t)/(t+1)+1
theorem wkQ {t:Int} (h:isN t):0≤(115792089237316195423570985008687907853269984665640564039457584007913129639935-t)/(t+1)∧(115792089237316195423570985008687907853269984665640564039457584007913129639935-t)/(t+1)≤115792089237316195423570985008687907853269984665640564039457584007913129639935-t:=by
 unfold isN at h
 exact ⟨xK (by omega) (by omega),uB _ (by omega)⟩
theorem wkOf_isN {t:Int} (h:isN t):isN (wkOf t):=by
 have:=wkQ h
 unfold wkOf isN at *
 split
 ·omega
 ·split<;>omega
theorem ZnI (hN:300≤N) {t:Int} (h:isN t):ZeQ N (nw t)=some (nw (wkOf t)):=by
 have q:=wkQ h
 unfold ZeQ wkOf
 rw [ZeR (by unfold isW;omega),Zac,Zes (by omega) h (by unfold isN;omega),Zac]
 dsimp only
 by_cases h1:(2^256:Int)≤t+1
 ·rw [if_pos (by simpa using h1),if_pos h1]
 ·unfold isN at h
  have e:(t+1)%2^256=t+1:=by omega
  rw [if_neg (by simpa using h1),if_neg h1,ZhV (by omega) h,Zac,e,Zla hN (by unfold isN;omega) (by unfold isN;omega) (by omega),Zac]
  dsimp only
  rw [Zes (by omega) (by unfold isN;omega) (by unfold isN;omega),Zac]
  dsimp only
  by_cases h2:(2^256:Int)≤(115792089237316195423570985008687907853269984665640564039457584007913129639935-t)/(t+1)+1
  ·rw [if_pos (by simpa using h2),if_pos h2,ZgT (by omega),Zac]
  ·rw [if_neg (by simpa using h2),if_neg h2,vG (by omega) (by omega)]
def ZfO (b:Int):Int:=if (Zfh b).2.1||(Zfh b).2.2||decide ((Zfh b).1=0) then 0 else wkOf (Zfh b).1
theorem ZhA (b:Int):isN (ZfO b):=by
 unfold ZfO
 split
 ·unfold isN;omega
 ·exact wkOf_isN (Zer b)
theorem ZgC (hN:300≤N) (b:Int):ZcP N b=some (nw (ZfO b)):=by
 unfold ZcP ZfO
 rw [Zep (by omega),Zac]
 dsimp only
 rw [Zee (Zer b),Zac,ZnI hN (Zer b),Zac,Zeb]
 cases (Zfh b).2.1<;>cases (Zfh b).2.2<;>cases (decide ((Zfh b).1=0))<;>rfl
def Zme (a b:Int):Int:=if 2^256≤a+b then 115792089237316195423570985008687907853269984665640564039457584007913129639935 else a+b
theorem Zou {a b:Int} (ha:isN a) (hb:isN b):isN (Zme a b):=by
 unfold Zme isN at *;split<;>omega
theorem Zmd (hN:10≤N) {a b:Int} (ha:isN a) (hb:isN b):Zed N [[zM .u64 4 (nw a)],[zM .u64 4 (nw b)]]=some (nw (Zme a b)):=by
 obtain ⟨N,rfl⟩ : ∃q,N=q+3:=⟨N-3,by omega⟩
 have s:ZbL (N+3) [[zM .u64 4 (nw a)],[zM .u64 4 (nw b)]]=some (nw ((a+b)%2^256),decide (2^256≤a+b)):=by
  unfold ZbL
  have z:isN 0:=by unfold isN;omega
  have t0 : ∀G:Bool×Int×List Int→Option (List Int×Bool),ZbL.p1 (N+3) [[zM .u64 4 (nw a)],[zM .u64 4 (nw b)]] G (false,0,nw 0)=G (false,1,nw a):=fun G=>by
   unfold isN at ha
   unfold ZbL.p1
   dsimp only
   rw [if_pos (by simp [len]),Zan (by omega),show ([[zM .u64 4 (nw a)],[zM .u64 4 (nw b)]]:LL)[zE 0]? = some [zM .u64 4 (nw a)] from rfl,Zax]
   show Zbs (Zbr (N+3) (nw 0) (nw a)) _=_
   rw [Zes (by omega) z ha,Zac,ZaK (by omega) (by omega),show (0+a)%2^256=a by omega,show decide ((2^256:Int)≤0+a)=false by simp;omega]
   rfl
  have t1 : ∀G:Bool×Int×List Int→Option (List Int×Bool),ZbL.p1 (N+3) [[zM .u64 4 (nw a)],[zM .u64 4 (nw b)]] G (false,1,nw a)=G (decide (2^256≤a+b),2,nw ((a+b)%2^256)):=fun G=>by
   unfold ZbL.p1
   dsimp only
   rw [if_pos (by simp [len]),Zan (by omega),show ([[zM .u64 4 (nw a)],[zM .u64 4 (nw b)]]:LL)[zE 1]? = some [zM .u64 4 (nw b)] from rfl,Zax]
   show Zbs (Zbr (N+3) (nw a) (nw b)) _=_
   rw [Zes (by omega) ha hb,Zac,ZaK (by omega) (by omega)]
   rfl
  have t2 : ∀(G:Bool×Int×List Int→Option (List Int×Bool)) (o:Bool) (l:List Int),ZbL.p1 (N+3) [[zM .u64 4 (nw a)],[zM .u64 4 (nw b)]] G (o,2,l)=some (l,o):=fun G o l=>by
   unfold ZbL.p1
   dsimp only
   rw [if_neg (by simp [len])]
  rw [Zeb,Zat,t0,Zat,t1,Zat,t2]
 unfold Zed Zme
 rw [s,Zac]
 dsimp only
 by_cases h:(2^256:Int)≤a+b
 ·rw [if_pos (by simpa using h),if_pos h,ZgT (by omega),Zac]
 ·unfold isN at *
  rw [if_neg (by simpa using h),if_neg h,vG (by omega) (by omega)]
end Go.Dn.F
