/- The document's digest is SHA-256, too. -/
import Derived.Test.YtcgdbcfflaphhaaGreatDoorGb
import Derived.Test.YtcgdbcfflaphhaaGreatDoorFbb
import Derived.Test.YtcgdbcfflaphhaaGreatDoorKc
import Derived.Test.YtcgdbcfflaphhaaGreatDoorGa
set_option linter.unusedSimpArgs false
set_option linter.unusedVariables false
set_option maxRecDepth 4000
namespace Go.Dn.F
open Go.Dn
def blk (b:Bs) (j:Nat):Bs:=(b.drop (64*j)).take 64
section
variable {N:Nat}
end
end Go.Dn.F
namespace Go.Dn.F
open Go.Dn
section
variable {N:Nat}
theorem Zht (h:Zah):Zcz N h=some (hgood h):=by
 unfold Zcz hgood
 repeat' split
 all_goals (refine Zea ⟨fun h=>?_,fun h=>?_⟩<;>simp only [decide_eq_true_eq,Bool.false_eq_true] at * <;> omega)
end
end Go.Dn.F
namespace Go.Dn.F
open Go.Dn Go.Proofs
def i64R (n:Int):Prop:=-9223372036854775808≤n∧n≤9223372036854775807
theorem ZeW {n:Int} (h:(Lit.int .i64 n).wf=true):i64R n:=by
 simp only [Lit.wf,Bool.and_eq_true,decide_eq_true_eq] at h
 exact h
abbrev tysH:List Ty:=[.int .i64,.arr .u8 32,.arr .u8 32,.int .i64,.int .i64,.int .i64]
abbrev tysP:List Ty:=[.int .i64,.int .i64,.int .i64,.int .i64,.bool,.sl 2 [.int .i64,.int .i64],.sl 33 [.int .i64,.arr .u8 32],.arr .u64 4,.arr .u64 4,.int .i64,.arr .u8 32,.arr .u8 32,.int .i64,.int .i64,.int .i64]
structure WfH (h:Zah):Prop where
 v:i64R h.Version
 w:wfH h=true
 t:i64R h.Time
 b:i64R h.Bits
 n:i64R h.Nonce
theorem wfB_of {l:List Int} (h:l.length=32) (hw : ∀x∈l,(Lit.int .u8 x).wf=true):wfB l=true:=by
 simp only [wfB,Bool.and_eq_true,beq_iff_eq,List.all_eq_true,decide_eq_true_eq]
 refine ⟨h,fun n hn=>?_⟩
 have:=hw n hn
 simp only [Lit.wf,Bool.and_eq_true,decide_eq_true_eq] at this
 have e1:IntKind.u8.min=0:=rfl
 have e2:IntKind.u8.max=255:=rfl
 omega
theorem open_H {ls:List L} (h:LTys tysH ls) : ∃x:Zah,ls=x.ls∧WfH x:=by
 obtain ⟨_,_,rfl,h1,h⟩:=h.cons_inv
 obtain ⟨_,_,rfl,h2,h⟩:=h.cons_inv
 obtain ⟨_,_,rfl,h3,h⟩:=h.cons_inv
 obtain ⟨_,_,rfl,h4,h⟩:=h.cons_inv
 obtain ⟨_,_,rfl,h5,h⟩:=h.cons_inv
 obtain ⟨_,_,rfl,h6,h⟩:=h.cons_inv
 cases h.nil_inv
 obtain ⟨a1,rfl,w1⟩:=h1.int_inv
 obtain ⟨a2,rfl,k2,w2⟩:=h2.arr_inv
 obtain ⟨a3,rfl,k3,w3⟩:=h3.arr_inv
 obtain ⟨a4,rfl,w4⟩:=h4.int_inv
 obtain ⟨a5,rfl,w5⟩:=h5.int_inv
 obtain ⟨a6,rfl,w6⟩:=h6.int_inv
 refine ⟨⟨a1,a2,a3,a4,a5,a6⟩,rfl,⟨ZeW w1,?_,ZeW w4,ZeW w5,ZeW w6⟩⟩
 simp only [wfH,Bool.and_eq_true]
 exact ⟨wfB_of k2 w2,wfB_of k3 w3⟩
structure WfP (p:Zan):Prop where
 l:i64R p.Limit
 i:i64R p.Interval
 s:i64R p.Spacing
 f:i64R p.Future
 g : ∀x∈p.Gates,LTys [.int .i64,.int .i64] x
 gl:p.Gates.length≤maxLen
 c : ∀x∈p.Checks,LTys [.int .i64,.arr .u8 32] x
 cl:p.Checks.length≤maxLen
 m:p.MinWork.length=4∧∀x∈p.MinWork,(Lit.int .u64 x).wf=true
 r:p.Margin.length=4∧∀x∈p.Margin,(Lit.int .u64 x).wf=true
 h:WfH p.Genesis
theorem open_P {ls:List L} (h:LTys tysP ls) : ∃x:Zan,ls=x.ls∧WfP x:=by
 obtain ⟨_,_,rfl,h1,h⟩:=h.cons_inv
 obtain ⟨_,_,rfl,h2,h⟩:=h.cons_inv
 obtain ⟨_,_,rfl,h3,h⟩:=h.cons_inv
 obtain ⟨_,_,rfl,h4,h⟩:=h.cons_inv
 obtain ⟨_,_,rfl,h5,h⟩:=h.cons_inv
 obtain ⟨_,_,rfl,h6,h⟩:=h.cons_inv
 obtain ⟨_,_,rfl,h7,h⟩:=h.cons_inv
 obtain ⟨_,_,rfl,h8,h⟩:=h.cons_inv
 obtain ⟨_,_,rfl,h9,h⟩:=h.cons_inv
 obtain ⟨x,rfl,hx⟩:=open_H h
 obtain ⟨a1,rfl,w1⟩:=h1.int_inv
 obtain ⟨a2,rfl,w2⟩:=h2.int_inv
 obtain ⟨a3,rfl,w3⟩:=h3.int_inv
 obtain ⟨a4,rfl,w4⟩:=h4.int_inv
 obtain ⟨a5,rfl⟩:=h5.bool_inv
 obtain ⟨a6,rfl,k6,w6⟩:=h6.sl_inv
 obtain ⟨a7,rfl,k7,w7⟩:=h7.sl_inv
 obtain ⟨a8,rfl,k8,w8⟩:=h8.arr_inv
 obtain ⟨a9,rfl,k9,w9⟩:=h9.arr_inv
 exact ⟨⟨a1,a2,a3,a4,a5,a6,a7,a8,a9,x⟩,rfl,⟨ZeW w1,ZeW w2,ZeW w3,ZeW w4,w6,k6,w7,k7,⟨k8,w8⟩,⟨k9,w9⟩,hx⟩⟩
noncomputable def rowH (l:List Zah):LL:=l.map Zah.ls
theorem open_C {xs:LL} (h : ∀x∈xs,LTys tysH x) : ∃l,xs=rowH l∧∀x∈l,WfH x:=
 decode fun x hx=>open_H (h x hx)
theorem Zgt {l:List Zah} {i:Nat} (h:i<l.length):(rowH l)[i]? = some l[i].ls:=by simp [rowH,h]
@[simp] theorem Zei (l:List Zah):(rowH l).length=l.length:=by simp [rowH]
theorem isI_row (l:List Int):isI (rowI l)=true:=by simp [isI,rowI]
end Go.Dn.F
namespace Go.Dn.F
open Go.Dn
def isW (a:Int):Prop:=0≤a∧a<18446744073709551616
def isN (n:Int):Prop:=0≤n∧n<115792089237316195423570985008687907853269984665640564039457584007913129639936
def nw (n:Int):List Int:=[n%18446744073709551616,n/18446744073709551616%18446744073709551616,n/340282366920938463463374607431768211456%18446744073709551616,n/6277101735386680763835789423207666416102355444464034512896%18446744073709551616]
def vw (a b c d:Int):Int:=a+18446744073709551616*b+340282366920938463463374607431768211456*c+6277101735386680763835789423207666416102355444464034512896*d
theorem ZcU {a b c d:Int} (ha:isW a) (hb:isW b) (hc:isW c) (hd:isW d):nw (vw a b c d) = [a,b,c,d]:=by
 unfold isW at *
 unfold nw vw
 have e1:(a+18446744073709551616*b+340282366920938463463374607431768211456*c+6277101735386680763835789423207666416102355444464034512896*d)/18446744073709551616=b+18446744073709551616*c+340282366920938463463374607431768211456*d:=by omega
 have e2:(a+18446744073709551616*b+340282366920938463463374607431768211456*c+6277101735386680763835789423207666416102355444464034512896*d)/340282366920938463463374607431768211456=c+18446744073709551616*d:=by omega
 have e3:(a+18446744073709551616*b+340282366920938463463374607431768211456*c+6277101735386680763835789423207666416102355444464034512896*d)/6277101735386680763835789423207666416102355444464034512896=d:=by omega
 rw [e1,e2,e3]
 congr 1
 ·omega
 congr 1
 ·omega
 congr 1
 ·omega
 congr 1
 omega
theorem Zgf {a b c d:Int} (ha:isW a) (hb:isW b) (hc:isW c) (hd:isW d):isN (vw a b c d):=by
 unfold isW at *;unfold isN vw;omega
theorem ZcF {n:Int} (h:isN n) : ∃a b c d,isW a∧isW b∧isW c∧isW d∧n=vw a b c d:=by
 unfold isN at h
 refine ⟨n%18446744073709551616,n/18446744073709551616%18446744073709551616,n/18446744073709551616/18446744073709551616%18446744073709551616,n/18446744073709551616/18446744073709551616/18446744073709551616,?_⟩
 unfold isW vw
 refine ⟨by omega,by omega,by omega,by omega,by omega⟩
theorem vw_lt {a b c d e f g h:Int} (ha:isW a) (hb:isW b) (hc:isW c) (hd:isW d) (he:isW e) (hf:isW f) (hg:isW g) (hh:isW h) :
  vw a b c d<vw e f g h↔(d<h∨d=h∧(c<g∨c=g∧(b<f∨b=f∧a<e))):=by
 unfold isW vw at *;omega
theorem vw_eq {a b c d e f g h:Int} (ha:isW a) (hb:isW b) (hc:isW c) (hd:isW d) (he:isW e) (hf:isW f) (hg:isW g) (hh:isW h) :
  vw a b c d=vw e f g h↔(a=e∧b=f∧c=g∧d=h):=by
 unfold isW vw at *;omega
theorem ZkT {m n:Int} (hm:isN m) (hn:isN n) (h:nw m=nw n):m=n:=by
 obtain ⟨a,b,c,d,ha,hb,hc,hd,rfl⟩:=ZcF hm
 obtain ⟨e,f,g,i,he,hf,hg,hi,rfl⟩:=ZcF hn
 rw [ZcU ha hb hc hd,ZcU he hf hg hi] at h
 simp only [List.cons.injEq,and_true] at h
 exact (vw_eq ha hb hc hd he hf hg hi).2 h
theorem Zkj {l:List Int} (hl:l.length=4) (h : ∀x∈l,isW x) : ∃n,isN n∧l=nw n:=by
 match l,hl with
 | [a,b,c,d],_=>
  have ha:=h a (by simp)
  have hb:=h b (by simp)
  have hc:=h c (by simp)
  have hd:=h d (by simp)
  exact ⟨vw a b c d,Zgf ha hb hc hd,(ZcU ha hb hc hd).symm⟩
theorem ZcW:List.replicate 4 0=nw 0:=by decide +kernel
variable {N:Nat}
theorem Zef {n:Int} (h:isW n):Zco N n=some (nw n):=by
 have:nw n = [n,0,0,0]:=by
  have:=ZcU h (b:=0) (c:=0) (d:=0) (by unfold isW;omega) (by unfold isW;omega) (by unfold isW;omega)
  rw [←this];congr 1;unfold vw;omega
 unfold Zco;rw [this]
theorem Zdb {n:Int} (h:isN n):ZbY N (nw n)=some (decide (n=0)):=by
 unfold ZbY
 rw [ZcW]
 refine Zea ⟨fun e=>ZkT h (by unfold isN;omega) (by simpa using e),fun e=>by subst e;simp⟩
def cmp (a b:Int):Int:=if a<b then -1 else if b<a then 1 else 0
theorem Zgp (hN:10≤N) {m n:Int} (hm:isN m) (hn:isN n):ZaW N (nw m) (nw n)=some (cmp m n):=by
 obtain ⟨a,b,c,d,ha,hb,hc,hd,rfl⟩:=ZcF hm
 obtain ⟨e,f,g,i,he,hf,hg,hi,rfl⟩:=ZcF hn
 have k1:=vw_lt ha hb hc hd he hf hg hi
 have k2:=vw_lt he hf hg hi ha hb hc hd
 rw [ZcU ha hb hc hd,ZcU he hf hg hi]
 obtain ⟨N,rfl⟩ : ∃q,N=q+5:=⟨N-5,by omega⟩
 unfold ZaW
 have t : ∀G:Int→Option Int,∀j:Nat,j<4→ZaW.p1 (N+5) [a,b,c,d] [e,f,g,i] G (j:Int)=if [a,b,c,d].getD j 0 < [e,f,g,i].getD j 0 then some (-1) else if [e,f,g,i].getD j 0 < [a,b,c,d].getD j 0 then some 1 else G ((j:Int)-1):=fun G j hj=>by
  unfold ZaW.p1
  rw [if_pos (by simp),Zam (by omega),Zam (by omega),Int.toNat_natCast,ZaD (by omega) (by omega)]
  simp only [decide_eq_true_eq,gt_iff_lt]
 have u : ∀G:Int→Option Int,ZaW.p1 (N+5) [a,b,c,d] [e,f,g,i] G (-1)=some 0:=fun G=>by
  unfold ZaW.p1
  rw [if_neg (by simp)]
 rw [Zao,show (3:Int)=((3:Nat):Int) from rfl,t _ 3 (by omega),Zao,show ((3:Nat):Int)-1=((2:Nat):Int) from rfl,t _ 2 (by omega),Zao,show ((2:Nat):Int)-1=((1:Nat):Int) from rfl,t _ 1 (by omega),Zao,show ((1:Nat):Int)-1=((0:Nat):Int) from rfl,t _ 0 (by omega),Zao,show ((0:Nat):Int)-1 = -1 from rfl,u]
 have g0 : ∀a b c d:Int,[a,b,c,d].getD 0 0=a:=fun _ _ _ _=>rfl
 have g1 : ∀a b c d:Int,[a,b,c,d].getD 1 0=b:=fun _ _ _ _=>rfl
 have g2 : ∀a b c d:Int,[a,b,c,d].getD 2 0=c:=fun _ _ _ _=>rfl
 have g3 : ∀a b c d:Int,[a,b,c,d].getD 3 0=d:=fun _ _ _ _=>rfl
 simp only [g0,g1,g2,g3]
 unfold cmp
 simp only [k1,k2]
 repeat' split
 all_goals first | rfl | (exfalso;omega)
theorem ZdH (hN:10≤N) {m n:Int} (hm:isN m) (hn:isN n):ZbW N (nw m) (nw n)=some (decide (m<n)):=by
 unfold ZbW
 rw [Zgp hN hm hn,Zab]
 refine Zea ?_
 simp only [decide_eq_true_eq]
 unfold cmp
 repeat' split
 all_goals omega
end Go.Dn.F
namespace Go.Dn.F
open Go.Dn
variable {N:Nat}
theorem add64 {x y c:Int} (hx:isW x) (hy:isW y) (hc:0≤c∧c≤1) : ∃s c':Int,ZcI N x y c=some (s,c')∧isW s∧0≤c'∧c'≤1∧s+18446744073709551616*c'=x+y+c:=by
 unfold isW at *
 refine ⟨(x+y+c)%18446744073709551616,(x+y+c)/18446744073709551616,?_,by omega,by omega,by omega,by omega⟩
 unfold ZcI
 rw [Zam (by omega),Zam (by omega),Zam (by omega),Zam (by omega)]
theorem sub64 {x y c:Int} (hx:isW x) (hy:isW y) (hc:0≤c∧c≤1) : ∃s c':Int,Zdz N x y c=some (s,c')∧isW s∧0≤c'∧c'≤1∧s-18446744073709551616*c'=x-y-c:=by
 unfold isW at *
 unfold Zdz
 rw [Zam (by omega),Zam (by omega),Zam (by omega),Zam (by omega),Zam (by omega)]
 refine ⟨_,_,rfl,?_⟩
 split<;>refine ⟨by omega,by omega,by omega,by omega⟩
theorem ZdU (hN:10≤N) {m n:Int} (hm:isN m) (hn:isN n) :
  Zbm N (nw m) (nw n)=some (nw ((m+n)%115792089237316195423570985008687907853269984665640564039457584007913129639936),decide (115792089237316195423570985008687907853269984665640564039457584007913129639936≤m+n)):=by
 obtain ⟨a,b,c,d,ha,hb,hc,hd,rfl⟩:=ZcF hm
 obtain ⟨e,f,g,i,he,hf,hg,hi,rfl⟩:=ZcF hn
 rw [ZcU ha hb hc hd,ZcU he hf hg hi]
 obtain ⟨N,rfl⟩ : ∃q,N=q+5:=⟨N-5,by omega⟩
 obtain ⟨s0,c0,e0,k0,l0,m0,n0⟩:=add64 (N:=N+5) ha he (c:=0) (by omega)
 obtain ⟨s1,c1,e1,k1,l1,m1,n1⟩:=add64 (N:=N+5) hb hf (c:=c0) (by omega)
 obtain ⟨s2,c2,e2,k2,l2,m2,n2⟩:=add64 (N:=N+5) hc hg (c:=c1) (by omega)
 obtain ⟨s3,c3,e3,k3,l3,m3,n3⟩:=add64 (N:=N+5) hd hi (c:=c2) (by omega)
 unfold Zbm
 have t : ∀(G:Int×Int×List Int→Option (List Int×Bool)) (j:Nat) (l:List Int) (c s c':Int),j<4→ZcI (N+5) (l.getD j 0) ([e,f,g,i].getD j 0) c=some (s,c') →
   Zbm.p1 (N+5) [e,f,g,i] G (c,(j:Int),l)=G (c',(j:Int)+1,l.set j s):=fun G j l c s c' hj h=>by
  unfold Zbm.p1
  dsimp only
  rw [if_pos (by simp;omega),Zam (by omega),Int.toNat_natCast,h,Zab,ZaD (by omega) (by omega)]
 have u : ∀(G:Int×Int×List Int→Option (List Int×Bool)) (l:List Int) (c:Int),Zbm.p1 (N+5) [e,f,g,i] G (c,4,l)=some (l,c != 0):=fun G l c=>by
  unfold Zbm.p1
  dsimp only
  rw [if_neg (by simp)]
 rw [Zao]
 refine Eq.trans (t _ 0 [a,b,c,d] 0 s0 c0 (by omega) e0) ?_
 rw [Zao]
 refine Eq.trans (t _ 1 [s0,b,c,d] c0 s1 c1 (by omega) e1) ?_
 rw [Zao]
 refine Eq.trans (t _ 2 [s0,s1,c,d] c1 s2 c2 (by omega) e2) ?_
 rw [Zao]
 refine Eq.trans (t _ 3 [s0,s1,s2,d] c2 s3 c3 (by omega) e3) ?_
 rw [Zao]
 refine Eq.trans (u _ [s0,s1,s2,s3] c3) ?_
 rw [←ZcU k0 k1 k2 k3]
 have key:vw a b c d+vw e f g i=vw s0 s1 s2 s3+115792089237316195423570985008687907853269984665640564039457584007913129639936*c3:=by unfold vw;omega
 have r:=Zgf k0 k1 k2 k3
 unfold isN at r
 have e5:(vw a b c d+vw e f g i)%115792089237316195423570985008687907853269984665640564039457584007913129639936=vw s0 s1 s2 s3:=by omega
 rw [e5]
 have e6:(c3 != 0)=decide (115792089237316195423570985008687907853269984665640564039457584007913129639936≤vw a b c d+vw e f g i):=by
  rw [Bool.eq_iff_iff];simp only [bne_iff_ne,ne_eq,decide_eq_true_eq];omega
 rw [e6]
theorem of_w (x:Int) (h:isW x):(BitVec.ofInt 64 x).toNat=x.toNat:=by
 unfold isW at h
 rw [BitVec.toNat_ofInt];omega
theorem wrap64 (n:Nat) (h:n<18446744073709551616):IntKind.wrap .u64 (n:Int)=n:=Zch (by omega) (by omega)
theorem and64 {x y:Int} (hx:isW x) (hy:isW y):bitsOf .and .u64 x y=((x.toNat &&& y.toNat:Nat):Int):=by
 show IntKind.wrap .u64 (((BitVec.ofInt 64 x &&& BitVec.ofInt 64 y).toNat:Nat):Int)=_
 rw [wrap64 _ (BitVec.isLt _),BitVec.toNat_and,of_w x hx,of_w y hy]
theorem or64 {x y:Int} (hx:isW x) (hy:isW y):bitsOf .or .u64 x y=((x.toNat ||| y.toNat:Nat):Int):=by
 show IntKind.wrap .u64 (((BitVec.ofInt 64 x ||| BitVec.ofInt 64 y).toNat:Nat):Int)=_
 rw [wrap64 _ (BitVec.isLt _),BitVec.toNat_or,of_w x hx,of_w y hy]
theorem xor_max {x:Int} (h:isW x):bitsOf .xor .u64 (IntKind.max IntKind.u64) x=18446744073709551615-x:=by
 show IntKind.wrap .u64 (((BitVec.ofInt 64 (IntKind.max IntKind.u64) ^^^ BitVec.ofInt 64 x).toNat:Nat):Int)=_
 rw [wrap64 _ (BitVec.isLt _),show BitVec.ofInt 64 (IntKind.max IntKind.u64)=BitVec.allOnes 64 by decide,BitVec.allOnes_xor,BitVec.toNat_not,of_w x h]
 unfold isW at h
 omega
theorem shl64 (x:Int) {k:Nat} (h:k≤64):shlOf .u64 x (k:Int)=x*2^k%18446744073709551616:=by
 have e:min (Int.toNat (k:Int)) (IntKind.bits .u64)=k:=by simp only [IntKind.bits,Int.toNat_natCast];omega
 unfold shlOf
 rw [e]
 show v64 _=_
 rw [ZdX]
theorem shr64 (x:Int) {k:Nat} (h:k≤64):shrOf .u64 x (k:Int)=x/2^k:=by
 have e:min (Int.toNat (k:Int)) (IntKind.bits .u64)=k:=by simp only [IntKind.bits,Int.toNat_natCast];omega
 unfold shrOf
 rw [e,Int.fdiv_eq_ediv_of_nonneg _ (Int.le_of_lt (Int.pow_pos (by decide)))]
theorem Zbx (k:Nat):(0:Int)<2^k:=Int.pow_pos (by decide)
theorem ZdG {k:Nat} (h:k≤64):(2:Int)^k*2^(64-k)=18446744073709551616:=by
 rw [←Int.pow_add,show k+(64-k)=64 by omega];rfl
theorem ZeR {A h:Int} {k:Nat} (hk:k≤64) (hA:0≤A) (hA2:A+2^k≤18446744073709551616) (hd:A%2^k=0) (h0:0≤h) (h1:h<2^k):bitsOf .or .u64 A h=A+h:=by
 have p:=Zbx k
 rw [or64 (by unfold isW;omega) (by unfold isW;omega)]
 have e1:A.toNat=(A/2^k).toNat <<< k:=by
  rw [Nat.shiftLeft_eq]
  have e:=Int.ediv_mul_add_emod A (2^k)
  rw [hd,Int.add_zero] at e
  have q:0≤A/2^k:=Int.ediv_nonneg hA (by omega)
  apply Int.ofNat_inj.1
  push_cast
  rw [Int.toNat_of_nonneg hA,Int.toNat_of_nonneg q,e]
 have e2:h.toNat<2^k:=by
  have:((h.toNat:Nat):Int)<((2^k:Nat):Int):=by push_cast;omega
  omega
 rw [e1,←Nat.shiftLeft_add_eq_or_of_lt e2,←e1]
 omega
theorem ZcA {a:Int} (ha:isW a) {k:Nat} (hk:k≤64) : ∃A h:Int,shlOf .u64 a (k:Int)=A∧shrOf .u64 a ((64-k:Nat):Int)=h∧0≤A∧A+2^k≤18446744073709551616∧0≤h∧h<2^k∧a*2^k=A+18446744073709551616*h∧A%2^k=0:=by
 have p:=Zbx k
 have p':=Zbx (64-k)
 have s:=ZdG hk
 unfold isW at ha
 refine ⟨_,_,shl64 a hk,shr64 a (by omega),?_⟩
 generalize (2:Int)^(64-k)=U at *
 generalize (2:Int)^k=T at *
 have e:=Int.ediv_mul_add_emod a U
 have r0:=Int.emod_nonneg a (b:=U) (by omega)
 have r1:=Int.emod_lt_of_pos a p'
 have hq:0≤a/U:=Int.ediv_nonneg ha.1 (by omega)
 have hT:a/U<T:=Int.ediv_lt_of_lt_mul p' (by rw [s];exact ha.2)
 have aT:a*T=(a%U)*T+18446744073709551616*(a/U):=by
  conv=>lhs;rw [←e,Int.add_mul,Int.mul_assoc,Int.mul_comm U T,s,Int.add_comm,Int.mul_comm (a/U)]
 have l1:(a%U)*T+T≤18446744073709551616:=by
  have:(a%U+1)*T≤U*T:=Int.mul_le_mul_of_nonneg_right (by omega) (by omega)
  rw [Int.mul_comm U T,s,Int.add_mul,Int.one_mul] at this
  exact this
 have l0:0≤(a%U)*T:=Int.mul_nonneg r0 (by omega)
 have e3:a*T%18446744073709551616=(a%U)*T:=by rw [aT];omega
 rw [e3]
 exact ⟨l0,l1,hq,hT,aT,Int.mul_emod_left _ _⟩
theorem isW0:isW 0:=by unfold isW;omega
theorem Ziv (n:Nat):(2:Int)^n=2^(64*(n/64))*2^(n%64):=by rw [←Int.pow_add,Nat.div_add_mod]
theorem Zfk (hN:10≤N) {m:Int} (hm:isN m) (n:Nat) (hn:n<1000000) :
  Zbh N (nw m) (n:Int)=some (nw (m*2^n%115792089237316195423570985008687907853269984665640564039457584007913129639936)):=by
 unfold Zbh
 by_cases h256:256≤n
 ·rw [if_pos (by simp;omega),ZcW]
  have:m*2^n%115792089237316195423570985008687907853269984665640564039457584007913129639936=0:=by
   have e:(2:Int)^n=2^(n-256)*2^256:=by rw [←Int.pow_add,show n-256+256=n by omega]
   rw [e,←Int.mul_assoc]
   exact Int.mul_emod_left _ _
  rw [this]
 rw [if_neg (by simp;omega)]
 obtain ⟨a,b,c,d,ha,hb,hc,hd,rfl⟩:=ZcF hm
 rw [ZcU ha hb hc hd]
 have hk:n%64≤64:=by omega
 obtain ⟨A,x,a1,a2,a3,a4,a5,a6,a7,a8⟩:=ZcA ha hk
 obtain ⟨B,y,b1,b2,b3,b4,b5,b6,b7,b8⟩:=ZcA hb hk
 obtain ⟨C,z,c1,c2,c3,c4,c5,c6,c7,c8⟩:=ZcA hc hk
 obtain ⟨D,u,d1,d2,d3,d4,d5,d6,d7,d8⟩:=ZcA hd hk
 have o1:=ZeR hk b3 b4 b8 a5 a6
 have o2:=ZeR hk c3 c4 c8 b5 b6
 have o3:=ZeR hk d3 d4 d8 c5 c6
 have pT:=Zbx (n%64)
 have hq:Int.tdiv (if (0:Int)>(n:Int) then 0 else (n:Int)) 64=((n/64:Nat):Int):=by rw [if_neg (by omega),Int.tdiv_eq_ediv_of_nonneg (by omega)];omega
 have hr:Int.tmod (if (0:Int)>(n:Int) then 0 else (n:Int)) 64=((n%64:Nat):Int):=by rw [if_neg (by omega),Int.tmod_eq_emod_of_nonneg (by omega)];omega
 obtain ⟨N,rfl⟩ : ∃q,N=q+5:=⟨N-5,by omega⟩
 rw [hq,ZaD (by omega) (by omega)]
 have first : ∀(G:Int×List Int→Option (List Int)) (l:List Int),n/64<4 →
   Zbh.p1 (N+5) (n:Int) [a,b,c,d] G (((n/64:Nat):Int),l)=G (((n/64:Nat):Int)+1,l.set (n/64) A):=fun G l hl=>by
  unfold Zbh.p1
  dsimp only
  rw [hq,hr,ZaD (n:=((n/64:Nat):Int)) (by omega) (by omega),Int.sub_self,ZaD (n:=0) (by omega) (by omega),if_pos (by simp;omega),Zam (by omega),Zam (by omega),Zam (by omega),Zam (by omega),if_neg (by simp)]
  unfold Zbh.p2
  rw [ZaD (by omega) (by omega),Int.toNat_natCast,show List.getD [a,b,c,d] (Int.toNat 0) 0=a from rfl,a1]
 have next : ∀(G:Int×List Int→Option (List Int)) (j:Nat) (l:List Int) (s t X:Int),n/64+j+1<4→l.length=4→[a,b,c,d].getD (j+1) 0=s→[a,b,c,d].getD j 0=t →
   bitsOf .or .u64 (shlOf .u64 s ((n%64:Nat):Int)) (shrOf .u64 t ((64-n%64:Nat):Int))=X →
   Zbh.p1 (N+5) (n:Int) [a,b,c,d] G (((n/64+j+1:Nat):Int),l)=G (((n/64+j+1:Nat):Int)+1,l.set (n/64+j+1) X):=fun G j l s t X hl hl4 hs ht hX=>by
  unfold Zbh.p1
  dsimp only
  rw [hq,hr,ZaD (n:=((n/64:Nat):Int)) (by omega) (by omega),show (((n/64+j+1:Nat):Int)-((n/64:Nat):Int))=((j+1:Nat):Int) by omega,ZaD (n:=((j+1:Nat):Int)) (by omega) (by omega),show ((j+1:Nat):Int)-1=(j:Int) by omega,ZaD (n:=(j:Int)) (by omega) (by omega),show (64:Int)-((n%64:Nat):Int)=((64-n%64:Nat):Int) by omega,ZaD (n:=((64-n%64:Nat):Int)) (by omega) (by omega),
   if_pos (by simp;omega),Zam (by omega),Zam (by omega),Zam (by omega),Zam (by omega),if_pos (by simp;omega),Zam (by omega),Zam (by omega),Zam (by omega)]
  unfold Zbh.p2
  rw [ZaD (by omega) (by omega),Int.toNat_natCast,Int.toNat_natCast,Int.toNat_natCast,hs,ht,List.set_set]
  have:(l.set (n/64+j+1) (shlOf .u64 s ((n%64:Nat):Int))).getD (n/64+j+1) 0=shlOf .u64 s ((n%64:Nat):Int):=by
   rw [List.getD_eq_getElem?_getD,List.getElem?_set_self (by omega)];rfl
  rw [this,hX]
 have last : ∀(G:Int×List Int→Option (List Int)) (l:List Int),Zbh.p1 (N+5) (n:Int) [a,b,c,d] G (4,l)=some l:=fun G l=>by
  unfold Zbh.p1
  dsimp only
  rw [if_neg (by simp)]
 have n1:=fun G l X e=>next G 0 l b a X e
 have n2:=fun G l X e=>next G 1 l c b X e
 have n3:=fun G l X e=>next G 2 l d c X e
 rw [b1,a2] at n1
 rw [c1,b2] at n2
 rw [d1,c2] at n3
 have pw:=Ziv n
 have cases4:n/64=0∨n/64=1∨n/64=2∨n/64=3:=by omega
 have vT:vw a b c d*2^(n%64)=A+18446744073709551616*x+18446744073709551616*(B+18446744073709551616*y)+340282366920938463463374607431768211456*(C+18446744073709551616*z)+6277101735386680763835789423207666416102355444464034512896*(D+18446744073709551616*u):=by
  rw [←a7,←b7,←c7,←d7]
  unfold vw
  rw [Int.add_mul,Int.add_mul,Int.add_mul,Int.mul_assoc,Int.mul_assoc,Int.mul_assoc]
 rcases cases4 with q | q | q | q
 ·rw [q] at first n1 n2 n3 pw ⊢
  rw [Zao];refine Eq.trans (first _ [0,0,0,0] (by omega)) ?_
  rw [Zao];refine Eq.trans (n1 _ [A,0,0,0] _ (by omega) rfl rfl rfl o1) ?_
  rw [Zao];refine Eq.trans (n2 _ [A,B+x,0,0] _ (by omega) rfl rfl rfl o2) ?_
  rw [Zao];refine Eq.trans (n3 _ [A,B+x,C+y,0] _ (by omega) rfl rfl rfl o3) ?_
  rw [Zao];refine Eq.trans (last _ [A,B+x,C+y,D+z]) ?_
  rw [←ZcU (a:=A) (b:=B+x) (c:=C+y) (d:=D+z) (by unfold isW;omega) (by unfold isW;omega) (by unfold isW;omega) (by unfold isW;omega)]
  congr 2
  rw [pw,show (2:Int)^(64*0)=1 from rfl,Int.one_mul,vT]
  unfold vw;omega
 ·rw [q] at first n1 n2 n3 pw ⊢
  rw [Zao];refine Eq.trans (first _ [0,0,0,0] (by omega)) ?_
  rw [Zao];refine Eq.trans (n1 _ [0,A,0,0] _ (by omega) rfl rfl rfl o1) ?_
  rw [Zao];refine Eq.trans (n2 _ [0,A,B+x,0] _ (by omega) rfl rfl rfl o2) ?_
  rw [Zao];refine Eq.trans (last _ [0,A,B+x,C+y]) ?_
  rw [←ZcU (a:=0) (b:=A) (c:=B+x) (d:=C+y) (by unfold isW;omega) (by unfold isW;omega) (by unfold isW;omega) (by unfold isW;omega)]
  congr 2
  rw [pw,show (2:Int)^(64*1)=18446744073709551616 from rfl,Int.mul_left_comm,vT]
  unfold vw;omega
 ·rw [q] at first n1 n2 n3 pw ⊢
  rw [Zao];refine Eq.trans (first _ [0,0,0,0] (by omega)) ?_
  rw [Zao];refine Eq.trans (n1 _ [0,0,A,0] _ (by omega) rfl rfl rfl o1) ?_
  rw [Zao];refine Eq.trans (last _ [0,0,A,B+x]) ?_
  rw [←ZcU (a:=0) (b:=0) (c:=A) (d:=B+x) (by unfold isW;omega) (by unfold isW;omega) (by unfold isW;omega) (by unfold isW;omega)]
  congr 2
  rw [pw,show (2:Int)^(64*2)=340282366920938463463374607431768211456 from rfl,Int.mul_left_comm,vT]
  unfold vw;omega
 ·rw [q] at first n1 n2 n3 pw ⊢
  rw [Zao];refine Eq.trans (first _ [0,0,0,0] (by omega)) ?_
  rw [Zao];refine Eq.trans (last _ [0,0,0,A]) ?_
  rw [←ZcU (a:=0) (b:=0) (c:=0) (d:=A) (by unfold isW;omega) (by unfold isW;omega) (by unfold isW;omega) (by unfold isW;omega)]
  congr 2
  rw [pw,show (2:Int)^(64*3)=6277101735386680763835789423207666416102355444464034512896 from rfl,Int.mul_left_comm,vT]
  unfold vw;omega
theorem ZgK {x y:Int} (hx:isW x) (hy:isW y):bitsOf .or .u64 x y=bitsOf .or .u64 y x:=by rw [or64 hx hy,or64 hy hx,Nat.or_comm]
theorem ZjU {m A S T U:Int} (hT:0<T) (hU:0<U) (hTU:T*U=18446744073709551616) (hA:0≤A∧A<18446744073709551616) (h:m*U=A+18446744073709551616*S):m/T=S:=by
 rw [←Int.mul_ediv_mul_of_pos_left m T hU,hTU,h];omega
theorem Zfv (hN:10≤N) {m:Int} (hm:isN m) (n:Nat) (hn:n<1000000) :
  ZaP N (nw m) (n:Int)=some (nw (m/2^n)):=by
 unfold ZaP
 by_cases h256:256≤n
 ·rw [if_pos (by simp;omega),ZcW]
  have:m/2^n=0:=by
   have e:(2:Int)^n=2^256*2^(n-256):=by rw [←Int.pow_add,show 256+(n-256)=n by omega]
   rw [e,←Int.ediv_ediv_of_nonneg (by decide)]
   unfold isN at hm
   rw [show m/2^256=0 by rw [show (2:Int)^256=115792089237316195423570985008687907853269984665640564039457584007913129639936 from rfl];omega]
   simp
  rw [this]
 rw [if_neg (by simp;omega)]
 obtain ⟨a,b,c,d,ha,hb,hc,hd,rfl⟩:=ZcF hm
 rw [ZcU ha hb hc hd]
 have hk:64-n%64≤64:=by omega
 obtain ⟨A,x,a1,a2,a3,a4,a5,a6,a7,a8⟩:=ZcA ha hk
 obtain ⟨B,y,b1,b2,b3,b4,b5,b6,b7,b8⟩:=ZcA hb hk
 obtain ⟨C,z,c1,c2,c3,c4,c5,c6,c7,c8⟩:=ZcA hc hk
 obtain ⟨D,u,d1,d2,d3,d4,d5,d6,d7,d8⟩:=ZcA hd hk
 rw [show 64-(64-n%64)=n%64 by omega] at a2 b2 c2 d2
 have pT:=Zbx (n%64)
 have pU:=Zbx (64-n%64)
 have tu:=ZdG (k:=n%64) (by omega)
 have o1:=ZeR hk b3 b4 b8 a5 a6
 have o2:=ZeR hk c3 c4 c8 b5 b6
 have o3:=ZeR hk d3 d4 d8 c5 c6
 rw [ZgK (by unfold isW;omega) (by unfold isW;omega),Int.add_comm] at o1 o2 o3
 have hq:Int.tdiv (if (0:Int)>(n:Int) then 0 else (n:Int)) 64=((n/64:Nat):Int):=by rw [if_neg (by omega),Int.tdiv_eq_ediv_of_nonneg (by omega)];omega
 have hr:Int.tmod (if (0:Int)>(n:Int) then 0 else (n:Int)) 64=((n%64:Nat):Int):=by rw [if_neg (by omega),Int.tmod_eq_emod_of_nonneg (by omega)];omega
 obtain ⟨N,rfl⟩ : ∃q,N=q+5:=⟨N-5,by omega⟩
 have top : ∀(G:Int×List Int→Option (List Int)) (j:Nat) (l:List Int) (s X:Int),n/64+j=3→[a,b,c,d].getD 3 0=s→shrOf .u64 s ((n%64:Nat):Int)=X →
   ZaP.p1 (N+5) (n:Int) [a,b,c,d] G ((j:Int),l)=G ((j:Int)+1,l.set j X):=fun G j l s X hl hs hX=>by
  unfold ZaP.p1
  dsimp only
  rw [hq,hr,ZaD (n:=((n/64:Nat):Int)) (by omega) (by omega),show (4:Int)-((n/64:Nat):Int)=((4-n/64:Nat):Int) by omega,ZaD (n:=((4-n/64:Nat):Int)) (by omega) (by omega),show ((j:Int)+((n/64:Nat):Int))=((3:Nat):Int) by omega,ZaD (n:=((3:Nat):Int)) (by omega) (by omega),if_pos (by simp;omega),Zam (by omega),Zam (by omega),Zam (by omega),Zam (by omega),Zam (by omega),if_neg (by rw [ZaD (by omega) (by omega)];simp)]
  unfold ZaP.p2
  rw [ZaD (by omega) (by omega),Int.toNat_natCast,Int.toNat_natCast,hs,hX]
 have next : ∀(G:Int×List Int→Option (List Int)) (j:Nat) (l:List Int) (s t X:Int),n/64+j<3→l.length=4→[a,b,c,d].getD (n/64+j) 0=s→[a,b,c,d].getD (n/64+j+1) 0=t →
   bitsOf .or .u64 (shrOf .u64 s ((n%64:Nat):Int)) (shlOf .u64 t ((64-n%64:Nat):Int))=X →
   ZaP.p1 (N+5) (n:Int) [a,b,c,d] G ((j:Int),l)=G ((j:Int)+1,l.set j X):=fun G j l s t X hl hl4 hs ht hX=>by
  unfold ZaP.p1
  dsimp only
  rw [hq,hr,ZaD (n:=((n/64:Nat):Int)) (by omega) (by omega),show (4:Int)-((n/64:Nat):Int)=((4-n/64:Nat):Int) by omega,ZaD (n:=((4-n/64:Nat):Int)) (by omega) (by omega),show ((j:Int)+((n/64:Nat):Int))=((n/64+j:Nat):Int) by omega,ZaD (n:=((n/64+j:Nat):Int)) (by omega) (by omega),show ((n/64+j:Nat):Int)+1=((n/64+j+1:Nat):Int) by omega,ZaD (n:=((n/64+j+1:Nat):Int)) (by omega) (by omega),show (64:Int)-((n%64:Nat):Int)=((64-n%64:Nat):Int) by omega,ZaD (n:=((64-n%64:Nat):Int)) (by omega) (by omega),
   if_pos (by simp;omega),Zam (by omega),Zam (by omega),Zam (by omega),Zam (by omega),Zam (by omega),if_pos (by simp;omega),Zam (by omega),Zam (by omega)]
  unfold ZaP.p2
  rw [ZaD (by omega) (by omega),Int.toNat_natCast,Int.toNat_natCast,Int.toNat_natCast,hs,ht,List.set_set]
  have:(l.set j (shrOf .u64 s ((n%64:Nat):Int))).getD j 0=shrOf .u64 s ((n%64:Nat):Int):=by
   rw [List.getD_eq_getElem?_getD,List.getElem?_set_self (by omega)];rfl
  rw [this,hX]
 have last : ∀(G:Int×List Int→Option (List Int)) (l:List Int) (j:Nat),n/64+j=4→ZaP.p1 (N+5) (n:Int) [a,b,c,d] G ((j:Int),l)=some l:=fun G l j hj=>by
  unfold ZaP.p1
  dsimp only
  rw [hq,ZaD (n:=((n/64:Nat):Int)) (by omega) (by omega),ZaD (by omega) (by omega),if_neg (by simp;omega)]
 have pw:=Ziv n
 have cases4:n/64=0∨n/64=1∨n/64=2∨n/64=3:=by omega
 have fin : ∀(a b c d A S:Int),isW A→vw a b c d*2^(64-n%64)=A+18446744073709551616*S→vw a b c d/2^(n%64)=S:=fun a b c d A S hA h=>ZjU pT pU tu hA h
 have vT : ∀(a b c d A B C D x y z u:Int),a*2^(64-n%64)=A+18446744073709551616*x→b*2^(64-n%64)=B+18446744073709551616*y→c*2^(64-n%64)=C+18446744073709551616*z→d*2^(64-n%64)=D+18446744073709551616*u →
   vw a b c d*2^(64-n%64)=A+18446744073709551616*vw (x+B) (y+C) (z+D) u:=fun a b c d A B C D x y z u a7 b7 c7 d7=>by
  have:vw a b c d*2^(64-n%64)=A+18446744073709551616*x+18446744073709551616*(B+18446744073709551616*y)+340282366920938463463374607431768211456*(C+18446744073709551616*z)+6277101735386680763835789423207666416102355444464034512896*(D+18446744073709551616*u):=by
   rw [←a7,←b7,←c7,←d7]
   unfold vw
   rw [Int.add_mul,Int.add_mul,Int.add_mul,Int.mul_assoc,Int.mul_assoc,Int.mul_assoc]
  rw [this];unfold vw;omega
 have z0:(0:Int)*2^(64-n%64)=0+18446744073709551616*0:=by omega
 have W0:isW A∧isW B∧isW C∧isW D:=by unfold isW;omega
 rcases cases4 with q | q | q | q
 ·rw [q] at next top last pw
  rw [Zao];refine Eq.trans (next _ 0 [0,0,0,0] a b (x+B) (by omega) rfl rfl rfl (by rw [a2,b1];exact o1)) ?_
  rw [Zao];refine Eq.trans (next _ 1 [_,0,0,0] b c (y+C) (by omega) rfl rfl rfl (by rw [b2,c1];exact o2)) ?_
  rw [Zao];refine Eq.trans (next _ 2 [_,_,0,0] c d (z+D) (by omega) rfl rfl rfl (by rw [c2,d1];exact o3)) ?_
  rw [Zao];refine Eq.trans (top _ 3 [_,_,_,0] _ _ (by omega) rfl d2) ?_
  rw [Zao];refine Eq.trans (last _ _ 4 (by omega)) ?_
  rw [pw,show (2:Int)^(64*0)=1 from rfl,Int.one_mul,fin a b c d A _ W0.1 (vT _ _ _ _ _ _ _ _ _ _ _ _ a7 b7 c7 d7),ZcU (by unfold isW;omega) (by unfold isW;omega) (by unfold isW;omega) (by unfold isW;omega)]
  simp
 ·rw [q] at next top last pw
  rw [Zao];refine Eq.trans (next _ 0 [0,0,0,0] b c (y+C) (by omega) rfl rfl rfl (by rw [b2,c1];exact o2)) ?_
  rw [Zao];refine Eq.trans (next _ 1 [_,0,0,0] c d (z+D) (by omega) rfl rfl rfl (by rw [c2,d1];exact o3)) ?_
  rw [Zao];refine Eq.trans (top _ 2 [_,_,0,0] _ _ (by omega) rfl d2) ?_
  rw [Zao];refine Eq.trans (last _ _ 3 (by omega)) ?_
  have:vw a b c d/18446744073709551616=vw b c d 0:=by unfold isW vw at *;omega
  rw [pw,show (2:Int)^(64*1)=18446744073709551616 from rfl,←Int.ediv_ediv_of_nonneg (by omega),this,fin b c d 0 B _ W0.2.1 (vT _ _ _ _ _ _ _ _ _ _ _ _ b7 c7 d7 z0),ZcU (by unfold isW;omega) (by unfold isW;omega) (by unfold isW;omega) (by unfold isW;omega)]
  simp
 ·rw [q] at next top last pw
  rw [Zao];refine Eq.trans (next _ 0 [0,0,0,0] c d (z+D) (by omega) rfl rfl rfl (by rw [c2,d1];exact o3)) ?_
  rw [Zao];refine Eq.trans (top _ 1 [_,0,0,0] _ _ (by omega) rfl d2) ?_
  rw [Zao];refine Eq.trans (last _ _ 2 (by omega)) ?_
  have:vw a b c d/340282366920938463463374607431768211456=vw c d 0 0:=by unfold isW vw at *;omega
  rw [pw,show (2:Int)^(64*2)=340282366920938463463374607431768211456 from rfl,←Int.ediv_ediv_of_nonneg (by omega),this,fin c d 0 0 C _ W0.2.2.1 (vT _ _ _ _ _ _ _ _ _ _ _ _ c7 d7 z0 z0),ZcU (by unfold isW;omega) (by unfold isW;omega) (by unfold isW;omega) (by unfold isW;omega)]
  simp
 ·rw [q] at next top last pw
  rw [Zao];refine Eq.trans (top _ 0 [0,0,0,0] _ _ (by omega) rfl d2) ?_
  rw [Zao];refine Eq.trans (last _ _ 1 (by omega)) ?_
  have:vw a b c d/6277101735386680763835789423207666416102355444464034512896=vw d 0 0 0:=by unfold isW vw at *;omega
  rw [pw,show (2:Int)^(64*3)=6277101735386680763835789423207666416102355444464034512896 from rfl,←Int.ediv_ediv_of_nonneg (by omega),this,fin d 0 0 0 D _ W0.2.2.2 (vT _ _ _ _ _ _ _ _ _ _ _ _ d7 z0 z0 z0),ZcU (by unfold isW;omega) (by unfold isW;omega) (by unfold isW;omega) (by unfold isW;omega)]
  simp
theorem ZjY {x:Int} (hx:isW x) (k:Nat) (hk:k≤64):bitsOf .and .u64 x (2^k-1)=x%2^k:=by
 have p:=Zbx k
 have q:=Zbx (64-k)
 have s:=ZdG hk
 have l:(2:Int)^k≤18446744073709551616:=by
  have:=Int.mul_le_mul_of_nonneg_left (show (1:Int)≤2^(64-k) by omega) (show (0:Int)≤2^k by omega)
  omega
 rw [and64 hx (by unfold isW;omega)]
 have:((2:Int)^k-1).toNat=2^k-1:=by
  have:((2^k:Nat):Int)=(2:Int)^k:=by push_cast;rfl
  omega
 rw [this,Nat.and_two_pow_sub_one_eq_mod]
 unfold isW at hx
 push_cast
 rw [Int.toNat_of_nonneg hx.1]
theorem and32 {x:Int} (hx:isW x):bitsOf .and .u64 x 4294967295=x%4294967296:=ZjY hx 32 (by omega)
theorem shr32 (x:Int):shrOf .u64 x 32=x/4294967296:=shr64 x (k:=32) (by omega)
theorem mul64 {x y:Int} (hx:isW x) (hy:isW y):ZbT N x y=some (x*y/18446744073709551616,x*y%18446744073709551616):=by
 unfold ZbT
 rw [shr32 x,shr32 y,and32 hx,and32 hy]
 unfold isW at hx hy
 obtain ⟨x1,x0,ex,hx1,hx2,hx3,hx4⟩ : ∃x1 x0:Int,x=x1*4294967296+x0∧0≤x1∧x1≤4294967295∧0≤x0∧x0≤4294967295:=⟨x/4294967296,x%4294967296,by omega,by omega,by omega,by omega,by omega⟩
 obtain ⟨y1,y0,ey,hy1,hy2,hy3,hy4⟩ : ∃x1 x0:Int,y=x1*4294967296+x0∧0≤x1∧x1≤4294967295∧0≤x0∧x0≤4294967295:=⟨y/4294967296,y%4294967296,by omega,by omega,by omega,by omega,by omega⟩
 rw [show x/4294967296=x1 by omega,show x%4294967296=x0 by omega,show y/4294967296=y1 by omega,show y%4294967296=y0 by omega]
 have b : ∀{u v:Int},0≤u→u≤4294967295→0≤v→v≤4294967295→0≤u*v∧u*v≤18446744065119617025:=fun h1 h2 h3 h4=>⟨Int.mul_nonneg h1 h3,by
  have:=Int.mul_le_mul h2 h4 h3 (by omega:(0:Int)≤4294967295)
  omega⟩
 obtain ⟨p1,p2⟩:=b hx1 hx2 hy1 hy2
 obtain ⟨q1,q2⟩:=b hx1 hx2 hy3 hy4
 obtain ⟨r1,r2⟩:=b hx3 hx4 hy1 hy2
 obtain ⟨s1,s2⟩:=b hx3 hx4 hy3 hy4
 have prod:x*y=18446744073709551616*(x1*y1)+4294967296*(x1*y0)+4294967296*(x0*y1)+x0*y0:=by
  rw [ex,ey,Int.add_mul,Int.mul_add,Int.mul_add]
  have e1:x1*4294967296*(y1*4294967296)=18446744073709551616*(x1*y1):=by
   rw [Int.mul_assoc,Int.mul_left_comm 4294967296 y1,←Int.mul_assoc x1 y1];omega
  have e2:x1*4294967296*y0=4294967296*(x1*y0):=by rw [Int.mul_comm x1,Int.mul_assoc]
  have e3:x0*(y1*4294967296)=4294967296*(x0*y1):=by rw [←Int.mul_assoc,Int.mul_comm]
  rw [e1,e2,e3];omega
 rw [prod]
 generalize x1*y1=P at *
 generalize x1*y0=Q at *
 generalize x0*y1=R at *
 generalize x0*y0=S at *
 rw [Zch (n:=S) (by omega) (by omega),Zch (n:=Q) (by omega) (by omega),Zch (n:=R) (by omega) (by omega),Zch (n:=P) (by omega) (by omega),shr32 S,Zch (n:=Q+S/4294967296) (by omega) (by omega),shr32,and32 (by unfold isW;omega),Zch (n:=P+(Q+S/4294967296)/4294967296) (by omega) (by omega),Zch (n:=(Q+S/4294967296)%4294967296+R) (by omega) (by omega),shr32,Zch (by omega) (by omega),ZdX]
 have:P+(Q+S/4294967296)/4294967296+((Q+S/4294967296)%4294967296+R)/4294967296=(18446744073709551616*P+4294967296*Q+4294967296*R+S)/18446744073709551616:=by omega
 rw [this]
theorem mulc {x y c:Int} (hx:isW x) (hy:isW y) (hc:isW c) : ∃hi lo s c':Int,ZbT N x y=some (hi,lo)∧ZcI N lo c 0=some (s,c')∧isW s∧isW (v64 (hi+c'))∧s+18446744073709551616*(v64 (hi+c'))=x*y+c:=by
 have h:=mul64 (N:=N) hx hy
 obtain ⟨s,c',e,k,l,m,n⟩:=add64 (N:=N) (x:=x*y%18446744073709551616) (y:=c) (c:=0) (by unfold isW;omega) hc (by omega)
 refine ⟨_,_,s,c',h,e,k,?_⟩
 have:0≤x*y∧x*y≤340282366920938463426481119284349108225:=by
  unfold isW at hx hy
  refine ⟨Int.mul_nonneg hx.1 hy.1,?_⟩
  have:=Int.mul_le_mul (show x≤18446744073709551615 by omega) (show y≤18446744073709551615 by omega) hy.1 (by omega)
  omega
 unfold isW at *
 generalize x*y=P at *
 rw [Zch (by omega) (by omega)]
 omega
theorem Zhd (hN:10≤N) {m y:Int} (hm:isN m) (hy:isW y) :
  Zbq N (nw m) y=some (nw (m*y%115792089237316195423570985008687907853269984665640564039457584007913129639936),decide (115792089237316195423570985008687907853269984665640564039457584007913129639936≤m*y)):=by
 obtain ⟨a,b,c,d,ha,hb,hc,hd,rfl⟩:=ZcF hm
 rw [ZcU ha hb hc hd]
 obtain ⟨N,rfl⟩ : ∃q,N=q+5:=⟨N-5,by omega⟩
 obtain ⟨x0,l0,s0,c0,e0,f0,g0,h0,i0⟩:=mulc (N:=N+5) ha hy isW0
 obtain ⟨x1,l1,s1,c1,e1,f1,g1,h1,i1⟩:=mulc (N:=N+5) hb hy h0
 obtain ⟨x2,l2,s2,c2,e2,f2,g2,h2,i2⟩:=mulc (N:=N+5) hc hy h1
 obtain ⟨x3,l3,s3,c3,e3,f3,g3,h3,i3⟩:=mulc (N:=N+5) hd hy h2
 unfold Zbq
 have t : ∀(G:Int×Int×List Int→Option (List Int×Bool)) (j:Nat) (l:List Int) (c hi lo s c':Int),j<4→ZbT (N+5) (l.getD j 0) y=some (hi,lo)→ZcI (N+5) lo c 0=some (s,c') →
   Zbq.p1 (N+5) y G (c,(j:Int),l)=G (v64 (hi+c'),(j:Int)+1,l.set j s):=fun G j l c hi lo s c' hj h h'=>by
  unfold Zbq.p1
  dsimp only
  rw [if_pos (by simp;omega),Zam (by omega),Int.toNat_natCast,h,Zab]
  dsimp only
  rw [h',Zab,ZaD (by omega) (by omega)]
 have u : ∀(G:Int×Int×List Int→Option (List Int×Bool)) (l:List Int) (c:Int),Zbq.p1 (N+5) y G (c,4,l)=some (l,c != 0):=fun G l c=>by
  unfold Zbq.p1
  dsimp only
  rw [if_neg (by simp)]
 rw [Zao]
 refine Eq.trans (t _ 0 [a,b,c,d] 0 x0 l0 s0 c0 (by omega) e0 f0) ?_
 rw [Zao]
 refine Eq.trans (t _ 1 [s0,b,c,d] _ x1 l1 s1 c1 (by omega) e1 f1) ?_
 rw [Zao]
 refine Eq.trans (t _ 2 [s0,s1,c,d] _ x2 l2 s2 c2 (by omega) e2 f2) ?_
 rw [Zao]
 refine Eq.trans (t _ 3 [s0,s1,s2,d] _ x3 l3 s3 c3 (by omega) e3 f3) ?_
 rw [Zao]
 refine Eq.trans (u _ [s0,s1,s2,s3] _) ?_
 rw [←ZcU g0 g1 g2 g3]
 have ex:vw a b c d*y=a*y+18446744073709551616*(b*y)+340282366920938463463374607431768211456*(c*y)+6277101735386680763835789423207666416102355444464034512896*(d*y):=by
  unfold vw
  rw [Int.add_mul,Int.add_mul,Int.add_mul,Int.mul_assoc,Int.mul_assoc,Int.mul_assoc]
 have key:vw a b c d*y=vw s0 s1 s2 s3+115792089237316195423570985008687907853269984665640564039457584007913129639936*(v64 (x3+c3)):=by rw [ex];unfold vw;omega
 have r:=Zgf g0 g1 g2 g3
 unfold isN at r
 unfold isW at h3
 have e5:(vw a b c d*y)%115792089237316195423570985008687907853269984665640564039457584007913129639936=vw s0 s1 s2 s3:=by omega
 rw [e5]
 have e6:(v64 (x3+c3) != 0)=decide (115792089237316195423570985008687907853269984665640564039457584007913129639936≤vw a b c d*y):=by
  rw [Bool.eq_iff_iff];simp only [bne_iff_ne,ne_eq,decide_eq_true_eq];omega
 rw [e6]
end Go.Dn.F
set_option maxRecDepth 40000
namespace Go.Dn.F
open Go.Dn
variable {N:Nat}
def blen (x:Int):Nat:=if x.toNat=0 then 0 else Nat.log2 x.toNat+1
theorem Zfs {x:Int} {k:Nat} (h:x<2^k):blen x≤k:=by
 unfold blen
 split
 ·omega
 ·rename_i h0
  have:x.toNat<2^k:=by
   have:((2^k:Nat):Int)=(2:Int)^k:=by push_cast;rfl
   omega
  have:=(Nat.log2_lt h0).2 this
  omega
theorem blen_gt {x:Int} {k:Nat} (h:2^k≤x):k<blen x:=by
 unfold blen
 have c:((2^k:Nat):Int)=(2:Int)^k:=by push_cast;rfl
 have p:=Nat.two_pow_pos k
 have:2^k≤x.toNat:=by omega
 rw [if_neg (by omega)]
 have:=(Nat.le_log2 (by omega)).2 this
 omega
theorem blen_eq {x:Int} {k:Nat} (h:2^k≤x) (h2:x<2^(k+1)):blen x=k+1:=by
 have:=Zfs h2
 have:=blen_gt h
 omega
theorem Zib {x:Int} (h:0≤x):x<2^blen x:=by
 unfold blen
 split
 ·have:x=0:=by omega
  subst this;decide
 ·rename_i h0
  have:=@Nat.lt_log2_self x.toNat
  have c:((2^(Nat.log2 x.toNat+1):Nat):Int)=(2:Int)^(Nat.log2 x.toNat+1):=by push_cast;rfl
  omega
theorem Zls {x:Int} (h:0<x):2^(blen x-1)≤x∧0<blen x:=by
 unfold blen
 rw [if_neg (by omega)]
 have:=Nat.log2_self_le (n:=x.toNat) (by omega)
 have c:((2^(Nat.log2 x.toNat):Nat):Int)=(2:Int)^(Nat.log2 x.toNat):=by push_cast;rfl
 rw [Nat.add_sub_cancel]
 omega
theorem Zed {x:Int} (k:Nat) (h:0≤x) (h2:2^k≤x):blen x=k+blen (x/2^k):=by
 have p:=Zbx k
 have q:0<x/2^k:=Int.lt_of_lt_of_le (by omega) ((Int.le_ediv_iff_mul_le p).2 (by omega:(1:Int)*2^k≤x))
 have a:=Zib (x:=x/2^k) (by omega)
 obtain ⟨b,b0⟩:=Zls q
 have e:=Int.ediv_mul_add_emod x (2^k)
 have r0:=Int.emod_nonneg x (b:=2^k) (by omega)
 have r1:=Int.emod_lt_of_pos x p
 obtain ⟨j,hj⟩ : ∃j,blen (x/2^k)=j+1:=⟨blen (x/2^k)-1,by omega⟩
 rw [hj] at a b ⊢
 rw [Nat.add_sub_cancel] at b
 refine blen_eq (k:=k+j) ?_ ?_
 ·rw [Int.pow_add]
  have:=Int.mul_le_mul_of_nonneg_left b (show (0:Int)≤2^k by omega)
  rw [Int.mul_comm (2^k) (x/2^k)] at this
  omega
 ·rw [show k+j+1=k+(j+1) by omega,Int.pow_add]
  have:=Int.mul_le_mul_of_nonneg_left (show x/2^k+1≤2^(j+1) by omega) (show (0:Int)≤2^k by omega)
  rw [Int.mul_add,Int.mul_comm (2^k) (x/2^k),Int.mul_one] at this
  omega
def tab8:List UInt8:=(List.range 256).map fun i:Nat=>UInt8.ofNat (blen (i:Int))
theorem ZjL (x:Int) (hx:0≤x∧x<256) (n:Int) (hn:0≤n∧n<1000):Zap.p3 N x n=some (n+blen x):=by
 unfold Zap.p3
 rw [v8_id hx.1 hx.2,Zam hx.1]
 rw [Zam (by
  refine Int.lt_of_lt_of_le hx.2 ?_
  decide +kernel)]
 have tb : ∀i:Fin 256,(UInt8.toNat (List.getD tab8 i.val 0):Nat)=blen (i.val:Int):=by decide +kernel
 have:=tb ⟨x.toNat,by omega⟩
 rw [show ((x.toNat:Nat):Int)=x by omega] at this
 have te:(UInt8.toNat (List.getD tab8 (Int.toNat x) 0))=blen x:=this
 have hb:blen x≤8:=Zfs (k:=8) (by omega)
 rw [show ∀(l:List UInt8),l=tab8→(UInt8.toNat (List.getD l (Int.toNat x) 0))=blen x from fun l e=>by rw [e];exact te]
 ·rw [ZaD (n:=(blen x:Int)) (by omega) (by omega),ZaD (by omega) (by omega)]
 ·decide +kernel
theorem len64 {x:Int} (hx:isW x):Zap N x=some (blen x:Int):=by
 have sh : ∀y:Int,shrOf .u64 y 16=y/65536:=fun y=>shr64 y (k:=16) (by omega)
 have sh8 : ∀y:Int,shrOf .u64 y 8=y/256:=fun y=>shr64 y (k:=8) (by omega)
 unfold isW at hx
 have p2 : ∀(y n:Int),0≤y∧y<65536→0≤n∧n<900→Zap.p2 N y n=some (n+blen y):=fun y n hy hn=>by
  unfold Zap.p2
  by_cases h:256≤y
  ·rw [if_pos (by simpa using h),sh8,ZaD (by omega) (by omega),ZjL _ (by omega) _ (by omega),Zed (x:=y) 8 (by omega) (by omega),show (2:Int)^8=256 from rfl]
   congr 1;omega
  ·rw [if_neg (by simpa using h),ZjL _ (by omega) _ (by omega)]
 have p1 : ∀(y n:Int),0≤y∧y<4294967296→0≤n∧n<800→Zap.p1 N y n=some (n+blen y):=fun y n hy hn=>by
  unfold Zap.p1
  by_cases h:65536≤y
  ·rw [if_pos (by simpa using h),sh,ZaD (by omega) (by omega),p2 _ _ (by omega) (by omega),Zed (x:=y) 16 (by omega) (by omega),show (2:Int)^16=65536 from rfl]
   congr 1;omega
  ·rw [if_neg (by simpa using h),p2 _ _ (by omega) (by omega)]
 unfold Zap
 by_cases h:4294967296≤x
 ·rw [if_pos (by simpa using h),shr32,p1 _ _ (by omega) (by omega),Zed (x:=x) 32 (by omega) (by omega),show (2:Int)^32=4294967296 from rfl]
  congr 1
 ·rw [if_neg (by simpa using h),p1 _ _ (by omega) (by omega),Int.zero_add]
theorem Zge (hN:10≤N) {m:Int} (hm:isN m):ZbJ N (nw m)=some (blen m:Int):=by
 obtain ⟨a,b,c,d,ha,hb,hc,hd,rfl⟩:=ZcF hm
 rw [ZcU ha hb hc hd]
 obtain ⟨N,rfl⟩ : ∃q,N=q+5:=⟨N-5,by omega⟩
 have bl : ∀{x:Int},isW x→blen x≤64:=fun h=>Zfs (by unfold isW at h;exact h.2)
 unfold ZbJ
 have t : ∀(G:Int→Option Int) (j:Nat) (x:Int),j<4→[a,b,c,d].getD j 0=x→isW x→ZbJ.p1 (N+5) [a,b,c,d] G (j:Int)=if x≠0 then some ((64*j+blen x:Nat):Int) else G ((j:Int)-1):=fun G j x hj h hx=>by
  have:=bl hx
  unfold ZbJ.p1
  rw [if_pos (by simp),Zam (by omega),Zam (by omega),Int.toNat_natCast,h,len64 hx,Zab,ZaD (n:=64*(j:Int)) (by omega) (by omega),ZaD (by omega) (by omega),ZaD (by omega) (by omega)]
  simp only [bne_iff_ne]
  push_cast
  rfl
 have u : ∀G:Int→Option Int,ZbJ.p1 (N+5) [a,b,c,d] G (-1)=some 0:=fun G=>by
  unfold ZbJ.p1
  rw [if_neg (by simp)]
 rw [Zao]
 refine Eq.trans (t _ 3 d (by omega) rfl hd) ?_
 have ha':=ha;have hb':=hb;have hc':=hc;have hd':=hd
 unfold isW at ha' hb' hc' hd'
 by_cases h3:d=0
 ·rw [if_neg (by simpa using h3),Zao]
  refine Eq.trans (t _ 2 c (by omega) rfl hc) ?_
  by_cases h2:c=0
  ·rw [if_neg (by simpa using h2),Zao]
   refine Eq.trans (t _ 1 b (by omega) rfl hb) ?_
   by_cases h1:b=0
   ·rw [if_neg (by simpa using h1),Zao]
    refine Eq.trans (t _ 0 a (by omega) rfl ha) ?_
    have:vw a b c d=a:=by unfold vw;omega
    rw [this]
    by_cases h0:a=0
    ·rw [if_neg (by simpa using h0),Zao]
     refine Eq.trans (u _) ?_
     rw [h0];rfl
    ·rw [if_pos h0];congr 2;omega
   ·rw [if_pos h1]
    have e:vw a b c d/2^64=b:=by rw [show (2:Int)^64=18446744073709551616 from rfl];unfold vw;omega
    rw [Zed (x:=vw a b c d) 64 (by unfold vw;omega) (by rw [show (2:Int)^64=18446744073709551616 from rfl];unfold vw;omega),e]
  ·rw [if_pos h2]
   have e:vw a b c d/2^128=c:=by rw [show (2:Int)^128=340282366920938463463374607431768211456 from rfl];unfold vw;omega
   rw [Zed (x:=vw a b c d) 128 (by unfold vw;omega) (by rw [show (2:Int)^128=340282366920938463463374607431768211456 from rfl];unfold vw;omega),e]
 ·rw [if_pos h3]
  have e:vw a b c d/2^192=d:=by rw [show (2:Int)^192=6277101735386680763835789423207666416102355444464034512896 from rfl];unfold vw;omega
  rw [Zed (x:=vw a b c d) 192 (by unfold vw;omega) (by rw [show (2:Int)^192=6277101735386680763835789423207666416102355444464034512896 from rfl];unfold vw;omega),e]
theorem ZdN {a b:Int} (h:0≤a):Int.tdiv a b=a/b:=Int.tdiv_eq_ediv_of_nonneg h
theorem Zey {a b:Int} (h:0≤a):Int.tmod a b=a%b:=Int.tmod_eq_emod_of_nonneg h
theorem div_two {M y T V q1 q0 R R2 un1 un0 un32:Int} (hT:0<T) (hy:y*T=V*4294967296) (hM:M*T=un32*18446744073709551616+un1*4294967296+un0)
  (h1:un32=q1*V+R) (h2:R*4294967296+un1=q0*V+R2) (hR2:0≤R2∧R2<V) (h0:0≤un0∧un0<4294967296) (hy0:0<y) :
  (q1*4294967296+q0)=M/y∧(R2*4294967296+un0)/T=M%y:=by
 have k:M*T=(q1*4294967296+q0)*y*T+(R2*4294967296+un0):=by
  have e1:(q1*4294967296+q0)*y*T=(q1*V)*18446744073709551616+(q0*V)*4294967296:=by
   rw [Int.mul_assoc,hy,Int.add_mul,←Int.mul_assoc q0,Int.mul_assoc q1,Int.mul_left_comm 4294967296 V,←Int.mul_assoc q1 V];omega
  rw [e1,hM,h1]
  rw [Int.add_mul]
  omega
 have e:(M-(q1*4294967296+q0)*y)*T=R2*4294967296+un0:=by rw [Int.sub_mul];omega
 have lt:(M-(q1*4294967296+q0)*y)*T<y*T:=by rw [e,hy];omega
 have lt':=Int.lt_of_mul_lt_mul_right lt (Int.le_of_lt hT)
 have ge:0*T≤(M-(q1*4294967296+q0)*y)*T:=by rw [e];omega
 have ge':=Int.le_of_mul_le_mul_right ge hT
 have d:=(Int.ediv_emod_unique hy0 (a:=M) (b:=y) (q:=q1*4294967296+q0) (r:=M-(q1*4294967296+q0)*y)).2 ⟨by rw [Int.mul_comm y];omega,ge',lt'⟩
 refine ⟨d.1.symm,?_⟩
 rw [←e,Int.mul_ediv_cancel _ (by omega),d.2]
theorem div64 (hN:10≤N) {hi lo y:Int} (hy0:0<y) (hy:y<4294967296) (h0:0≤hi) (h1:hi<y) (hl:isW lo) :
  Zae N hi lo y=some ((hi*18446744073709551616+lo)/y,(hi*18446744073709551616+lo)%y):=by
 have hl':=hl
 unfold isW at hl'
 unfold Zae
 rw [if_neg (by simp;omega),if_neg (by simp;omega)]
 by_cases hz:hi=0
 ·subst hz
  rw [if_pos (by rfl),Zam (by omega),ZdN hl'.1,Zey hl'.1,Int.zero_mul,Int.zero_add]
  have:lo/y≤lo:=Int.ediv_le_self _ hl'.1
  have:0≤lo/y:=Int.ediv_nonneg hl'.1 (by omega)
  rw [Zch (by omega) (by omega)]
 rw [if_neg (by simpa using hz)]
 have by1:=Zfs (x:=y) (k:=32) (by rw [show (2:Int)^32=4294967296 from rfl];omega)
 obtain ⟨by2,by3⟩:=Zls hy0
 have by4:=Zib (x:=y) (by omega)
 obtain ⟨s,hs,hs1,hs2⟩ : ∃s:Nat,64-s=blen y∧32≤s∧s<64:=⟨64-blen y,by omega,by omega,by omega⟩
 have lz:Zbj N y=some (s:Int):=by
  unfold Zbj
  rw [len64 (by unfold isW;omega),Zab,ZaD (by omega) (by omega),←hs]
  congr 1;omega
 rw [lz,Zab]
 have vs:v64 (s:Int)=(s:Int):=Zch (by omega) (by omega)
 have vs':v64 (64-(s:Int))=((64-s:Nat):Int):=by rw [Zch (by omega) (by omega)];omega
 have pT:=Zbx s
 have split:=ZdG (k:=s) (by omega)
 have t32:(2:Int)^s=2^(s-32)*4294967296:=by rw [show (4294967296:Int)=2^32 from rfl,←Int.pow_add,show s-32+32=s by omega]
 rw [hs] at split
 have Ylt:y*2^s<18446744073709551616:=by
  have:=Int.mul_lt_mul_of_pos_right by4 pT
  rw [Int.mul_comm (2^blen y),split] at this
  exact this
 have Yge:0<y*2^s:=Int.mul_pos hy0 pT
 have eY:shlOf .u64 y (v64 (s:Int))=y*2^s:=by rw [vs,shl64 y (by omega)];omega
 have yV:y*2^s=y*2^(s-32)*4294967296:=by rw [t32,Int.mul_assoc]
 obtain ⟨A,h,a1,a2,a3,a4,a5,a6,a7,a8⟩:=ZcA hl (k:=s) (by omega)
 have hiA:shlOf .u64 hi (v64 (s:Int))=hi*2^s:=by
  rw [vs,shl64 hi (by omega)]
  have:=Int.mul_lt_mul_of_pos_right h1 pT
  have:0≤hi*2^s:=Int.mul_nonneg h0 (by omega)
  omega
 have hi1:(hi+1)*2^s≤y*2^s:=Int.mul_le_mul_of_nonneg_right (by omega) (by omega)
 rw [Int.add_mul,Int.one_mul] at hi1
 have hi0:0≤hi*2^s:=Int.mul_nonneg h0 (by omega)
 have eU:bitsOf .or .u64 (shlOf .u64 hi (v64 (s:Int))) (shrOf .u64 lo (v64 (64-v64 (s:Int))))=hi*2^s+h:=by
  rw [hiA,vs,vs',a2]
  exact ZeR (k:=s) (by omega) hi0 (by omega) (Int.mul_emod_left _ _) a5 a6
 have eL:shlOf .u64 lo (v64 (s:Int))=A:=by rw [vs];exact a1
 have hM:(hi*18446744073709551616+lo)*2^s=(hi*2^s+h)*18446744073709551616+A/4294967296*4294967296+A%4294967296:=by
  rw [Int.add_mul,a7,Int.mul_assoc,Int.mul_comm 18446744073709551616,←Int.mul_assoc,Int.add_mul];omega
 have pV:0<y*2^(s-32):=Int.mul_pos hy0 (Zbx _)
 generalize hV:y*2^(s-32)=V at *
 generalize hUU:hi*2^s+h=U at *
 generalize hTT:(2:Int)^s=T at *
 have eV:shrOf .u64 (y*T) 32=V:=by rw [shr32];omega
 have eZ:bitsOf .and .u64 (y*T) 4294967295=0:=by rw [and32 (by unfold isW;omega)];omega
 have eA1:shrOf .u64 A 32=A/4294967296:=shr32 A
 have eA0:bitsOf .and .u64 A 4294967295=A%4294967296:=and32 (by unfold isW;omega)
 have U0:0≤U∧U<V*4294967296:=by omega
 have dU:=Int.ediv_mul_add_emod U V
 have rU0:=Int.emod_nonneg U (b:=V) (by omega)
 have rU1:=Int.emod_lt_of_pos U pV
 have qU0:0≤U/V:=Int.ediv_nonneg U0.1 (by omega)
 have qU1:U/V<4294967296:=Int.ediv_lt_of_lt_mul pV (by rw [Int.mul_comm];exact U0.2)
 generalize hq1:U/V=q1 at *
 generalize hR:U%V=R at *
 have mq1:0≤q1*V:=Int.mul_nonneg qU0 (by omega)
 have B0:0≤R*4294967296+A/4294967296∧R*4294967296+A/4294967296<V*4294967296:=by omega
 generalize hB:R*4294967296+A/4294967296=B at *
 have dB:=Int.ediv_mul_add_emod B V
 have rB0:=Int.emod_nonneg B (b:=V) (by omega)
 have rB1:=Int.emod_lt_of_pos B pV
 have qB0:0≤B/V:=Int.ediv_nonneg B0.1 (by omega)
 have qB1:B/V<4294967296:=Int.ediv_lt_of_lt_mul pV (by rw [Int.mul_comm];exact B0.2)
 generalize hq0:B/V=q0 at *
 generalize hR2:B%V=R2 at *
 have mq0:0≤q0*V:=Int.mul_nonneg qB0 (by omega)
 obtain ⟨f1,f2⟩:=div_two (M:=hi*18446744073709551616+lo) (y:=y) (T:=T) (V:=V) (q1:=q1) (q0:=q0) (R:=R) (R2:=R2) (un1:=A/4294967296) (un0:=A%4294967296) (un32:=U) pT (by omega) hM dU.symm (by rw [hB];exact dB.symm) ⟨rB0,rB1⟩ (by omega) hy0
 have yq1:q1*(y*T)=(q1*V)*4294967296:=by rw [yV,←Int.mul_assoc]
 have yq0:q0*(y*T)=(q0*V)*4294967296:=by rw [yV,←Int.mul_assoc]
 obtain ⟨N,rfl⟩ : ∃q,N=q+1:=⟨N-1,by omega⟩
 have vB:v64 (v64 (v64 (U*4294967296)+A/4294967296)-v64 (q1*(y*T)))=B:=by
  rw [yq1,ZdX,ZdX,ZdX,ZdX];omega
 have vE:v64 (v64 (v64 (B*4294967296)+A%4294967296)-v64 (q0*(y*T)))=R2*4294967296+A%4294967296:=by
  rw [yq0,ZdX,ZdX,ZdX,ZdX];omega
 have s1 : ∀G,Zae.p1 (N+1) y (s:Int) hi lo G (q1,R)=Zae.p3 (N+1) y (s:Int) hi lo q1:=fun G=>by
  unfold Zae.p1
  dsimp only
  rw [eY,eL,eZ,eA1,if_neg (by simp;omega),Int.mul_zero,Zch (n:=0) (by omega) (by omega),if_neg (by
   simp only [decide_eq_true_eq,gt_iff_lt,Int.not_lt]
   rw [ZdX];omega)]
 have s4 : ∀G,Zae.p4 (N+1) y (s:Int) lo q1 hi G (R2,q0)=Zae.p6 (N+1) y (s:Int) lo q1 hi q0:=fun G=>by
  unfold Zae.p4
  dsimp only
  rw [eY,eL,eZ,eA0,if_neg (by simp;omega),Int.mul_zero,Zch (n:=0) (by omega) (by omega),if_neg (by
   simp only [decide_eq_true_eq,gt_iff_lt,Int.not_lt]
   rw [ZdX];omega)]
 rw [Zam (by rw [vs];omega),Zam (by rw [vs,vs'];omega),eY,eV,Zam (by omega),eU,ZdN U0.1,hq1,Zch (n:=q1) (by omega) (by omega),Zch (n:=q1*V) (by omega) (by omega),show U-q1*V=R by omega,Zch (n:=R) (by omega) (by omega),Zao,s1]
 unfold Zae.p3
 rw [eY,eL,eV,eU,eA1,Zam (by omega),vB,ZdN B0.1,hq0,Zch (n:=q0) (by omega) (by omega),Zch (n:=q0*V) (by omega) (by omega),show B-q0*V=R2 by omega,Zch (n:=R2) (by omega) (by omega),Zao,s4]
 unfold Zae.p6
 rw [Zam (by rw [vs];omega),eY,eL,eU,eA1,eA0,vB,vE,vs,shr64 _ (k:=s) (by omega),hTT,f2,Zch (n:=q1*4294967296) (by omega) (by omega),Zch (n:=q1*4294967296+q0) (by omega) (by omega),f1]
theorem ZhE (hN:10≤N) {m y:Int} (hm:isN m) (hy0:0<y) (hy:y<4294967296):ZbD N (nw m) y=some (nw (m/y),m%y):=by
 obtain ⟨a,b,c,d,ha,hb,hc,hd,rfl⟩:=ZcF hm
 rw [ZcU ha hb hc hd]
 obtain ⟨N,rfl⟩ : ∃q,N=q+5:=⟨N-5,by omega⟩
 unfold ZbD
 rw [if_neg (by simp;omega)]
 have t : ∀(G:Int×Int×List Int→Option (List Int×Int)) (j:Nat) (l:List Int) (x r q r':Int),j<4→l.getD j 0=x→isW x→0≤r→r<y→(r*18446744073709551616+x)/y=q→(r*18446744073709551616+x)%y=r' →
   ZbD.p1 (N+5) y G (r,(j:Int),l)=G (r',(j:Int)-1,l.set j q):=fun G j l x r q r' hj hx hw h0 h1 hq hr=>by
  unfold ZbD.p1
  dsimp only
  rw [if_pos (by simp),Zam (by omega),Zam (by omega),Int.toNat_natCast,hx,div64 (by omega) hy0 hy h0 h1 hw,Zab,hq,hr,ZaD (by omega) (by omega)]
 have u : ∀(G:Int×Int×List Int→Option (List Int×Int)) (l:List Int) (r:Int),ZbD.p1 (N+5) y G (r,-1,l)=some (l,r):=fun G l r=>by
  unfold ZbD.p1
  dsimp only
  rw [if_neg (by simp)]
 have step : ∀{r x:Int},0≤r→r<y→isW x→∃q r',(r*18446744073709551616+x)/y=q∧(r*18446744073709551616+x)%y=r'∧isW q∧0≤r'∧r'<y∧r*18446744073709551616+x=q*y+r':=fun {r x} h0 h1 hx=>by
  unfold isW at hx
  have e:=Int.ediv_mul_add_emod (r*18446744073709551616+x) y
  refine ⟨_,_,rfl,rfl,⟨Int.ediv_nonneg (by omega) (by omega),Int.ediv_lt_of_lt_mul hy0 ?_⟩,Int.emod_nonneg _ (by omega),Int.emod_lt_of_pos _ hy0,e.symm⟩
  omega
 obtain ⟨q3,r3,a3,b3,c3,d3,e3,f3⟩:=step (r:=0) (x:=d) (by omega) hy0 hd
 obtain ⟨q2,r2,a2,b2,c2,d2,e2,f2⟩:=step d3 e3 hc
 obtain ⟨q1,r1,a1,b1,c1,d1,e1,f1⟩:=step d2 e2 hb
 obtain ⟨q0,r0,a0,b0,c0,d0,e0,f0⟩:=step d1 e1 ha
 rw [Zao]
 refine Eq.trans (t _ 3 [a,b,c,d] d 0 q3 r3 (by omega) rfl hd (by omega) hy0 a3 b3) ?_
 rw [Zao]
 refine Eq.trans (t _ 2 [a,b,c,q3] c r3 q2 r2 (by omega) rfl hc d3 e3 a2 b2) ?_
 rw [Zao]
 refine Eq.trans (t _ 1 [a,b,q2,q3] b r2 q1 r1 (by omega) rfl hb d2 e2 a1 b1) ?_
 rw [Zao]
 refine Eq.trans (t _ 0 [a,q1,q2,q3] a r1 q0 r0 (by omega) rfl ha d1 e1 a0 b0) ?_
 rw [Zao]
 refine Eq.trans (u _ [q0,q1,q2,q3] r0) ?_
 have key:vw a b c d=vw q0 q1 q2 q3*y+r0:=by
  have:vw q0 q1 q2 q3*y=q0*y+18446744073709551616*(q1*y)+340282366920938463463374607431768211456*(q2*y)+6277101735386680763835789423207666416102355444464034512896*(q3*y):=by
   unfold vw
   rw [Int.add_mul,Int.add_mul,Int.add_mul,Int.mul_assoc,Int.mul_assoc,Int.mul_assoc]
  rw [this];unfold vw;omega
 have d:=(Int.ediv_emod_unique hy0 (a:=vw a b c d) (q:=vw q0 q1 q2 q3) (r:=r0)).2 ⟨by rw [Int.mul_comm y];omega,d0,e0⟩
 rw [d.1,d.2,ZcU c0 c1 c2 c3]
def isU (x:Int):Prop:=0≤x∧x<9223372036854775808
theorem of_i (x:Int) (h:isU x):(BitVec.ofInt 64 x).toNat=x.toNat:=by
 unfold isU at h
 rw [BitVec.toNat_ofInt];omega
theorem wrapi (n:Nat) (h:n<9223372036854775808):IntKind.wrap .i64 (n:Int)=n:=ZaD (by omega) (by omega)
theorem and_i {x y:Int} (hx:isU x) (hy:isU y):bitsOf .and .i64 x y=((x.toNat &&& y.toNat:Nat):Int):=by
 show IntKind.wrap .i64 (((BitVec.ofInt 64 x &&& BitVec.ofInt 64 y).toNat:Nat):Int)=_
 have:x.toNat &&& y.toNat≤x.toNat:=Nat.and_le_left
 unfold isU at *
 rw [BitVec.toNat_and,of_i x hx,of_i y hy,wrapi _ (by omega)]
theorem or_i {x y:Int} (hx:isU x) (hy:isU y):bitsOf .or .i64 x y=((x.toNat ||| y.toNat:Nat):Int):=by
 show IntKind.wrap .i64 (((BitVec.ofInt 64 x ||| BitVec.ofInt 64 y).toNat:Nat):Int)=_
 have:x.toNat ||| y.toNat<2^63:=Nat.or_lt_two_pow (by unfold isU at hx;omega) (by unfold isU at hy;omega)
 rw [BitVec.toNat_or,of_i x hx,of_i y hy,wrapi _ (by omega)]
theorem and_pow2 (x i:Nat):x &&& 2^i=if x.testBit i then 2^i else 0:=by
 apply Nat.eq_of_testBit_eq
 intro j
 rw [Nat.testBit_and,Nat.testBit_two_pow]
 by_cases h:i=j
 ·subst h
  cases hx:x.testBit i<;>simp [Nat.testBit_two_pow]
 ·cases hx:x.testBit i<;>simp [Nat.testBit_two_pow,h]
theorem and_word {b:Int} (h:isU b):bitsOf .and .i64 b 8388607=b%8388608:=by
 rw [and_i h (by unfold isU;omega),show (8388607:Int).toNat=2^23-1 from rfl,Nat.and_two_pow_sub_one_eq_mod]
 unfold isU at h
 omega
theorem ZjX {b:Int} (h:isU b):(bitsOf .and .i64 b 8388608 != 0)=decide (b/8388608%2=1):=by
 rw [and_i h (by unfold isU;omega),show (8388608:Int).toNat=2^23 from rfl,and_pow2]
 have t:b.toNat.testBit 23=decide (b/8388608%2=1):=by
  rw [Nat.testBit_eq_decide_div_mod_eq]
  unfold isU at h
  rw [decide_eq_decide];omega
 rw [t]
 by_cases k:b/8388608%2=1
 ·simp [k]
 ·simp [k]
theorem Zjy {b:Int}:shrOf .i64 b 24=b/16777216:=Zjb b 24 (by omega)
def cWord (b:Int):Int:=b%8388608
def cSize (b:Int):Nat:=(b/16777216).toNat
def cN (b:Int):Int:=if cSize b≤3 then cWord b/2^(8*(3-cSize b)) else cWord b*2^(8*(cSize b-3))%115792089237316195423570985008687907853269984665640564039457584007913129639936
def cNeg (b:Int):Bool:=decide (cWord b≠0∧b/8388608%2=1)
def cOver (b:Int):Bool:=decide (cWord b≠0∧(34<cSize b∨255<cWord b∧33<cSize b∨65535<cWord b∧32<cSize b))
def cGood (b:Int):Bool:=decide (0≤b∧b<4294967296)
def cDec (b:Int):Int×Bool×Bool:=if cGood b then (cN b,cNeg b,cOver b) else (0,false,false)
theorem cN_isN {b:Int} (h:cGood b=true):isN (cN b):=by
 simp only [cGood,decide_eq_true_eq] at h
 unfold cN isN
 have w:0≤cWord b∧cWord b<8388608:=by unfold cWord;omega
 split
 ·have p:=Zbx (8*(3-cSize b))
  have:cWord b/2^(8*(3-cSize b))≤cWord b:=Int.ediv_le_self _ w.1
  have:0≤cWord b/2^(8*(3-cSize b)):=Int.ediv_nonneg w.1 (by omega)
  omega
 ·omega
theorem ZdF (b:Int):isN (cDec b).1:=by
 unfold cDec
 split
 ·rename_i h;exact cN_isN h
 ·unfold isN;dsimp only;omega
theorem ZdT (hN:10≤N) (b:Int):Zav N b=some (nw (cDec b).1,(cDec b).2.1,(cDec b).2.2):=by
 unfold Zav
 rw [ZeY,Zab]
 cases hg:cGood b with
 | false=>
  have:decide (0≤b∧b<4294967296)=false:=hg
  rw [this,if_pos (by rfl)]
  unfold cDec;rw [hg,ZcW];rfl
 | true=>
  have hg':decide (0≤b∧b<4294967296)=true:=hg
  rw [hg',if_neg (by simp)]
  simp only [decide_eq_true_eq] at hg'
  have hu:isU b:=by unfold isU;omega
  have w:0≤cWord b∧cWord b<8388608:=by unfold cWord;omega
  have s:b/16777216=(cSize b:Int):=by unfold cSize;omega
  have s2:cSize b<256:=by unfold cSize;omega
  have e:bitsOf .and .i64 b 8388607=cWord b:=and_word hu
  have wN:isN (cWord b):=by unfold isN;omega
  have p2 : ∀(neg:Bool) (l:List Int),Zav.p2 N b neg l=some (l,neg,cOver b):=fun neg l=>by
   unfold Zav.p2
   rw [e,Zjy,s]
   simp only [bne_iff_ne,ne_eq,decide_eq_true_eq,gt_iff_lt]
   unfold cOver
   repeat' split
   all_goals (congr 2;congr 1;rw [Bool.eq_iff_iff];simp only [decide_eq_true_eq,iff_true,true_iff,Bool.false_eq_true,false_iff,ne_eq];omega)
  have p1 : ∀l:List Int,Zav.p1 N b l=some (l,cNeg b,cOver b):=fun l=>by
   unfold Zav.p1
   rw [e,ZjX hu,p2,p2]
   unfold cNeg
   by_cases h0:cWord b=0
   ·rw [if_neg (by simp [h0])];simp [h0]
   ·rw [if_pos (by simp [h0])];simp [h0]
  rw [e,Zch w.1 (by omega),Zef (by unfold isW;omega),Zab,Zjy,s]
  unfold cDec
  rw [hg,if_pos rfl]
  dsimp only
  unfold cN
  by_cases h3:cSize b≤3
  ·rw [if_pos (by simp;omega),if_pos h3,show (3:Int)-(cSize b:Int)=((3-cSize b:Nat):Int) by omega,ZaD (n:=((3-cSize b:Nat):Int)) (by omega) (by omega),show (8:Int)*((3-cSize b:Nat):Int)=((8*(3-cSize b):Nat):Int) by omega,ZaD (by omega) (by omega),Zfv hN wN _ (by omega),Zab,p1]
  ·rw [if_neg (by simp;omega),if_neg h3,show (cSize b:Int)-3=((cSize b-3:Nat):Int) by omega,ZaD (n:=((cSize b-3:Nat):Int)) (by omega) (by omega),show (8:Int)*((cSize b-3:Nat):Int)=((8*(cSize b-3):Nat):Int) by omega,ZaD (by omega) (by omega),Zfk hN wN _ (by omega),Zab,p1]
def tgt (b l:Int):Int×Bool:=
 if (cDec b).2.1||(cDec b).2.2||(cDec l).2.1||(cDec l).2.2||decide ((cDec b).1=0)||decide ((cDec l).1<(cDec b).1) then (0,false) else ((cDec b).1,true)
theorem ZiZ (b l:Int):isN (tgt b l).1:=by
 unfold tgt
 split
 ·unfold isN;dsimp only;omega
 ·exact ZdF b
theorem Zdy (hN:10≤N) (b l:Int):ZbG N b l=some (nw (tgt b l).1,(tgt b l).2):=by
 unfold ZbG
 rw [ZdT hN,Zab]
 dsimp only
 rw [ZdT hN,Zab]
 dsimp only
 unfold tgt
 have z:=Zdb (N:=N) (ZdF b)
 have le:=ZdH hN (ZdF l) (ZdF b)
 rw [z,Zab,le,Zab,ZcW]
 cases (cDec b).2.1<;>cases (cDec b).2.2<;>cases (cDec l).2.1<;>cases (cDec l).2.2<;>cases (decide ((cDec b).1=0))<;>cases (decide ((cDec l).1<(cDec b).1))<;>rfl
theorem ZdI {a b:Nat} (h:a≤b):(2:Int)^a≤2^b:=by
 have e:(2:Int)^b=2^a*2^(b-a):=by rw [←Int.pow_add,show a+(b-a)=b by omega]
 have p:=Zbx a
 have q:=Zbx (b-a)
 have:=Int.mul_le_mul_of_nonneg_left (show (1:Int)≤2^(b-a) by omega) (show (0:Int)≤2^a by omega)
 rw [Int.mul_one] at this
 rw [e];exact this
def hv:List Int→Int
 | []=>0
 | x::l=>x+256*hv l
def bys (l:List Int):Prop:=∀x∈l,0≤x∧x<256
theorem Zld : ∀(l:List Int) (x:Int),hv (l ++ [x])=hv l+x*2^(8*l.length)
 | [],x=>by simp [hv]
 | y::l,x=>by
  rw [List.cons_append,hv,Zld l x,hv,List.length_cons,Int.mul_add,show (2:Int)^(8*(l.length+1))=256*2^(8*l.length) by rw [show 8*(l.length+1)=8+8*l.length by omega,Int.pow_add];rfl,Int.mul_left_comm x 256];omega
theorem ZhU : ∀{l:List Int},bys l→0≤hv l∧hv l<2^(8*l.length)
 | [],_=>by simp [hv]
 | y::l,h=>by
  have ih:=ZhU (l:=l) fun x hx=>h x (List.mem_cons_of_mem _ hx)
  have:=h y (by simp)
  rw [hv,List.length_cons,show (2:Int)^(8*(l.length+1))=256*2^(8*l.length) by rw [show 8*(l.length+1)=8+8*l.length by omega,Int.pow_add];rfl]
  omega
def pw (j:Nat):Int:=2^(64*j)
theorem ZjF {m X:Int} {j:Nat} (hm:isN m) (hj:j<4) (hX:0≤X) (h:(nw m).getD j 0+X<18446744073709551616):(nw m).set j ((nw m).getD j 0+X)=nw (m+X*2^(64*j))∧isN (m+X*2^(64*j)):=by
 obtain ⟨a,b,c,d,ha,hb,hc,hd,rfl⟩:=ZcF hm
 rw [ZcU ha hb hc hd] at h ⊢
 have cases4:j=0∨j=1∨j=2∨j=3:=by omega
 rcases cases4 with rfl | rfl | rfl | rfl
 ·have h':a+X<18446744073709551616:=h
  have e:vw a b c d+X*2^(64*0)=vw (a+X) b c d:=by rw [show (2:Int)^(64*0)=1 from rfl];unfold vw;omega
  have w:isW (a+X):=by unfold isW at *;omega
  rw [e,ZcU w hb hc hd];exact ⟨rfl,Zgf w hb hc hd⟩
 ·have h':b+X<18446744073709551616:=h
  have e:vw a b c d+X*2^(64*1)=vw a (b+X) c d:=by rw [show (2:Int)^(64*1)=18446744073709551616 from rfl];unfold vw;omega
  have w:isW (b+X):=by unfold isW at *;omega
  rw [e,ZcU ha w hc hd];exact ⟨rfl,Zgf ha w hc hd⟩
 ·have h':c+X<18446744073709551616:=h
  have e:vw a b c d+X*2^(64*2)=vw a b (c+X) d:=by rw [show (2:Int)^(64*2)=340282366920938463463374607431768211456 from rfl];unfold vw;omega
  have w:isW (c+X):=by unfold isW at *;omega
  rw [e,ZcU ha hb w hd];exact ⟨rfl,Zgf ha hb w hd⟩
 ·have h':d+X<18446744073709551616:=h
  have e:vw a b c d+X*2^(64*3)=vw a b c (d+X):=by rw [show (2:Int)^(64*3)=6277101735386680763835789423207666416102355444464034512896 from rfl];unfold vw;omega
  have w:isW (d+X):=by unfold isW at *;omega
  rw [e,ZcU ha hb hc w];exact ⟨rfl,Zgf ha hb hc w⟩
theorem ZfT {m:Int} (hm:isN m) {j:Nat} (hj:j<4):(nw m).getD j 0=m/2^(64*j)%18446744073709551616:=by
 have cases4:j=0∨j=1∨j=2∨j=3:=by omega
 rcases cases4 with rfl | rfl | rfl | rfl
 ·show m%18446744073709551616=m/2^(64*0)%18446744073709551616
  rw [show (2:Int)^(64*0)=1 from rfl,Int.ediv_one]
 ·rfl
 ·rfl
 ·rfl
theorem ZfP (hN:40≤N) {h:List Int} (hl:h.length=32) (hb:bys h):ZaZ N h=some (nw (hv h)):=by
 unfold ZaZ
 refine Zcs (fun m (x:Int×List Int)=>∃i:Nat,i+m=32∧x=((i:Int),nw (hv (h.take i)))) ?_ N 32 _ ⟨0,by omega,?_⟩ (by omega)
 ·rintro G m _ ⟨i,hi,rfl⟩ hG
  unfold ZaZ.p1
  dsimp only
  by_cases hlt:i<32
  ·have hm:bys (h.take i):=fun x hx=>hb x (List.mem_of_mem_take hx)
   have lt:=ZhU hm
   have ll:(h.take i).length=i:=by rw [List.length_take];omega
   rw [ll] at lt
   have x:=hb h[i] (List.getElem_mem (by omega))
   have e1:Int.tdiv (i:Int) 8=((i/8:Nat):Int):=by rw [ZdN (by omega)];omega
   have e2:(8:Int)*Int.tmod (i:Int) 8=((8*(i%8):Nat):Int):=by rw [Zey (by omega)];omega
   have pk:=Zbx (8*(i%8))
   have le:(2:Int)^(8*i)=2^(64*(i/8))*2^(8*(i%8)):=by rw [←Int.pow_add];congr 1;omega
   have mi:isN (hv (h.take i)):=by
    refine ⟨lt.1,Int.lt_of_lt_of_le lt.2 ?_⟩
    exact ZdI (show 8*i≤256 by omega)
   have gd:=ZfT mi (j:=i/8) (by omega)
   have sm:hv (h.take i)/2^(64*(i/8))<2^(8*(i%8)):=Int.ediv_lt_of_lt_mul (Zbx _) (by rw [Int.mul_comm,←le];exact lt.2)
   have sm0:0≤hv (h.take i)/2^(64*(i/8)):=Int.ediv_nonneg lt.1 (Int.le_of_lt (Zbx _))
   have T56:(2:Int)^(8*(i%8))*256≤18446744073709551616:=by
    have:=ZdI (show 8*(i%8)+8≤64 by omega)
    rw [Int.pow_add] at this
    exact this
   rw [Int.emod_eq_of_lt sm0 (by omega)] at gd
   have xs:(h[i]+1)*2^(8*(i%8))≤256*2^(8*(i%8)):=Int.mul_le_mul_of_nonneg_right (by omega) (by omega)
   rw [Int.add_mul,Int.one_mul] at xs
   have xs0:0≤h[i]*2^(8*(i%8)):=Int.mul_nonneg x.1 (by omega)
   have sh:shlOf .u64 h[i] ((8*(i%8):Nat):Int)=h[i]*2^(8*(i%8)):=by rw [shl64 _ (by omega)];omega
   have or1:bitsOf .or .u64 ((nw (hv (h.take i))).getD (i/8) 0) (h[i]*2^(8*(i%8)))=(nw (hv (h.take i))).getD (i/8) 0+h[i]*2^(8*(i%8)):=by
    rw [gd,ZgK (by unfold isW;omega) (by unfold isW;omega),ZeR (k:=8*(i%8)) (by omega) xs0 (by omega) (Int.mul_emod_left _ _) sm0 sm];omega
   have st:=(ZjF mi (j:=i/8) (by omega) xs0 (by rw [gd];omega)).1
   have hx:List.getD h i 0=h[i]:=by rw [List.getD_eq_getElem?_getD,List.getElem?_eq_getElem (by omega)];rfl
   rw [if_pos (by simp;omega),Zam (by omega),e1,e2,ZaD (n:=((i/8:Nat):Int)) (by omega) (by omega),ZaD (n:=((8*(i%8):Nat):Int)) (by omega) (by omega),Zam (by omega),Zam (by omega),Zam (by omega),Int.toNat_natCast,Int.toNat_natCast,hx,Zch x.1 (by omega),sh,or1,st,ZaD (by omega) (by omega)]
   refine hG (m-1) _ (by omega) ⟨i+1,by omega,?_⟩
   have tk:h.take (i+1)=h.take i ++ [h[i]]:=List.take_succ_eq_append_getElem (by omega)
   rw [tk,Zld,ll,le,Int.mul_assoc,Int.mul_comm (2^(8*(i%8)))]
   rfl
  ·rw [if_neg (by simp;omega),List.take_of_length_le (by omega)]
 ·rw [ZcW];rfl
theorem hv_isN {h:List Int} (hl:h.length=32) (hb:bys h):isN (hv h):=by
 have:=ZhU hb
 rw [hl] at this
 exact this
theorem Zgr (hN:40≤N) {h:List Int} (hl:h.length=32) (hb:bys h) {m:Int} (hm:isN m):Zcp N h (nw m)=some (decide (hv h≤m)):=by
 unfold Zcp
 rw [ZfP hN hl hb,Zab,ZdH (by omega) hm (hv_isN hl hb),Zab]
 refine Zea ?_
 simp only [Bool.not_eq_true',decide_eq_false_iff_not]
 omega
def cLen (m:Int):Nat:=(blen m+7)/8
def cTop (m:Int):Int:=if cLen m≤3 then m*2^(8*(3-cLen m)) else m/2^(8*(cLen m-3))
def cEnc (m:Int):Int:=if 8388608≤cTop m then ((cLen m+1:Nat):Int)*16777216+cTop m/256 else (cLen m:Int)*16777216+cTop m
theorem Zkv {m:Int} (hm:isN m):0≤cTop m∧cTop m<16777216:=by
 unfold cTop
 unfold isN at hm
 have lt:=Zib hm.1
 have l8:(2:Int)^blen m≤2^(8*cLen m):=ZdI (show blen m≤8*cLen m by unfold cLen;omega)
 split
 ·have p:=Zbx (8*(3-cLen m))
  refine ⟨Int.mul_nonneg hm.1 (by omega),?_⟩
  have:=Int.mul_lt_mul_of_pos_right (show m<2^(8*cLen m) by omega) p
  rw [←Int.pow_add,show 8*cLen m+8*(3-cLen m)=24 by omega] at this
  exact this
 ·have p:=Zbx (8*(cLen m-3))
  refine ⟨Int.ediv_nonneg hm.1 (by omega),Int.ediv_lt_of_lt_mul p ?_⟩
  rw [show (16777216:Int)=2^24 from rfl,←Int.pow_add,show 24+8*(cLen m-3)=8*cLen m by omega]
  omega
theorem cLen_le {m:Int} (hm:isN m):cLen m≤32:=by
 have:=Zfs (k:=256) (x:=m) hm.2
 unfold cLen;omega
theorem or_low {A w:Int} (hA:0≤A) (hA2:A<4294967296) (h0:0≤w) (h1:w<16777216):bitsOf .or .i64 (A*16777216) w=A*16777216+w:=by
 rw [or_i (by unfold isU;omega) (by unfold isU;omega)]
 have e1:(A*16777216).toNat=A.toNat <<< 24:=by rw [Nat.shiftLeft_eq];omega
 rw [e1,←Nat.shiftLeft_add_eq_or_of_lt (show w.toNat<2^24 by omega),Nat.shiftLeft_eq]
 omega
theorem Zjz {s:Int} (h:0≤s∧s<1000):shlOf .i64 s 24=s*16777216:=by
 unfold shlOf
 show w64 (s*2^min (Int.toNat 24) 64)=_
 rw [show min (Int.toNat 24) 64=24 from rfl,show (2:Int)^24=16777216 from rfl,ZaD (by omega) (by omega)]
theorem bit23 {w:Int} (h:0≤w∧w<16777216):(bitsOf .and .i64 w 8388608 != 0)=decide (8388608≤w):=by
 rw [ZjX (by unfold isU;omega),decide_eq_decide];omega
theorem ZfY (hN:10≤N) {m:Int} (hm:isN m):ZaA N (nw m)=some (cEnc m):=by
 have t:=Zkv hm
 have l:=cLen_le hm
 have bl:blen m≤256:=Zfs hm.2
 have e:w64 (Int.tdiv (w64 ((blen m:Int)+7)) 8)=(cLen m:Int):=by
  rw [ZaD (n:=(blen m:Int)+7) (by omega) (by omega),ZdN (by omega),ZaD (by omega) (by omega)];unfold cLen;omega
 have p1:ZaA.p1 N (blen m:Int) (cTop m)=some (cEnc m):=by
  unfold ZaA.p1 ZaA.p2
  rw [bit23 t,e,show shrOf .i64 (cTop m) 8=cTop m/256 from Zjb (cTop m) 8 (by omega)]
  unfold cEnc
  by_cases h:8388608≤cTop m
  ·rw [if_pos (by simpa using h),if_pos h,show (cLen m:Int)+1=((cLen m+1:Nat):Int) by omega,ZaD (by omega) (by omega),Zjz (by omega),or_low (by omega) (by omega) (by omega) (by omega)]
  ·rw [if_neg (by simpa using h),if_neg h,Zjz (by omega),or_low (by omega) (by omega) (by omega) (by omega)]
 have low : ∀{w:Int},0≤w→w<16777216→w64 (List.getD (nw w) 0 0)=w:=fun {w} h0 h1=>by
  show w64 (w%18446744073709551616)=w
  rw [ZaD (by omega) (by omega)];omega
 unfold ZaA
 rw [Zge hN hm,Zab,e]
 have ct:cTop m=if cLen m≤3 then m*2^(8*(3-cLen m)) else m/2^(8*(cLen m-3)):=rfl
 by_cases h3:cLen m≤3
 ·rw [if_pos h3] at ct
  rw [if_pos (by simp;omega),show (3:Int)-(cLen m:Int)=((3-cLen m:Nat):Int) by omega,ZaD (n:=((3-cLen m:Nat):Int)) (by omega) (by omega),show (8:Int)*((3-cLen m:Nat):Int)=((8*(3-cLen m):Nat):Int) by omega,ZaD (n:=((8*(3-cLen m):Nat):Int)) (by omega) (by omega),Zfk hN hm _ (by omega),Zab,←ct,Int.emod_eq_of_lt t.1 (by omega),low t.1 t.2,p1]
 ·rw [if_neg h3] at ct
  rw [if_neg (by simp;omega),show (cLen m:Int)-3=((cLen m-3:Nat):Int) by omega,ZaD (n:=((cLen m-3:Nat):Int)) (by omega) (by omega),show (8:Int)*((cLen m-3:Nat):Int)=((8*(cLen m-3):Nat):Int) by omega,ZaD (n:=((8*(cLen m-3):Nat):Int)) (by omega) (by omega),Zfv hN hm _ (by omega),Zab,←ct,low t.1 t.2,p1]
def pgood (p:Zan):Bool:=(tgt p.Limit p.Limit).2&&decide (2≤p.Interval∧p.Interval≤64∧1≤p.Spacing∧p.Spacing≤10000∧0≤p.Future∧p.Future<4294967296)
theorem Zgl (hN:10≤N) (p:Zan):ZcV N p=some (pgood p):=by
 unfold ZcV
 rw [Zdy hN,Zab]
 dsimp only
 unfold pgood
 cases (tgt p.Limit p.Limit).2
 ·rfl
 ·simp only [if_pos,Bool.true_and,decide_eq_true_eq]
  repeat' split
  all_goals (congr 1;rw [Bool.eq_iff_iff];simp only [decide_eq_true_eq,Bool.false_eq_true,false_iff];omega)
def pdue (p:Zan):Int:=p.Interval*p.Spacing
theorem Zfa {p:Zan} (h:pgood p=true):2≤pdue p∧pdue p≤640000:=by
 simp only [pgood,Bool.and_eq_true,decide_eq_true_eq] at h
 obtain ⟨_,h1,h2,h3,h4,_⟩:=h
 unfold pdue
 have a:=Int.mul_le_mul h1 h3 (by omega) (by omega:0≤p.Interval)
 have b:=Int.mul_le_mul h2 h4 (by omega) (by omega:(0:Int)≤64)
 omega
def pspan (p:Zan) (f t:Int):Int:=
 if pdue p*4<(if pdue p/4>w64 (t-f) then pdue p/4 else w64 (t-f)) then pdue p*4 else (if pdue p/4>w64 (t-f) then pdue p/4 else w64 (t-f))
theorem Zjh {p:Zan} (h:pgood p=true) (f t:Int):0≤pspan p f t∧pspan p f t≤2560000:=by
 have:=Zfa h
 unfold pspan
 split<;>split<;>omega
theorem Zkz {p:Zan} (h:pgood p=true):w64 (p.Interval*p.Spacing)=pdue p:=by
 have:=Zfa h
 exact ZaD (by unfold pdue at this;omega) (by unfold pdue at this;omega)
theorem Ziw {p:Zan} (h:pgood p=true) (f t:Int):Zdp N p f t=some (pspan p f t):=by
 have:=Zfa h
 unfold Zdp pspan
 rw [Zkz h,ZdN (by omega),ZaD (n:=pdue p*4) (by omega) (by omega),ZaD (n:=pdue p/4) (by omega) (by omega)]
def retg (p:Zan) (b f t:Int):Int:=
 if pgood p=true∧(tgt b p.Limit).2=true∧(tgt b p.Limit).1*pspan p f t/pdue p<115792089237316195423570985008687907853269984665640564039457584007913129639936∧(tgt b p.Limit).1*pspan p f t/pdue p≤(tgt p.Limit p.Limit).1
 then cEnc (if (tgt b p.Limit).1*pspan p f t/pdue p=0 then 1 else (tgt b p.Limit).1*pspan p f t/pdue p) else p.Limit
theorem Zll {n S D:Int} (hD:0<D):n*S/D=n/D*S+n%D*S/D:=by
 have e:=Int.ediv_mul_add_emod n D
 have:n*S=D*(n/D*S)+n%D*S:=by
  conv=>lhs;rw [←e,Int.add_mul]
  rw [Int.mul_right_comm,Int.mul_comm _ D]
 rw [this,Int.mul_add_ediv_left _ _ (by omega)]
theorem Zgq (hN:10≤N) (p:Zan) (b f t:Int):Zbf N p b f t=some (retg p b f t):=by
 unfold Zbf retg
 rw [Zdy hN,Zab]
 dsimp only
 rw [Zgl hN,Zab]
 cases hg:pgood p with
 | false=>rw [if_pos (by rfl),if_neg (by simp)]
 | true=>
  rw [if_neg (by simp)]
  cases ht:(tgt b p.Limit).2 with
  | false=>rw [if_pos (by rfl),if_neg (by simp)]
  | true=>
   rw [if_neg (by simp)]
   have hn:=ZiZ b p.Limit
   have hL:=ZiZ p.Limit p.Limit
   have D:=Zfa hg
   have S:=Zjh hg f t
   rw [Ziw hg,Zab,Zkz hg,Zch (n:=pdue p) (by omega) (by omega),Zch (n:=pspan p f t) (by omega) (by omega),ZhE hN hn (by omega) (by omega),Zab]
   dsimp only
   have hLt:=Zdy hN p.Limit p.Limit
   have dp:=Zll (n:=(tgt b p.Limit).1) (S:=pspan p f t) (D:=pdue p) (by omega)
   rw [dp]
   generalize (tgt b p.Limit).1=n at *
   generalize (tgt p.Limit p.Limit).1=L at *
   generalize pspan p f t=S' at *
   generalize pdue p=D' at *
   have q0:isN (n/D'):=by
    unfold isN at *
    have:n/D'≤n:=Int.ediv_le_self _ hn.1
    have:0≤n/D':=Int.ediv_nonneg hn.1 (by omega)
    omega
   have r0:=Int.emod_nonneg n (b:=D') (by omega)
   have r1:=Int.emod_lt_of_pos n (b:=D') (by omega)
   have rs0:0≤n%D'*S':=Int.mul_nonneg r0 S.1
   have rs1:n%D'*S'≤640000*2560000:=Int.mul_le_mul (by omega) (by omega) S.1 (by omega)
   have rs2:n%D'*S'/D'≤n%D'*S':=Int.ediv_le_self _ rs0
   have rs3:0≤n%D'*S'/D':=Int.ediv_nonneg rs0 (by omega)
   have qs0:0≤n/D'*S':=Int.mul_nonneg (by unfold isN at q0;omega) S.1
   rw [Zhd hN q0 (by unfold isW;omega),Zab]
   dsimp only
   rw [Zam (by omega),Zch (n:=n%D'*S') (by omega) (by omega),ZdN rs0,Zch (n:=n%D'*S'/D') (by omega) (by omega),Zef (by unfold isW;omega),Zab,ZdU hN (by unfold isN;omega) (by unfold isN;omega),Zab]
   dsimp only
   rw [hLt,Zab]
   dsimp only
   generalize n/D'*S'=Q at *
   generalize n%D'*S'/D'=R at *
   have big:(115792089237316195423570985008687907853269984665640564039457584007913129639936:Int)≤Q∨Q<115792089237316195423570985008687907853269984665640564039457584007913129639936:=by omega
   rcases big with big | big
   ·rw [if_pos (by simpa using big),if_neg (by omega)]
   rw [if_neg (by simpa using big),Int.emod_eq_of_lt qs0 big]
   by_cases big2:(115792089237316195423570985008687907853269984665640564039457584007913129639936:Int)≤Q+R
   ·rw [if_pos (by simpa using big2),if_neg (by omega)]
   rw [if_neg (by simpa using big2),Int.emod_eq_of_lt (by omega) (by omega)]
   have qr:isN (Q+R):=by unfold isN;omega
   rw [ZdH hN hL qr,Zab]
   by_cases hl:L<Q+R
   ·rw [if_pos (by simpa using hl),if_neg (by omega)]
   rw [if_neg (by simpa using hl),Zdb qr,Zab,if_pos (c:=true=true∧true=true∧Q+R<115792089237316195423570985008687907853269984665640564039457584007913129639936∧Q+R≤L) ⟨rfl,rfl,by omega,by omega⟩]
   have enc : ∀{x:Int},isN x→Zbf.p1 N (nw x)=some (cEnc x):=fun h=>by
    unfold Zbf.p1
    rw [ZfY hN h,Zab]
   by_cases h0:Q+R=0
   ·rw [if_pos (by simpa using h0),if_pos h0,Zef (by unfold isW;omega),Zab,enc (by unfold isN;omega)]
   ·rw [if_neg (by simpa using h0),if_neg h0,enc qr]
def nextB (p:Zan) (at_:ZaL) (time:Int):Int:=
 if at_.Height≤0 then p.Limit
 else if starts p at_.Height then retg p at_.Bits at_.First at_.Time
 else if p.Easy=false then at_.Bits
 else if w64 (time-at_.Time)>w64 (2*p.Spacing) then p.Limit else at_.Hard
theorem Zix (hN:10≤N) (p:Zan) (at_:ZaL) (time:Int):Zdq N p at_ time=some (nextB p at_ time):=by
 unfold Zdq nextB
 rw [Zha,Zab,Zgq hN,Zab]
 cases p.Easy<;>cases starts p at_.Height<;>(simp only [decide_eq_true_eq];repeat' split)<;>first | rfl | simp_all | omega
end Go.Dn.F
namespace Go.Dn.F
open Go.Dn
@[simp] theorem ZeF (l:List Int):len (rowI l)=(l.length:Int):=by simp [len]
theorem rowI_isI (l:List Int):isI (rowI l)=true:=by simp [isI,rowI]
theorem ZkN (l:List Int):sortR (rowI l)=rowI (l.mergeSort fun x y=>decide (x≤y)):=by
 simp only [sortR,rowI,List.map_map]
 congr 2
 have:(leafI ∘ fun n=>[L.int .i64 n])=id:=rfl
 rw [this,List.map_id]
theorem min11 (n:Nat):(if (11:Int)<(n:Int) then 11 else (n:Int))=((min n 11:Nat):Int):=by
 split<;>omega
abbrev srt (l:List Int):List Int:=l.mergeSort fun x y=>decide (x≤y)
theorem Zhm (l:List Int):(srt l).length=l.length:=List.length_mergeSort l
theorem Zii (l:List Int):(srt l).Pairwise (fun a b=>a≤b):=by
 have:=List.pairwise_mergeSort (le:=fun x y:Int=>decide (x≤y)) (by simp;omega) (by simp;omega) l
 simpa using this
theorem ZhG (l:List Int):(srt l).Perm l:=List.mergeSort_perm _ _
def M (zs:List Int):Int:=(srt (zs.take 11)).getD ((zs.take 11).length/2) 0
theorem tdiv2 (n:Nat):Int.tdiv (n:Int) 2=((n/2:Nat):Int):=by
 rw [Int.tdiv_eq_ediv];simp
theorem ZiC (N:Nat) (zs:List Int):ZcX N (rowI zs)=some (M zs):=by
 have e:(min zs.length 11)=(zs.take 11).length:=by simp;omega
 have e':zs.take (zs.take 11).length=zs.take 11:=by rw [←e];apply List.ext_getElem? ;intro i;simp only [List.getElem?_take];split<;>split<;>first | rfl | omega | (rw [List.getElem?_eq_none (by omega)])
 unfold ZcX
 simp only [ZeF,Zdo,min11,List.drop_zero]
 rw [Zam (by omega),Zam (by simp;omega)]
 simp only [Int.toNat_natCast,Ziq,e,e']
 rw [Zbe,Zam (by simp;omega),Zab]
 by_cases h0:(zs.take 11).length=0
 ·simp [h0,M]
 ·simp only [ZeF,Zdo]
  rw [if_neg (by simpa using h0),Zam (rowI_isI _),Zam (by simp;omega),ZkN,tdiv2]
  rw [ZaD (by omega) (by simp;omega),Zam (by omega),Zam (by omega)]
  simp only [Int.toNat_natCast,Nat.zero_add]
  have hl:(zs.take 11).length/2<(srt (zs.take 11)).length:=by rw [Zhm];omega
  rw [rowI_get hl,Zaz,Zdj]
  simp only [M,List.getD,List.getElem?_eq_getElem hl,Option.getD_some]
theorem Zjp (N:Nat) (t:Int) (zs:List Int):Zcy N t (rowI zs)=some (zs.length==0||decide (t>M zs)):=by
 unfold Zcy
 rw [ZiC,Zab]
 by_cases h:zs.length=0
 ·simp [h]
 ·simp [h]
theorem ZkV {s:List Int} (hs:s.Pairwise (fun a b=>a≤b)) {k:Nat} (hk:k<s.length):s.countP (fun y=>decide (y<s[k]))≤k∧k<s.countP (fun y=>decide (y≤s[k])):=by
 have hsplit:s=s.take k++s[k]::s.drop (k+1):=by
  rw [List.getElem_cons_drop hk,List.take_append_drop]
 generalize hx:s[k]=x at *
 rw [hsplit] at hs
 obtain ⟨_,h2,h3⟩:=List.pairwise_append.1 hs
 have h4 : ∀a∈s.take k,a≤x:=fun a ha=>h3 a ha x (by simp)
 have h5 : ∀b∈s.drop (k+1),x≤b:=fun b hb=>(List.pairwise_cons.1 h2).1 b hb
 have hlen:(s.take k).length=k:=by simp;omega
 rw [hsplit]
 constructor
 ·rw [List.countP_append,List.countP_cons_of_neg (by simp)]
  have:(s.drop (k+1)).countP (fun y=>decide (y<x))=0:=List.countP_eq_zero.2 fun b hb=>by have:=h5 b hb;simp;omega
  have:=List.countP_le_length (p:=fun y=>decide (y<x)) (l:=s.take k)
  omega
 ·rw [List.countP_append,List.countP_cons_of_pos (by simp)]
  have:(s.take k).countP (fun y=>decide (y≤x))=(s.take k).length:=List.countP_eq_length.2 fun a ha=>by have:=h4 a ha;simp;omega
  omega
theorem ZgV {l:List Int} {x:Int}:l.countP (fun y=>decide (y≤x))=l.countP (fun y=>decide (y<x))+l.countP (fun y=>y==x):=by
 induction l with
 | nil=>rfl
 | cons a l ih=>
  simp only [List.countP_cons,ih]
  by_cases h1:a<x
  ·simp [h1,show a≤x by omega,show ¬ a=x by omega];omega
  ·by_cases h2:a=x
   ·simp [h2];omega
   ·simp [h1,h2,show ¬ a≤x by omega]
theorem ZhA {l:List Int} {x y:Int} (h:x<y):l.countP (fun z=>decide (z≤x))≤l.countP (fun z=>decide (z<y)):=
 List.countP_mono_left fun z _ hz=>by simp at hz ⊢;omega
def isMid (ys:List Int) (y:Int):Prop:=ys.countP (fun z=>decide (z<y))≤ys.length/2∧ys.length/2<ys.countP (fun z=>decide (z<y))+ys.countP (fun z=>z==y)
theorem mid_of {ys:List Int} (h:ys ≠ []):isMid ys ((srt ys).getD (ys.length/2) 0)∧(srt ys).getD (ys.length/2) 0∈ys:=by
 have hl:ys.length/2<(srt ys).length:=by
  rw [Zhm]
  have:0<ys.length:=List.length_pos_iff.2 h
  omega
 have e:(srt ys).getD (ys.length/2) 0=(srt ys)[ys.length/2]:=by simp only [List.getD,List.getElem?_eq_getElem hl,Option.getD_some]
 rw [e]
 have:=ZkV (Zii ys) hl
 rw [(ZhG ys).countP_eq,(ZhG ys).countP_eq,ZgV] at this
 exact ⟨this,(ZhG ys).mem_iff.1 (List.getElem_mem hl)⟩
theorem mid_one {ys:List Int} {x y:Int} (hx:isMid ys x) (hy:isMid ys y):x=y:=by
 obtain ⟨a1,a2⟩:=hx
 obtain ⟨b1,b2⟩:=hy
 rw [←ZgV] at a2 b2
 rcases Int.lt_trichotomy x y with h | h | h
 ·have:=ZhA (l:=ys) h;omega
 ·exact h
 ·have:=ZhA (l:=ys) h;omega
theorem mid_M {zs:List Int} {y:Int} (h:zs.take 11 ≠ []) (hy:isMid (zs.take 11) y):y=M zs:=mid_one hy (mid_of h).1
theorem ZjV (p:Int→Bool) (ys:List Int) (j:Nat) (h:j<ys.length):(ys.take (j+1)).countP p=(ys.take j).countP p+if p ys[j]=true then 1 else 0:=by
 rw [List.take_succ_eq_append_getElem h,List.countP_append,List.countP_singleton]
theorem ref_in (N:Nat) (c:Int→Option Int) (zs:List Int) (i:Nat) (hi:i<(zs.take 11).length) : ∀(m j k:Nat),m+j=(zs.take 11).length→m<k →
  loopN (Zas.p2 N c (rowI zs) i) k ((((zs.take 11).take j).countP (fun z=>decide (z<(zs.take 11)[i])):Nat),(((zs.take 11).take j).countP (fun z=>z==(zs.take 11)[i]):Nat),(j:Int)) =
   if (zs.take 11).countP (fun z=>decide (z<(zs.take 11)[i]))≤(zs.take 11).length/2∧(zs.take 11).length/2<(zs.take 11).countP (fun z=>decide (z<(zs.take 11)[i]))+(zs.take 11).countP (fun z=>z==(zs.take 11)[i])
   then some (zs.take 11)[i] else c (i+1):=by
 have e:(min zs.length 11)=(zs.take 11).length:=by simp;omega
 have hn:(zs.take 11).length≤11:=by simp;omega
 have hzl:(zs.take 11).length≤zs.length:=by simp;omega
 have hy : ∀(x:Nat) (hx:x<(zs.take 11).length),zs[x]? = some (zs.take 11)[x]:=fun x hx=>by simp
 intro m
 induction m with
 | zero=>
  intro j k hj hk
  obtain ⟨k,rfl⟩ : ∃l,k=l+1:=⟨k-1,by omega⟩
  have hj':j=(zs.take 11).length:=by omega
  rw [Zao]
  unfold Zas.p2
  simp only [ZeF,Zdo,min11,e]
  have ht:(zs.take 11).take j=zs.take 11:=by rw [hj'];exact List.take_length
  rw [ht]
  have c1:=List.countP_le_length (p:=fun z=>decide (z<(zs.take 11)[i])) (l:=zs.take 11)
  have c2:=List.countP_le_length (p:=fun z=>z==(zs.take 11)[i]) (l:=zs.take 11)
  rw [if_neg (by simp only [decide_eq_true_eq];omega),tdiv2,ZaD (by omega) (by omega),ZaD (n:=_+_) (by omega) (by omega),ZaD (n:=_+1) (by omega) (by omega)]
  by_cases h1:(zs.take 11).countP (fun z=>decide (z<(zs.take 11)[i]))≤(zs.take 11).length/2
  ·rw [if_pos (by simp only [decide_eq_true_eq];omega)]
   by_cases h2:(zs.take 11).length/2<(zs.take 11).countP (fun z=>decide (z<(zs.take 11)[i]))+(zs.take 11).countP (fun z=>z==(zs.take 11)[i])
   ·rw [if_pos (by simp only [decide_eq_true_eq];omega),if_pos ⟨h1,h2⟩,Zam (by omega),Zam (by omega),Zfm (hy i hi),Zaz,Zdj]
   ·rw [if_neg (by simp only [decide_eq_true_eq];omega),if_neg (fun h=>h2 h.2)]
  ·rw [if_neg (by simp only [decide_eq_true_eq];omega),if_neg (fun h=>h1 h.1)]
 | succ m ih=>
  intro j k hj hk
  obtain ⟨k,rfl⟩ : ∃l,k=l+1:=⟨k-1,by omega⟩
  have hj':j<(zs.take 11).length:=by omega
  rw [←ih (j+1) k (by omega) (by omega),ZjV _ _ _ hj',ZjV _ _ _ hj',Zao]
  have c1:=List.countP_le_length (p:=fun z=>decide (z<(zs.take 11)[i])) (l:=(zs.take 11).take j)
  have c2:=List.countP_le_length (p:=fun z=>z==(zs.take 11)[i]) (l:=(zs.take 11).take j)
  rw [List.length_take] at c1 c2
  generalize hL:List.countP (fun z=>decide (z<(zs.take 11)[i])) ((zs.take 11).take j)=lc at *
  generalize hS:List.countP (fun z=>z==(zs.take 11)[i]) ((zs.take 11).take j)=sc at *
  generalize loopN (Zas.p2 N c (rowI zs) i) k=G
  unfold Zas.p2
  simp only [ZeF,Zdo,min11,e]
  rw [if_pos (by simp only [decide_eq_true_eq];omega),Zam (by omega),Zam (by omega),Zfm (hy j hj'),Zaz,Zdj,Zam (by omega),Zam (by omega),Zfm (hy i hi),Zaz,Zdj]
  have p3 : ∀l:Int,Zas.p3 N G c (rowI zs) i l sc j =
    G (l,((sc+if ((zs.take 11)[j]==(zs.take 11)[i])=true then 1 else 0:Nat):Int),((j+1:Nat):Int)):=by
   intro l
   unfold Zas.p3 Zas.p4
   simp only [ZeF,Zdo]
   rw [Zam (by omega),Zam (by omega),Zfm (hy j hj'),Zaz,Zdj,Zam (by omega),Zam (by omega),Zfm (hy i hi),Zaz,Zdj]
   rw [ZaD (n:=_+1) (by omega) (by omega),ZaD (n:=_+1) (by omega) (by omega)]
   split<;>rfl
  rw [p3,p3,ZaD (n:=_+1) (by omega) (by omega)]
  by_cases hc:(zs.take 11)[j]<(zs.take 11)[i]
  ·have t:(lc+if decide ((zs.take 11)[j]<(zs.take 11)[i])=true then 1 else 0:Nat)=lc+1:=by rw [if_pos (decide_eq_true hc)]
   rw [if_pos (decide_eq_true hc),t];rfl
  ·have t:(lc+if decide ((zs.take 11)[j]<(zs.take 11)[i])=true then 1 else 0:Nat)=lc:=by rw [if_neg (by simpa only [decide_eq_true_eq] using hc)];rfl
   rw [if_neg (by simpa only [decide_eq_true_eq] using hc),t]
theorem ref_out (N:Nat) (hN:12≤N) (zs:List Int) : ∀(m i k:Nat),m+i=(zs.take 11).length→m<k→(∀(x:Nat) (hx:x<(zs.take 11).length),x<i→¬ isMid (zs.take 11) (zs.take 11)[x]) →
  loopN (Zas.p1 N (rowI zs)) k (i:Int)=some (M zs):=by
 have e:(min zs.length 11)=(zs.take 11).length:=by simp;omega
 have hn:(zs.take 11).length≤11:=by simp;omega
 intro m
 induction m with
 | zero=>
  intro i k hi hk hno
  obtain ⟨k,rfl⟩ : ∃l,k=l+1:=⟨k-1,by omega⟩
  rw [Zao]
  unfold Zas.p1
  simp only [ZeF,Zdo,min11,e]
  rw [if_neg (by simp only [decide_eq_true_eq];omega)]
  by_cases h0:zs.take 11 = []
  ·simp [M,h0]
  ·obtain ⟨h1,h2⟩:=mid_of h0
   obtain ⟨x,hx,h3⟩:=List.getElem_of_mem h2
   exact absurd (h3 ▸ h1) (hno x hx (by omega))
 | succ m ih=>
  intro i k hi hk hno
  obtain ⟨k,rfl⟩ : ∃l,k=l+1:=⟨k-1,by omega⟩
  have hi':i<(zs.take 11).length:=by omega
  have h:=ref_in N (loopN (Zas.p1 N (rowI zs)) k) zs i hi' (zs.take 11).length 0 N (by omega) (by omega)
  rw [Zao]
  generalize hG:loopN (Zas.p1 N (rowI zs)) k=G at h
  unfold Zas.p1
  simp only [ZeF,Zdo,min11,e]
  rw [if_pos (by simp only [decide_eq_true_eq];omega)]
  simp only [List.take_zero,List.countP_nil] at h
  refine Eq.trans h ?_
  subst hG
  by_cases hm:isMid (zs.take 11) (zs.take 11)[i]
  ·have hm':=hm
   unfold isMid at hm'
   rw [if_pos hm',mid_M (fun h0=>by rw [h0] at hi';simp at hi') hm]
  ·have hm':=hm
   unfold isMid at hm'
   rw [if_neg hm']
   refine ih (i+1) k (by omega) (by omega) fun x hx hxi=>?_
   by_cases e:x=i
   ·subst e;exact hm
   ·exact hno x hx (by omega)
theorem Zko (N:Nat) (hN:13≤N) (zs:List Int):Zas N (rowI zs)=some (M zs):=by
 have hn:(zs.take 11).length≤11:=by simp;omega
 exact ref_out N (by omega) zs (zs.take 11).length 0 N (by omega) (by omega) fun x _ h=>by omega
end Go.Dn.F
namespace Go.Dn.F
open Go.Dn
variable {N:Nat}
theorem Ziz {a b c d A B C D x y z u T:Int} (a7:a*T=A+18446744073709551616*x) (b7:b*T=B+18446744073709551616*y) (c7:c*T=C+18446744073709551616*z) (d7:d*T=D+18446744073709551616*u) :
  vw a b c d*T=A+18446744073709551616*vw (x+B) (y+C) (z+D) u:=by
 have:vw a b c d*T=A+18446744073709551616*x+18446744073709551616*(B+18446744073709551616*y)+340282366920938463463374607431768211456*(C+18446744073709551616*z)+6277101735386680763835789423207666416102355444464034512896*(D+18446744073709551616*u):=by
  rw [←a7,←b7,←c7,←d7]
  unfold vw
  rw [Int.add_mul,Int.add_mul,Int.add_mul,Int.mul_assoc,Int.mul_assoc,Int.mul_assoc]
 rw [this];unfold vw;omega
theorem ZfG {l:List Int} {i:Nat} (h:i<l.length) (x:Int):(l.set i x).getD i 0=x:=by
 rw [List.getD_eq_getElem?_getD,List.getElem?_set_self h];rfl
theorem Zkm (hN:10≤N) {m:Int} (hm:isN m) {n:Nat} (h0:0<n) (h1:n<64) :
  loopN (Zal.p3 N (n:Int) (nw m)) N (0,List.replicate 4 0)=some (nw (m*2^n%115792089237316195423570985008687907853269984665640564039457584007913129639936)):=by
 obtain ⟨a,b,c,d,ha,hb,hc,hd,rfl⟩:=ZcF hm
 rw [ZcU ha hb hc hd]
 have hk:n≤64:=by omega
 obtain ⟨A,x,a1,a2,a3,a4,a5,a6,a7,a8⟩:=ZcA ha hk
 obtain ⟨B,y,b1,b2,b3,b4,b5,b6,b7,b8⟩:=ZcA hb hk
 obtain ⟨C,z,c1,c2,c3,c4,c5,c6,c7,c8⟩:=ZcA hc hk
 obtain ⟨D,u,d1,d2,d3,d4,d5,d6,d7,d8⟩:=ZcA hd hk
 have pT:=Zbx n
 have v1:v64 (n:Int)=((n:Nat):Int):=Zch (by omega) (by omega)
 have v2:v64 (w64 (64-(n:Int)))=((64-n:Nat):Int):=by rw [ZaD (by omega) (by omega),Zch (by omega) (by omega)];omega
 obtain ⟨N,rfl⟩ : ∃q,N=q+5:=⟨N-5,by omega⟩
 have first : ∀(G:Int×List Int→Option (List Int)) (l:List Int),Zal.p3 (N+5) (n:Int) [a,b,c,d] G (0,l)=G (1,l.set 0 A):=fun G l=>by
  unfold Zal.p3 Zal.p4
  dsimp only
  rw [if_pos (by simp),if_pos (by simp<;>omega),Zam (by omega),Zam (by rw [v1];omega),if_neg (by simp),v1,show List.getD [a,b,c,d] (Int.toNat 0) 0=a from rfl,a1,ZaD (by omega) (by omega)]
  rfl
 have next : ∀(G:Int×List Int→Option (List Int)) (j:Nat) (l:List Int) (s t A' h':Int),j<3→l.length=4→[a,b,c,d].getD (j+1) 0=s→[a,b,c,d].getD j 0=t →
   shlOf .u64 s (n:Int)=A'→shrOf .u64 t ((64-n:Nat):Int)=h'→isW (A'+h') →
   Zal.p3 (N+5) (n:Int) [a,b,c,d] G (((j+1:Nat):Int),l)=G (((j+2:Nat):Int),l.set (j+1) (A'+h')):=fun G j l s t A' h' hj hl hs ht hA hh hw=>by
  unfold isW at hw
  unfold Zal.p3 Zal.p4
  dsimp only
  rw [if_pos (by simp<;>omega),if_pos (by simp<;>omega),Zam (by omega),Zam (by rw [v1];omega),if_pos (by simp<;>omega),show ((j+1:Nat):Int)-1=(j:Int) by omega,ZaD (n:=(j:Int)) (by omega) (by omega),Zam (by omega),Zam (by omega),Zam (by rw [v2];omega),v1,v2,Int.toNat_natCast,Int.toNat_natCast,hs,ht,hA,hh,List.set_set,ZfG (by omega),Zch hw.1 hw.2,ZaD (by omega) (by omega)]
  rfl
 have last : ∀(G:Int×List Int→Option (List Int)) (l:List Int),Zal.p3 (N+5) (n:Int) [a,b,c,d] G (4,l)=some l:=fun G l=>by
  unfold Zal.p3
  dsimp only
  rw [if_neg (by simp)]
 rw [Zao];refine Eq.trans (first _ [0,0,0,0]) ?_
 rw [Zao];refine Eq.trans (next _ 0 [A,0,0,0] b a B x (by omega) rfl rfl rfl b1 a2 (by unfold isW;omega)) ?_
 rw [Zao];refine Eq.trans (next _ 1 [A,B+x,0,0] c b C y (by omega) rfl rfl rfl c1 b2 (by unfold isW;omega)) ?_
 rw [Zao];refine Eq.trans (next _ 2 [A,B+x,C+y,0] d c D z (by omega) rfl rfl rfl d1 c2 (by unfold isW;omega)) ?_
 rw [Zao];refine Eq.trans (last _ [A,B+x,C+y,D+z]) ?_
 rw [←ZcU (a:=A) (b:=B+x) (c:=C+y) (d:=D+z) (by unfold isW;omega) (by unfold isW;omega) (by unfold isW;omega) (by unfold isW;omega)]
 congr 2
 rw [Ziz a7 b7 c7 d7]
 unfold vw;omega
theorem ZiA (hN:10≤N) {m:Int} (hm:isN m) {n:Nat} (h0:0<n) (h1:n<64) :
  loopN (Zal.p3 N (-(n:Int)) (nw m)) N (0,List.replicate 4 0)=some (nw (m/2^n)):=by
 obtain ⟨a,b,c,d,ha,hb,hc,hd,rfl⟩:=ZcF hm
 rw [ZcU ha hb hc hd]
 have hk:64-n≤64:=by omega
 obtain ⟨A,x,a1,a2,a3,a4,a5,a6,a7,a8⟩:=ZcA ha hk
 obtain ⟨B,y,b1,b2,b3,b4,b5,b6,b7,b8⟩:=ZcA hb hk
 obtain ⟨C,z,c1,c2,c3,c4,c5,c6,c7,c8⟩:=ZcA hc hk
 obtain ⟨D,u,d1,d2,d3,d4,d5,d6,d7,d8⟩:=ZcA hd hk
 rw [show 64-(64-n)=n by omega] at a2 b2 c2 d2
 have pT:=Zbx n
 have pU:=Zbx (64-n)
 have tu:=ZdG (k:=n) (by omega)
 have v1:v64 (w64 (0 - -(n:Int)))=((n:Nat):Int):=by rw [ZaD (by omega) (by omega),Zch (by omega) (by omega)];omega
 have v2:v64 (w64 (64 + -(n:Int)))=((64-n:Nat):Int):=by rw [ZaD (by omega) (by omega),Zch (by omega) (by omega)];omega
 obtain ⟨N,rfl⟩ : ∃q,N=q+5:=⟨N-5,by omega⟩
 have next : ∀(G:Int×List Int→Option (List Int)) (j:Nat) (l:List Int) (s t A' h':Int),j<3→l.length=4→[a,b,c,d].getD j 0=s→[a,b,c,d].getD (j+1) 0=t →
   shrOf .u64 s (n:Int)=h'→shlOf .u64 t ((64-n:Nat):Int)=A'→isW (h'+A') →
   Zal.p3 (N+5) (-(n:Int)) [a,b,c,d] G ((j:Int),l)=G (((j+1:Nat):Int),l.set j (h'+A')):=fun G j l s t A' h' hj hl hs ht hh hA hw=>by
  unfold isW at hw
  unfold Zal.p3 Zal.p4
  dsimp only
  rw [if_pos (by simp<;>omega),if_neg (by simp<;>omega),Zam (by omega),Zam (by rw [v1];omega),if_pos (by simp<;>omega),show (j:Int)+1=((j+1:Nat):Int) by omega,ZaD (n:=((j+1:Nat):Int)) (by omega) (by omega),Zam (by omega),Zam (by omega),Zam (by rw [v2];omega),v1,v2,Int.toNat_natCast,Int.toNat_natCast,hs,ht,hA,hh,List.set_set,ZfG (by omega),Zch hw.1 hw.2]
 have top : ∀(G:Int×List Int→Option (List Int)) (l:List Int),Zal.p3 (N+5) (-(n:Int)) [a,b,c,d] G (3,l)=G (4,l.set 3 u):=fun G l=>by
  unfold Zal.p3 Zal.p4
  dsimp only
  rw [if_pos (by simp),if_neg (by simp<;>omega),Zam (by omega),Zam (by rw [v1];omega),if_neg (by simp),v1,show List.getD [a,b,c,d] (Int.toNat 3) 0=d from rfl,d2,ZaD (by omega) (by omega)]
  rfl
 have last : ∀(G:Int×List Int→Option (List Int)) (l:List Int),Zal.p3 (N+5) (-(n:Int)) [a,b,c,d] G (4,l)=some l:=fun G l=>by
  unfold Zal.p3
  dsimp only
  rw [if_neg (by simp)]
 rw [Zao];refine Eq.trans (next _ 0 [0,0,0,0] a b B x (by omega) rfl rfl rfl a2 b1 (by unfold isW;omega)) ?_
 rw [Zao];refine Eq.trans (next _ 1 [x+B,0,0,0] b c C y (by omega) rfl rfl rfl b2 c1 (by unfold isW;omega)) ?_
 rw [Zao];refine Eq.trans (next _ 2 [x+B,y+C,0,0] c d D z (by omega) rfl rfl rfl c2 d1 (by unfold isW;omega)) ?_
 rw [Zao];refine Eq.trans (top _ [x+B,y+C,z+D,0]) ?_
 rw [Zao];refine Eq.trans (last _ [x+B,y+C,z+D,u]) ?_
 rw [←ZcU (a:=x+B) (b:=y+C) (c:=z+D) (d:=u) (by unfold isW;omega) (by unfold isW;omega) (by unfold isW;omega) (by unfold isW;omega)]
 congr 2
 exact (ZjU pT pU tu (by omega) (Ziz a7 b7 c7 d7)).symm
theorem Zkn (hN:10≤N) {m:Int} (hm:isN m) {n:Nat} (h1:n<64) :
  loopN (Zal.p2 N) N ((n:Int),nw m)=some (nw (m*2^n%115792089237316195423570985008687907853269984665640564039457584007913129639936)):=by
 obtain ⟨K,e⟩ : ∃q,N=q+1:=⟨N-1,by omega⟩
 rw [show loopN (Zal.p2 N) N=loopN (Zal.p2 N) (K+1) by rw [←e],Zao]
 unfold Zal.p2
 dsimp only
 rw [if_neg (by simp<;>omega)]
 by_cases h0:n=0
 ·subst h0
  unfold isN at hm
  rw [if_pos (by rfl),show (2:Int)^0=1 from rfl,Int.mul_one,Int.emod_eq_of_lt hm.1 hm.2]
 ·rw [if_neg (by simp<;>omega),Zkm hN hm (by omega) h1]
theorem Zgm (hN:10≤N) : ∀(K:Nat) {m:Int},isN m→∀n:Nat,n<64*K→n<1000→loopN (Zal.p2 N) K (-(n:Int),nw m)=some (nw (m/2^n))
 | 0,_,_,n,h,_=>by omega
 | K+1,m,hm,n,h,hk=>by
  rw [Zao]
  have ih:=Zgm hN K (m:=m/18446744073709551616) (by unfold isN at *;omega) (n-64)
  generalize loopN (Zal.p2 N) K=G at ih ⊢
  unfold Zal.p2
  dsimp only
  by_cases h64:64≤n
  ·rw [if_pos (by simp<;>omega),ZaD (by omega) (by omega)]
   have e : [List.getD (nw m) 1 0,List.getD (nw m) 2 0,List.getD (nw m) 3 0,0]=nw (m/18446744073709551616):=by
    obtain ⟨a,b,c,d,ha,hb,hc,hd,rfl⟩:=ZcF hm
    have:vw a b c d/18446744073709551616=vw b c d 0:=by unfold isW vw at *;omega
    rw [this,ZcU ha hb hc hd,ZcU hb hc hd isW0];rfl
   rw [e,show -(n:Int)+64 = -((n-64:Nat):Int) by omega,ih (by omega) (by omega),Int.ediv_ediv_of_nonneg (by omega),show (18446744073709551616:Int)=2^64 from rfl,←Int.pow_add,show 64+(n-64)=n by omega]
  ·rw [if_neg (by simp<;>omega)]
   by_cases h0:n=0
   ·subst h0
    rw [if_pos (by rfl),show (2:Int)^0=1 from rfl,Int.ediv_one]
   ·rw [if_neg (by simp<;>omega),ZiA hN hm (by omega) (by omega)]
theorem Zhw (hN:10≤N) : ∀(K:Nat) {m:Int},isN m→∀n:Nat,n<64*K→n<1000→loopN (Zal.p1 N) K ((n:Int),nw m)=some (nw (m*2^n%115792089237316195423570985008687907853269984665640564039457584007913129639936))
 | 0,_,_,n,h,_=>by omega
 | K+1,m,hm,n,h,hk=>by
  rw [Zao]
  have ih:=Zhw hN K (m:=m*18446744073709551616%115792089237316195423570985008687907853269984665640564039457584007913129639936) (by unfold isN at *;omega) (n-64)
  generalize loopN (Zal.p1 N) K=G at ih ⊢
  unfold Zal.p1
  dsimp only
  by_cases h64:64≤n
  ·rw [if_pos (by simp<;>omega),ZaD (by omega) (by omega)]
   have e : [0,List.getD (nw m) 0 0,List.getD (nw m) 1 0,List.getD (nw m) 2 0]=nw (m*18446744073709551616%115792089237316195423570985008687907853269984665640564039457584007913129639936):=by
    obtain ⟨a,b,c,d,ha,hb,hc,hd,rfl⟩:=ZcF hm
    have:vw a b c d*18446744073709551616%115792089237316195423570985008687907853269984665640564039457584007913129639936=vw 0 a b c:=by unfold isW vw at *;omega
    rw [this,ZcU ha hb hc hd,ZcU isW0 ha hb hc];rfl
   rw [e,show (n:Int)-64=((n-64:Nat):Int) by omega,ih (by omega) (by omega)]
   have e2:m*2^n=m*18446744073709551616*2^(n-64):=by
    rw [Int.mul_assoc,show (18446744073709551616:Int)=2^64 from rfl,←Int.pow_add,show 64+(n-64)=n by omega]
   rw [e2,Int.mul_emod (_%_),Int.emod_emod,←Int.mul_emod]
  ·rw [if_neg (by simp<;>omega),Zkn hN hm (by omega)]
theorem Zjo (hN:10≤N) {m:Int} (hm:isN m) (n:Nat):Zal N (nw m) (n:Int)=some (nw (m*2^n%115792089237316195423570985008687907853269984665640564039457584007913129639936)):=by
 unfold Zal
 rw [if_neg (by simp<;>omega)]
 by_cases h:256≤n
 ·have:m*2^n%115792089237316195423570985008687907853269984665640564039457584007913129639936=0:=by
   have e:(2:Int)^n=2^(n-256)*2^256:=by rw [←Int.pow_add,show n-256+256=n by omega]
   rw [e,←Int.mul_assoc]
   exact Int.mul_emod_left _ _
  rw [if_pos (by simp<;>omega),this,ZcW]
 ·rw [if_neg (by simp<;>omega),Zhw hN N hm n (by omega) (by omega)]
theorem ZiB (hN:10≤N) {m:Int} (hm:isN m) (n:Nat):Zal N (nw m) (-(n:Int))=some (nw (m/2^n)):=by
 unfold Zal
 by_cases h:256≤n
 ·have:m/2^n=0:=by
   have l:=ZdI h
   exact Int.ediv_eq_zero_of_lt hm.1 (Int.lt_of_lt_of_le hm.2 l)
  rw [if_pos (by simp<;>omega),this,ZcW]
 ·rw [if_neg (by simp<;>omega),if_neg (by simp<;>omega)]
  obtain ⟨K,e⟩ : ∃q,N=q+1:=⟨N-1,by omega⟩
  rw [show loopN (Zal.p1 N) N=loopN (Zal.p1 N) (K+1) by rw [←e],Zao]
  conv=>lhs;unfold Zal.p1
  dsimp only
  rw [if_neg (by simp<;>omega),Zgm hN N hm n (by omega) (by omega)]
theorem Zlt (x:Int) {r:Nat} (h:r<64):(x%18446744073709551616)/2^r%2=x/2^r%2:=by
 have p:=Zbx r
 have e:=Int.ediv_mul_add_emod x 18446744073709551616
 have s:(18446744073709551616:Int)=2^r*(2*2^(63-r)):=by
  rw [show (2:Int)*2^(63-r)=2^(64-r) by rw [show 64-r=(63-r)+1 by omega,Int.pow_succ];omega,ZdG (by omega)]
 have k:x=x%18446744073709551616+2^r*(2*2^(63-r)*(x/18446744073709551616)):=by
  rw [←Int.mul_assoc,←s];omega
 conv=>rhs;rw [k,Int.add_mul_ediv_left _ _ (by omega)]
 rw [Int.mul_assoc 2]
 omega
theorem Zer {m:Int} (hm:isN m) {i:Nat} (hi:i<256):ZbU N (nw m) (i:Int)=some (m/2^i%2):=by
 unfold ZbU
 have e1:w64 (Int.tdiv (i:Int) 64)=((i/64:Nat):Int):=by rw [ZdN (by omega),ZaD (by omega) (by omega)];omega
 have e2:v64 (Int.tmod (i:Int) 64)=((i%64:Nat):Int):=by rw [Zey (by omega),Zch (by omega) (by omega)];omega
 have p:=Zbx (i%64)
 have q:=Zbx (64*(i/64))
 have nn:0≤(m/2^(64*(i/64))%18446744073709551616)/2^(i%64):=Int.ediv_nonneg (by omega) (by omega)
 rw [if_neg (by simp<;>omega),if_neg (by simp<;>omega),e1,e2,Zam (by omega),Zam (by omega),Zam (by omega),Int.toNat_natCast,ZfT hm (by omega),shr64 _ (k:=i%64) (by omega),Zey nn,Zlt _ (by omega),Int.ediv_ediv_of_nonneg (by omega),←Int.pow_add,Nat.div_add_mod,ZaD (by omega) (by omega)]
theorem half (x:Int) (i:Nat):x/2^i=2*(x/2^(i+1))+x/2^i%2:=by
 have:x/2^(i+1)=x/2^i/2:=by rw [Int.ediv_ediv_of_nonneg (Int.le_of_lt (Zbx i)),Int.pow_succ]
 omega
theorem ZkW {a b:Int} (i:Nat) (h:a/2^i<b/2^i):a<b:=by
 rcases Int.lt_or_le a b with k | k
 ·exact k
 ·have:=Int.ediv_le_ediv (Zbx i) k
  omega
theorem ZeA (hN:300≤N) {a b:Int} (ha:isN a) (hb:isN b):Zbc N (nw a) (nw b)=some (decide (a<b)):=by
 unfold Zbc
 refine Zcs (fun m (x:Int)=>m≤256∧x=(m:Int)-1∧a/2^m=b/2^m) ?_ N 256 255 ⟨by omega,by omega,?_⟩ (by omega)
 ·rintro G m _ ⟨hm,rfl,he⟩ hG
  unfold Zbc.p1
  by_cases h0:m=0
  ·subst h0
   rw [if_neg (by simp)]
   have e:a=b:=by simpa using he
   simp [e]
  ·obtain ⟨i,rfl⟩ : ∃i,m=i+1:=⟨m-1,by omega⟩
   have h1:=half a i
   have h2:=half b i
   rw [if_pos (by simp<;>omega),show ((i+1:Nat):Int)-1=(i:Int) by omega,Zer ha (by omega),Zer hb (by omega),Zab,Zab]
   by_cases hd:a/2^i%2=b/2^i%2
   ·rw [if_neg (by simp [hd]),ZaD (by omega) (by omega)]
    exact hG i _ (by omega) ⟨by omega,by omega,by omega⟩
   ·rw [if_pos (by simpa using hd)]
    congr 1
    rw [decide_eq_decide]
    constructor
    ·intro h;exact ZkW i (by omega)
    ·intro h
     have:=Int.ediv_le_ediv (Zbx i) (Int.le_of_lt h)
     omega
 ·rw [show (2:Int)^256=115792089237316195423570985008687907853269984665640564039457584007913129639936 from rfl,Int.ediv_eq_zero_of_lt ha.1 ha.2,Int.ediv_eq_zero_of_lt hb.1 hb.2]
theorem ZkS {x:Int} (h:isW x) : [x,0,0,0]=nw x:=by
 have:=Zef (N:=0) h
 unfold Zco at this
 exact Option.some.inj this
theorem ZeB (hN:300≤N) (b:Int):Zax N b=some (nw (cDec b).1,(cDec b).2.1,(cDec b).2.2):=by
 unfold Zax cDec
 by_cases h0:b<0
 ·rw [if_pos (by simpa using h0),if_neg (by simp [cGood]<;>omega),ZcW]
 rw [if_neg (by simpa using h0)]
 by_cases h1:b>4294967295
 ·rw [if_pos (by simpa using h1),if_neg (by simp [cGood]<;>omega),ZcW]
 rw [if_neg (by simpa using h1),if_pos (by simp [cGood]<;>omega)]
 have w:0≤cWord b∧cWord b<8388608:=by unfold cWord;omega
 have e1:Int.tmod b 8388608=cWord b:=by rw [Zey (by omega)];rfl
 have s:Int.tdiv b 16777216=(cSize b:Int):=by rw [ZdN (by omega)];unfold cSize;omega
 have s2:cSize b<256:=by unfold cSize;omega
 have e3:Int.tmod (w64 (Int.tdiv b 8388608)) 2=b/8388608%2:=by rw [ZdN (by omega),ZaD (by omega) (by omega),Zey (by omega)]
 have wN:isN (cWord b):=by unfold isN;omega
 have mv:Zal N [v64 (cWord b),0,0,0] (w64 (8*w64 (w64 (cSize b:Int)-3)))=some (nw (cN b)):=by
  rw [Zch w.1 (by omega),ZkS (by unfold isW;omega),ZaD (n:=(cSize b:Int)) (by omega) (by omega),ZaD (n:=(cSize b:Int)-3) (by omega) (by omega),ZaD (by omega) (by omega)]
  unfold cN
  by_cases h3:3<cSize b
  ·rw [if_neg (by omega),show (8:Int)*((cSize b:Int)-3)=((8*(cSize b-3):Nat):Int) by omega,Zjo (by omega) wN]
  ·rw [if_pos (by omega),show (8:Int)*((cSize b:Int)-3) = -((8*(3-cSize b):Nat):Int) by omega,ZiB (by omega) wN]
 rw [e1,s,mv,Zab,ZaD (n:=(cSize b:Int)) (by omega) (by omega)]
 have p1 : ∀o:Bool,Zax.p1 N b o (nw (cN b))=some (nw (cN b),cNeg b,o):=fun o=>by
  unfold Zax.p1
  rw [e1,e3]
  unfold cNeg
  by_cases h:cWord b=0
  ·rw [if_neg (by simp [h])];simp [h]
  ·rw [if_pos (by simp<;>omega)]
   congr 3
   rw [Bool.eq_iff_iff];simp [h]
 simp only [p1,decide_eq_true_eq,gt_iff_lt]
 unfold cOver
 repeat' split
 all_goals (congr 3;rw [Bool.eq_iff_iff];simp only [decide_eq_true_eq,iff_true,true_iff,Bool.false_eq_true,false_iff,ne_eq];omega)
theorem ZhK (hN:300≤N) (b l:Int):Zcq N b l=some (nw (tgt b l).1,(tgt b l).2):=by
 unfold Zcq
 rw [ZeB hN,Zab]
 dsimp only
 rw [ZeB hN,Zab]
 dsimp only
 unfold tgt
 have z:(nw (cDec b).1==List.replicate 4 0)=decide ((cDec b).1=0):=Option.some.inj (Zdb (N:=0) (ZdF b))
 have le:=ZeA hN (ZdF l) (ZdF b)
 rw [z,le,Zab,ZcW]
 cases (cDec b).2.1<;>cases (cDec b).2.2<;>cases (cDec l).2.1<;>cases (cDec l).2.2<;>cases (decide ((cDec b).1=0))<;>cases (decide ((cDec l).1<(cDec b).1))<;>rfl
theorem nw_low {x:Int}:(nw x).getD 0 0=x%18446744073709551616:=rfl
theorem emod_mul' (m:Int) {P K:Int} (hP:0<P) (hK:0<K):m%(P*K)=m%P+P*(m/P%K):=by
 have a1:=Int.ediv_mul_add_emod m (P*K)
 have a2:=Int.ediv_mul_add_emod m P
 have a3:m/(P*K)=m/P/K:=(Int.ediv_ediv_of_nonneg (by omega)).symm
 have a4:=Int.ediv_mul_add_emod (m/P) K
 rw [a3,Int.mul_comm P K,←Int.mul_assoc] at a1
 have a5:m/P*P=m/P/K*K*P+P*(m/P%K):=by
  conv=>lhs;rw [←a4,Int.add_mul]
  rw [Int.mul_comm P (m/P%K)]
 rw [Int.mul_comm P K]
 omega
theorem ZhM (hN:300≤N) (p:Zan):ZcN N p=some (pgood p):=by
 unfold ZcN
 rw [ZhK hN,Zab]
 dsimp only
 unfold pgood
 cases (tgt p.Limit p.Limit).2
 ·rfl
 ·simp only [if_pos,Bool.true_and,decide_eq_true_eq]
  repeat' split
  all_goals (congr 1;rw [Bool.eq_iff_iff];simp only [decide_eq_true_eq,Bool.false_eq_true,false_iff];omega)
end Go.Dn.F
set_option maxRecDepth 4000
namespace Go.Dn.F
open Go.Dn
variable {N:Nat}
theorem Zgc (hN:10≤N) {m n:Int} (hm:isN m) (hn:isN n) :
  ZbM N (nw m) (nw n)=some (nw ((m-n)%115792089237316195423570985008687907853269984665640564039457584007913129639936),decide (m<n)):=by
 obtain ⟨a,b,c,d,ha,hb,hc,hd,rfl⟩:=ZcF hm
 obtain ⟨e,f,g,i,he,hf,hg,hi,rfl⟩:=ZcF hn
 rw [ZcU ha hb hc hd,ZcU he hf hg hi]
 obtain ⟨N,rfl⟩ : ∃q,N=q+5:=⟨N-5,by omega⟩
 obtain ⟨s0,c0,e0,k0,l0,m0,n0⟩:=sub64 (N:=N+5) ha he (c:=0) (by omega)
 obtain ⟨s1,c1,e1,k1,l1,m1,n1⟩:=sub64 (N:=N+5) hb hf (c:=c0) (by omega)
 obtain ⟨s2,c2,e2,k2,l2,m2,n2⟩:=sub64 (N:=N+5) hc hg (c:=c1) (by omega)
 obtain ⟨s3,c3,e3,k3,l3,m3,n3⟩:=sub64 (N:=N+5) hd hi (c:=c2) (by omega)
 unfold ZbM
 have t : ∀(G:Int×Int×List Int→Option (List Int×Bool)) (j:Nat) (l:List Int) (c s c':Int),j<4→Zdz (N+5) (l.getD j 0) ([e,f,g,i].getD j 0) c=some (s,c') →
   ZbM.p1 (N+5) [e,f,g,i] G (c,(j:Int),l)=G (c',(j:Int)+1,l.set j s):=fun G j l c s c' hj h=>by
  unfold ZbM.p1
  dsimp only
  rw [if_pos (by simp;omega),Zam (by omega),Int.toNat_natCast,h,Zab,ZaD (by omega) (by omega)]
 have u : ∀(G:Int×Int×List Int→Option (List Int×Bool)) (l:List Int) (c:Int),ZbM.p1 (N+5) [e,f,g,i] G (c,4,l)=some (l,c != 0):=fun G l c=>by
  unfold ZbM.p1
  dsimp only
  rw [if_neg (by simp)]
 rw [Zao]
 refine Eq.trans (t _ 0 [a,b,c,d] 0 s0 c0 (by omega) e0) ?_
 rw [Zao]
 refine Eq.trans (t _ 1 [s0,b,c,d] c0 s1 c1 (by omega) e1) ?_
 rw [Zao]
 refine Eq.trans (t _ 2 [s0,s1,c,d] c1 s2 c2 (by omega) e2) ?_
 rw [Zao]
 refine Eq.trans (t _ 3 [s0,s1,s2,d] c2 s3 c3 (by omega) e3) ?_
 rw [Zao]
 refine Eq.trans (u _ [s0,s1,s2,s3] c3) ?_
 rw [←ZcU k0 k1 k2 k3]
 have key:vw a b c d-vw e f g i=vw s0 s1 s2 s3-115792089237316195423570985008687907853269984665640564039457584007913129639936*c3:=by unfold vw;omega
 have r:=Zgf k0 k1 k2 k3
 unfold isN at r
 have e5:(vw a b c d-vw e f g i)%115792089237316195423570985008687907853269984665640564039457584007913129639936=vw s0 s1 s2 s3:=by omega
 rw [e5]
 have e6:(c3 != 0)=decide (vw a b c d<vw e f g i):=by
  rw [Bool.eq_iff_iff];simp only [bne_iff_ne,ne_eq,decide_eq_true_eq];omega
 rw [e6]
theorem Zgd (hN:10≤N) {m:Int} (hm:isN m):ZbB N (nw m)=some (nw (115792089237316195423570985008687907853269984665640564039457584007913129639935-m)):=by
 obtain ⟨a,b,c,d,ha,hb,hc,hd,rfl⟩:=ZcF hm
 have key:115792089237316195423570985008687907853269984665640564039457584007913129639935-vw a b c d=vw (18446744073709551615-a) (18446744073709551615-b) (18446744073709551615-c) (18446744073709551615-d):=by unfold vw;omega
 have q : ∀{x:Int},isW x→isW (18446744073709551615-x):=fun h=>by unfold isW at *;omega
 rw [key,ZcU (q ha) (q hb) (q hc) (q hd),ZcU ha hb hc hd]
 obtain ⟨N,rfl⟩ : ∃q,N=q+5:=⟨N-5,by omega⟩
 unfold ZbB
 have t : ∀(G:Int×List Int→Option (List Int)) (j:Nat) (l:List Int),j<4→isW (l.getD j 0)→ZbB.p1 (N+5) G ((j:Int),l)=G ((j:Int)+1,l.set j (18446744073709551615-l.getD j 0)):=fun G j l hj h=>by
  unfold ZbB.p1
  dsimp only
  rw [if_pos (by simp;omega),Zam (by omega),Int.toNat_natCast,xor_max h,ZaD (by omega) (by omega)]
 have u : ∀(G:Int×List Int→Option (List Int)) (l:List Int),ZbB.p1 (N+5) G (4,l)=some l:=fun G l=>by
  unfold ZbB.p1
  dsimp only
  rw [if_neg (by simp)]
 rw [Zao]
 refine Eq.trans (t _ 0 [a,b,c,d] (by omega) ha) ?_
 rw [Zao]
 refine Eq.trans (t _ 1 [_,b,c,d] (by omega) hb) ?_
 rw [Zao]
 refine Eq.trans (t _ 2 [_,_,c,d] (by omega) hc) ?_
 rw [Zao]
 refine Eq.trans (t _ 3 [_,_,_,d] (by omega) hd) ?_
 rw [Zao]
 exact u _ _
end Go.Dn.F
set_option maxRecDepth 40000
namespace Go.Dn.F
open Go.Dn
variable {N:Nat}
theorem bit_of {m:Int} (hm:isN m) {j:Nat} (hj:j<256):bitsOf .and .u64 (shrOf .u64 ((nw m).getD (j/64) 0) ((j%64:Nat):Int)) 1=m/2^j%2:=by
 have w:isW (m/2^(64*(j/64))%18446744073709551616/2^(j%64)):=by
  have p:=Zbx (j%64)
  have:m/2^(64*(j/64))%18446744073709551616/2^(j%64)≤m/2^(64*(j/64))%18446744073709551616:=Int.ediv_le_self _ (by omega)
  have:0≤m/2^(64*(j/64))%18446744073709551616/2^(j%64):=Int.ediv_nonneg (by omega) (by omega)
  unfold isW;omega
 rw [ZfT hm (by omega),shr64 _ (k:=j%64) (by omega),show (1:Int)=2^1-1 from rfl,ZjY w 1 (by omega),show (2:Int)^1=2 from rfl,Zlt _ (by omega),Int.ediv_ediv_of_nonneg (Int.le_of_lt (Zbx _)),←Int.pow_add,Nat.div_add_mod]
theorem top_bit {m:Int} (hm:isN m):(shrOf .u64 ((nw m).getD 3 0) 63==1)=decide (57896044618658097711785492504343953926634992332820282019728792003956564819968≤m):=by
 unfold isN at hm
 rw [ZfT hm (by omega),show (63:Int)=((63:Nat):Int) from rfl,shr64 _ (k:=63) (by omega),show (2:Int)^(64*3)=6277101735386680763835789423207666416102355444464034512896 from rfl,show (2:Int)^63=9223372036854775808 from rfl,Bool.eq_iff_iff]
 simp only [beq_iff_eq,decide_eq_true_eq]
 omega
theorem set_bit {m:Int} (hm:isN m) {j:Nat} (hj:j<256) (h:m%2^(j+1)=0) :
  (nw m).set (j/64) (bitsOf .or .u64 ((nw m).getD (j/64) 0) (shlOf .u64 1 ((j%64:Nat):Int)))=nw (m+2^j)∧isN (m+2^j):=by
 have p:=Zbx (j%64)
 have p2:(2:Int)^(j%64+1)=2*2^(j%64):=by rw [Int.pow_succ];omega
 have le:(2:Int)^(j%64+1)≤18446744073709551616:=ZdI (b:=64) (by omega)
 have sh:shlOf .u64 1 ((j%64:Nat):Int)=2^(j%64):=by rw [shl64 _ (by omega)];omega
 have e:(2:Int)^(j+1)=2^(64*(j/64))*2^(j%64+1):=by rw [←Int.pow_add];congr 1;omega
 have q:=Zbx (64*(j/64))
 have gd:=ZfT hm (j:=j/64) (by omega)
 have md:m/2^(64*(j/64))%2^(j%64+1)=0:=by
  have:=emod_mul' m q (show (0:Int)<2^(j%64+1) by omega)
  rw [←e,h] at this
  have a1:=Int.emod_nonneg m (b:=2^(64*(j/64))) (by omega)
  have a2:=Int.emod_nonneg (m/2^(64*(j/64))) (b:=2^(j%64+1)) (by omega)
  have a3:0≤2^(64*(j/64))*(m/2^(64*(j/64))%2^(j%64+1)):=Int.mul_nonneg (by omega) a2
  rcases (by omega:m/2^(64*(j/64))%2^(j%64+1)=0∨0<m/2^(64*(j/64))%2^(j%64+1)) with k | k
  ·exact k
  ·have:=Int.mul_pos q k;omega
 have ev:(nw m).getD (j/64) 0%2^(j%64+1)=0:=by
  rw [gd,show (18446744073709551616:Int)=2^(j%64+1)*2^(64-(j%64+1)) from (ZdG (by omega)).symm,emod_mul' _ (by omega) (Zbx _),md,Int.zero_add]
  exact Int.mul_emod_right _ _
 have lt:(nw m).getD (j/64) 0+2^(j%64+1)≤18446744073709551616:=by
  have w:0≤(nw m).getD (j/64) 0∧(nw m).getD (j/64) 0<18446744073709551616:=by rw [gd];omega
  generalize (nw m).getD (j/64) 0=x at *
  have s:=ZdG (k:=j%64+1) (by omega)
  have e1:=Int.ediv_mul_add_emod x (2^(j%64+1))
  rw [ev,Int.add_zero] at e1
  have:x/2^(j%64+1)<2^(64-(j%64+1)):=Int.ediv_lt_of_lt_mul (by omega) (by rw [Int.mul_comm,s];exact w.2)
  have:=Int.mul_le_mul_of_nonneg_right (show x/2^(j%64+1)+1≤2^(64-(j%64+1)) by omega) (show (0:Int)≤2^(j%64+1) by omega)
  rw [Int.mul_comm (2^(64-(j%64+1))),s,Int.add_mul,Int.one_mul] at this
  omega
 have nn:0≤(nw m).getD (j/64) 0:=by rw [gd];omega
 have st:=ZjF hm (j:=j/64) (X:=2^(j%64)) (by omega) (by omega) (by omega)
 rw [sh,ZeR (k:=j%64+1) (by omega) nn lt ev (by omega) (by omega)]
 have e3:(2:Int)^(j%64)*2^(64*(j/64))=2^j:=by rw [←Int.pow_add];congr 1;omega
 rw [e3] at st
 exact st
theorem Zif (hN:300≤N) {a b:Int} (ha:isN a) (hb:isN b) (hb0:0<b):Zba N (nw a) (nw b)=some (nw (a/b),nw (a%b)):=by
 have bl:blen a≤256:=Zfs ha.2
 unfold Zba
 rw [Zdb hb,Zab,if_neg (by simp<;>omega),Zge (by omega) ha,Zab,ZaD (by omega) (by omega)]
 have a0:a/2^blen a=0:=Int.ediv_eq_zero_of_lt ha.1 (Zib ha.1)
 refine Zcs (fun m (x:Int×List Int×List Int)=>m≤256∧x=((m:Int)-1,nw (a/2^m/b*2^m),nw (a/2^m%b))∧isN (a/2^m/b*2^m)) ?_ N (blen a) _ ⟨bl,?_,?_⟩ (by omega)
 ·rintro G m _ ⟨hm,rfl,hq⟩ hG
  unfold Zba.p1
  dsimp only
  by_cases h0:m=0
  ·subst h0
   rw [if_neg (by simp)]
   simp
  ·obtain ⟨j,rfl⟩ : ∃i,m=i+1:=⟨m-1,by omega⟩
   have hj:j<256:=by omega
   have e1:w64 (Int.tdiv (j:Int) 64)=((j/64:Nat):Int):=by rw [ZdN (by omega),ZaD (by omega) (by omega)];omega
   have e2:Int.tmod (j:Int) 64=((j%64:Nat):Int):=by rw [Zey (by omega)];omega
   have hf:=half a j
   have bt:0≤a/2^j%2∧a/2^j%2<2:=by omega
   have r0:=Int.emod_nonneg (a/2^(j+1)) (b:=b) (by omega)
   have r1:=Int.emod_lt_of_pos (a/2^(j+1)) hb0
   have de:=Int.ediv_mul_add_emod (a/2^(j+1)) b
   have rN:isN (a/2^(j+1)%b):=by unfold isN at *;omega
   have sb:=set_bit hq hj (Int.mul_emod_left _ _)
   have pj:=Zbx j
   have qe:a/2^(j+1)/b*2^(j+1)=(2*(a/2^(j+1)/b))*2^j:=by rw [Int.pow_succ,Int.mul_comm (2^j) 2,←Int.mul_assoc,Int.mul_comm _ 2]
   have top:=top_bit rN
   have bit:=bit_of ha hj
   generalize hB:a/2^j%2=B at *
   generalize hR:a/2^(j+1)%b=R at *
   generalize hQ:a/2^(j+1)/b=Q at *
   have x14:isN (R*2^1%115792089237316195423570985008687907853269984665640564039457584007913129639936):=by unfold isN;omega
   have low:(nw (R*2^1%115792089237316195423570985008687907853269984665640564039457584007913129639936)).getD 0 0=R*2%18446744073709551616:=by
    rw [nw_low,show (2:Int)^1=2 from rfl];omega
   have orb:bitsOf .or .u64 (R*2%18446744073709551616) B=R*2%18446744073709551616+B:=ZeR (k:=1) (by omega) (by omega) (by rw [show (2:Int)^1=2 from rfl];omega) (by rw [show (2:Int)^1=2 from rfl];omega) bt.1 (by rw [show (2:Int)^1=2 from rfl];omega)
   have st:=ZjF x14 (j:=0) (X:=B) (by omega) bt.1 (by rw [low];omega)
   rw [low,show (2:Int)^(64*0)=1 from rfl,Int.mul_one,show (2:Int)^1=2 from rfl] at st
   have done : ∀(Q' R':Int),2*(Q*b+R)+B=Q'*b+R'→0≤R'→R'<b→∀o:List Int,o=nw (Q'*2^j)→isN (Q'*2^j)→Zba.p2 N G (j:Int) (nw a) (nw b) o (nw R')=some (nw (a/b),nw (a%b)):=fun Q' R' hE h1 h2 o ho hi=>by
    have dd:=(Int.ediv_emod_unique hb0 (a:=a/2^j) (q:=Q') (r:=R')).2 ⟨by rw [Int.mul_comm b,hf,←de];omega,h1,h2⟩
    unfold Zba.p2
    rw [ZaD (by omega) (by omega),ho]
    exact hG j _ (by omega) ⟨by omega,by rw [dd.1,dd.2],by rw [dd.1];exact hi⟩
   have Q1:isN ((2*Q+1)*2^j):=by rw [Int.add_mul,Int.one_mul,←qe];exact sb.2
   have O1:(nw (Q*2^(j+1))).set (j/64) (bitsOf .or .u64 ((nw (Q*2^(j+1))).getD (j/64) 0) (shlOf .u64 1 ((j%64:Nat):Int)))=nw ((2*Q+1)*2^j):=by
    rw [sb.1,qe,Int.add_mul (2*Q),Int.one_mul]
   rw [if_pos (by simp<;>omega),show ((j+1:Nat):Int)-1=(j:Int) by omega,show (1:Int)=((1:Nat):Int) from rfl,Zfk (by omega) rN 1 (by omega),Zab,e1,e2,Zam (by omega),Zam (by omega),Zam (by omega),Int.toNat_natCast,show ((1:Nat):Int)=1 from rfl,top,bit,low,orb,show (2:Int)^1=2 from rfl,st.1,O1]
   by_cases ht:(57896044618658097711785492504343953926634992332820282019728792003956564819968:Int)≤R
   ·rw [if_pos (by simpa using ht),Zgc (by omega) st.2 hb,Zab]
    dsimp only
    have:(R*2%115792089237316195423570985008687907853269984665640564039457584007913129639936+B-b)%115792089237316195423570985008687907853269984665640564039457584007913129639936=2*R+B-b:=by unfold isN at *;omega
    rw [this]
    exact done (2*Q+1) (2*R+B-b) (by rw [Int.add_mul,Int.mul_assoc];omega) (by unfold isN at *;omega) (by omega) _ rfl Q1
   ·rw [if_neg (by simpa using ht),ZdH (by omega) st.2 hb,Zab]
    have v:R*2%115792089237316195423570985008687907853269984665640564039457584007913129639936+B=2*R+B:=by unfold isN at *;omega
    rw [v]
    by_cases hl:2*R+B<b
    ·rw [if_neg (by simpa using hl)]
     exact done (2*Q) (2*R+B) (by rw [Int.mul_assoc];omega) (by omega) hl _ (by rw [qe]) (by rw [←qe];exact hq)
    ·rw [if_pos (by simpa using hl),Zgc (by omega) (by rw [←v];exact st.2) hb,Zab]
     dsimp only
     have:(2*R+B-b)%115792089237316195423570985008687907853269984665640564039457584007913129639936=2*R+B-b:=by unfold isN at *;omega
     rw [this]
     exact done (2*Q+1) (2*R+B-b) (by rw [Int.add_mul,Int.mul_assoc];omega) (by omega) (by omega) _ rfl Q1
 ·rw [a0];simp [ZcW]
 ·rw [a0];simp;unfold isN;omega
theorem Zfu (hN:10≤N):ZcG N=some (nw 115792089237316195423570985008687907853269984665640564039457584007913129639935):=by
 unfold ZcG
 rw [ZcW,Zgd hN (by unfold isN;omega),Zab,Int.sub_zero]
def wkOf (t:Int):Int:=
 if 115792089237316195423570985008687907853269984665640564039457584007913129639936≤t+1 then 1
 else if 115792089237316195423570985008687907853269984665640564039457584007913129639936≤(115792089237316195423570985008687907853269984665640564039457584007913129639935-t)/(t+1)+1 then 115792089237316195423570985008687907853269984665640564039457584007913129639935
 else (115792089237316195423570985008687907853269984665640564039457584007913129639935-t)/(t+1)+1
theorem wkQ {t:Int} (h:isN t):0≤(115792089237316195423570985008687907853269984665640564039457584007913129639935-t)/(t+1)∧(115792089237316195423570985008687907853269984665640564039457584007913129639935-t)/(t+1)≤115792089237316195423570985008687907853269984665640564039457584007913129639935-t:=by
 unfold isN at h
 exact ⟨Int.ediv_nonneg (by omega) (by omega),Int.ediv_le_self _ (by omega)⟩
theorem Zju {t:Int} (h:isN t):isN (wkOf t):=by
 have:=wkQ h
 unfold wkOf isN at *
 split
 ·omega
 ·split<;>omega
theorem Zkd (hN:300≤N) {t:Int} (h:isN t):Zee N (nw t)=some (nw (wkOf t)):=by
 have q:=wkQ h
 unfold Zee wkOf
 rw [Zef (by unfold isW;omega),Zab,ZdU (by omega) h (by unfold isN;omega),Zab]
 dsimp only
 by_cases h1:(115792089237316195423570985008687907853269984665640564039457584007913129639936:Int)≤t+1
 ·rw [if_pos (by simpa using h1),if_pos h1]
 ·unfold isN at h
  have e:(t+1)%115792089237316195423570985008687907853269984665640564039457584007913129639936=t+1:=by omega
  rw [if_neg (by simpa using h1),if_neg h1,Zgd (by omega) h,Zab,e,Zif hN (by unfold isN;omega) (by unfold isN;omega) (by omega),Zab]
  dsimp only
  rw [ZdU (by omega) (by unfold isN;omega) (by unfold isN;omega),Zab]
  dsimp only
  by_cases h2:(115792089237316195423570985008687907853269984665640564039457584007913129639936:Int)≤(115792089237316195423570985008687907853269984665640564039457584007913129639935-t)/(t+1)+1
  ·rw [if_pos (by simpa using h2),if_pos h2,Zfu (by omega),Zab]
  ·rw [if_neg (by simpa using h2),if_neg h2,Int.emod_eq_of_lt (by omega) (by omega)]
def wkBits (b:Int):Int:=if (cDec b).2.1||(cDec b).2.2||decide ((cDec b).1=0) then 0 else wkOf (cDec b).1
theorem Zeb (b:Int):isN (wkBits b):=by
 unfold wkBits
 split
 ·unfold isN;omega
 ·exact Zju (ZdF b)
theorem Zhc (hN:300≤N) (b:Int):ZcD N b=some (nw (wkBits b)):=by
 unfold ZcD wkBits
 rw [ZdT (by omega),Zab]
 dsimp only
 rw [Zdb (ZdF b),Zab,Zkd hN (ZdF b),Zab,ZcW]
 cases (cDec b).2.1<;>cases (cDec b).2.2<;>cases (decide ((cDec b).1=0))<;>rfl
def wkAdd (a b:Int):Int:=if 115792089237316195423570985008687907853269984665640564039457584007913129639936≤a+b then 115792089237316195423570985008687907853269984665640564039457584007913129639935 else a+b
theorem ZgA {a b:Int} (ha:isN a) (hb:isN b):isN (wkAdd a b):=by
 unfold wkAdd isN at *;split<;>omega
theorem ZiV (hN:10≤N) {a b:Int} (ha:isN a) (hb:isN b):ZdC N [[L.arr .u64 4 (nw a)],[L.arr .u64 4 (nw b)]]=some (nw (wkAdd a b)):=by
 obtain ⟨N,rfl⟩ : ∃q,N=q+3:=⟨N-3,by omega⟩
 have s:ZbI (N+3) [[L.arr .u64 4 (nw a)],[L.arr .u64 4 (nw b)]]=some (nw ((a+b)%115792089237316195423570985008687907853269984665640564039457584007913129639936),decide (115792089237316195423570985008687907853269984665640564039457584007913129639936≤a+b)):=by
  unfold ZbI
  have z:isN 0:=by unfold isN;omega
  have t0 : ∀G:Bool×Int×List Int→Option (List Int×Bool),ZbI.p1 (N+3) [[L.arr .u64 4 (nw a)],[L.arr .u64 4 (nw b)]] G (false,0,nw 0)=G (false,1,nw a):=fun G=>by
   unfold isN at ha
   unfold ZbI.p1
   dsimp only
   rw [if_pos (by simp [len]),Zam (by omega),show ([[L.arr .u64 4 (nw a)],[L.arr .u64 4 (nw b)]]:LL)[Int.toNat 0]? = some [L.arr .u64 4 (nw a)] from rfl,Zaz]
   show optE (Zbm (N+3) (nw 0) (nw a)) _=_
   rw [ZdU (by omega) z ha,Zab,ZaD (by omega) (by omega),show (0+a)%115792089237316195423570985008687907853269984665640564039457584007913129639936=a by omega,show decide ((115792089237316195423570985008687907853269984665640564039457584007913129639936:Int)≤0+a)=false by simp;omega]
   rfl
  have t1 : ∀G:Bool×Int×List Int→Option (List Int×Bool),ZbI.p1 (N+3) [[L.arr .u64 4 (nw a)],[L.arr .u64 4 (nw b)]] G (false,1,nw a)=G (decide (115792089237316195423570985008687907853269984665640564039457584007913129639936≤a+b),2,nw ((a+b)%115792089237316195423570985008687907853269984665640564039457584007913129639936)):=fun G=>by
   unfold ZbI.p1
   dsimp only
   rw [if_pos (by simp [len]),Zam (by omega),show ([[L.arr .u64 4 (nw a)],[L.arr .u64 4 (nw b)]]:LL)[Int.toNat 1]? = some [L.arr .u64 4 (nw b)] from rfl,Zaz]
   show optE (Zbm (N+3) (nw a) (nw b)) _=_
   rw [ZdU (by omega) ha hb,Zab,ZaD (by omega) (by omega)]
   rfl
  have t2 : ∀(G:Bool×Int×List Int→Option (List Int×Bool)) (o:Bool) (l:List Int),ZbI.p1 (N+3) [[L.arr .u64 4 (nw a)],[L.arr .u64 4 (nw b)]] G (o,2,l)=some (l,o):=fun G o l=>by
   unfold ZbI.p1
   dsimp only
   rw [if_neg (by simp [len])]
  rw [ZcW,Zao,t0,Zao,t1,Zao,t2]
 unfold ZdC wkAdd
 rw [s,Zab]
 dsimp only
 by_cases h:(115792089237316195423570985008687907853269984665640564039457584007913129639936:Int)≤a+b
 ·rw [if_pos (by simpa using h),if_pos h,Zfu (by omega),Zab]
 ·unfold isN at *
  rw [if_neg (by simpa using h),if_neg h,Int.emod_eq_of_lt (by omega) (by omega)]
theorem Zhq {m:Int} (hm:isN m) {j:Nat} (hj:j<256) (h:m<2^j):ZcJ N (nw m) (j:Int)=some (nw (m+2^j))∧isN (m+2^j):=by
 have e1:w64 (Int.tdiv (j:Int) 64)=((j/64:Nat):Int):=by rw [ZdN (by omega),ZaD (by omega) (by omega)];omega
 have e2:v64 (Int.tmod (j:Int) 64)=((j%64:Nat):Int):=by rw [Zey (by omega),Zch (by omega) (by omega)];omega
 have p:=Zbx (j%64)
 have p2:(2:Int)^(j%64+1)=2*2^(j%64):=by rw [Int.pow_succ];omega
 have le:(2:Int)^(j%64+1)≤18446744073709551616:=ZdI (b:=64) (by omega)
 have sh:shlOf .u64 1 ((j%64:Nat):Int)=2^(j%64):=by rw [shl64 _ (by omega)];omega
 have gd:=ZfT hm (j:=j/64) (by omega)
 have e:(2:Int)^j=2^(64*(j/64))*2^(j%64):=by rw [←Int.pow_add];congr 1;omega
 have sm:m/2^(64*(j/64))<2^(j%64):=Int.ediv_lt_of_lt_mul (Zbx _) (by rw [Int.mul_comm,←e];exact h)
 have sm0:0≤m/2^(64*(j/64)):=Int.ediv_nonneg hm.1 (Int.le_of_lt (Zbx _))
 rw [Int.emod_eq_of_lt sm0 (by omega)] at gd
 have or1:bitsOf .or .u64 ((nw m).getD (j/64) 0) (2^(j%64))=(nw m).getD (j/64) 0+2^(j%64):=by
  rw [gd,ZgK (by unfold isW;omega) (by unfold isW;omega),ZeR (k:=j%64) (by omega) (by omega) (by omega) (Int.emod_self) sm0 sm];omega
 have st:=ZjF hm (j:=j/64) (X:=2^(j%64)) (by omega) (by omega) (by rw [gd];omega)
 have e3:(2:Int)^(j%64)*2^(64*(j/64))=2^j:=by rw [e,Int.mul_comm]
 rw [e3] at st
 unfold ZcJ
 rw [e1,e2,Zam (by omega),Zam (by omega),Zam (by omega),Int.toNat_natCast,sh,or1,st.1]
 exact ⟨rfl,st.2⟩
theorem ZhP (a:Int) (i:Nat):a%2^(i+1)=a%2^i+2^i*(a/2^i%2):=by
 rw [Int.pow_succ];exact emod_mul' a (Zbx i) (by omega)
theorem Zec (hN:300≤N) {a b:Int} (ha:isN a) (hb:isN b) :
  ZaH N (nw a) (nw b)=some (nw ((a+b)%115792089237316195423570985008687907853269984665640564039457584007913129639936),decide (115792089237316195423570985008687907853269984665640564039457584007913129639936≤a+b)):=by
 unfold ZaH
 refine Zcs (fun m (x:Int×Int×List Int)=>∃(i:Nat) (c o:Int),i+m=256∧x=(c,(i:Int),nw o)∧0≤c∧c≤1∧0≤o∧o<2^i∧o+c*2^i=a%2^i+b%2^i) ?_ N 256 _ ⟨0,0,0,by omega,by rw [ZcW];rfl,by omega,by omega,by omega,by decide,by simp [Int.emod_one]⟩ (by omega)
 rintro G m _ ⟨i,c,o,hi,rfl,c0,c1,o0,o1,he⟩ hG
 unfold ZaH.p1 ZaH.p2
 dsimp only
 by_cases hlt:i<256
 ·have p:=Zbx i
  have oN:isN o:=⟨o0,Int.lt_of_lt_of_le o1 (ZdI (b:=256) (by omega))⟩
  have ma:=ZhP a i
  have mb:=ZhP b i
  have x:0≤a/2^i%2∧a/2^i%2<2:=by omega
  have y:0≤b/2^i%2∧b/2^i%2<2:=by omega
  rw [if_pos (by simp<;>omega),Zer ha hlt,Zab,Zer hb hlt,Zab]
  generalize a/2^i%2=X at *
  generalize b/2^i%2=Y at *
  rw [ZaD (n:=X+Y) (by omega) (by omega),ZaD (n:=X+Y+c) (by omega) (by omega),Zey (by omega),ZdN (by omega),ZaD (n:=(X+Y+c)/2) (by omega) (by omega),ZaD (by omega) (by omega)]
  have ps:(2:Int)^(i+1)=2*2^i:=by rw [Int.pow_succ];omega
  generalize hP:(2:Int)^i=P at *
  have key : ∀k:Int,X+Y+c=k→P*X+P*Y+c*P=k*P:=fun k hk=>by rw [←hk,Int.add_mul,Int.add_mul,Int.mul_comm P X,Int.mul_comm P Y]
  by_cases hs:(X+Y+c)%2=1
  ·have st:=Zhq (N:=N) oN hlt (by rw [hP];exact o1)
   rw [hP] at st
   rw [if_pos (by simpa using hs),st.1,Zab]
   refine hG (m-1) _ (by omega) ⟨i+1,(X+Y+c)/2,o+P,by omega,rfl,by omega,by omega,by omega,by omega,?_⟩
   have k:=key ((X+Y+c)/2*2+1) (by omega)
   rw [Int.add_mul,Int.one_mul,Int.mul_assoc] at k
   rw [ma,mb,ps];omega
  ·rw [if_neg (by simpa using hs)]
   refine hG (m-1) _ (by omega) ⟨i+1,(X+Y+c)/2,o,by omega,rfl,by omega,by omega,by omega,by omega,?_⟩
   have k:=key ((X+Y+c)/2*2) (by omega)
   rw [Int.mul_assoc] at k
   rw [ma,mb,ps];omega
 ·have:i=256:=by omega
  subst this
  unfold isN at ha hb
  rw [if_neg (by simp)]
  rw [show (2:Int)^256=115792089237316195423570985008687907853269984665640564039457584007913129639936 from rfl] at *
  have e1:(a+b)%115792089237316195423570985008687907853269984665640564039457584007913129639936=o:=by omega
  rw [e1]
  congr 2
  rw [Bool.eq_iff_iff];simp only [beq_iff_eq,decide_eq_true_eq];omega
theorem Zhs (hN:300≤N) {a:Int} (ha:isN a):ZaT N (nw a)=some (nw (115792089237316195423570985008687907853269984665640564039457584007913129639935-a)):=by
 unfold ZaT
 refine Zcs (fun m (x:Int×List Int)=>∃(i:Nat) (o:Int),i+m=256∧x=((i:Int),nw o)∧0≤o∧o<2^i∧o+a%2^i=2^i-1) ?_ N 256 _ ⟨0,0,by omega,by rw [ZcW];rfl,by omega,by decide,by simp [Int.emod_one]⟩ (by omega)
 rintro G m _ ⟨i,o,hi,rfl,o0,o1,he⟩ hG
 unfold ZaT.p1 ZaT.p2
 dsimp only
 by_cases hlt:i<256
 ·have p:=Zbx i
  have oN:isN o:=⟨o0,Int.lt_of_lt_of_le o1 (ZdI (b:=256) (by omega))⟩
  have ma:=ZhP a i
  have x:0≤a/2^i%2∧a/2^i%2<2:=by omega
  have ps:(2:Int)^(i+1)=2*2^i:=by rw [Int.pow_succ];omega
  rw [if_pos (by simp<;>omega),Zer ha hlt,Zab,ZaD (by omega) (by omega)]
  by_cases hs:a/2^i%2=0
  ·have st:=Zhq (N:=N) oN hlt o1
   rw [if_pos (by simpa using hs),st.1,Zab]
   rw [hs] at ma
   exact hG (m-1) _ (by omega) ⟨i+1,o+2^i,by omega,rfl,by omega,by omega,by rw [ma,ps];omega⟩
  ·have h1:a/2^i%2=1:=by omega
   rw [h1] at ma
   rw [if_neg (by simpa using hs)]
   exact hG (m-1) _ (by omega) ⟨i+1,o,by omega,rfl,by omega,by omega,by rw [ma,ps];omega⟩
 ·have:i=256:=by omega
  subst this
  unfold isN at ha
  rw [if_neg (by simp)]
  rw [show (2:Int)^256=115792089237316195423570985008687907853269984665640564039457584007913129639936 from rfl] at *
  congr 2;omega
theorem ZjG : [1,0,0,0]=nw 1:=ZkS (by unfold isW;omega)
theorem Zhr (hN:300≤N) {a b:Int} (ha:isN a) (hb:isN b):ZcK N (nw a) (nw b)=some (nw ((a-b)%115792089237316195423570985008687907853269984665640564039457584007913129639936),decide (a<b)):=by
 unfold ZcK
 rw [Zhs hN hb,Zab,Zec hN ha (by unfold isN at *;omega),Zab]
 dsimp only
 rw [ZjG,Zec hN (by unfold isN;omega) (by unfold isN;omega),Zab]
 dsimp only
 rw [ZeA hN ha hb,Zab]
 have:((a+(115792089237316195423570985008687907853269984665640564039457584007913129639935-b))%115792089237316195423570985008687907853269984665640564039457584007913129639936+1)%115792089237316195423570985008687907853269984665640564039457584007913129639936=(a-b)%115792089237316195423570985008687907853269984665640564039457584007913129639936:=by omega
 rw [this]
theorem Zfo (hN:300≤N):ZbZ N=some (nw 115792089237316195423570985008687907853269984665640564039457584007913129639935):=by
 unfold ZbZ
 rw [ZcW,Zhs hN (by unfold isN;omega),Zab,Int.sub_zero]
theorem Zit (hN:300≤N) {a b:Int} (ha:isN a) (hb:isN b):ZcZ N (nw a) (nw b)=some (nw (wkAdd a b)):=by
 unfold ZcZ wkAdd
 rw [Zec hN ha hb,Zab]
 dsimp only
 by_cases h:(115792089237316195423570985008687907853269984665640564039457584007913129639936:Int)≤a+b
 ·rw [if_pos (by simpa using h),if_pos h,Zfo hN,Zab]
 ·unfold isN at *
  rw [if_neg (by simpa using h),if_neg h,Int.emod_eq_of_lt (by omega) (by omega)]
theorem Zgz {t:Int} (ht:isN t) (h0:t≠0) (h1:t+1<115792089237316195423570985008687907853269984665640564039457584007913129639936) {Q R:Int} (he:Q*(t+1)+R=115792089237316195423570985008687907853269984665640564039457584007913129639936) (hR:0≤R) (hR1:R<t+1):wkOf t=Q:=by
 have q:=wkQ ht
 unfold isN at ht
 have dd:=(Int.ediv_emod_unique (a:=115792089237316195423570985008687907853269984665640564039457584007913129639935-t) (b:=t+1) (q:=Q-1) (r:=R) (by omega)).2 ⟨by rw [Int.mul_sub,Int.mul_comm (t+1) Q];omega,hR,hR1⟩
 have le:(115792089237316195423570985008687907853269984665640564039457584007913129639935-t)/(t+1)+1<115792089237316195423570985008687907853269984665640564039457584007913129639936:=by omega
 unfold wkOf
 rw [if_neg (by omega),if_neg (by omega),dd.1];omega
theorem Zjg (hN:300≤N) {t:Int} (ht:isN t):ZaQ N (nw t)=some (nw (wkOf t)):=by
 unfold ZaQ
 have ht':=ht
 unfold isN at ht'
 have oneN:isN 1:=by unfold isN;omega
 rw [ZjG,Zec hN ht oneN,Zab]
 dsimp only
 by_cases h1:(115792089237316195423570985008687907853269984665640564039457584007913129639936:Int)≤t+1
 ·rw [if_pos (by simpa using h1)]
  unfold wkOf;rw [if_pos h1]
 rw [if_neg (by simpa using h1),show (t+1)%115792089237316195423570985008687907853269984665640564039457584007913129639936=t+1 by omega]
 have z:(nw t==List.replicate 4 0)=decide (t=0):=Option.some.inj (Zdb (N:=0) ht)
 rw [z,Zfo hN,Zab]
 by_cases h0:t=0
 ·rw [if_pos (by simpa using h0)]
  subst h0
  rfl
 rw [if_neg (by simpa using h0),Zab]
 have dN:isN (t+1):=by unfold isN;omega
 refine Zcs (fun m (x:Int×List Int×List Int)=>m≤256∧∃Q R:Int,x=((m:Int)-1,nw (Q*2^m),nw (R-1))∧0≤Q∧0<R∧R≤115792089237316195423570985008687907853269984665640564039457584007913129639936∧R≤(t+1)*2^m∧Q*2^m*(t+1)+R=115792089237316195423570985008687907853269984665640564039457584007913129639936) ?_ N 256 _ ⟨by omega,0,115792089237316195423570985008687907853269984665640564039457584007913129639936,by rw [ZcW];rfl,by omega,by omega,by omega,by rw [show (2:Int)^256=115792089237316195423570985008687907853269984665640564039457584007913129639936 from rfl];omega,by omega⟩ (by omega)
 rintro G m _ ⟨hm,Q,R,rfl,hQ,hR,hR2,hR3,he⟩ hG
 have qN:isN (Q*2^m):=by
  have p:=Zbx m
  have a:0≤Q*2^m:=Int.mul_nonneg hQ (by omega)
  have:=Int.mul_le_mul_of_nonneg_left (show (1:Int)≤t+1 by omega) a
  rw [Int.mul_one] at this
  unfold isN;omega
 have rN:isN (R-1):=by unfold isN;omega
 unfold ZaQ.p1 ZaQ.p2 ZaQ.p3
 dsimp only
 by_cases hz:m=0
 ·subst hz
  rw [show (2:Int)^0=1 from rfl,Int.mul_one] at *
  rw [if_neg (by simp),ZeA hN rN ht,Zab]
  by_cases hl:R-1<t
  ·rw [if_neg (by simpa using hl),Zgz ht h0 (by omega) he (by omega) (by omega)]
  ·have:R=t+1:=by omega
   have e2:(Q+1)*(t+1)+0=115792089237316195423570985008687907853269984665640564039457584007913129639936:=by rw [Int.add_mul];omega
   have w:=Zgz ht h0 (by omega) e2 (by omega) (by omega)
   have wN:=Zju ht
   rw [w] at wN
   unfold isN at wN
   rw [if_pos (by simpa using hl),ZjG,Zec hN qN oneN,Zab]
   dsimp only
   rw [Int.emod_eq_of_lt (by omega) (by omega),w]
 ·obtain ⟨j,rfl⟩ : ∃i,m=i+1:=⟨m-1,by omega⟩
  have hj:j<256:=by omega
  have p:=Zbx j
  have ps:(2:Int)^(j+1)=2*2^j:=by rw [Int.pow_succ];omega
  have qs:Q*2^(j+1)=2*Q*2^j:=by rw [ps,←Int.mul_assoc,Int.mul_comm Q 2]
  have ds:(t+1)*2^(j+1)=2*((t+1)*2^j):=by rw [ps,Int.mul_left_comm]
  have D0:0<(t+1)*2^j:=Int.mul_pos (by omega) p
  rw [if_pos (by simp<;>omega),show ((j+1:Nat):Int)-1=(j:Int) by omega,Zjo (by omega) dN,Zab,show w64 (0-(j:Int)) = -(j:Int) by rw [ZaD (by omega) (by omega)];omega]
  rw [ZaD (n:=(j:Int)-1) (by omega) (by omega)]
  have xN:isN ((t+1)*2^j%115792089237316195423570985008687907853269984665640564039457584007913129639936):=by unfold isN;omega
  rw [ZiB (by omega) xN,Zab]
  by_cases hov:(115792089237316195423570985008687907853269984665640564039457584007913129639936:Int)≤(t+1)*2^j
  ·have ne : ¬ (t+1)*2^j%115792089237316195423570985008687907853269984665640564039457584007913129639936/2^j=t+1:=by
    intro k
    have a1:(t+1)*2^j%115792089237316195423570985008687907853269984665640564039457584007913129639936<(t+1)*2^j:=by omega
    have a2:(t+1)*2^j%115792089237316195423570985008687907853269984665640564039457584007913129639936/2^j<t+1:=Int.ediv_lt_of_lt_mul p a1
    omega
   have nN:isN ((t+1)*2^j%115792089237316195423570985008687907853269984665640564039457584007913129639936/2^j):=by
    have a2:(t+1)*2^j%115792089237316195423570985008687907853269984665640564039457584007913129639936/2^j≤(t+1)*2^j%115792089237316195423570985008687907853269984665640564039457584007913129639936:=Int.ediv_le_self _ (by omega)
    have a3:0≤(t+1)*2^j%115792089237316195423570985008687907853269984665640564039457584007913129639936/2^j:=Int.ediv_nonneg (by omega) (by omega)
    unfold isN;omega
   rw [if_pos (by simp only [Bool.not_eq_true',beq_eq_false_iff_ne,ne_eq];exact fun k=>ne (ZkT nN dN k))]
   exact hG j _ (by omega) ⟨by omega,2*Q,R,by rw [qs],by omega,hR,hR2,by omega,by rw [←qs];exact he⟩
  ·have em:(t+1)*2^j%115792089237316195423570985008687907853269984665640564039457584007913129639936=(t+1)*2^j:=by omega
   rw [em,Int.mul_ediv_cancel _ (by omega)]
   have DN:isN ((t+1)*2^j):=by unfold isN;omega
   rw [if_neg (by simp),ZjG,Zhr hN DN oneN,Zab]
   dsimp only
   rw [show ((t+1)*2^j-1)%115792089237316195423570985008687907853269984665640564039457584007913129639936=(t+1)*2^j-1 by omega,ZeA hN rN (by unfold isN;omega),Zab]
   by_cases hl:R-1<(t+1)*2^j-1
   ·rw [if_neg (by simpa using hl)]
    exact hG j _ (by omega) ⟨by omega,2*Q,R,by rw [qs],by omega,hR,hR2,by omega,by rw [←qs];exact he⟩
   ·rw [if_pos (by simpa using hl),Zhr hN rN DN,Zab]
    dsimp only
    rw [Zjo (by omega) oneN,Zab,Int.one_mul]
    have pj:(2:Int)^j<115792089237316195423570985008687907853269984665640564039457584007913129639936:=Int.lt_of_lt_of_le (show (2:Int)^j<2^(j+1) by omega) (ZdI (b:=256) (by omega))
    have qo:Q*2^(j+1)+2^j=(2*Q+1)*2^j:=by rw [qs,Int.add_mul,Int.one_mul]
    have he2:(2*Q+1)*2^j*(t+1)+(R-(t+1)*2^j)=115792089237316195423570985008687907853269984665640564039457584007913129639936:=by
     rw [←qo,Int.add_mul,Int.mul_comm (2^j) (t+1)];omega
    have oN:(2*Q+1)*2^j<115792089237316195423570985008687907853269984665640564039457584007913129639936:=by
     have a:0≤(2*Q+1)*2^j:=Int.mul_nonneg (by omega) (by omega)
     have:=Int.mul_le_mul_of_nonneg_left (show (2:Int)≤t+1 by omega) a
     omega
    have o0:0≤(2*Q+1)*2^j:=Int.mul_nonneg (by omega) (by omega)
    rw [Int.emod_eq_of_lt (a:=(2:Int)^j) (by omega) pj,Zec hN qN (by unfold isN;omega),Zab]
    dsimp only
    rw [qo,Int.emod_eq_of_lt o0 oN,Zfo hN,Zab]
    by_cases hx:R=(t+1)*2^j
    ·have e:(R-1-(t+1)*2^j)%115792089237316195423570985008687907853269984665640564039457584007913129639936=115792089237316195423570985008687907853269984665640564039457584007913129639935:=by omega
     rw [e,if_pos (by simp),Zgz ht h0 (by omega) (Q:=(2*Q+1)*2^j) (R:=0) (by omega) (by omega) (by omega)]
    ·have e:(R-1-(t+1)*2^j)%115792089237316195423570985008687907853269984665640564039457584007913129639936=R-(t+1)*2^j-1:=by omega
     rw [e,if_neg (by
      intro k
      have:=ZkT (by unfold isN;omega) (by unfold isN;omega) (eq_of_beq k)
      omega)]
     exact hG j _ (by omega) ⟨by omega,2*Q+1,R-(t+1)*2^j,rfl,by omega,by omega,by omega,by omega,he2⟩
theorem ZeQ (hN:300≤N) (b:Int):Zcc N b=some (nw (wkBits b)):=by
 unfold Zcc wkBits
 rw [ZeB hN,Zab]
 dsimp only
 have z:(nw (cDec b).1==List.replicate 4 0)=decide ((cDec b).1=0):=Option.some.inj (Zdb (N:=0) (ZdF b))
 rw [z,Zjg hN (ZdF b),Zab,ZcW]
 cases (cDec b).2.1<;>cases (cDec b).2.2<;>cases (decide ((cDec b).1=0))<;>rfl
end Go.Dn.F
