import Derived.Test.YtlofpeadcmldhaaGreatDoorKc
set_option linter.all false
namespace Go.Dn
abbrev LL:=List (List L)
abbrev LM:=List (L×L)
abbrev w64 (n:Int):Int:=IntKind.wrap .i64 n
abbrev v64 (n:Int):Int:=IntKind.wrap .u64 n
abbrev v32 (n:Int):Int:=IntKind.wrap .u32 n
abbrev v8 (n:Int):Int:=IntKind.wrap .u8 n
abbrev len {α:Type} (l:List α):Int:=(l.length:Int)
def gs (l:List L) (i:Nat):List L:=l.set i .gone
variable [Globs]
theorem aI {p q:Prop} (a:p) (b:q):p∧q:=⟨a,b⟩
section
variable {P:Program} {f:FuncId} {g:G} {w:World} {rs:List CV} {st st':LL}
end
section
variable {p q r s t u v w:Prop}
theorem aJ (a:p) (b:q) (c:r):p∧q∧r:=⟨a,b,c⟩
theorem aK (a:p) (b:q) (c:r) (d:s):p∧q∧r∧s:=⟨a,b,c,d⟩
theorem aL (a:p) (b:q) (c:r) (d:s) (e:t):p∧q∧r∧s∧t:=⟨a,b,c,d,e⟩
theorem aM (a:p) (b:q) (c:r) (d:s) (e:t) (f:u):p∧q∧r∧s∧t∧u:=⟨a,b,c,d,e,f⟩
theorem aN (a:p) (b:q) (c:r) (d:s) (e:t) (f:u) (g:v):p∧q∧r∧s∧t∧u∧v:=⟨a,b,c,d,e,f,g⟩
theorem aO (a:p) (b:q) (c:r) (d:s) (e:t) (f:u) (g:v) (h:w):p∧q∧r∧s∧t∧u∧v∧w:=⟨a,b,c,d,e,f,g,h⟩
end
abbrev sI (n:Int):TV:=.one (.l (L.int .i64 n))
abbrev sP (p:Option Nat):TV:=.one (.l (L.ptr p))
abbrev sV (n:Nat) (l:LL):TV:=.one (.l (L.sl n l))
abbrev sA (n:Nat):TV:=.one (.adr (.site n) 0)
abbrev oI (n:Int):CV:=.one (L.int .i64 n)
abbrev oB (b:Bool):CV:=.one (L.bool b)
def wF:D:={want:=false}
def yF:D:={yes:=false}
abbrev q1 (l:List CV):D:={rs:=l,m:=1}
abbrev q0 (l:List CV):D:={rs:=l,m:=10}
theorem eF:false=false:=rfl
theorem eT:true=true:=rfl
theorem oD {p:Prop} [Decidable p] (h:decide p=true):p:=of_decide_eq_true h
theorem leI (a b:Int) (h:decide (a≤b)=true:=by rfl):a≤b:=of_decide_eq_true h
theorem ltI (a b:Int) (h:decide (a<b)=true:=by rfl):a<b:=of_decide_eq_true h
theorem ix {q:Prop} (a b:Int) (c:q) (h:decide (0≤a)=true:=by rfl) (k:decide (a<b)=true:=by rfl):0≤a∧a<b∧q:=⟨of_decide_eq_true h,of_decide_eq_true k,c⟩
theorem leN (a b:Nat) (h:Nat.ble a b=true:=by rfl):a≤b:=Nat.le_of_ble_eq_true h
theorem neI (a:Int) (h:decide (a≠0)=true:=by rfl):a≠0:=of_decide_eq_true h
theorem eN (a:Nat):a=a:=rfl
theorem eB (a:Bool):a=a:=rfl
theorem z0:(0:Nat)=0:=rfl
theorem eO (a:List L):some a=some a:=rfl
section
variable {st:LL} {ls ks:List L}
theorem bN:BVs st [] []:=.nil
theorem bP {l:L} (r:BVs st ls ks) (h:l.plain=true:=by rfl):BVs st (l::ls) (l::ks):=.pl l ls ks h r
theorem bS {sz:Nat} {xs:LL} (r:BVs st ls ks):BVs st (.sl sz xs::ls) (.sl sz xs::ks):=.sl sz xs ls ks r
theorem bW {e:Bool} {sz:Nat} {xs:LL} (r:BVs st ls ks):BVs st (.own e sz xs::ls) (.sl sz xs::ks):=.own e sz xs ls ks r
theorem bM {es:LM} (r:BVs st ls ks):BVs st (.mp es::ls) (.mz es::ks):=.mp es ls ks r
theorem bC {i:Nat} (n:Nat) {c cs:List L} (h:st[i]? = some c) (hc:BVs st c cs) (r:BVs st ls ks) (hn:sizes cs=n:=by kernel_rfl) (hne:c.isEmpty=false:=by kernel_rfl):BVs st (.ptr (some i)::ls) (.bx n cs::ks):=.obj i n c cs ls ks h hc hn hne r
theorem bO {i:Nat} (n:Nat) {c cs:List L} (h:st[i]? = some c) (hc:BVs st c cs) (hn:sizes cs=n:=by kernel_rfl) (hne:c.isEmpty=false:=by kernel_rfl):BVs st [.ptr (some i)] [.bx n cs]:=.obj i n c cs [] [] h hc hn hne .nil
end
section
variable {P:Program} {g0:G} {w0:World} {R:Exit→Act→World→Prop} {ks ks':List K} {s s':S} {A:Prop}
abbrev XK (P:Program) (R:Exit→Act→World→Prop) (ks:List K):Act→World→Prop:=exK P R ks .normal
theorem aq (hfol:P.follows .mixedOrders=true) (ds:List PS) (live sites:List Nat) (a:A) (hk:At g0 w0 s' (exK P R ks' .normal))
  (h:((ks',s')=(ks',s')∧(A→A))=ZmJ (goQ (ZcX P) 400 ks s ds live sites) ks' s' A:=by kernel_rfl):At g0 w0 s (exK P R ks .normal):=At.q hfol 400 ds live sites a hk h
theorem aqd (hfol:P.follows .mixedOrders=true) (ds:List PS) (live sites:List Nat) (a:A) (hk:At g0 w0 s' (exK P R ks' .normal))
  (h:((ks',s')=(ks',s')∧(A→A))=ZmJ (goQd (ZcX P) 400 ks s ds live sites) ks' s' A:=by kernel_rfl) (hc:Zhs true (goS (ZcX P) 400 ks .n s ds)=Zhs false (goS (ZcX P) 400 ks .n s ds):=by kernel_rfl):At g0 w0 s (exK P R ks .normal):=At.qd hfol 400 ds live sites a hk h hc
theorem an {J:Act→World→Prop} (hfol:P.follows .mixedOrders=true) (ds:List PS) (live sites:List Nat) (a:A) (hk:At g0 w0 s' J)
  (h:((some (K.h J),s')=(some (K.h J),s')∧(A→A))=ZmK (goQ (ZcX P) 400 ks s ds live sites) (.h J) s' A:=by kernel_rfl):At g0 w0 s (exK P R ks .normal):=At.n hfol 400 ds live sites a hk h
theorem ZkT {J:Act→World→Prop} (hfol:P.follows .mixedOrders=true) (ds:List PS) (live sites:List Nat) (a:A) (hk:At g0 w0 s' J)
  (h:((some (K.h J),s')=(some (K.h J),s')∧(A→A))=ZmK (goQd (ZcX P) 400 ks s ds live sites) (.h J) s' A:=by kernel_rfl) (hc:Zhs true (goS (ZcX P) 400 ks .n s ds)=Zhs false (goS (ZcX P) 400 ks .n s ds):=by kernel_rfl):At g0 w0 s (exK P R ks .normal):=At.nd hfol 400 ds live sites a hk h hc
theorem af {fn:Func} {rs:List CV} {st':List (List L)} (hfol:P.follows .mixedOrders=true) (hE:ZjF P fn g0 w0 rs st' R) (ds:List PS) (oc:List L) (md:Nat) (own:List Nat) (a:A)
  (h:((rs,st')=(rs,st')∧(A→A))=Zgk (finQ P fn (ZcX P) 400 ks s ds oc md own) rs st' A:=by kernel_rfl):At g0 w0 s (exK P R ks .normal):=At.f hfol hE 400 ds oc md own a h
theorem afd {fn:Func} {rs:List CV} {st':List (List L)} (hfol:P.follows .mixedOrders=true) (hE:ZjF P fn g0 w0 rs st' R) (ds:List PS) (oc:List L) (md:Nat) (own:List Nat) (a:A)
  (h:((rs,st')=(rs,st')∧(A→A))=Zgk (ZkC P fn (ZcX P) 400 ks s ds oc md own) rs st' A:=by kernel_rfl) (hc:Zhs true (goS (ZcX P) 400 ks .n s ds)=Zhs false (goS (ZcX P) 400 ks .n s ds):=by kernel_rfl):At g0 w0 s (exK P R ks .normal):=At.fd hfol hE 400 ds oc md own a h hc
theorem sO {f:FuncId} {fn:Func} (c:Code) {args:List CV} {st:List (List L)} {rs:List CV} {st':List (List L)} (hf:P.funcs[f]? = some fn)
  (h : ∀(g:G) (w:World) (R:Exit→Act→World→Prop),ZjF P fn g w rs st' R→At g w (S.enter fn.ntmps args st) (exK P R [.c c] .normal))
  (hn : (fn.name == "runtime.NumGoroutine") = false := by kernel_rfl) (hb : fn.body = some c := by kernel_rfl) (hlen : decide (args.length ≤ fn.ntmps) = true := by kernel_rfl) : Snd P f args st rs st' :=
 Snd.of hf hn hb (of_decide_eq_true hlen) h
end
section
variable {α:Type} {r:α} {A:Option α}
def ZcI {κ:Type} (o:Option (List L)) (d:List L→κ→Option α) (k:κ):Option α:=Zbs o fun e=>d e k
@[simp] theorem Zax {κ:Type} (e:List L) (d:List L→κ→Option α) (k:κ):ZcI (some e) d k=d e k:=rfl
theorem ck2 {p0 p1:Prop} [Decidable p0] [Decidable p1] (h:chk p0 (chk p1 A)=some r):p0∧p1∧A=some r:=by
 obtain ⟨a,h⟩:=ZaU h;exact ⟨a,ZaU h⟩
theorem ck3 {p0 p1 p2:Prop} [Decidable p0] [Decidable p1] [Decidable p2] (h:chk p0 (chk p1 (chk p2 A))=some r):p0∧p1∧p2∧A=some r:=by
 obtain ⟨a,h⟩:=ZaU h;exact ⟨a,ck2 h⟩
theorem ck4 {p0 p1 p2 p3:Prop} [Decidable p0] [Decidable p1] [Decidable p2] [Decidable p3] (h:chk p0 (chk p1 (chk p2 (chk p3 A)))=some r):p0∧p1∧p2∧p3∧A=some r:=by
 obtain ⟨a,h⟩:=ZaU h;exact ⟨a,ck3 h⟩
theorem ck5 {p0 p1 p2 p3 p4:Prop} [Decidable p0] [Decidable p1] [Decidable p2] [Decidable p3] [Decidable p4] (h:chk p0 (chk p1 (chk p2 (chk p3 (chk p4 A))))=some r):p0∧p1∧p2∧p3∧p4∧A=some r:=by
 obtain ⟨a,h⟩:=ZaU h;exact ⟨a,ck4 h⟩
theorem ck6 {p0 p1 p2 p3 p4 p5:Prop} [Decidable p0] [Decidable p1] [Decidable p2] [Decidable p3] [Decidable p4] [Decidable p5] (h:chk p0 (chk p1 (chk p2 (chk p3 (chk p4 (chk p5 A)))))=some r):p0∧p1∧p2∧p3∧p4∧p5∧A=some r:=by
 obtain ⟨a,h⟩:=ZaU h;exact ⟨a,ck5 h⟩
theorem ck7 {p0 p1 p2 p3 p4 p5 p6:Prop} [Decidable p0] [Decidable p1] [Decidable p2] [Decidable p3] [Decidable p4] [Decidable p5] [Decidable p6] (h:chk p0 (chk p1 (chk p2 (chk p3 (chk p4 (chk p5 (chk p6 A))))))=some r):p0∧p1∧p2∧p3∧p4∧p5∧p6∧A=some r:=by
 obtain ⟨a,h⟩:=ZaU h;exact ⟨a,ck6 h⟩
theorem ck8 {p0 p1 p2 p3 p4 p5 p6 p7:Prop} [Decidable p0] [Decidable p1] [Decidable p2] [Decidable p3] [Decidable p4] [Decidable p5] [Decidable p6] [Decidable p7] (h:chk p0 (chk p1 (chk p2 (chk p3 (chk p4 (chk p5 (chk p6 (chk p7 A)))))))=some r):p0∧p1∧p2∧p3∧p4∧p5∧p6∧p7∧A=some r:=by
 obtain ⟨a,h⟩:=ZaU h;exact ⟨a,ck7 h⟩
end
theorem xS {P:Program} {g0:G} {w0:World} {R:Exit→Act→World→Prop} {f:Func} {ρ1:Type} {q:ρ1→List CV} {u:List (List L)} {x r:ρ1} {ks:List K} {s:S} (hfol:P.follows .mixedOrders=true) (e:some x=some r) (hE:ZjF P f g0 w0 (q r) u R) (ds:List PS) {A:Prop} (a:A) (h:((q x,u)=(q x,u)∧(A→A))=Zgk (finQ P f (ZcX P) 400 ks s ds [] 0 []) (q x) u A:=by kernel_rfl):At g0 w0 s (exK P R ks .normal):=by cases e;exact af hfol hE ds [] 0 [] a h
theorem xR {P:Program} {g0:G} {w0:World} {R:Exit→Act→World→Prop} {f:Func} {q:(List (List L))→List CV} {x r:(List (List L))} {ks:List K} {s:S} (hfol:P.follows .mixedOrders=true) (e:some x=some r) (hE:ZjF P f g0 w0 (q r) r R) (ds:List PS) {A:Prop} (a:A) (h:((q x,x)=(q x,x)∧(A→A))=Zgk (finQ P f (ZcX P) 400 ks s ds [] 0 []) (q x) x A:=by kernel_rfl):At g0 w0 s (exK P R ks .normal):=by cases e;exact af hfol hE ds [] 0 [] a h
theorem xT {P:Program} {g0:G} {w0:World} {R:Exit→Act→World→Prop} {f:Func} {ρ1:Type} {q:(ρ1×List (List L))→List CV} {x r:(ρ1×List (List L))} {ks:List K} {s:S} (hfol:P.follows .mixedOrders=true) (e:some x=some r) (hE:ZjF P f g0 w0 (q r) r.2 R) (ds:List PS) {A:Prop} (a:A) (h:((q x,x.2)=(q x,x.2)∧(A→A))=Zgk (finQ P f (ZcX P) 400 ks s ds [] 0 []) (q x) x.2 A:=by kernel_rfl):At g0 w0 s (exK P R ks .normal):=by cases e;exact af hfol hE ds [] 0 [] a h
theorem xU {P:Program} {g0:G} {w0:World} {R:Exit→Act→World→Prop} {f:Func} {ρ1 ρ2:Type} {q:(ρ1×ρ2×List (List L))→List CV} {x r:(ρ1×ρ2×List (List L))} {ks:List K} {s:S} (hfol:P.follows .mixedOrders=true) (e:some x=some r) (hE:ZjF P f g0 w0 (q r) r.2.2 R) (ds:List PS) {A:Prop} (a:A) (h:((q x,x.2.2)=(q x,x.2.2)∧(A→A))=Zgk (finQ P f (ZcX P) 400 ks s ds [] 0 []) (q x) x.2.2 A:=by kernel_rfl):At g0 w0 s (exK P R ks .normal):=by cases e;exact af hfol hE ds [] 0 [] a h
theorem xV {P:Program} {g0:G} {w0:World} {R:Exit→Act→World→Prop} {f:Func} {ρ1 ρ2 ρ3:Type} {q:(ρ1×ρ2×ρ3×List (List L))→List CV} {x r:(ρ1×ρ2×ρ3×List (List L))} {ks:List K} {s:S} (hfol:P.follows .mixedOrders=true) (e:some x=some r) (hE:ZjF P f g0 w0 (q r) r.2.2.2 R) (ds:List PS) {A:Prop} (a:A) (h:((q x,x.2.2.2)=(q x,x.2.2.2)∧(A→A))=Zgk (finQ P f (ZcX P) 400 ks s ds [] 0 []) (q x) x.2.2.2 A:=by kernel_rfl):At g0 w0 s (exK P R ks .normal):=by cases e;exact af hfol hE ds [] 0 [] a h
theorem xSd {P:Program} {g0:G} {w0:World} {R:Exit→Act→World→Prop} {f:Func} {ρ1:Type} {q:ρ1→List CV} {u:List (List L)} {x r:ρ1} {ks:List K} {s:S} (hfol:P.follows .mixedOrders=true) (e:some x=some r) (hE:ZjF P f g0 w0 (q r) u R) (ds:List PS) {A:Prop} (a:A) (h:((q x,u)=(q x,u)∧(A→A))=Zgk (ZkC P f (ZcX P) 400 ks s ds [] 0 []) (q x) u A:=by kernel_rfl) (hc:Zhs true (goS (ZcX P) 400 ks .n s ds)=Zhs false (goS (ZcX P) 400 ks .n s ds):=by kernel_rfl):At g0 w0 s (exK P R ks .normal):=by cases e;exact afd hfol hE ds [] 0 [] a h hc
theorem xRd {P:Program} {g0:G} {w0:World} {R:Exit→Act→World→Prop} {f:Func} {q:(List (List L))→List CV} {x r:(List (List L))} {ks:List K} {s:S} (hfol:P.follows .mixedOrders=true) (e:some x=some r) (hE:ZjF P f g0 w0 (q r) r R) (ds:List PS) {A:Prop} (a:A) (h:((q x,x)=(q x,x)∧(A→A))=Zgk (ZkC P f (ZcX P) 400 ks s ds [] 0 []) (q x) x A:=by kernel_rfl) (hc:Zhs true (goS (ZcX P) 400 ks .n s ds)=Zhs false (goS (ZcX P) 400 ks .n s ds):=by kernel_rfl):At g0 w0 s (exK P R ks .normal):=by cases e;exact afd hfol hE ds [] 0 [] a h hc
theorem xTd {P:Program} {g0:G} {w0:World} {R:Exit→Act→World→Prop} {f:Func} {ρ1:Type} {q:(ρ1×List (List L))→List CV} {x r:(ρ1×List (List L))} {ks:List K} {s:S} (hfol:P.follows .mixedOrders=true) (e:some x=some r) (hE:ZjF P f g0 w0 (q r) r.2 R) (ds:List PS) {A:Prop} (a:A) (h:((q x,x.2)=(q x,x.2)∧(A→A))=Zgk (ZkC P f (ZcX P) 400 ks s ds [] 0 []) (q x) x.2 A:=by kernel_rfl) (hc:Zhs true (goS (ZcX P) 400 ks .n s ds)=Zhs false (goS (ZcX P) 400 ks .n s ds):=by kernel_rfl):At g0 w0 s (exK P R ks .normal):=by cases e;exact afd hfol hE ds [] 0 [] a h hc
theorem xUd {P:Program} {g0:G} {w0:World} {R:Exit→Act→World→Prop} {f:Func} {ρ1 ρ2:Type} {q:(ρ1×ρ2×List (List L))→List CV} {x r:(ρ1×ρ2×List (List L))} {ks:List K} {s:S} (hfol:P.follows .mixedOrders=true) (e:some x=some r) (hE:ZjF P f g0 w0 (q r) r.2.2 R) (ds:List PS) {A:Prop} (a:A) (h:((q x,x.2.2)=(q x,x.2.2)∧(A→A))=Zgk (ZkC P f (ZcX P) 400 ks s ds [] 0 []) (q x) x.2.2 A:=by kernel_rfl) (hc:Zhs true (goS (ZcX P) 400 ks .n s ds)=Zhs false (goS (ZcX P) 400 ks .n s ds):=by kernel_rfl):At g0 w0 s (exK P R ks .normal):=by cases e;exact afd hfol hE ds [] 0 [] a h hc
theorem xVd {P:Program} {g0:G} {w0:World} {R:Exit→Act→World→Prop} {f:Func} {ρ1 ρ2 ρ3:Type} {q:(ρ1×ρ2×ρ3×List (List L))→List CV} {x r:(ρ1×ρ2×ρ3×List (List L))} {ks:List K} {s:S} (hfol:P.follows .mixedOrders=true) (e:some x=some r) (hE:ZjF P f g0 w0 (q r) r.2.2.2 R) (ds:List PS) {A:Prop} (a:A) (h:((q x,x.2.2.2)=(q x,x.2.2.2)∧(A→A))=Zgk (ZkC P f (ZcX P) 400 ks s ds [] 0 []) (q x) x.2.2.2 A:=by kernel_rfl) (hc:Zhs true (goS (ZcX P) 400 ks .n s ds)=Zhs false (goS (ZcX P) 400 ks .n s ds):=by kernel_rfl):At g0 w0 s (exK P R ks .normal):=by cases e;exact afd hfol hE ds [] 0 [] a h hc
noncomputable abbrev rZ:PS:=.r []
noncomputable abbrev cT:PS:=.c true
noncomputable abbrev cF:PS:=.c false
noncomputable abbrev cK (b:Code) (l:List Nat):K:=.c (Zcb b l)
end Go.Dn
