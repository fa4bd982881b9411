import Derived.Test.YtbijemnnbdndpaaGreatDoorKc
import Derived.Test.YtbijemnnbdndpaaGreatDoorFm
set_option linter.all false
open Go.Dn.L renaming int→zI
open Go.Proofs.Tryz renaming prog→zF
open List renaming length→zK
open Option.some renaming injEq→zA
namespace Go.Dn
variable [Globs]
section
variable {P:Program} {g g':G} {s s':S} {w w':World}
theorem Zrh.mk {f:FuncId} {fn:Func} {c:Code} {args:List CV} {st:List (List L)} {sz:Nat} {xs:List (List L)} {ls:List L} {rest:List CV} {st':List (List L)} (hf:P.funcs[f]? = some fn)
  (hn : (fn.name == "runtime.NumGoroutine") = false) (hb : fn.body = some c) (hlen : args.length ≤ fn.ntmps)
  (h : ∀(g:G) (w:World) (a:Act) (R:Exit→Act→World→Prop),Sat g (S.enter fn.ntmps args st) w a.tmps→a.defers = [] →
   (∀(g':G) (w':World) (a':Act) (e:E),e = .n∨e = .ret→Mod g g' w w'→a'.defers = [] →
    (∃(v:Value) (va:Array Value) (us:List Value),(results fn a'.tmps).run P w' = .ok (ZiW (.agg va::us)) w'∧Zdr g' (.ofSt st') w'∧Zfk g' w' 0 (v :: .agg va::us) (.row true sz xs :: .agg ls::rest)∧∃k,ZhS ls=some k∧va.toList[k]? = some v) →
    R e.exit a' w')→exK P R [.c c] .normal a w) :
  Zrh P f args st sz xs ls rest st':=by
 refine ⟨⟨fn,hf,hn,by simp [hb]⟩,fun g w vs hv hm=>?_⟩
 refine calls_of_wp hf hb ?_
 have hE:Mod g (g.enter vs) w w:=⟨⟨fun _ _=>rfl,Nat.le_refl _,fun _=>Nat.le_refl _,fun _ _ _=>rfl,fun _ _=>rfl⟩,rfl,rfl,rfl,Nat.le_refl _,fun b _=>.inl ⟨rfl,rfl,rfl⟩,fun b _ h1 h2=>⟨h1,h2⟩,fun i h1 h2=>absurd h2 (by show ¬ i<g.nob;omega)⟩
 have key:=h (g.enter vs) w { tmps:=vs.toArray++Array.replicate (fn.ntmps-vs.toArray.size) undef,defers:=[]}
  (bodyPost P fn fun e w'=>∃(g':G) (v:Value) (va:Array Value) (us:List Value),e = .returned (ZiW (.agg va::us))∧Mod g g' w w'∧Zdr g' (.ofSt st') w'∧Zfk g' w' 0 (v :: .agg va::us) (.row true sz xs :: .agg ls::rest)∧∃k,ZhS ls=some k∧va.toList[k]? = some v)
  (Zna hv hm hlen) rfl ?_
 ·unfold exK at key
  refine wp_mono key fun e a w he=>?_
  cases e<;>(unfold exK at he;exact he)
 ·rintro g' w' a' e he hM hd ⟨v,va,us,h1,h2,h3,h4⟩
  have fin : ∃r,(results fn a'.tmps).run P w' = .ok r w'∧∃(g':G) (v:Value) (va:Array Value) (us:List Value),Ending.returned r = .returned (ZiW (.agg va::us))∧Mod g g' w w'∧Zdr g' (.ofSt st') w'∧Zfk g' w' 0 (v :: .agg va::us) (.row true sz xs :: .agg ls::rest)∧∃k,ZhS ls=some k∧va.toList[k]? = some v:=
   ⟨_,h1,g',v,va,us,rfl,hE.trans hM,h2,h3,h4⟩
  rcases he with rfl | rfl
  ·exact ⟨hd,fin⟩
  ·exact ⟨hd,fin⟩
theorem ZpI : ∀ls:List L,tLs (ls.map .l)=some ls
 | []=>rfl
 | l::ls=>by simp [tLs,ZpI ls]
theorem ZoA : ∀{pre post:List L},(∀l∈pre,l ≠ .gone)→ZhS (pre ++ .gone::post)=some (sizes pre)
 | [],_,_=>rfl
 | l::pre,post,h=>by
  have e:ZhS ((l::pre) ++ .gone::post)=(ZhS (pre ++ .gone::post)).map (· + l.size):=by
   have:=h l (List.mem_cons_self ..)
   cases l<;>first | rfl | exact absurd rfl this
  rw [e,ZoA fun x hx=>h x (List.mem_cons_of_mem _ hx)]
  simp [Dn.sizes,Nat.add_comm]
theorem wEndV {u:Value} {pre post:List L} {n ver sz:Nat} {xs:List (List L)} (hm:Zdr g s w) (hu:Zct g s w u (.agg (pre.map .l ++ .h (.row n ver) sz 0 xs.length::post.map .l))) (h1:s.si[n]? = some (some (.row ver true sz xs))) (hp : ∀l∈pre,l ≠ .gone) :
  ∃v va,u = .agg va∧CVR (g.ret (some (0,n))) w 0 v (.row true sz xs)∧CVR (g.ret (some (0,n))) w 1 (.agg va) (.agg (pre ++ .gone::post))∧∃k,ZhS (pre ++ .gone::post)=some k∧va.toList[k]? = some v:=by
 obtain ⟨va,e,hT⟩:=hu
 obtain ⟨v1,v,v2,e2,hl,q1,⟨q2,q3⟩,q4⟩:=Zki (fun l e=>by cases e) hT
 have K:=(ZjG (g:=g) (w:=w) (some (0,n))).keep
 refine ⟨v,va,e,?_,⟨va,rfl,?_⟩,sizes pre,ZoA hp,by rw [e2,List.getElem?_append_right (by omega),hl,Nat.sub_self];rfl⟩
 ·have hr:=hm.site n _ h1
  simp only [Zfe] at hr
  have hwin:=q3.2.2 (g.hd n) ⟨⟨_,_,_,h1⟩,rfl⟩
  rcases hr with ⟨k1,k2⟩ | ⟨b1,o1,k1,k2⟩ | ⟨b1,o1,cap,aa,E,k1,k2,k3,k4,k5,k6,k7⟩
  ·rcases hwin with ⟨_,_,_,h⟩ | ⟨b,o,n',c,o',h,_⟩
   ·exact .inl ⟨h,k2⟩
   ·rw [k1] at h;cases h
  ·rcases hwin with ⟨h,_⟩ | ⟨b,o,n',c,o',h,h2,h3,h4,h5⟩
   ·rw [k1] at h;cases h
   ·rw [k1] at h
    simp only [Value.slice.injEq,zA,Addr.mk.injEq] at h
    obtain ⟨⟨rfl,rfl,-⟩,rfl,rfl⟩:=h
    refine .inr (.inl ⟨b1,o',?_,k2⟩)
    rw [h3,k2];rfl
  ·rcases hwin with ⟨h,_⟩ | ⟨b,o,n',c,o',h,h2,h3,h4,h5⟩
   ·rw [k1] at h;cases h
   ·rw [k1] at h
    simp only [Value.slice.injEq,zA,Addr.mk.injEq] at h
    obtain ⟨⟨rfl,rfl,-⟩,rfl,rfl⟩:=h
    have:=h5 rfl;subst this
    refine .inr (.inr ⟨b1,o',cap,aa,E,by rw [h3,Nat.sub_zero],k2,?_,k4,k5,k6,k7.keep' K fun _ _ _=>rfl⟩)
    show ZfM _ _ (g.ow b1)=_
    rw [k3];simp [ZfM]
 ·have h5:TsR g s w va.toList ((pre ++ .gone::post).map .l):=by
   rw [List.map_append,List.map_cons,e2]
   exact q1.append (((ZfI (t:=.l .gone) (fun l e=>by cases e;rfl)).2 ⟨v,rfl,q2,.gone _ _⟩).join q4)
  exact CR.keep K (ZeQ (ZpI _) h5)
def endW (P:Program) (fn:Func) (s:S) (dd:Nat):Option (Nat×List (List L)×List L×List CV×List Prop):=
 match fn.results.toList with
 | .cell t0 T::rs=>match (s.sl[t0]?).bind (ldwT P s T) with
  | some (.agg ts)=>match preT ts with
   | some (pre,(.site n,off,ep,sz,len),post)=>match s.si[n]? with
    | some (some (.cells c))=>match ZiP c off with
     | some (true,sz',xs,c')=>
      if ep=s.ep∧TV.mens dd s.sl=false∧n≠dd∧dd<s.si.length∧sz'=sz∧pre.all (fun l=>match l with | .gone=>false | _=>true)=true then
       match Zgl P ((s.setEnt n (.cells c')).setEnt dd (.row 0 true sz' xs)) [] 0 [] 2 rs with
       | some (rest,none,qs)=>some (sz,xs,pre ++ .gone::post,rest,(len=xs.length)::qs)
       | _=>none
      else none
     | _=>none
    | _=>none
   | _=>none
  | _=>none
 | _=>none
def EndsW (P:Program) (fn:Func) (g:G) (w:World) (sz:Nat) (xs:List (List L)) (ls:List L) (rest:List CV) (st':List (List L)) (R:Exit→Act→World→Prop):Prop:=
 ∀(g':G) (w':World) (a':Act) (e:E),e = .n∨e = .ret→Mod g g' w w'→a'.defers = [] →
  (∃(v:Value) (va:Array Value) (us:List Value),(results fn a'.tmps).run P w' = .ok (ZiW (.agg va::us)) w'∧Zdr g' (.ofSt st') w'∧Zfk g' w' 0 (v :: .agg va::us) (.row true sz xs :: .agg ls::rest)∧∃k,ZhS ls=some k∧va.toList[k]? = some v) →
  R e.exit a' w'
theorem ZnB {fn:Func} {tmps:Array Value} {us:List Value} (h1:(fn.results.toList.mapM (Zpx tmps)).run P w = .ok us w):(results fn tmps).run P w = .ok (ZiW us) w:=by
 have e:(fn.results.mapM (Zpx tmps))=List.toArray <$> fn.results.toList.mapM (Zpx tmps):=Array.mapM_eq_mapM_toList ..
 have e2:results fn tmps=(do let vs ← fn.results.mapM (Zpx tmps);pure (if h:vs.size=1 then vs[0] else .tuple vs)):=by
  unfold results
  congr 1
 rw [e2,e,Sem.run_bind,Sem.run_map,h1]
 simp only [Result.andThen_ok,Sem.run_pure]
 match us with
 | []=>rfl
 | [v]=>rfl
 | v::v'::us=>simp [ZiW]
theorem At.endW {fn:Func} {g0:G} {w0:World} {sz:Nat} {xs:List (List L)} {ls:List L} {rest:List CV} {R:Exit→Act→World→Prop} {ps:List Prop} (hfol:P.follows .mixedOrders=true) (hE:EndsW P fn g0 w0 sz xs ls rest s.st R) (dd:Nat)
  (h:Dn.endW P fn s dd=some (sz,xs,ls,rest,ps)) (hp:ZbE ps):At g0 w0 s (exK P R [.c .ret] .normal):=by
 refine At.goA (Zfz P) hfol (n:=9) (e:=.n) (e':=.ret) (ds:=[]) (s':=s) (ks':=[]) (ps:=[]) (es:=[]) rfl trivial (fun q hq=>by cases hq) fun g w a hM hs hd=>?_
 unfold exK
 unfold Dn.endW at h
 split at h<;>try (cases h;done)
 rename_i t0 T rs hres
 split at h<;>try (cases h;done)
 rename_i ts htv
 split at h<;>try (cases h;done)
 rename_i pre n off ep sz1 len post hpre
 split at h<;>try (cases h;done)
 rename_i c hsi
 split at h<;>try (cases h;done)
 rename_i sz2 xs1 c' hgo
 split at h<;>try (cases h;done)
 rename_i hh
 obtain ⟨rfl,hmen,hne,hlt,rfl,hpl⟩:=hh
 split at h<;>simp only [zA,Prod.mk.injEq,reduceCtorEq] at h
 rename_i rest1 qs hrest
 obtain ⟨rfl,rfl,rfl,rfl,rfl⟩:=h
 rw [ZbE.cons] at hp
 obtain ⟨rfl,hp2⟩:=hp
 have hc:Zev s [] (.site n)=some (c,[]):=by simp only [Zev,hsi]
 obtain ⟨v0,k1,k2,k3,k4,k5⟩:=Zju hs.mem hc trivial hgo (show Root.site n ≠ .site dd by simpa using hne)
 have hhd:(g.take (g.rb (.site n)) off dd v0).hd dd=v0:=Zbf _ _ _
 obtain ⟨tv0,ht0,htv⟩:=Option.bind_eq_some_iff.1 htv
 obtain ⟨u,u1,u2⟩ : ∃u,(Zpx a.tmps (.cell t0 T)).run P w = .ok u w∧Zct g s w u (.agg ts):=by
  obtain ⟨u,h2,h3⟩:=ZmQ (P:=P) hs.mem htv (hs.slot _ _ ht0)
  refine ⟨u,?_,h3⟩
  simp only [Zpx]
  generalize a.tmps.getD t0 undef=v at h2
  have hq : ∃q,v = .pointer (some q):=by
   cases v with
   | pointer q=>cases q with
    | some q=>exact ⟨q,rfl⟩
    | none=>simp [Instr.loadAt,Instr.sureAddr,stuck] at h2
   | _=>simp [Instr.loadAt,Instr.sureAddr,stuck] at h2
  obtain ⟨q,rfl⟩:=hq
  exact h2
 have hu:Zct (g.take (g.rb (.site n)) off dd v0) ((s.setEnt n (.cells c')).setEnt dd (.row 0 true sz2 xs1)) w u (.agg (pre.map .l ++ .h (.row dd 0) sz2 0 xs1.length::post.map .l)):=by
  obtain ⟨va,e1,hT⟩:=u2
  rw [ZnF hpre] at hT
  exact ⟨va,e1,ZqY k4 (Zoj k1 hhd) hT⟩
 have hs1:Sat (g.take (g.rb (.site n)) off dd v0) ((s.setEnt n (.cells c')).setEnt dd (.row 0 true sz2 xs1)) w a.tmps:=
  hs.next (a:=a) k4 (fun m hm=>by simp at hm;subst hm;exact hmen) k3 (by simp [S.setRoot,S.setEnt]) (dst:=none) (tv:=.u) (v:=undef) rfl (by simp)
 obtain ⟨us,j1,j2⟩:=ZfA hs1 (m0:=some (0,dd)) hrest hp2 (fun q hq=>by cases hq)
 have hrow:((s.setEnt n (.cells c')).setEnt dd (.row 0 true sz2 xs1)).si[dd]? = some (some (.row 0 true sz2 xs1)):=by
  simp only [S.setEnt]
  exact List.getElem?_set_self (by simpa using hlt)
 obtain ⟨v,va,rfl,m1,m2,m3⟩:=wEndV k3 hu hrow (fun l hl e=>by subst e;have:=List.all_eq_true.1 hpl _ hl;cases this)
 refine hE ((g.take (g.rb (.site n)) off dd v0).ret (some (0,dd))) w a .ret (.inr rfl) (hM.trans (k2.trans (ZjG _))) hd ⟨v,va,us,ZnB ?_,Zom k3 _,⟨v,_,rfl,m1,_,_,rfl,m2,j2⟩,m3⟩
 rw [hres,List.mapM_cons,Sem.run_bind,u1]
 simp only [Result.andThen_ok,Sem.run_bind,j1,Sem.run_pure]
def GoodW (o:Option (Nat×List (List L)×List L×List CV×List Prop)) (sz:Nat) (xs:List (List L)) (ls:List L) (rest:List CV) (A:Prop):Prop:=
 match o with
 | some (a,b,c,d,ps)=>(a,b,c,d)=(sz,xs,ls,rest)∧(A→ZbE ps)
 | none=>False
theorem At.fw {fn:Func} {g0:G} {w0:World} {sz:Nat} {xs:List (List L)} {ls:List L} {rest:List CV} {R:Exit→Act→World→Prop} {st':List (List L)} (hfol:P.follows .mixedOrders=true) (hE:EndsW P fn g0 w0 sz xs ls rest st' R) (dd:Nat) {A:Prop} (a:A) (e:s.st=st')
  (h:((sz,xs,ls,rest)=(sz,xs,ls,rest)∧(A→A))=GoodW (Dn.endW P fn s dd) sz xs ls rest A:=by kernel_rfl):At g0 w0 s (exK P R [.c .ret] .normal):=by
 subst e
 have h1:GoodW (Dn.endW P fn s dd) sz xs ls rest A:=h ▸ ⟨rfl,id⟩
 unfold GoodW at h1
 split at h1
 ·rename_i a1 b1 c1 d1 ps he
  obtain ⟨h2,h3⟩:=h1
  simp only [Prod.mk.injEq] at h2
  obtain ⟨rfl,rfl,rfl,rfl⟩:=h2
  exact At.endW hfol hE dd he (h3 a)
 ·exact h1.elim
theorem Zrh.of {f:FuncId} {fn:Func} {c:Code} {args:List CV} {st:List (List L)} {sz:Nat} {xs:List (List L)} {ls:List L} {rest:List CV} {st':List (List L)} (hf:P.funcs[f]? = some fn)
  (h : ∀(g:G) (w:World) (R:Exit→Act→World→Prop),EndsW P fn g w sz xs ls rest st' R→At g w (S.enter fn.ntmps args st) (exK P R [.c c] .normal))
  (hn : (fn.name == "runtime.NumGoroutine") = false) (hb : fn.body = some c) (hlen : args.length ≤ fn.ntmps) : Zrh P f args st sz xs ls rest st' :=
 Zrh.mk hf hn hb hlen fun g w a R hs hd hE=>h g w R hE g w a (.refl g w) hs hd
end
end Go.Dn
set_option maxRecDepth 100000
namespace Go.Dn.F
open Go.Proofs
variable {N:Nat}
theorem Zbo.sndW {a_0:Option Nat} {at_1:Int} {st:LL} {r:Zaz×Bool×LL} (h:Zbo N a_0 at_1 st=some r) (hok:r.2.1=true) :
  Zrh zF 14 [.one (L.ptr a_0),.one (zI .i64 at_1)] st 1 r.1.Times (gs r.1.ls 6) [.one (L.bool r.2.1)] r.2.2:=
 Zrh.of (c:=Zbo.B) Tryz.func14 (fun g0 w0 R hE=>by
  unfold Zbo at h
  obtain ⟨⟨x1,st2⟩,c1,h1⟩:=Zaf h;clear h
  let o1:List PS:=[.r [],.r [(2,{rs:=[.one (L.bool x1)],st:=st2})]]
  refine ZaY h1 (fun c2 h2=>?_) (fun c2 h3=>?_)<;>clear h1
  ·obtain rfl:=Zac h2
   cases hok
  ·obtain ⟨i3,rfl,h4⟩:=Zaf h3;clear h3
   obtain ⟨x4,c4,h5⟩:=ZbM h4;clear h4
   obtain ⟨c5,c6,h6⟩:=ck2 h5;clear h5
   obtain ⟨x5,c7,h7⟩:=ZeM h6;clear h6
   obtain ⟨c8,h8⟩:=ZaP h7;clear h7
   obtain rfl:=Zac h8
   have key:At g0 w0 (mkS 24 [(4,sA 4),(5,.one (.l (.bool true)))] [(4,.cells [zI .i64 x5.Point.Height,zI .i64 x5.Point.Bits,zI .i64 x5.Point.Time,zI .i64 x5.Point.First,zI .i64 x5.Point.Hard,L.arr .u8 32 x5.Prev,L.own true 1 ([]++x5.Times)])] st2) (exK zF R [.c .ret] .normal):=
    At.fw fol hE 6 (eN (zK ([]++x5.Times))) rfl
   exact aq fol (o1 ++ [.c false,.r [(3,{oc:=x4.lo}),(6,{oc:=x4.lo,oe:=x5.ls})],.r [(4,{mv:=[21]})],.r [(0,{m:=19}),(1,{m:=18,mv:=[23]})],.s 1]) [4,5] [4] (aO (Zcp.snd c1) c2 c4 c5 c6 c7 c4 (aL c8 z0 (eN (zK ([]++x5.Times))) z0 (eN (zK ([]++x5.Times))))) key)
  (by kernel_rfl) (by kernel_rfl) (of_decide_eq_true (by kernel_rfl))
theorem Zbw.sndW {i:Nat} {st:LL} {r:Zae×LL} (h:Zbw N (some i) st=some r) :
  Zrh zF 15 [.one (L.ptr (some i))] st 2 r.1.Gates (gs r.1.ls 5) [] r.2:=
 Zrh.of (c:=Zbw.B) Tryz.func15 (fun g0 w0 R hE=>by
  unfold Zbw at h
  refine ZaY h (fun c1 h1=>?_) (fun c1 h2=>?_)<;>clear h
  ·cases c1
  ·obtain ⟨i1,e1,h3⟩:=Zaf h2;clear h2;cases e1
   obtain ⟨x2,c3,h4⟩:=ZbM h3;clear h3
   obtain ⟨c4,c5,h5⟩:=ck2 h4;clear h4
   obtain rfl:=Zac h5
   have key:At g0 w0 (mkS 20 [(2,sA 2)] [(2,.cells [zI .i64 x2.rules.Limit,zI .i64 x2.rules.Interval,zI .i64 x2.rules.Spacing,zI .i64 x2.rules.Future,L.bool x2.rules.Easy,L.own true 2 ([]++x2.rules.Gates),L.sl 33 ([]++x2.rules.Checks),L.arr .u64 4 x2.rules.MinWork,L.arr .u64 4 x2.rules.Margin,zI .i64 x2.rules.Genesis.Version,L.arr .u8 32 x2.rules.Genesis.Prev,L.arr .u8 32 x2.rules.Genesis.Root,zI .i64 x2.rules.Genesis.Time,zI .i64 x2.rules.Genesis.Bits,zI .i64 x2.rules.Genesis.Nonce])] st) (exK zF R [.c .ret] .normal):=
    At.fw fol hE 3 (eN (zK ([]++x2.rules.Gates))) rfl
   exact aqd fol [.r [],.r [],.c false,.r [(3,{oc:=x2.lo})],.d {ds:=[(7,{mv:=[13]}),(9,{fz:=[16]})],hv:=676,Hs:=[4,36,164,676]},.r [(0,{m:=19}),(1,{m:=18,mv:=[19]})],.s 1] [2] [2] (aO c1 c3 c4 c5 z0 (eN (zK ([]++x2.rules.Gates))) z0 (aJ (eN (zK ([]++x2.rules.Checks))) z0 (eN (zK ([]++x2.rules.Gates))))) key)
  (by kernel_rfl) (by kernel_rfl) (of_decide_eq_true (by kernel_rfl))
end Go.Dn.F
