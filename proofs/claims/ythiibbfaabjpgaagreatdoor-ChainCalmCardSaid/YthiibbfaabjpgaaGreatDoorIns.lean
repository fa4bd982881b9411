import Derived.Test.YthiibbfaabjpgaaGreatDoorKc
import Derived.Shelf.Spec.SlicesInsertGrow
import Derived.Test.YthiibbfaabjpgaaGreatDoorProg
set_option linter.all false
open Array renaming getElem?_modify->tG,getElem?_eq_getElem->vY,getElem?_append_left->vS
open List renaming getElem?_map->yR,getElem?_cons_zero->yJ,getElem?_eq_none->zM,getElem?_eq_getElem->zQ
open Nat renaming add_assoc->xK,lt_or_ge->zX
open Option.some renaming injEq->zA
namespace Go.Dn
open Go.Shelf Go.RowKit Go.Lib Go.Proofs
variable {P:Program} {ρ:Ren}
set_option maxHeartbeats 4000000 in
set_option maxRecDepth 100000 in
def Zuk (L:Lays2.n21 P ρ) (b off n c i vb voff m vc:Nat) (cs vs:List Value) (w:World) (hi:i<n) (hm:0<m) (hroom:n+m<=c) (hbig:n+m<=1152921504606846976) (hvb:vb≠b) (hcl:cs.length=n) (hvl:vs.length=m)
    (hcs : ∀j v,cs[j]? = some v->w.cell? ⟨b,off+j,none⟩=some v) (hsp : ∀j,j<n+m->(w.cell? ⟨b,off+j,none⟩).isSome=true) (hfz : ∀j,j<n+m->w.frozen? ⟨b,off+j,none⟩=false)
    (hvs : ∀j v,vs[j]? = some v->w.cell? ⟨vb,voff+j,none⟩=some v) (h1c : ∀v∈cs,v.oneCell'=true) (h1v : ∀v∈vs,v.oneCell'=true)
    (tA tB:TypeId) (kA kB:Nat) (hsa:w.shape? vb=some (tA,kA)) (hsb:w.shape? b=some (tB,kB)) (hkB:kB≠0) (hfa:w.frozen? ⟨vb,voff,none⟩=false) (hfe:w.frozen? ⟨vb,kA,none⟩=false) :
    Calls P (ρ.f 21) #[.slice (some ⟨b,off,none⟩) n c,.int .i64 i,.slice (some ⟨vb,voff,none⟩) m vc] w fun e w'=>
      e = .returned (.slice (some ⟨b,off,none⟩) (n+m) c)/\w'=(w.drew.setCells b (off+(i+m)) (cs.drop i)).setCells b (off+i) vs:=by
  have t0:=L.t0;have a0:=L.a0;have z0:=L.z0;have v0:=L.v0;have t3:=L.t3;have a3:=L.a3;have z3:=L.z3;have v3:=L.v3
  have t4:=L.t4;have a4:=L.a4;have z4:=L.z4;have v4:=L.v4;have t22:=L.t22;have a22:=L.a22;have z22:=L.z22;have v22:=L.v22
  have u0:=run_underlying L.t0;have u3:=run_underlying L.t3;have u4:=run_underlying L.t4;have u22:=run_underlying L.t22
  have hz1 : ¬ ((m:Int)=0):=aF
  have hz2 : ¬ ((i:Int)=(n:Int)):=aF
  have hsz:(P.info? (ρ.t 3)).map (·.size)=some 1:=by
    obtain ⟨i0,hi0,h0,h1,h2⟩:=info_parts L.i3
    rw [hi0];simp [h1]
  have hov : ∀lb cb,(callFunc (ρ.f 27) #[.slice (some ⟨vb,voff,none⟩) m vc,.slice (some ⟨b,off+(i+m),none⟩) lb cb]).run P w = .ok (.value (.bool false)) w:=fun lb cb=>by
    rw [run_callFunc_extern L.f27 aQ aQ aQ (e:=Extern.SlicesOverlaps.overlaps #[(ρ.t 22),(ρ.t 22)] #[(ρ.t 4)]) aQ,
      Lib.run_overlaps_apart w (ρ.t 22) (ρ.t 4) (ρ.t 3) L.t22 1 L.z3 ⟨vb,voff,none⟩ ⟨b,off+(i+m),none⟩ m vc lb cb hvb tA tB kA kB hsa hsb hkB hfa hfe]
    rfl
  have hdl:(cs.drop i).length=n-i:=by rw [List.length_drop,hcl]
  have mixed:=L.mixed
  have hw1:IntKind.i64.wrap ((i:Int)+(m:Int))=(i:Int)+(m:Int):=by rw [IntKind.wrap_i64];omega
  have hw2:IntKind.i64.wrap ((n:Int)+(m:Int))=(n:Int)+(m:Int):=by rw [IntKind.wrap_i64];omega
  have hb1:(0:Int)<=(i:Int)+(m:Int):=aF
  have hin:i<=n:=aF
  have htn:((i:Int)+(m:Int)).toNat=i+m:=aF
  have htm:((n:Int)+(m:Int)).toNat=n+m:=aF
  have hb2 : ¬ (c=i+m):=aF
  have hb3:(i:Int)<=(n:Int)+(m:Int):=aF
  have hb4 : ¬ (c=i):=aF
  have hcp1 : ∀ty dc sc,(Builtin.copy_ #[(ρ.t 22),(ρ.t 22)] ty #[.slice (some ⟨b,off+(i+m),none⟩) (n+m-(i+m)) dc,.slice (some ⟨b,off+i,none⟩) (n+m-i) sc]).run P w.drew = .ok (goInt (cs.drop i).length) (w.drew.setCells b (off+(i+m)) (cs.drop i)):=fun ty dc sc=>
    run_copy_cells w.drew _ _ ty (ρ.t 3) b (off+(i+m)) (n+m-(i+m)) dc ⟨b,off+i,none⟩ (n+m-i) sc (cs.drop i) L.t22 hsz (by rw [hdl];simp only [Nat.min_def];split<;>omega)
      (fun j v hj=>by rw [Addr.add_lit,xK];exact hcs (i+j) v (by rwa [List.getElem?_drop] at hj))
      (fun j hj=>by rw [xK];exact hsp _ aF) (fun j hj=>by rw [xK];exact hfz _ aF) (fun v hv=>h1c v (List.mem_of_mem_drop hv))
  obtain ⟨W1,hW1⟩ : ∃W1,W1=w.drew.setCells b (off+(i+m)) (cs.drop i):=⟨_,rfl⟩
  have hsp1 : ∀k,k<n+m->(W1.cell? ⟨b,off+k,none⟩).isSome=true:=fun k hk=>by
    rw [hW1]
    exact isSome_setCells b _ _ _ (fun j hj=>by rw [xK];exact hsp _ aF) _ (hsp k hk)
  have hcp2 : ∀(W:World),(∀x,W.cell? x=W1.cell? x)->(∀x,W.frozen? x=W1.frozen? x)->∀ty dc,(Builtin.copy_ #[(ρ.t 22),(ρ.t 22)] ty #[.slice (some ⟨b,off+i,none⟩) (n+m-i) dc,.slice (some ⟨vb,voff,none⟩) m vc]).run P W = .ok (goInt vs.length) (W.setCells b (off+i) vs):=fun W hWc hWf ty dc=>
    run_copy_cells W _ _ ty (ρ.t 3) b (off+i) (n+m-i) dc ⟨vb,voff,none⟩ m vc vs L.t22 hsz (by rw [hvl];simp only [Nat.min_def];split<;>omega)
      (fun j v hj=>by
        rw [Addr.add_lit,hWc,hW1,World.cell?_setCells_out b _ _ _ _ (fun h _=>absurd h hvb)]
        exact hvs j v hj)
      (fun j hj=>by rw [hWc,xK];exact hsp1 _ aF) (fun j hj=>by rw [hWf,hW1,World.frozen?_setCells,xK];exact hfz _ aF) h1v
  rw [<-hW1] at hcp1
  go_enter L.f21,Body2.n21_ntmps ρ
  go_wp2_with (simp only [hov])
  go_region_law_o (refine step_copy_runI rfl _ _ (ρ.t 22) (ρ.t 22) rfl _ _ (by simp [Act.eval,Act.put]) (by simp [Act.eval,Act.put]) (hcp1 _ _ _) ?_)
  go_wp2_with (at_builtin;refine wpList_copy_runI _ rfl _ _ (ρ.t 22) (ρ.t 22) rfl _ _ rfl rfl (hcp2 _ (fun _=>rfl) (fun _=>rfl) _ _) ?_)
  go_ret
  first | exact ⟨rfl,rfl⟩ | exact ⟨rfl,by rw [hW1]⟩
set_option maxHeartbeats 4000000 in
set_option maxRecDepth 100000 in
def ins_end (L:Lays2.n21 P ρ) (b off n c vb voff m vc:Nat) (vs:List Value) (w:World) (hm:0<m) (hroom:n+m<=c) (hbig:n+m<=1152921504606846976) (hvl:vs.length=m)
    (hsp : ∀j,j<m->(w.cell? ⟨b,off+n+j,none⟩).isSome=true) (hfz : ∀j,j<m->w.frozen? ⟨b,off+n+j,none⟩=false)
    (hvs : ∀j v,vs[j]? = some v->w.cell? ⟨vb,voff+j,none⟩=some v) (h1v : ∀v∈vs,v.oneCell'=true) :
    Calls P (ρ.f 21) #[.slice (some ⟨b,off,none⟩) n c,.int .i64 n,.slice (some ⟨vb,voff,none⟩) m vc] w fun e w'=>
      e = .returned (.slice (some ⟨b,off,none⟩) (n+m) c)/\w'=w.setCells b (off+n) vs:=by
  have t0:=L.t0;have a0:=L.a0;have z0:=L.z0;have v0:=L.v0;have t3:=L.t3;have a3:=L.a3;have z3:=L.z3;have v3:=L.v3
  have t4:=L.t4;have a4:=L.a4;have z4:=L.z4;have v4:=L.v4;have t22:=L.t22;have a22:=L.a22;have z22:=L.z22;have v22:=L.v22
  have u0:=run_underlying L.t0;have u3:=run_underlying L.t3;have u4:=run_underlying L.t4;have u22:=run_underlying L.t22
  have mixed:=L.mixed
  have hz1 : ¬ ((m:Int)=0):=aF
  have hsrc:Go.Src P 1 (ρ.t 22) (.slice (some ⟨vb,voff,none⟩) m vc) m vs w:=Src.ofSlice w L.t22 ⟨vb,voff,none⟩ m vc vs aF (fun j u hj=>by rw [Addr.add_lit];exact hvs j u hj) h1v
  go_enter L.f21,Body2.n21_ntmps ρ
  go_wp2_with (at_builtin;refine wpList_append_room1 _ rfl _ _ (ρ.t 22) (ρ.t 22) rfl (ρ.t 3) _ _ L.t22 L.i3 b off n c rfl _ rfl m vs hsrc hroom (by rw [hvl];exact hsp) (by rw [hvl];exact hfz) ?_)
  go_ret
  exact ⟨rfl,rfl⟩
def Zjl (b:Nat) : ∀(vs:List Value) (o:Nat) (w:World) {cur:Array Value} {E:TypeId} {fz:Nat×Nat},w.heap[b]? = some (.cells cur E fz)->∃cur':Array Value,(w.setCells b o vs).heap[b]? = some (.cells cur' E fz)/\cur'.size=cur.size
  | [],_,w,cur,_,_,h=>⟨cur,h,rfl⟩
  | v::r,o,w,cur,E,fz,h=>by
    have h1:(w.setCell ⟨b,o,none⟩ v).heap[b]? = some (.cells (cur.setIfInBounds o v) E fz):=by simp [World.setCell,tG,h]
    obtain ⟨c',h2,h3⟩:=Zjl b r (o+1) _ h1
    exact ⟨c',h2,by simpa using h3⟩
def Zjk (b:Nat) : ∀(vs:List Value) (o:Nat) (w:World) (b':Nat),b'≠b->(w.setCells b o vs).heap[b']? = w.heap[b']?
  | [],_,_,_,_=>rfl
  | v::r,o,w,b',h=>by
    rw [World.setCells,Zjk b r (o+1) _ b' h]
    simp only [World.setCell,tG]
    rw [aE (fun e=>h e.symm)]
def ZhM (b:Nat) : ∀(vs:List Value) (o:Nat) (w:World),((w.setCells b o vs).os=w.os/\(w.setCells b o vs).tape=w.tape/\(w.setCells b o vs).output=w.output)/\(w.setCells b o vs).heap.size=w.heap.size
  | [],_,_=>⟨⟨rfl,rfl,rfl⟩,rfl⟩
  | v::r,o,w=>by
    have:=ZhM b r (o+1) (w.setCell ⟨b,o,none⟩ v)
    rw [World.setCells]
    exact ⟨this.1,by rw [this.2];simp [World.setCell]⟩
def insI_get {cs:List Int} {k:Nat} (hk:k<=cs.length) (x:Int) (j:Nat):(Zsb cs k x)[j]? = if j<k then cs[j]? else if j=k then some x else cs[j-1]? := by
  unfold Zsb
  have hl:(cs.take k).length=k:=by simp;omega
  by_cases h:j<k
  · rw [aD h,List.getElem?_append_left aF,List.getElem?_take,aD h]
  · rw [aE h,List.getElem?_append_right aF,hl]
    by_cases e:j=k
    · rw [aD e,e,Nat.sub_self];rfl
    · rw [aE e,(aF:j-k=(j-1-k)+1),List.getElem?_cons_succ,List.getElem?_drop,(aF:k+(j-1-k)=j-1)]
def ZmD {W:World} {b off:Nat} {cs:List Int} {k:Nat} {x:Int} {cur':Array Value} {E:TypeId} {fz:Nat×Nat} (hk:k<=cs.length) (h1 : ∀j v,j<k->(cs.map (Value.int .i64))[j]? = some v->W.cell? ⟨b,off+j,none⟩=some v) (h2:W.cell? ⟨b,off+k,none⟩=some (.int .i64 x))
    (h3 : ∀j v,k<=j->(cs.map (Value.int .i64))[j]? = some v->W.cell? ⟨b,off+(j+1),none⟩=some v) (hb:W.heap[b]? = some (.cells cur' E fz)) (j:Nat) (v:Value) (hj:((Zsb cs k x).map (Value.int .i64))[j]? = some v):cur'[off+j]? = some v:=by
  have hc:W.cell? ⟨b,off+j,none⟩=cur'[off+j]? := by simp [World.cell?,hb]
  rw [<-hc]
  rw [yR,insI_get hk] at hj
  by_cases h:j<k
  · rw [aD h] at hj
    exact h1 j v h (by rw [yR];exact hj)
  · rw [aE h] at hj
    by_cases e:j=k
    · rw [aD e] at hj
      simp only [Option.map_some,zA] at hj
      rw [e,<-hj];exact h2
    · rw [aE e] at hj
      have:=h3 (j-1) v aF (by rw [yR];exact hj)
      rwa [(aF:j-1+1=j)] at this
def InsC.of [Globs] (L:Lays2.n21 P ρ):InsC P (ρ.f 21):=by
  refine ⟨⟨_,L.f21,by kernel_rfl,by kernel_rfl⟩,?_,?_⟩
  · intro w b off cap vb voff vc cs k x cur va E V hk hbig hroom hne hb hfit hcs hvb hvx
    have hcl:(cs.map (Value.int .i64)).length=cs.length:=by simp
    have hsp : ∀j,j<cs.length+1->(w.cell? ⟨b,off+j,none⟩).isSome=true:=fun j hj=>by
      simp only [World.cell?,hb]
      rw [vY aF];rfl
    have hfz : ∀a:Nat,w.frozen? ⟨b,a,none⟩=false:=fun a=>by simp [World.frozen?,hb]
    have hvs : ∀j v,[Value.int .i64 x][j]? = some v->w.cell? ⟨vb,voff+j,none⟩=some v:=fun j v hj=>by
      cases j with
      | zero=>simp only [yJ,zA] at hj;subst hj;exact hvx
      | succ j=>simp at hj
    have h1v : ∀v∈[Value.int .i64 x],v.oneCell'=true:=fun v hv=>by cases List.mem_singleton.1 hv;rfl
    have h1c : ∀v∈cs.map (Value.int .i64),v.oneCell'=true:=fun v hv=>by obtain ⟨_,_,rfl⟩:=List.mem_map.1 hv;rfl
    by_cases hkl:k<cs.length
    · refine (Zuk L b off cs.length cap k vb voff 1 vc (cs.map (Value.int .i64)) [.int .i64 x] w hkl aF hroom aF hne hcl rfl hcs hsp (fun j _=>hfz _) hvs h1c h1v V E va.size cur.size
        (by simp [World.shape?,hvb]) (by simp [World.shape?,hb]) aF (by simp [World.frozen?,hvb]) (by simp [World.frozen?,hvb])).mono ?_
      rintro e w' ⟨rfl,rfl⟩
      obtain ⟨c1,q1,q2⟩:=Zjl b ((cs.map (Value.int .i64)).drop k) (off+(k+1)) w.drew (cur:=cur) hb
      obtain ⟨c2,q3,q4⟩:=Zjl b [Value.int .i64 x] (off+k) _ q1
      obtain ⟨r1,r2⟩:=ZhM b ((cs.map (Value.int .i64)).drop k) (off+(k+1)) w.drew
      obtain ⟨r3,r4⟩:=ZhM b [Value.int .i64 x] (off+k) (w.drew.setCells b (off+(k+1)) ((cs.map (Value.int .i64)).drop k))
      have hsp1 : ∀j,j<((cs.map (Value.int .i64)).drop k).length->(w.drew.cell? ⟨b,off+(k+1)+j,none⟩).isSome=true:=fun j hj=>by
        simp at hj
        have:=hsp (k+1+j) aF
        rwa [<-xK] at this
      refine ⟨rfl,⟨r3.1.trans r1.1,r3.2.1.trans r1.2.1,r3.2.2.trans r1.2.2⟩,by rw [r4,r2];rfl,fun b' hb'=>by rw [Zjk _ _ _ _ _ hb',Zjk _ _ _ _ _ hb'];rfl,c2,q3,by rw [q4,q2],?_⟩
      refine ZmD hk (fun j v hj hv=>?_) ?_ (fun j v hj hv=>?_) q3
      · rw [World.cell?_setCells_out _ _ _ _ _ (fun _ _=>.inl (by show off+j<off+k;omega)),World.cell?_setCells_out _ _ _ _ _ (fun _ _=>.inl (by show off+j<off+(k+1);omega))]
        exact hcs j v hv
      · have:=World.cell?_setCells_in b [Value.int .i64 x] (off+k) (w.drew.setCells b (off+(k+1)) ((cs.map (Value.int .i64)).drop k)) (fun j hj=>by
          simp at hj;subst hj
          rw [World.cell?_setCells_out _ _ _ _ _ (fun _ _=>.inl (by show off+k+0<off+(k+1);omega))]
          exact hsp k aF) 0 aG
        simpa using this
      · have hjl:j<cs.length:=by
          rcases zX j cs.length with h' | h'
          · exact h'
          · rw [zM (aR h')] at hv;cases hv
        have hin:=World.cell?_setCells_in b ((cs.map (Value.int .i64)).drop k) (off+(k+1)) w.drew hsp1 (j-k) aH
        rw [World.cell?_setCells_out _ _ _ _ _ (fun _ _=>.inr (by show off+k+1<=off+(j+1);omega)),(aF:off+(j+1)=off+(k+1)+(j-k)),hin]
        rw [<-hv,List.getElem_drop]
        rw [zQ aH]
        congr 2;omega
    · have hkn:k=cs.length:=by omega
      subst hkn
      refine (ins_end L b off cs.length cap vb voff 1 vc [.int .i64 x] w aF hroom aF rfl (fun j hj=>by have:=hsp (cs.length+j) aF;rwa [<-xK] at this) (fun j _=>hfz _) hvs h1v).mono ?_
      rintro e w' ⟨rfl,rfl⟩
      obtain ⟨c2,q3,q4⟩:=Zjl b [Value.int .i64 x] (off+cs.length) w (cur:=cur) hb
      obtain ⟨r3,r4⟩:=ZhM b [Value.int .i64 x] (off+cs.length) w
      refine ⟨rfl,r3,r4,fun b' hb'=>Zjk _ _ _ _ _ hb',c2,q3,q4,?_⟩
      refine ZmD hk (fun j v hj hv=>?_) ?_ (fun j v hj hv=>?_) q3
      · rw [World.cell?_setCells_out _ _ _ _ _ (fun _ _=>.inl (by show off+j<off+cs.length;omega))]
        exact hcs j v hv
      · have:=World.cell?_setCells_in b [Value.int .i64 x] (off+cs.length) w (fun j hj=>by
          simp at hj;subst hj
          exact hsp cs.length aF) 0 aG
        simpa using this
      · rw [zM (aR hj)] at hv;cases hv
  · intro w base cap vb voff vc cs k x hk hbig hc1 hc2 hnil hcs hvx
    have hcl:(cs.map (Value.int .i64)).length=cs.length:=by simp
    have hvs : ∀j v,[Value.int .i64 x][j]? = some v->w.cell? ⟨vb,voff+j,none⟩=some v:=fun j v hj=>by
      cases j with
      | zero=>simp only [yJ,zA] at hj;subst hj;exact hvx
      | succ j=>simp at hj
    have h1v : ∀v∈[Value.int .i64 x],v.oneCell'=true:=fun v hv=>by cases List.mem_singleton.1 hv;rfl
    have h1c : ∀v∈cs.map (Value.int .i64),v.oneCell'=true:=fun v hv=>by obtain ⟨_,_,rfl⟩:=List.mem_map.1 hv;rfl
    have hG:=grownCap_ge w (cs.length+1) cap (ρ.t 3)
    by_cases hkl:k<cs.length
    · obtain ⟨b,off,rfl,hcells⟩ : ∃b off,base=some ⟨b,off,none⟩/\∀j v,(cs.map (Value.int .i64))[j]? = some v->w.cell? (ad b (off+j))=some v:=by
        cases base with
        | none=>rw [hnil rfl] at hkl;simp at hkl
        | some a=>obtain ⟨b,off,rfl,h⟩:=hcs a rfl;exact ⟨b,off,rfl,h⟩
      refine (Any2.slices_Insert_int_grow L b off cs.length cap k vb voff 1 vc (cs.map (Value.int .i64)) [.int .i64 x] w hkl aF hc1 hc2 hbig hcl rfl hcells hvs h1c h1v).mono ?_
      rintro e w' ⟨rfl,rfl⟩
      obtain ⟨G,hGe⟩ : ∃G,G=grownCap w (cs.length+1) cap (ρ.t 3):=⟨_,rfl⟩
      rw [<-hGe] at hG |-
      obtain ⟨ROW,hR⟩ : ∃ROW:Array Value,ROW=((cs.map (Value.int .i64)).take k).toArray++Builtin.zeroCells (Value.int .i64 0).cells (cs.length+1-k)++Builtin.zeroCells (Value.int .i64 0).cells (G-(cs.length+1)):=⟨_,rfl⟩
      rw [<-hR]
      have hRl:ROW.size=G:=by rw [hR];simp [Builtin.zeroCells,Value.cells];omega
      have hRg : ∀j v,j<k->(cs.map (Value.int .i64))[j]? = some v->ROW[j]? = some v:=fun j v hj hv=>by
        rw [hR,Array.append_assoc,vS aH]
        simp only [List.getElem?_toArray]
        rw [List.getElem?_take,aD hj];exact hv
      clear hR
      have h0:((w.alloc (.cells ROW (ρ.t 3))).drew).heap[w.heap.size]? = some (.cells ROW (ρ.t 3) (0,0)):=heap_alloc_new w (.cells ROW (ρ.t 3))
      have hold : ∀b',b'<w.heap.size->((w.alloc (.cells ROW (ρ.t 3))).drew).heap[b']? = w.heap[b']? := fun b' hb'=>Zev w (.cells ROW (ρ.t 3)) hb'
      have hsz:((w.alloc (.cells ROW (ρ.t 3))).drew).heap.size=w.heap.size+1:=World.size_alloc w _
      have ho:((w.alloc (.cells ROW (ρ.t 3))).drew).os=w.os/\((w.alloc (.cells ROW (ρ.t 3))).drew).tape=w.tape/\((w.alloc (.cells ROW (ρ.t 3))).drew).output=w.output:=⟨rfl,rfl,rfl⟩
      generalize (w.alloc (.cells ROW (ρ.t 3))).drew=W at h0 hold hsz ho |-
      obtain ⟨c1,q1,q2⟩:=Zjl w.heap.size [Value.int .i64 x] k W h0
      obtain ⟨r1,r2⟩:=ZhM w.heap.size [Value.int .i64 x] k W
      obtain ⟨c2,q3,q4⟩:=Zjl w.heap.size ((cs.map (Value.int .i64)).drop k) (k+1) (W.setCells w.heap.size k [Value.int .i64 x]).drew q1
      obtain ⟨r3,r4⟩:=ZhM w.heap.size ((cs.map (Value.int .i64)).drop k) (k+1) (W.setCells w.heap.size k [Value.int .i64 x]).drew
      have hspW : ∀j,j<cs.length+1->(W.cell? ⟨w.heap.size,j,none⟩).isSome=true:=fun j hj=>by
        simp only [World.cell?,h0]
        rw [vY aF];rfl
      refine ⟨G,c2,ρ.t 3,rfl,⟨(r3.1.trans r1.1).trans ho.1,(r3.2.1.trans r1.2.1).trans ho.2.1,(r3.2.2.trans r1.2.2).trans ho.2.2⟩,by rw [r4];show (W.setCells _ _ _).heap.size=_;rw [r2,hsz],fun b' hb'=>?_,q3,hG,aF,fun j v hj=>?_⟩
      · rw [Zjk _ _ _ _ _ aF]
        show (W.setCells _ _ _).heap[b']? = _
        rw [Zjk _ _ _ _ _ aF];exact hold b' hb'
      · have key:=ZmD (W:=(W.setCells w.heap.size k [Value.int .i64 x]).drew.setCells w.heap.size (k+1) ((cs.map (Value.int .i64)).drop k)) (b:=w.heap.size) (off:=0) (x:=x) hk (fun j v hj hv=>?_) ?_ (fun j v hj hv=>?_) q3 j v hj
        · rwa [Nat.zero_add] at key
        · rw [World.cell?_setCells_out _ _ _ _ _ (fun _ _=>.inl (by show 0+j<k+1;omega))]
          show (W.setCells _ _ _).cell? _=_
          rw [World.cell?_setCells_out _ _ _ _ _ (fun _ _=>.inl (by show 0+j<k;omega))]
          simp only [World.cell?,h0,Nat.zero_add]
          exact hRg j v hj hv
        · rw [World.cell?_setCells_out _ _ _ _ _ (fun _ _=>.inl (by show 0+k<k+1;omega))]
          show (W.setCells _ _ _).cell? _=_
          have:=World.cell?_setCells_in w.heap.size [Value.int .i64 x] k W (fun j hj=>by
            simp at hj;subst hj
            exact hspW k aF) 0 aG
          simpa using this
        · have hjl:j<cs.length:=by
            rcases zX j cs.length with h' | h'
            · exact h'
            · rw [zM (aR h')] at hv;cases hv
          have hin:=World.cell?_setCells_in w.heap.size ((cs.map (Value.int .i64)).drop k) (k+1) (W.setCells w.heap.size k [Value.int .i64 x]).drew (fun j hj=>by
            simp at hj
            show ((W.setCells w.heap.size k [Value.int .i64 x]).cell? _).isSome=true
            rw [World.cell?_setCells_out _ _ _ _ _ (fun _ _=>.inr (by show k+1<=k+1+j;omega))]
            exact hspW _ aF) (j-k) aH
          rw [(aF:0+(j+1)=k+1+(j-k)),hin,<-hv,List.getElem_drop,zQ aH]
          congr 2;omega
    · have hkn:k=cs.length:=by omega
      subst hkn
      refine (Any2.slices_Insert_int_end_grow L base cs.length cap vb voff 1 vc (cs.map (Value.int .i64)) [.int .i64 x] w aF hc1 hc2 hbig hcl rfl (fun h=>by rw [hnil h];rfl) (fun a ha j v hj=>by
        obtain ⟨b,off,rfl,h⟩:=hcs a ha
        rw [Addr.add_lit];exact h j v hj) hvs h1v).mono ?_
      rintro e w' ⟨rfl,rfl⟩
      obtain ⟨G,hGe⟩ : ∃G,G=grownCap w (cs.length+1) cap (ρ.t 3):=⟨_,rfl⟩
      rw [<-hGe] at hG |-
      refine ⟨G,_,ρ.t 3,rfl,⟨rfl,rfl,rfl⟩,World.size_alloc _ _,fun b' hb'=>Zev w.drew _ hb',heap_alloc_new w.drew _,hG,by simp [Builtin.zeroCells,Value.cells];omega,fun j v hj=>?_⟩
      have hjl:j<cs.length+1:=by
        rcases zX j (cs.length+1) with h' | h'
        · exact h'
        · rw [zM (by simp [Zsb];omega)] at hj;cases hj
      rw [vS aH]
      rw [<-hj]
      simp [Zsb]
end Go.Dn
namespace Go.Dn.F
open Go.Proofs Go.Shelf
def insRen:Ren:=⟨fun | 21=>76 | 27=>109 | 28=>110 | 35=>134 | 39=>157 | n=>n,fun | 0=>0 | 3=>3 | 4=>4 | 22=>48 | n=>n,fun | n=>n⟩
def insLay:Lays2.n21 Tryz.prog insRen:={
 mixed:=by kernel_rfl
 f21:=Tryz.func76.trans (congrArg some aQ)
 f27:=Tryz.func109.trans (congrArg some aQ)
 f28:=Tryz.func110.trans (congrArg some aQ)
 f35:=Tryz.func134.trans (congrArg some aQ)
 f39:=Tryz.func157.trans (congrArg some aQ)
 t0:=Tryz.underlying0
 a0:=Tryz.isAgg0
 z0:=Tryz.sizeOf0
 v0:=Tryz.zeroValue0
 t3:=Tryz.underlying3
 a3:=Tryz.isAgg3
 z3:=Tryz.sizeOf3
 v3:=Tryz.zeroValue3
 t4:=Tryz.underlying4
 a4:=Tryz.isAgg4
 z4:=Tryz.sizeOf4
 v4:=Tryz.zeroValue4
 t22:=Tryz.underlying48
 a22:=Tryz.isAgg48
 z22:=Tryz.sizeOf48
 v22:=Tryz.zeroValue48
 i3:=by kernel_rfl}
def slices_Insert_int.holds [Globs]:InsC Tryz.prog 76:=InsC.of insLay
end Go.Dn.F
