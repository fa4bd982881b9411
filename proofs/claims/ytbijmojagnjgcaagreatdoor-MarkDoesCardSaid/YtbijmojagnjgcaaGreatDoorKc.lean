import Derived.Test.YtbijmojagnjgcaaGreatDoorKb
import Derived.Sort.Row
import Derived.Sort.Grow
import Derived.Laws.MakeOwn
import Derived.RangeFuncLeaves
import Derived.RangeFuncRecord
import Derived.OwnWalkIn
import Derived.KernelRfl
import Derived.Laws.Externs
import Derived.Lib.SliceRun
import Derived.OpenShut
import Derived.Carry
import Derived.SizedLaws
import Derived.LaidLaws
import Derived.LaidHandle
import Derived.FnData
set_option linter.all false
open Array renaming getElem?_eq_none→rP,getElem?_append_left→uY,getElem?_modify→qA,getElem?_eq_getElem→tF
open Bool renaming and_eq_true→zT
open Int renaming eq_ofNat_of_zero_le→tM
open List renaming map_cons→xD,length_replicate→uW,getElem?_eq_none→zM,getElem?_map→xA,getElem?_take→xB,getElem?_drop→xQ,all_cons→yR,getElem?_cons_zero→yN,getElem?_set_ne→zP,getElem?_set_self→zO,mem_cons→wO,take_append_drop→wQ,length_singleton→yW,getElem?_append_left→zW,getElem?_eq_getElem→zR,getElem?_eq_some_iff→yD
open Nat renaming le_refl→zJ,add_mul→wD,lt_or_ge→zV,zero_le→xP,zero_add→yI,add_zero→vK,le_trans→wE,lt_of_lt_of_le→yK,not_lt_zero→rV
open Option renaming map_eq_some_iff→zH,bind_eq_some_iff→yB,map_some→yU,map_none→vC
open Option.some renaming injEq→zA,inj→yY
open Prod.mk renaming injEq→zE
namespace Go.Dn
variable [Globs]
def vT (s:S) (oc:List L) (md:Nat):T→Option (T×List Prop)
  | .h src sz lo len=>match ZhZ s oc src with
    | some (false,sz',xs,ps)=>if sz=sz' then some (.l (.sl sz (win md xs lo len).1),(win md xs lo len).2++ps) else none
    | _=>none
  | t=>some (t,[])
section
variable {P:Program} {g g':G} {s:S} {w w':World}
end
def Ztw (P:Program) (s:S) (o:Oper):Option TV:=
  match o.op with
  | .assign x=>if Zst x then match P.underlying o.type with
    | some (.slice e)=>(P.info? e).map fun i=>.one (.l (.own true i.size []))
    | _=>none
    else none
  | _=>none
theorem ZdB.nil2 {P:Program} {s:S} {o:Oper} {tv:TV} (h:Ztw P s o=some tv):ZdB P o [] s (s.put o.dst tv):=by
  refine .value fun g w a hs=>?_;unfold Ztw at h;split at h<;>try (cases h;done)
  rename_i x ho;split at h<;>try (cases h;done)
  rename_i hnil;split at h<;>try (cases h;done)
  obtain ⟨i,h1,rfl⟩:=zH.1 h;have hv:a.eval x = .slice none 0 0:=by
    unfold Zst at hnil;split at hnil
    · rfl
    cases hnil
  exact ⟨.slice none 0 0,by simp [execOp,ho,hv],rfl,.ownnil _ _ _⟩
def ZpN (s:S) (k:IntKind):List Int→List (Nat×Operand)→Option (List Int)
  | xs,[]=>some xs
  | xs,(i,x)::r=>match (ev s x).bind Zob with
    | some (.int k' v)=>if k'=k∧i<xs.length then ZpN s k (xs.set i v) r else none
    | _=>none
def buildA (P:Program) (s:S) (o:Oper):Option TV:=
  match o.op with
  | .build t ⟨parts⟩=>match P.underlying t,P.info? t with
    | some (.array n e),some it=>match P.info? e,it.zero with
      | some ie,some z=>match zTs [.arr (match P.underlying e with | some (.int k)=>k | _=>.i64) n (List.replicate n 0)] z.cells.toList with
        | some [.l (.arr k m xs)]=>if ie.size=1 then (ZpN s k xs parts).map fun ys=>.agg [.l (.arr k m ys)] else none
        | _=>none
      | _,_=>none
    | _,_=>none
  | _=>none
section
variable {P:Program} {g g':G} {s:S} {w w':World}
theorem ZpM {k:IntKind} : ∀{parts:List (Nat×Operand)} {xs ys:List Int},ZpN s k xs parts=some ys→ys.length=xs.length
  | [],xs,ys,h=>by simp only [ZpN,zA] at h;subst h;rfl
  | (i,x)::r,xs,ys,h=>by
    simp only [ZpN] at h;split at h<;>try (cases h;done)
    split at h<;>try (cases h;done)
    simpa using ZpM h
theorem Zmb {a:Act} (hs:Sat g s w a.tmps) {k:IntKind} : ∀{parts:List (Nat×Operand)} {xs ys:List Int} {cells:Array Value},ZpN s k xs parts=some ys→cells.toList=xs.map (Value.int k) →
    ∃c',Instr.fill (fun i=>some (i*1,1)) cells (parts.map fun p=>(p.1,a.eval p.2))=some c'∧c'.toList=ys.map (Value.int k)
  | [],xs,ys,cells,h,hc=>by simp only [ZpN,zA] at h;subst h;exact ⟨cells,rfl,hc⟩
  | (i,x)::r,xs,ys,cells,h,hc=>by
    simp only [ZpN] at h;split at h<;>try (cases h;done)
    rename_i k' v hx;split at h<;>try (cases h;done)
    rename_i hh;obtain ⟨rfl,hi⟩:=hh;obtain ⟨tv,h1,h2⟩:=yB.1 hx;have hv:=Zcg hs h1;rw [Zht h2] at hv;have hv:=hv.2.int_eq;have hsz:cells.size=xs.length:=by have:=congrArg List.length hc;simpa using this
    have hnew:(cells.setIfInBounds i (.int k' v)).toList=(xs.set i v).map (Value.int k'):=by
      rw [Array.toList_setIfInBounds,hc,List.map_set]
    obtain ⟨c',h3,h4⟩:=Zmb hs h hnew;refine ⟨c',?_,h4⟩;simp only [xD];unfold Instr.fill;simp only [hv,Value.cells,Nat.mul_one];rw [aE (by simp;omega)];simpa using h3
theorem ZdB.buildA {o:Oper} {tv:TV} (h:Dn.buildA P s o=some tv):ZdB P o [] s (s.put o.dst tv):=by
  refine .value fun g w a hs=>?_;unfold Dn.buildA at h;split at h<;>try (cases h;done)
  rename_i t parts ho;split at h<;>try (cases h;done)
  rename_i n e it hu hit;split at h<;>try (cases h;done)
  rename_i ie z hie hz;split at h<;>try (cases h;done)
  rename_i k m xs hts;split at h<;>try (cases h;done)
  rename_i h1;obtain ⟨ys,h2,rfl⟩:=zH.1 h;have hzt:=ZoL (g:=g) (s:=s) (w:=w) hts;rw [TsR] at hzt;obtain ⟨hl,rest,hz2,hrest⟩:=hzt;rw [TsR] at hrest;subst hrest;rw [List.append_nil] at hz2;obtain ⟨c',h3,h4⟩:=Zmb hs h2 hz2;have hly:ys.length=m:=by rw [ZpM h2];exact hl
  refine ⟨.agg c',?_,⟨c',rfl,?_⟩⟩
  · have hb:P.built t ((⟨parts⟩:Array (Nat×Operand)).map fun (i,x)=>(i,a.eval x)).toList=some c':=by
      have e2:((⟨parts⟩:Array (Nat×Operand)).map fun (i,x)=>(i,a.eval x)).toList=parts.map fun p=>(p.1,a.eval p.2):=by simp
      rw [e2];unfold Program.built;simp only [hit,hu,hz,hie,h1];exact h3
    simp only [execOp,ho,Sem.run_bind,run_build w t _ c' hb,Result.andThen_ok,Sem.run_pure]
  rw [TsR];exact ⟨hly,[],by simpa using h4,by rw [TsR]⟩
def ivs (l:List (IntKind×Int)):List Value:=l.map fun p=>.int p.1 p.2
def ExtI (P:Program) (f:FuncId) (as rs:List (IntKind×Int)):Prop:=∀w,(callFunc f (ivs as).toArray).run P w = .ok (.value (Zqu (ivs rs))) w
def ZlX (s:S):List Operand→Option (List (IntKind×Int))
  | []=>some []
  | x::xs=>match (ev s x).bind Zob,ZlX s xs with
    | some (.int k n),some r=>some ((k,n)::r)
    | _,_=>none
def cvInts:List CV→Option (List (IntKind×Int))
  | []=>some []
  | .one (.int k n)::cs=>(cvInts cs).map ((k,n) :: ·)
  | _=>none
def extOp (s:S) (o:Oper) (P:Program) (d:D):Option (TV×List Prop):=
  match o.op with
  | .call { callee:=.value (.func f),args:=⟨xs⟩,.. }=>match ZlX s xs,cvInts d.rs with
    | some as,some rs=>some (ZhG (rs.map fun p=>.one (.l (.int p.1 p.2))),[ExtI P f as rs])
    | _,_=>none
  | _=>none
theorem ZjF {a:Act} (hs:Sat g s w a.tmps) : ∀{xs:List Operand} {as:List (IntKind×Int)},ZlX s xs=some as→xs.map a.eval=ivs as
  | [],as,h=>by simp only [ZlX,zA] at h;subst h;rfl
  | x::xs,as,h=>by
    simp only [ZlX] at h;split at h<;>simp only [zA,reduceCtorEq] at h;rename_i k n r h1 h2;subst h;obtain ⟨tv,h3,h4⟩:=yB.1 h1;have hv:=Zcg hs h3;rw [Zht h4] at hv;simp only [xD,ivs,hv.2.int_eq];rw [ZjF hs h2];rfl
theorem ZdB.ext {o:Oper} {d:D} {tv:TV} {ps:List Prop} (h:extOp s o P d=some (tv,ps)) (hp:Zcy ps):ZdB P o [] s (s.put o.dst tv):=by
  refine .value fun g w a hs=>?_;unfold extOp at h;split at h<;>try (cases h;done)
  rename_i f xs _ ho;split at h<;>simp only [zA,zE,reduceCtorEq] at h;rename_i as rs has hrs;obtain ⟨rfl,rfl⟩:=h;simp only [Zcy] at hp;refine ⟨Zqu (ivs rs),?_,?_⟩
  · have:=hp w
    rw [←ZjF hs has] at this;simp [execOp,ho,resolve,Deferred.ofValue,Act.eval,invoke,this]
  refine ZlA ?_;clear hp hrs ho
  induction rs with
  | nil=>rw [List.map_nil,ZfP];rfl
  | cons r rs ih=>exact ⟨_,_,rfl,⟨rfl,.int _ _ _⟩,ih⟩
end
end Go.Dn
namespace Go.Dn
variable [Globs]
def ZgY (w:World) (b:Nat):Nat:=match w.heap[b]? with
  | some (.cells a _ _)=>a.size
  | some (.map _ _)=>1
  | _=>0
def G.lift (g:G) (w:World):G:={ g with Z:=fun b=>if (g.ow b).isSome then max (g.Z b) (ZgY w b) else g.Z b}
def toCVB (s:S) (oc:List L) (md:Nat):TV→Option (CV×List Prop)
  | .one (.h src sz lo len)=>match ZhZ s oc src with
    | some (_,sz',xs,ps)=>if sz=sz' then some (.one (.sl sz (win md xs lo len).1),(win md xs lo len).2++ps) else none
    | none=>none
  | .one (.asl r off n lo len)=>match Zgr s oc r with
    | some (c,ps)=>match Zgl c off with
      | some (.arr k m xs)=>if m=n then (if lo=0∧len=n then some (.one (.sl 1 (xs.map fun x=>[.int k x])),ps) else some (.one (.sl 1 (((xs.drop lo).take len).map fun x=>[.int k x])),ps)) else none
      | _=>none
    | none=>none
  | tv=>toCV s oc md tv
def ZoR (s:S) (oc:List L) (md:Nat):List Operand→Option (List CV×List Prop)
  | []=>some ([],[])
  | x::xs=>match ev s x with
    | some tv=>match toCVB s oc md tv,ZoR s oc md xs with
      | some (c,ps),some (cs,qs)=>some (c::cs,ps++qs)
      | _,_=>none
    | none=>none
def ZrB:CV→Bool
  | .one x=>x.plain
  | .agg ls=>ls.all L.plain
  | .row _ _ _=>true
def ZeB (xs:List (List L)):Bool:=xs.all fun x=>x.all L.plain
def ZrZ:List CV→List Prop
  | []=>[]
  | .row _ _ xs::cs=>(ZeB xs=true)::ZrZ cs
  | _::cs=>ZrZ cs
def callB (P:Program) (s:S) (o:Oper) (d:D):Option (List Nat×S×List Prop):=
  match o.op with
  | .call { callee:=.value (.func f),args:=⟨xs⟩,.. }=>match ZoR s d.oc d.wm xs,ZiR (d.ns.headD 0) 0 d.rs with
    | some (cs,ps),some (tvs,r)=>
      if (Zlv (d.ns.headD 0) r).all (fun n=>!TV.mens n s.sl)&&d.rs.all ZrB then
        some (Zlv (d.ns.headD 0) r,(s.setEnt? (d.ns.headD 0) r).put o.dst (ZhG tvs),ps++ZrZ d.rs ++ [ZdP P f cs d.rs])
      else none
    | _,_=>none
  | _=>none
section
variable {P:Program} {g g':G} {s:S} {w w':World}
theorem ZeE (g:G) (w:World):Zdh g (g.lift w) w w:=
  ⟨fun _ _=>rfl,zJ _,fun b=>(by show g.Z b≤if _ then _ else _;split;exact Nat.le_max_left _ _;exact zJ _),fun _ _ _=>rfl,fun _ _=>rfl⟩
theorem ZpC (hm:ZdJ g s w):ZdJ ((g.lift w).out true) (.ofSt (s.seen true)) w:=by
  have h0:ZdJ (g.lift w) (.ofSt (s.seen true)) w:=by
    refine ⟨by simp only [S.ofSt,S.seen,if_true,uW];exact hm.stl,fun i c h hne=>?_,hm.objB,fun n ent h=>by simp [S.ofSt] at h,hm.own,fun b hb=>?_,hm.gl.keep (ZeE g w)⟩
    · simp only [S.ofSt,S.seen,if_true,List.getElem?_replicate] at h
      split at h<;>simp at h;exact absurd h.symm (fun e=>hne (e ▸ rfl))
    show (if _ then _ else _)=_;rw [aE]
    · exact hm.z b hb
    intro h;obtain ⟨t,ht⟩:=Option.isSome_iff_exists.1 h;have:=hm.own b t ht;omega
  have:=ZnZ h0 true;simpa [S.seen,S.ofSt] using this
theorem Zha.slB {t:Ow} {hv v:Value} {e:Bool} {sz lo len:Nat} {xs:List (List L)} (h:Zha g w t hv e sz xs) (hw:Win sz lo len hv v) (hl:lo+len≤xs.length) :
    LR (g.lift w) w none v (.sl sz ((xs.drop lo).take len)):=by
  rcases h with ⟨rfl,rfl⟩ | ⟨b,o,rfl,rfl⟩ | ⟨b,off,cap,a,E,rfl,h2,h3,h4,h5,h6,h7⟩
  · rcases hw with ⟨_,rfl,rfl,rfl⟩ | ⟨b,o,n,c,o',h,_⟩
    · exact .slnil _ _
    cases h
  · rcases hw with ⟨h,_⟩ | ⟨b,o,n,c,o',h,h1,rfl,_⟩
    · cases h
    simp only [Value.slice.injEq,zA,Addr.mk.injEq] at h;obtain ⟨_,rfl,rfl⟩:=h;have:len=0:=by simp at hl;omega
    subst this;simp only [List.drop_nil,List.take_nil,Nat.zero_sub];exact .slz _ _ _
  rcases hw with ⟨h,_⟩ | ⟨b',o,n,c,o',h,h1,rfl,k1,k2⟩
  · cases h
  simp only [Value.slice.injEq,zA,Addr.mk.injEq] at h;obtain ⟨⟨rfl,rfl,-⟩,rfl,rfl⟩:=h;have hlen:((xs.drop lo).take len).length=len:=by simp;omega
  by_cases hc:lo<cap
  · have:=k1 hc;subst this
    refine .sl _ b _ len (cap-lo) sz _ hlen (by omega) ?_ ((ER.keep' (ZeE g w) (h7.dropN lo (by omega)) fun _ _ _=>rfl).takeN len);show _≤if _ then _ else _
    rw [aD (by rw [h3];rfl)];have hbs:ZgY w b=a.size:=by simp [ZgY,h4]
    rw [hbs];have:lo*sz+len*sz≤cap*sz:=by rw [←wD];exact Nat.mul_le_mul_right _ (by omega)
    omega
  have:len=0:=by omega
  subst this;rw [show cap-lo=0 by omega,List.take_zero];exact .slz _ _ _
theorem Zln (hm:ZdJ g s w) {oc:List L} {md:Nat} {tv:TV} {c:CV} {ps:List Prop} {v:Value} {i:Nat} (h:toCVB s oc md tv=some (c,ps)) (hp:Zcy ps) (hv:ZdD g s w v tv):CVR ((g.lift w).out true) w i v c:=by
  have K1:Zdh g ((g.lift w).out true) w w:=(ZeE g w).trans (Zft _ true w);unfold toCVB at h;split at h
  · rename_i src sz lo len
    split at h<;>try (cases h;done)
    rename_i e sz' xs ps' hr;split at h<;>simp only [zA,zE,reduceCtorEq] at h;rename_i hz;subst hz;obtain ⟨rfl,rfl⟩:=h;rw [Zcy.append] at hp;obtain ⟨hv0,t0,k1,k2,_⟩:=ZfA hm hr hp.2;obtain ⟨w1,w2,_⟩:=Zib hp.1;refine ⟨hv.1,?_⟩;rw [w1];exact LR.keep (Zft _ true w) (k2.slB (hv.2.2.2 _ k1) w2)
  · rename_i r off n lo len
    split at h<;>try (cases h;done)
    rename_i c0 ps' hc;split at h<;>try (cases h;done)
    rename_i k m xs hseg;split at h<;>try (cases h;done)
    rename_i hmn;subst hmn;have main:Zcy ps'→LR ((g.lift w).out true) w none v (.sl 1 (((xs.drop lo).take len).map fun x=>[.int k x])):=by
      intro hp';obtain ⟨hin,hok,t,hblk⟩:=ZdU hm hc hp';obtain ⟨q1,o',rfl,q4⟩:=hv.2.2.2 hok;obtain ⟨h2,h3,a,E,h4,h5⟩:=hblk;obtain ⟨k1,k2⟩:=h5.atArr hseg;refine LR.keep (Zft _ true w) ?_;have hlen:(((xs.drop lo).take len).map fun x=>[L.int k x]).length=len:=by simp;omega
      by_cases hlt:lo<m
      · have:=q4 hlt;subst this
        have hsz:off+m≤a.size:=by
          have h6:=k2 (m-1) (by omega);have h7:off+(m-1)<a.toList.length:=by
            rcases zV (off+(m-1)) a.toList.length with h' | h'
            · exact h'
            rw [zM h'] at h6;cases h6
          simp at h7;omega
        refine .sl _ _ _ len (m-lo) 1 _ hlen (by omega) ?_ (ZoI k _ fun j v hj=>?_)
        · show _≤if _ then _ else _
          rw [aD (by rw [h2];rfl)];have hbs:ZgY w (g.rb r)=a.size:=by simp [ZgY,h4]
          rw [hbs];omega
        simp only [xA,xB,xQ] at hj;split at hj<;>simp at hj;rename_i hjl;obtain ⟨y,hy,rfl⟩:=hj;have h6:=k2 (lo+j) (by omega);have h8:xs.getD (lo+j) 0=y:=by simp [List.getD,hy]
        rw [h8] at h6;simp only [World.cell?,h4];rw [show off+lo+j=off+(lo+j) by omega];simpa using h6
      have hl0:len=0:=by omega
      subst hl0;rw [List.take_zero,List.map_nil,show m-lo=0 by omega];exact .slz _ _ _
    split at h<;>simp only [zA,zE] at h<;>obtain ⟨rfl,rfl⟩:=h
    · rename_i hh
      obtain ⟨rfl,rfl⟩:=hh;have:=main hp;refine ⟨hv.1,?_⟩;obtain ⟨_,_,t,hblk⟩:=ZdU hm hc hp;obtain ⟨h2,h3,a,E,h4,h5⟩:=hblk;have hxl:=(h5.atArr hseg).1;rwa [List.drop_zero,List.take_of_length_le (by omega)] at this
    exact ⟨hv.1,main hp⟩
  have h1:=ZjW hm (pu:=true) (i:=i) h hp hv;have K0:Zdh (g.out true) ((g.lift w).out true) w w:=⟨fun _ _=>rfl,zJ _,(ZeE g w).Z,fun _ _ _=>rfl,fun _ _=>rfl⟩
  exact CVR.in K0 (ZmN h) h1
theorem ZkA {oc:List L} {md:Nat} {a:Act} (hs:Sat g s w a.tmps) : ∀{xs:List Operand} {cs:List CV} {ps:List Prop} {i:Nat},ZoR s oc md xs=some (cs,ps)→Zcy ps→Zgh ((g.lift w).out true) w i (xs.map a.eval) cs
  | [],cs,ps,i,h,hp=>by simp only [ZoR,zA,zE] at h;obtain ⟨rfl,rfl⟩:=h;rfl
  | x::xs,cs,ps,i,h,hp=>by
    simp only [ZoR] at h;split at h<;>try cases h
    rename_i tv hx;split at h<;>simp only [zA,zE,reduceCtorEq] at h;rename_i c ps1 cs1 qs1 h1 h2;obtain ⟨rfl,rfl⟩:=h;rw [Zcy.append] at hp;exact ⟨_,_,rfl,Zln hs.mem h1 hp.1 (Zcg hs hx),ZkA hs h2 hp.2⟩
theorem LR.plain {p:Option (Nat×Nat)} {v:Value} {x:L} (hob:g'.ob=g.ob) (hnob:g'.nob=g.nob) (hx:x.plain=true) (h:LR g w p v x):LR g' w' p v x:=by
  cases h<;>first | (simp [L.plain] at hx;done) | skip
  · exact .int _ _ _
  · exact .bool _ _
  · exact .str _ _
  · exact .nilp _
  rename_i i hi;rw [←hob];exact .ref _ i (by rw [hnob];exact hi)
theorem CR.plain (hob:g'.ob=g.ob) (hnob:g'.nob=g.nob) : ∀{p:Option (Nat×Nat)} {vs:List Value} {ls:List L},CR g w p vs ls→ls.all L.plain=true→CR g' w' p vs ls
  | _,_,_,.nil _,_=>.nil _
  | _,_,_,.one _ v vs l ls hv h1 hr,hp=>by
    simp only [yR,zT] at hp;exact .one _ v vs l ls (LR.plain hob hnob hp.1 hv) h1 (CR.plain hob hnob hr hp.2)
  | _,_,_,.arr _ k n xs vs ls hn hr,hp=>by
    simp only [yR,zT] at hp;exact .arr _ k n xs vs ls hn (CR.plain hob hnob hr hp.2)
  | _,_,_,.brr _ n xs vs ls hn hr,hp=>by
    simp only [yR,zT] at hp;exact .brr _ n xs vs ls hn (CR.plain hob hnob hr hp.2)
theorem ER.plain (hob:g'.ob=g.ob) (hnob:g'.nob=g.nob) : ∀{xs:List (List L)} {b off sz:Nat},ER g w b off sz xs→ZeB xs=true→ER g' w b off sz xs
  | _,_,_,_,.nil _ _ _,_=>.nil _ _ _
  | _,_,_,_,.cons b off sz vs x xs hn hc hx hr,hp=>by
    simp only [ZeB,yR,zT] at hp;exact .cons _ _ _ vs x xs hn hc (CR.plain hob hnob hx hp.1) (ER.plain hob hnob hr hp.2)
def G.backB (g:G) (w:World) (g':G) (p n:Nat) (hv:Value):G:=
  { g' with ow:=fun b=>if b<w.heap.size then g.ow b else Zia p n (g'.ow b),Z:=fun b=>if b<w.heap.size then g.Z b else g'.Z b,sb:=g.sb,hd:=ZgF g.hd n hv}
theorem ZqA (g:G) (b:Nat):(g.out true).ow b=none∨(g.out true).ow b=some .foreign:=by
  cases h:g.ow b with
  | none=>exact .inl (ZiJ.2 h)
  | some t=>
    right;cases t<;>simp [G.out,h];rename_i b' o;cases h2:g.ow b' with
    | none=>rfl
    | some t2=>cases t2<;>rfl
theorem Zhy (hM:Mod ((g.lift w).out true) g' w w') {p n:Nat} {hv:Value} {b:Nat} (hb:b<w.heap.size):Zhl g (g.backB w g' p n hv) w w' b:=by
  have h1:Zhl ((g.lift w).out true) g' w w' b:=by
    rcases hM.same b hb with h1 | h1
    · exact h1
    rcases ZqA (g.lift w) b with h2 | h2
    · exact absurd h2 h1.1
    exact absurd h2 h1.2
  refine ⟨h1.1,?_,?_⟩
  · show (if b<w.heap.size then g.ow b else _)=_
    rw [aD hb]
  show (if b<w.heap.size then g.Z b else _)=_;rw [aD hb]
theorem Zmo (hm:ZdJ g s w) (hM:Mod ((g.lift w).out true) g' w w') {p n:Nat} {hv:Value}:Zdh g (g.backB w g' p n hv) w w':=by
  refine ⟨hM.keep.ob,hM.keep.nob,fun b=>?_,fun b o ho=>?_,fun b ho=>?_⟩
  rotate_left 2
  · have hb:b<w.heap.size:=by
      rcases zV b w.heap.size with h | h
      · exact h
      rw [hm.z b h] at ho;omega
    simp only [Zkj];rw [(Zhy (p:=p) (n:=n) (hv:=hv) hM hb).1]
  · show g.Z b≤if b<w.heap.size then g.Z b else g'.Z b
    split
    · exact zJ _
    rw [hm.z b (by omega)];exact xP _
  have hb:b<w.heap.size:=by
    rcases zV b w.heap.size with h | h
    · exact h
    rw [hm.z b h] at ho;omega
  exact ZdC (Zhy (p:=p) (n:=n) (hv:=hv) hM hb).1
theorem Zum (hm:ZdJ g s w) (hM:Mod ((g.lift w).out true) g' w w') {p n:Nat} {hv:Value}:Mod g (g.backB w g' p n hv) w w':=by
  refine ⟨Zmo hm hM,hM.os,hM.tape,hM.output,hM.size,fun b hb=>.inl (Zhy hM hb),fun b hb h1 h2=>?_,hM.newob⟩;have e:(g.backB w g' p n hv).ow b=g.ow b:=(Zhy hM hb).2.1;rw [e] at h1 h2;exact ⟨h1,h2⟩
theorem ZpX {s s':S} {a:Act} {dst:Option Nat} {n:Nat} {rs:List CV} {tvs:List TV} {r:Option (Nat×Ent)} {us:List Value}
    (hs:Sat g s w a.tmps) (hrs:ZiR n 0 rs=some (tvs,r)) (hX:(Zlv n r).all (fun n=>!TV.mens n s.sl)=true) (hfl:rs.all ZrB=true) (hpl : ∀e sz xs,CV.row e sz xs∈rs→ZeB xs=true)
    (hM:Mod ((g.lift w).out true) g' w w') (hm':ZdJ g' (.ofSt (s.seen true)) w') (hus:Zgh g' w' 0 us rs)
    (esl:s'.sl=(s.put dst (ZhG tvs)).sl) (esi:s'.si=(s.setEnt? n r).si) (est:s'.st=s.st) (eep:s'.ep=s.ep) :
    ∃g'',Mod g g'' w w'∧ZbK (· ∈ Zlv n r) s s' g g'' w w'∧Sat g'' s' w' (a.put dst (Zqu us)).tmps:=by
  obtain ⟨hr1,hr2⟩:=ZlK hrs;have hm:=hs.mem;obtain ⟨p,hv,hrow,hnone⟩ : ∃p hv,(∀(j:Nat) (e:Bool) (sz:Nat) (xs:List (List L)),rs[j]? = some (CV.row e sz xs)→us[j]? = some hv∧p=j)∧(r=none→hv=g.hd n):=by
    cases hr:r with
    | none=>exact ⟨0,g.hd n,fun j e sz xs h=>(by have:=hr1 j e sz xs h;rw [hr] at this;cases this),fun _=>rfl⟩
    | some q=>
      obtain ⟨j,e,sz,xs,rfl,h2⟩:=hr2 q hr;obtain ⟨v,h3,h4⟩:=hus.get h2;refine ⟨j,v,fun j' e' sz' xs' h=>?_,fun h=>by cases h⟩;have:=hr1 j' e' sz' xs' h;rw [hr] at this;simp only [yI,zA,zE] at this;obtain ⟨rfl,_⟩:=this;exact ⟨h3,rfl⟩
  have K:=Zmo (p:=p) (n:=n) (hv:=hv) hm hM;have sm : ∀{b:Nat} {t:Ow},g.ow b=some t→Zhl g (g.backB w g' p n hv) w w' b:=fun {b t} h=>Zhy hM (hm.own b t h);have hnob:g'.nob=g.nob:=by
    have h1:=hm'.stl;simp only [S.ofSt,S.seen,if_true,uW] at h1;exact h1.symm.trans hm.stl
  have newrow : ∀{v:Value} {e:Bool} {sz:Nat} {xs:List (List L)},ZeB xs=true→Zha g' w' (.rowS p) v e sz xs→Zha (g.backB w g' p n hv) w' (.rowS n) v e sz xs:=by
    rintro v e sz xs hplain (h1 | h1 | ⟨b1,o1,cap,aa,E,rfl,k2,k3,k4,k5,k6,k7⟩)
    · exact .inl h1
    · exact .inr (.inl h1)
    have hb : ¬ b1<w.heap.size:=by
      intro hb;rcases hM.same b1 hb with h2 | h2
      · rcases ZqA (g.lift w) b1 with h3 | h3<;>(rw [h2.2.1,h3] at k3;cases k3)
      rcases ZqA (g.lift w) b1 with h3 | h3
      · exact absurd h3 h2.1
      exact absurd h3 h2.2
    refine .inr (.inr ⟨b1,o1,cap,aa,E,rfl,k2,?_,k4,k5,?_,ER.plain (g:=g') (g':=g.backB w g' p n hv) rfl rfl k7 hplain⟩)
    · show (if b1<w.heap.size then g.ow b1 else Zia p n (g'.ow b1))=_
      rw [aE hb,k3];simp [Zia]
    show (if b1<w.heap.size then g.Z b1 else g'.Z b1)=_;rw [aE hb];exact k6
  have hslots : ∀{rs:List CV} {i:Nat} {us:List Value} {tvs:List TV} {r:Option (Nat×Ent)},ZiR n i rs=some (tvs,r)→rs.all ZrB=true →
      Zgh g' w' i us rs→(∀(j:Nat) (e:Bool) (sz:Nat) (xs:List (List L)),rs[j]? = some (CV.row e sz xs)→us[j]? = some hv)→ZfP (g.backB w g' p n hv) s' w' us tvs:=by
    intro rs
    induction rs with
    | nil=>
      intro i us tvs r h _ hu _;simp only [ZiR,zA,zE] at h;obtain ⟨rfl,rfl⟩:=h;exact hu
    | cons c cs ih=>
      intro i us tvs r h hfl hu hr;simp only [yR,zT] at hfl;obtain ⟨v,rest,rfl,hc,hu⟩:=hu;simp only [ZiR] at h;split at h<;>try cases h
      rename_i tvs1 r1 h1;have ih:=ih h1 hfl.2 hu fun j e sz xs hj=>by simpa using hr (j+1) e sz xs (by simpa using hj)
      split at h
      · simp only [zA,zE] at h;obtain ⟨rfl,rfl⟩:=h
        exact ⟨v,rest,rfl,⟨hc.1,LR.plain (g:=g') rfl rfl hfl.1 hc.2⟩,ih⟩
      · simp only [zA,zE] at h;obtain ⟨rfl,rfl⟩:=h
        obtain ⟨vs,rfl,h3⟩:=hc;exact ⟨_,rest,rfl,⟨vs,rfl,CR.toTs (CR.plain (g:=g') (g':=g.backB w g' p n hv) (w':=w') rfl rfl h3 hfl.1)⟩,ih⟩
      rename_i e sz xs;split at h<;>simp only [zA,zE,reduceCtorEq] at h;obtain ⟨rfl,rfl⟩:=h;have hveq:=hr 0 e sz xs rfl;simp only [yN,zA] at hveq;subst hveq;refine ⟨v,rest,rfl,?_,ih⟩;simp only [CVR] at hc;rcases hc with ⟨rfl,rfl⟩ | ⟨b1,o1,rfl,rfl⟩ | ⟨b1,o1,cap,aa,E,rfl,k2,k3,k4,k5,k6,k7⟩
      · refine ⟨rfl,⟨_,_,rfl,.inl rfl⟩,fun _ _ _ _ _=>xP _,?_⟩
        rintro hv' ⟨_,rfl⟩;left;exact ⟨ZbQ _ _ _,rfl,rfl,rfl⟩
      · refine ⟨rfl,⟨_,_,rfl,.inl rfl⟩,fun _ _ _ _ _=>xP _,?_⟩
        rintro hv' ⟨_,rfl⟩;right;exact ⟨b1,o1,0,0,o1,ZbQ _ _ _,⟨by simp,zJ _⟩,by simp,fun h=>by omega,fun _=>rfl⟩
      refine ⟨rfl,⟨_,_,rfl,.inr rfl⟩,fun _ _ _ _ _=>xP _,?_⟩;rintro hv' ⟨_,rfl⟩;right;exact ⟨b1,o1,xs.length,cap,o1,ZbQ _ _ _,⟨by omega,k2⟩,by simp,fun _=>by simp,fun _=>rfl⟩
  have hXn : ∀m,m∉Zlv n r→s'.si[m]? = s.si[m]? ∧ (g.backB w g' p n hv).hd m=g.hd m:=by
    intro m hm;rw [esi];cases hr:r with
    | none=>
      refine ⟨rfl,?_⟩;by_cases e:m=n
      · subst e;exact (ZbQ _ _ _).trans (hnone hr)
      exact Zds _ _ e
    | some q=>
      rw [hr] at hm;have e:m≠n:=fun e=>hm (by simp [Zlv,e]);exact ⟨zP (fun e'=>e e'.symm),Zds _ _ e⟩
  have oldE : ∀m ent,s.si[m]? = some (some ent)→(g.backB w g' p n hv).hd m=g.hd m→Zgu (g.backB w g' p n hv) w' m ent:=by
    intro m ent h hhd;have h1:=hm.site m ent h;cases ent with
    | cells c=>exact ZmM.keep K h1 (sm h1.1) (fun b' o hb=>sm hb)
    | row ver e sz xs=>
      simp only [Zgu] at h1 ⊢;rw [hhd];exact h1.keep K (fun b hb=>sm hb)
    | mp es=>
      simp only [Zgu] at h1 ⊢;rw [hhd];exact h1.keep K (fun b hb=>sm hb)
  have hmS:ZdJ (g.backB w g' p n hv) s' w':=by
    refine ⟨by rw [est];exact hm.stl.trans hnob.symm,fun i c h hne=>?_,fun i hi=>?_,fun m ent h=>?_,fun b t h=>?_,fun b hb=>?_,hm.gl.keep K⟩
    · rw [est] at h
      have h1:=hm.obj i c h hne;have hi:i<g.nob:=by
        rw [←hm.stl];rcases zV i s.st.length with h' | h'
        · exact h'
        rw [zM h'] at h;cases h
      show ZmM (g.backB w g' p n hv) w' (g'.ob i) (.obj i) c;rw [show g'.ob i=g.ob i from hM.keep.ob i hi];exact h1.keep K (sm h1.1) (fun b' o hb=>sm hb)
    · have hi':i<g.nob:=by rw [←hnob];exact hi
      show (g.backB w g' p n hv).ow (g'.ob i)=_∨(g.backB w g' p n hv).ow (g'.ob i)=_;rw [show g'.ob i=g.ob i from hM.keep.ob i hi'];rcases hm.objB i hi' with h1 | h1
      · exact .inl ((sm h1).2.1.trans h1)
      exact .inr ((sm h1).2.1.trans h1)
    · by_cases hmX:m∈Zlv n r
      · obtain ⟨q,hq⟩ : ∃q,r=some q:=by
          cases hr:r with
          | none=>rw [hr] at hmX;simp [Zlv] at hmX
          | some q=>exact ⟨q,rfl⟩
        rw [hq] at hmX;simp [Zlv] at hmX;subst hmX;rw [esi,hq] at h;simp only [S.setEnt?,S.setEnt] at h;have hd:m<s.si.length:=by
          rcases zV m s.si.length with h' | h'
          · exact h'
          rw [zM (by simpa using h')] at h;cases h
        rw [zO hd] at h;simp only [zA] at h;obtain ⟨j,e,sz,xs,rfl,h2⟩:=hr2 q hq;simp only at h;subst h;obtain ⟨h3,rfl⟩:=hrow j e sz xs h2;obtain ⟨v,h4,h5⟩:=hus.get h2;rw [h3] at h4;cases h4;simp only [Zgu];rw [show (g.backB w g' p m hv).hd m=hv from ZbQ _ _ _];simp only [CVR,yI] at h5;exact newrow (hpl e sz xs (List.mem_of_getElem? h2)) h5
      obtain ⟨h1,h2⟩:=hXn m hmX;rw [h1] at h;exact oldE m ent h h2
    · by_cases hb:b<w.heap.size
      · have:=hM.size;omega
      have e:(g.backB w g' p n hv).ow b=Zia p n (g'.ow b):=by
        show (if _ then _ else _)=_;rw [aE hb]
      rw [e] at h;cases hb:g'.ow b with
      | none=>rw [hb] at h;cases h
      | some t'=>exact hm'.own b t' hb
    show (if b<w.heap.size then _ else _)=_;have:=hM.size;rw [aE (by omega)];exact hm'.z b hb
  have k:ZbK (· ∈ Zlv n r) s s' g (g.backB w g' p n hv) w w':=by
    refine ⟨K,fun m hm' h=>?_,fun m ver hm' h=>?_,fun m hm' h=>?_,fun h rt hg hi hok _ _ off hv' hc=>?_,by rw [eep];exact zJ _⟩
    · obtain ⟨c,h⟩:=h
      rw [(hXn m hm').1] at h;exact ⟨⟨c,h⟩,rfl⟩
    · obtain ⟨e,sz,xs,h⟩:=h
      rw [(hXn m hm').1] at h;exact .inl ⟨⟨e,sz,xs,h⟩,(hXn m hm').2⟩
    · obtain ⟨es,h⟩:=h
      rw [(hXn m hm').1] at h;exact ⟨⟨es,h⟩,(hXn m hm').2⟩
    left;have hsm:Zhl g (g.backB w g' p n hv) w w' (g.rb rt):=by
      cases rt with
      | site m=>
        obtain ⟨c,hok⟩:=hok;exact sm (hm.site m _ hok).1
      | obj i=>
        rcases hm.objB i hi with h | h<;>exact sm h
      | glob j=>exact absurd rfl (hg j)
    rwa [ZdC hsm.1] at hc
  have hfin:=hs.next k (fun m hm=>by
    have:=List.all_eq_true.1 hX m hm;simpa using this) hmS (by rw [esi];cases r<;>simp [S.setEnt?,S.setEnt]) (dst:=dst) (tv:=ZhG tvs) (v:=Zqu us) esl (fun _=>ZlA (hslots hrs hfl hus fun j e sz xs h=>(hrow j e sz xs h).1))
  exact ⟨_,Zum hm hM,k,hfin⟩
theorem Zii : ∀{rs:List CV},Zcy (ZrZ rs)→∀e sz xs,CV.row e sz xs∈rs→ZeB xs=true
  | [],_,_,_,_,h=>by cases h
  | c::cs,hp,e,sz,xs,h=>by
    cases c with
    | one x=>
      rcases wO.1 h with h | h
      · cases h
      exact Zii (rs:=cs) hp e sz xs h
    | agg x=>
      rcases wO.1 h with h | h
      · cases h
      exact Zii (rs:=cs) hp e sz xs h
    | row e' sz' xs'=>
      simp only [ZrZ] at hp;rw [Zcy.cons] at hp;rcases wO.1 h with h | h
      · cases h;exact hp.1
      exact Zii hp.2 e sz xs h
theorem ZdB.callB {s s':S} {o:Oper} {d:D} {X:List Nat} {ps:List Prop} (h:Dn.callB P s o d=some (X,s',ps)) (hp:Zcy ps):ZdB P o X s s'∧(∃tv,s'.sl=(s.put o.dst tv).sl)∧X.all (fun n=>!TV.mens n s.sl)=true:=by
  unfold Dn.callB at h;split at h<;>try (cases h;done)
  rename_i f xs _ ho;split at h<;>try (cases h;done)
  rename_i cs ps1 tvs r hcs hrs;split at h<;>simp only [zA,zE,reduceCtorEq] at h;rename_i hX;simp only [zT] at hX;obtain ⟨hX,hfl⟩:=hX;obtain ⟨rfl,rfl,rfl⟩:=h;rw [Zcy.append,Zcy.append] at hp;obtain ⟨⟨hp1,hp2⟩,hp3⟩:=hp;simp only [Zcy] at hp3;refine ⟨?_,⟨ZhG tvs,by cases o.dst<;>cases r<;>rfl⟩,hX⟩;intro g w a hs K Q hK;obtain ⟨hent,hp4⟩:=hp3 (s.seen true);unfold Oper.wp;have hrun:(execOp a.eval o).run P w = .ok (.enter f (xs.map a.eval).toArray) w:=by
    have:=Zho hent (xs.map a.eval).toArray w;simp [execOp,ho,resolve,Deferred.ofValue,Act.eval,invoke,this]
  rw [hrun];show Calls P f _ w _;refine (hp4 ((g.lift w).out true) w _ (ZkA hs hcs hp1) (ZpC hs.mem)).mono ?_;rintro e w' ⟨g',us,rfl,hM,hm',hus⟩;obtain ⟨g'',k1,k2,k3⟩:=ZpX hs hrs hX hfl (Zii hp2) hM hm' hus (dst:=o.dst) (s':=(s.setEnt? (d.ns.headD 0) r).put o.dst (ZhG tvs)) (by cases o.dst<;>cases r<;>rfl) (by cases o.dst<;>rfl) (by cases o.dst<;>cases r<;>rfl) (by cases o.dst<;>cases r<;>rfl);exact hK _ _ _ k1 k2 k3
end
end Go.Dn
namespace Go.Dn
variable [Globs]
def stepY (P:Program):ZiD:=fun s o d=>
  match o.op with
  | .assign _=>if d.m=2 then (Ztw P s o).map fun r=>([],s.put o.dst r,[]) else ZsS P s o d
  | .build _ _=>if d.m=3 then (buildA P s o).map fun r=>([],s.put o.dst r,[]) else ZsS P s o d
  | .call { callee:=.value (.func _),.. }=>if d.m=2 then callB P s o d else if d.m=4 then (extOp s o P d).map fun r=>([],s.put o.dst r.1,r.2) else ZsS P s o d
  | _=>ZsS P s o d
theorem stepY_ok (P:Program):ZfZ P (stepY P):=by
  intro s o d X s' ps h hp;have F:=stepF_ok P s o d X s' ps;have put : ∀{α:Type} {x:Option α} {f:α→TV} {g:α→List Prop},(∀r,x=some r→Zcy (g r)→ZdB P o [] s (s.put o.dst (f r)))→x.map (fun r=>(([]:List Nat),s.put o.dst (f r),g r))=some (X,s',ps) →
      ZdB P o X s s'∧(∃tv,s'.sl=(s.put o.dst tv).sl)∧X.all (fun n=>!TV.mens n s.sl)=true:=by
    intro α x f g hok hx;obtain ⟨r,h1,h2⟩:=zH.1 hx;simp only [zE] at h2;obtain ⟨rfl,rfl,rfl⟩:=h2;exact ⟨hok r h1 hp,⟨_,rfl⟩,rfl⟩
  unfold stepY at h;split at h
  · split at h
    · exact put (f:=id) (g:=fun _=>[]) (fun r hr _=>.nil2 hr) h
    exact F h hp
  · split at h
    · exact put (f:=id) (g:=fun _=>[]) (fun r hr _=>.buildA hr) h
    exact F h hp
  · split at h
    · exact ZdB.callB h hp
    split at h
    · exact put (f:=Prod.fst) (g:=Prod.snd) (fun r hr hq=>.ext hr hq) h
    exact F h hp
  exact F h hp
def ZnB (P:Program):ZiD:=stepY P
theorem stepX_ok (P:Program):ZfZ P (ZnB P):=stepY_ok P
def ZtZ (s:S):List Operand→Option (List L)
  | []=>some []
  | x::xs=>match ev s x,ZtZ s xs with
    | some (.one (.l y)),some ls=>if y.single then some (y::ls) else none
    | some (.one (.adr (.obj i) 0)),some ls=>some (.ptr (some i)::ls)
    | _,_=>none
def Ztx (s:S) (o:Oper):Option TV:=
  match o.op with
  | .makeFunc (.func f) ⟨bs⟩ ⟨caps⟩=>(ZtZ s (bs++caps)).map fun ls=>.one (.l (.fn f bs.length ls))
  | _=>none
section
variable {P:Program} {g g':G} {s:S} {w w':World}
theorem Zji {a:Act} (hs:Sat g s w a.tmps) : ∀{xs:List Operand} {ls:List L},ZtZ s xs=some ls→CR g w none (xs.map a.eval) ls
  | [],ls,h=>by simp only [ZtZ,zA] at h;subst h;exact .nil _
  | x::xs,ls,h=>by
    simp only [ZtZ] at h;split at h<;>try (cases h;done)
    · rename_i y ls' hx hxs
      split at h<;>simp only [zA,reduceCtorEq] at h;subst h;have hv:=Zcg hs hx;exact .one _ _ _ _ _ hv.2 hv.1 (Zji hs hxs)
    rename_i i ls' hx hxs;simp only [zA] at h;subst h;have hv:=Zcg hs hx;obtain ⟨h1,_,h2,h3⟩:=hv;have:=h3 trivial;rw [xD,this];exact .one _ _ _ _ _ (.ref _ _ h2) rfl (Zji hs hxs)
theorem ZdB.mkFn {o:Oper} {tv:TV} (h:Ztx s o=some tv):ZdB P o [] s (s.put o.dst tv):=by
  refine .value fun g w a hs=>?_;unfold Ztx at h;split at h<;>try (cases h;done)
  rename_i f bs caps ho;obtain ⟨ls,h1,rfl⟩:=zH.1 h;have hc:=LR.fn (none:Option (Nat×Nat)) f bs.length _ _ (Zji hs h1);have hl:bs.length=(bs.map a.eval).length:=by simp
  rw [List.map_append,hl,List.take_left,List.drop_left] at hc;refine ⟨.func (.func f) (bs.map a.eval).toArray (caps.map a.eval).toArray,?_,rfl,by rw [hl];exact hc⟩;simp [execOp,ho,Instr.makeFunc]
def ZqN (s:S):Operand→Option (FuncId×List CV×List CV)
  | .func f=>some (f,[],[])
  | x=>match ev s x with
    | some (.one (.l (.fn f n cs)))=>if cs.all L.single then some (f,(cs.take n).map .one,(cs.drop n).map .one) else none
    | _=>none
theorem Zgh.append {i:Nat} : ∀{cs ks:List CV} {j:Nat} {us vs:List Value},Zgh g w j us cs→Zgh g w (j+cs.length) vs ks→Zgh g w j (us++vs) (cs++ks)
  | [],ks,j,us,vs,h,h'=>by rw [Zgh] at h;subst h;simpa using h'
  | c::cs,ks,j,us,vs,h,h'=>by
    obtain ⟨v,r,rfl,h1,h2⟩:=h;exact ⟨v,r++vs,rfl,h1,Zgh.append (i:=i) h2 (by rw [show j+1+cs.length=j+(c::cs).length by simp;omega];exact h')⟩
theorem Zgh.ones : ∀{ls:List L} {vs:List Value} {j:Nat},CR g w none vs ls→ls.all L.single=true→Zgh g w j vs (ls.map .one)
  | [],vs,j,h,_=>by cases h;rfl
  | l::ls,vs,j,h,hs=>by
    simp only [yR,zT] at hs;cases h with
    | one _ v vs _ _ hv h1 hr=>exact ⟨v,vs,rfl,⟨h1,hv⟩,Zgh.ones (by simpa [bump] using hr) hs.2⟩
    | arr=>simp [L.single] at hs
    | brr=>simp [L.single] at hs
theorem CR.split : ∀{n:Nat} {vs:List Value} {ls:List L},CR g w none vs ls→ls.all L.single=true→CR g w none (vs.take n) (ls.take n)∧CR g w none (vs.drop n) (ls.drop n)
  | 0,vs,ls,h,_=>by simpa using ⟨CR.nil none,h⟩
  | n+1,vs,[],h,_=>by cases h;simpa using CR.nil none
  | n+1,vs,l::ls,h,hs=>by
    simp only [yR,zT] at hs;cases h with
    | one _ v vs _ _ hv h1 hr=>
      obtain ⟨k1,k2⟩:=CR.split (n:=n) (by simpa [bump] using hr) hs.2;exact ⟨.one _ _ _ _ _ hv h1 k1,k2⟩
    | arr=>simp [L.single] at hs
    | brr=>simp [L.single] at hs
theorem ZoB {a:Act} (hs:Sat g s w a.tmps) {x:Operand} {f:FuncId} {bs ks:List CV} (h:ZqN s x=some (f,bs,ks)) :
    ∃bu us:List Value,(∀args,Deferred.ofValue (a.eval x) args=pure { target:=.fn (.func f) us.toArray,args:=bu.toArray++args})∧∀g',Zdh g g' w w→∀j,Zgh g' w j bu bs∧Zgh g' w j us ks:=by
  unfold ZqN at h;split at h
  · simp only [zA,zE] at h;obtain ⟨rfl,rfl,rfl⟩:=h
    exact ⟨[],[],fun args=>by simp [Act.eval,Deferred.ofValue],fun _ _ _=>⟨rfl,rfl⟩⟩
  split at h<;>try (cases h;done)
  rename_i f' n cs hx;split at h<;>simp only [zA,zE,reduceCtorEq] at h;rename_i hsg;obtain ⟨rfl,rfl,rfl⟩:=h;have hv:=(Zcg hs hx).2;simp only [TR] at hv;generalize a.eval x=v at hv;cases hv with
  | fn _ _ _ vs _ hc=>
    have ha:(cs.take n).all L.single=true∧(cs.drop n).all L.single=true:=by
      rw [←wQ n cs,List.all_append,zT] at hsg;exact hsg
    exact ⟨vs.take n,vs.drop n,fun args=>by simp [Deferred.ofValue],fun g' K j=>⟨Zgh.ones (CR.keep K (CR.split hc hsg).1) ha.1,Zgh.ones (CR.keep K (CR.split hc hsg).2) ha.2⟩⟩
def callC (P:Program) (s:S) (o:Oper) (d:D):Option (List Nat×S×List Prop):=
  match o.op with
  | .call { callee:=.value x,args:=⟨xs⟩,.. }=>match ZqN s x,ZrX s d.oc d.wm xs,ZiR (d.ns.headD 0) 0 d.rs with
    | some (f,bs,ks),some (cs,ps),some (tvs,r)=>
      if (Zlv (d.ns.headD 0) r).all (fun n=>!TV.mens n s.sl) then
        some (Zlv (d.ns.headD 0) r,{ (s.setEnt? (d.ns.headD 0) r).put o.dst (ZhG tvs) with st:=d.st,ep:=s.ep+1},ps ++ [Snd P f (bs++(cs++ks)) s.st d.rs d.st])
      else none
    | _,_,_=>none
  | _=>none
theorem ZdB.callC {s s':S} {o:Oper} {d:D} {X:List Nat} {ps:List Prop} (h:Dn.callC P s o d=some (X,s',ps)) (hp:Zcy ps):ZdB P o X s s'∧(∃tv,s'.sl=(s.put o.dst tv).sl)∧X.all (fun n=>!TV.mens n s.sl)=true:=by
  unfold Dn.callC at h;split at h<;>try (cases h;done)
  rename_i x xs _ ho;split at h<;>try (cases h;done)
  rename_i f bs ks cs ps1 tvs r hcal hcs hrs;split at h<;>simp only [zA,zE,reduceCtorEq] at h;rename_i hX;obtain ⟨rfl,rfl,rfl⟩:=h;rw [Zcy.append] at hp;obtain ⟨hp1,hp2⟩:=hp;simp only [Zcy] at hp2;refine ⟨?_,⟨ZhG tvs,by cases o.dst<;>cases r<;>rfl⟩,hX⟩;obtain ⟨hent,hp3⟩:=hp2;intro g w a hs K Q hK;obtain ⟨bu,us0,hdef,hcap⟩:=ZoB hs hcal;unfold Oper.wp;have hrun:(execOp a.eval o).run P w = .ok (.enter f (bu++(xs.map a.eval++us0)).toArray) w:=by
    have:=Zho hent (bu++(xs.map a.eval++us0)).toArray w;simp [execOp,ho,resolve,hdef,invoke,this]
  rw [hrun];show Calls P f _ w _;have hargs:Zgh (g.out false) w 0 (bu++(xs.map a.eval++us0)) (bs++(cs++ks)):=Zgh.append (i:=0) (hcap _ (Zft g false w) 0).1 (Zgh.append (i:=0) (ZiW hs hcs hp1) (hcap _ (Zft g false w) _).2);refine (hp3 (g.out false) w _ hargs (ZnZ hs.mem false)).mono ?_;rintro e w' ⟨g',us,rfl,hM,hm',hus⟩;obtain ⟨g'',k1,k2,k3⟩:=ZrK (pu:=false) (st':=d.st) (s':={ (s.setEnt? (d.ns.headD 0) r).put o.dst (ZhG tvs) with st:=d.st,ep:=s.ep+1}) hs hrs hX hM hm' hus (fun h=>by cases h) (dst:=o.dst)
    (by cases o.dst<;>cases r<;>rfl) (by cases o.dst<;>rfl) rfl rfl
  exact hK _ _ _ k1 k2 k3
section
variable {n i:Nat}
end
end
end Go.Dn
namespace Go.Dn
variable [Globs]
section
variable {P:Program} {g g':G} {s:S} {w w':World}
def callM (P:Program) (s:S) (o:Oper) (d:D):Option (List Nat×S×List Prop):=none
theorem ZdB.callM {s s':S} {o:Oper} {d:D} {X:List Nat} {ps:List Prop} (h:Dn.callM P s o d=some (X,s',ps)) (hp:Zcy ps):ZdB P o X s s'∧(∃tv,s'.sl=(s.put o.dst tv).sl)∧X.all (fun n=>!TV.mens n s.sl)=true:=by unfold Dn.callM at h;cases h
end
end Go.Dn
namespace Go.Dn
variable [Globs]
def isI (xs:List (List L)):Bool:=xs.all fun x=>match x with
  | [.int .i64 _]=>true
  | _=>false
def Zel (l:List Int):List (List L):=l.map fun n=>[.int .i64 n]
def Zlo (xs:List (List L)):List (List L):=Zel ((xs.map ZfU).mergeSort fun x y=>decide (x≤y))
def SortC (P:Program) (f:FuncId):Prop:=
  ZrU P f∧(∀p cap w,Calls P f #[.slice p 0 cap] w fun e w'=>e = .returned (.tuple #[])∧w'=w) ∧
  ∀(blk off cap:Nat) (zs:List Int) (w:World),Go.Sort.Holds (Value.int .i64) w blk off zs.toArray→blk<w.heap.size→zs.length<4611686018427387904 →
    Calls P f #[.slice (some ⟨blk,off,none⟩) zs.length cap] w fun e w'=>e = .returned (.tuple #[])∧∃n os,w'=Go.Sort.grow (Go.Sort.putRow (Value.int .i64) (Go.Sort.ahead w n) blk off (zs.mergeSort fun x y=>decide (x≤y)).toArray) os
def ZsU (P:Program) (s:S) (o:Oper):Option (S×List Prop):=
  match o.op with
  | .call { callee:=.value (.func f),args:=⟨[x]⟩,.. }=>match ev s x with
    | some (.one (.h (.row n ver) 1 lo len))=>match s.si[n]? with
      | some (some (.row ver' true 1 xs))=>if ver=ver' then
          some ({ s with si:=s.si.set n (some (.row ver true 1 (Zlo xs)))}.put o.dst (.tup []),[lo=0,len=xs.length,isI xs=true,xs.length<4611686018427387904,SortC P f]) else none
      | _=>none
    | _=>none
  | _=>none
section
variable {P:Program} {g g':G} {s:S} {w w':World}
theorem Zlc : ∀{xs:List (List L)},isI xs=true→xs=Zel (xs.map ZfU)
  | [],_=>rfl
  | x::xs,h=>by
    simp only [isI,yR,zT] at h;have h1:=Zlc (xs:=xs) h.2;have h2:=h.1;split at h2<;>simp at h2;rename_i n;simp only [Zel,xD,ZfU] at h1 ⊢;rw [←h1]
theorem ER.cellsI : ∀{l:List Int} {b o:Nat},ER g w b o 1 (Zel l)→∀j v,(l.map (Value.int .i64))[j]? = some v→w.cell? (ad b (o+j))=some v
  | [],b,o,h,j,v,hj=>by simp at hj
  | y::ys,b,o,h,j,v,hj=>by
    simp only [Zel,xD] at h;cases h with
    | cons _ _ _ vs _ _ hn hc hx hr=>
      cases j with
      | zero=>
        simp only [xD,yN,zA] at hj;cases hx with
        | one _ u us _ _ hv h1 hr'=>
          cases hr';have:=hv.int_eq;subst this;subst hj;exact hc 0 _ rfl
      | succ j=>
        simp only [xD,List.getElem?_cons_succ] at hj;have:=ER.cellsI (l:=ys) hr j v hj;rwa [show o+(j+1)=o+1+j by omega]
theorem Zqo {blk off n:Nat} {d:Array Int} {os:Array Obj} {cur:Array Value} {E:TypeId} (h:w.heap[blk]? = some (.cells cur E (0,0))) :
    (Go.Sort.grow (Go.Sort.putRow (Value.int .i64) (Go.Sort.ahead w n) blk off d) os).heap[blk]? = some (.cells (Go.Sort.putCells (Value.int .i64) off d cur) E (0,0)) ∧
    (∀b,b<w.heap.size→b≠blk→(Go.Sort.grow (Go.Sort.putRow (Value.int .i64) (Go.Sort.ahead w n) blk off d) os).heap[b]? = w.heap[b]?) ∧
    w.heap.size≤(Go.Sort.grow (Go.Sort.putRow (Value.int .i64) (Go.Sort.ahead w n) blk off d) os).heap.size:=by
  have hlt:blk<w.heap.size:=by
    rcases zV blk w.heap.size with h' | h'
    · exact h'
    rw [rP h'] at h;cases h
  have hs:(Go.Sort.putRow (Value.int .i64) (Go.Sort.ahead w n) blk off d).heap.size=w.heap.size:=by simp [Go.Sort.putRow,Go.Sort.mapBlock,Go.Sort.ahead]
  refine ⟨?_,fun b hb hne=>?_,?_⟩
  · simp only [Go.Sort.grow]
    rw [uY (by rw [hs];exact hlt)];simp only [Go.Sort.putRow,Go.Sort.mapBlock,Go.Sort.ahead,qA,if_true,h,yU,Go.Sort.onCells]
  · simp only [Go.Sort.grow]
    rw [uY (by rw [hs];exact hb)];simp only [Go.Sort.putRow,Go.Sort.mapBlock,Go.Sort.ahead,qA];rw [aE (fun e=>hne e.symm)]
  simp only [Go.Sort.grow,Array.size_append,hs];omega
theorem ZdB.sort {o:Oper} {s':S} {ps:List Prop} (h:ZsU P s o=some (s',ps)) (hp:Zcy ps):ZdB P o [] s s'∧∃tv,s'.sl=(s.put o.dst tv).sl:=by
  unfold ZsU at h;split at h<;>try (cases h;done)
  rename_i f x _ ho;split at h<;>try (cases h;done)
  rename_i n ver lo len hx;split at h<;>try (cases h;done)
  rename_i ver' xs hsi;split at h<;>simp only [zA,zE,reduceCtorEq] at h;rename_i hver;subst hver;obtain ⟨rfl,rfl⟩:=h;simp only [Zcy] at hp;obtain ⟨rfl,rfl,hI,hlen,hC⟩:=hp;refine ⟨fun g w a hs K Q hK=>?_,⟨.tup [],by cases o.dst<;>rfl⟩⟩;obtain ⟨hent,hC0,hC1⟩:=hC;have hxs:=Zlc hI;obtain ⟨zs,hzs⟩ : ∃zs,zs=xs.map ZfU:=⟨_,rfl⟩
  rw [←hzs] at hxs;have hzl:zs.length=xs.length:=by rw [hzs];simp
  have hrow:=hs.mem.site n _ hsi;simp only [Zgu] at hrow;have hnlt:n<s.si.length:=by
    rcases zV n s.si.length with h' | h'
    · exact h'
    rw [zM h'] at hsi;cases hsi
  have hxv:=Zcg hs hx;have hwin:=hxv.2.2.2 (g.hd n) ⟨⟨_,_,_,hsi⟩,rfl⟩;have hrun:(execOp a.eval o).run P w = .ok (.enter f #[a.eval x]) w:=by
    have:=Zho hent #[a.eval x] w;have hfun:a.eval (.func f) = .func (.func f) #[] #[]:=rfl;simp [execOp,ho,resolve,Deferred.ofValue,hfun,invoke,this]
  unfold Oper.wp;rw [hrun];show Calls P f _ w _;have fin : ∀w',w.heap.size≤w'.heap.size→(w'.os=w.os∧w'.tape=w.tape∧w'.output=w.output)→(∀b,b<w.heap.size→g.ow b≠some (.rowS n)→w'.heap[b]? = w.heap[b]?) →
      (∀b o',o'<g.Z b→w'.cell? (ad b o')=w.cell? (ad b o'))→(∀b,0<g.Z b→Zkj w' b=Zkj w b)→Zha g w' (.rowS n) (g.hd n) true 1 (Zlo xs)→K (a.put o.dst (.tuple #[])) w':=by
    intro w' h1 h2 h3 h4 h4' h5;have Kp:Zdh g g w w':=⟨fun _ _=>rfl,zJ _,fun _=>zJ _,h4,h4'⟩
    obtain ⟨j1,j2,j3⟩:=ZnG (g':=g) (s':={ s with si:=s.si.set n (some (.row ver true 1 (Zlo xs)))}.put o.dst (.tup [])) hs.mem (X:=[]) (n:=n) (ver':=ver) (.inr ⟨_,_,_,_,hsi,.inr ⟨rfl,rfl⟩⟩) ⟨rfl,rfl,rfl⟩ (fun _ _=>rfl) Kp h2 h1
      (fun b hb hne=>⟨h3 b hb hne,rfl,rfl⟩) (fun b t hb=>by have:=hs.mem.own b t hb;omega) (fun b hb=>hs.mem.z b (by omega)) h5 (by cases o.dst<;>rfl) (by cases o.dst<;>rfl) (by cases o.dst<;>rfl)
    refine hK g w' (.tuple #[]) j1 j3 (hs.next j3 (fun _ h=>by cases h) j2 (by cases o.dst<;>simp [S.put]) (dst:=o.dst) (tv:=.tup []) (by cases o.dst<;>rfl) (fun _=>?_));exact ⟨#[],rfl,by rw [ZfP]⟩
  rcases hrow with ⟨h0,h1⟩ | ⟨b,o1,h0,h1⟩ | ⟨b,off,cap,cur,E,h0,h2,h3,h4,h5,h6,h7⟩
  · have hv:a.eval x = .slice none 0 0:=by
      rcases hwin with ⟨_,_,_,h⟩ | ⟨b,o,n',c,o',h,_⟩
      · exact h
      rw [h0] at h;cases h
    rw [hv];refine (hC0 none 0 w).mono ?_;rintro e w' ⟨rfl,rfl⟩;exact fin w' (zJ _) ⟨rfl,rfl,rfl⟩ (fun _ _ _=>rfl) (fun _ _ _=>rfl) (fun _ _=>rfl) (.inl ⟨h0,by rw [h1];simp [Zlo,Zel]⟩)
  · have hv : ∃p c,a.eval x = .slice p 0 c:=by
      rcases hwin with ⟨h,_⟩ | ⟨b',o,n',c,o',h,h',hv,_⟩
      · rw [h0] at h;cases h
      rw [h0] at h;cases h;have:xs.length=0:=by rw [h1];rfl
      rw [this] at hv;exact ⟨_,_,hv⟩
    obtain ⟨p,c,hv⟩:=hv;rw [hv];refine (hC0 p c w).mono ?_;rintro e w' ⟨rfl,rfl⟩;exact fin w' (zJ _) ⟨rfl,rfl,rfl⟩ (fun _ _ _=>rfl) (fun _ _ _=>rfl) (fun _ _=>rfl) (.inr (.inl ⟨b,o1,h0,by rw [h1];simp [Zlo,Zel]⟩))
  rw [aD rfl] at h6;have hv:a.eval x = .slice (some ⟨b,off,none⟩) zs.length cap:=by
    rcases hwin with ⟨h,_⟩ | ⟨b',o,n',c,o',h,h',hv,k1,k2⟩
    · rw [h0] at h;cases h
    rw [h0] at h;simp only [Value.slice.injEq,zA,Addr.mk.injEq] at h;obtain ⟨⟨rfl,rfl,-⟩,rfl,rfl⟩:=h;have:=k2 rfl;subst this;rw [hv,hzl,Nat.sub_zero]
  have hb:b<w.heap.size:=hs.mem.own b _ h3;have hcells:=ER.cellsI (l:=zs) (by rw [←hxs];exact h7);have hfit:off+zs.length≤cur.size:=by rw [hzl];omega
  have hH:Go.Sort.Holds (Value.int .i64) w b off zs.toArray:=by
    intro j hj;have hj':j<zs.length:=by simpa using hj
    refine ⟨?_,by simp [World.frozen?,h4]⟩;have:=hcells j (.int .i64 zs[j]) (by simp [hj']);rw [show (zs.toArray)[j]! = zs[j] by simp [hj']];exact this
  rw [hv];refine (hC1 b off cap zs w hH hb (by rw [hzl];exact hlen)).mono ?_;rintro e w' ⟨rfl,nn,os,rfl⟩;obtain ⟨q1,q2,q3⟩:=Zqo (n:=nn) (off:=off) (d:=(zs.mergeSort fun x y=>decide (x≤y)).toArray) (os:=os) h4;have hcellb : ∀p,(Go.Sort.grow (Go.Sort.putRow (Value.int .i64) (Go.Sort.ahead w nn) b off (zs.mergeSort fun x y=>decide (x≤y)).toArray) os).cell? (ad b p)=(Go.Sort.putCells (Value.int .i64) off (zs.mergeSort fun x y=>decide (x≤y)).toArray cur)[p]? := fun p=>by simp [World.cell?,q1]
  refine fin _ q3 ⟨rfl,rfl,rfl⟩ (fun b' hb' hne=>q2 b' hb' (fun e=>hne (by rw [e];exact h3))) (fun b' o' ho'=>?_) (fun b' hb'=>?_) (.inr (.inr ⟨b,off,cap,_,E,?_,?_,h3,q1,?_,by rw [aD rfl];exact h6,?_⟩))
  · by_cases e:b'=b
    · subst e;omega
    have hb':b'<w.heap.size:=by
      rcases zV b' w.heap.size with h' | h'
      · exact h'
      have:=hs.mem.z b' h';omega
    exact ZdC (q2 b' hb' e)
  · by_cases e:b'=b
    · rw [e,ZhM h4,ZhM q1]
    have hb'':b'<w.heap.size:=by
      rcases zV b' w.heap.size with h' | h'
      · exact h'
      have:=hs.mem.z b' h';omega
    exact Zfi (q2 b' hb'' e)
  · rw [h0];simp [Zlo,Zel]
  · simpa [Zlo,Zel] using h2
  · simpa [Go.Sort.putCells] using h5
  unfold Zlo;rw [←hzs];refine ZoI .i64 _ fun j v hj=>?_;rw [hcellb];simp only [xA] at hj;obtain ⟨y,hy,rfl⟩:=zH.1 hj;have hjl:j<(zs.mergeSort fun x y=>decide (x≤y)).length:=by
    rcases zV j (zs.mergeSort fun x y=>decide (x≤y)).length with h' | h'
    · exact h'
    rw [zM h'] at hy;cases hy
  have hjl':j<zs.length:=by simpa using hjl
  have hcur:off+j<cur.size:=by omega
  simp only [Go.Sort.putCells,Array.getElem?_mapIdx,tF hcur,yU];rw [aD ⟨by omega,by simpa using hjl'⟩]
  congr 2
  rw [show off+j-off=j by omega];simp [hy]
end
def clrOp (P:Program) (s:S) (o:Oper):Option (S×List Prop):=none
section
variable {P:Program} {g g':G} {s:S} {w w':World}
theorem ZdB.clr {o:Oper} {s':S} {ps:List Prop} (h:clrOp P s o=some (s',ps)) (hp:Zcy ps):ZdB P o [] s s'∧∃tv,s'.sl=(s.put o.dst tv).sl:=by unfold Dn.clrOp at h;cases h
end
end Go.Dn
namespace Go.Dn
variable [Globs]
def Zlr (s:S) (oc:List L) (md:Nat) (r:Root) (off:Nat) (tv:TV):Option (S×List Prop):=
  match tv with
  | .one (.h (.mem r' off' ep) sz lo len)=>if off'=off∧ep=s.ep then
      match Zgr s oc r with
      | some (c,ps)=>match Zgl c off with
        | some (.own e sz' xs)=>if sz'=sz∧(e=true∨md≤1) then match ZfH c off 1 [.own e sz (win md xs lo len).1] with
            | some c'=>some ((s.setRoot r c').bump true,(r'=r)::(ps++(win md xs lo len).2))
            | none=>none
          else none
        | _=>none
      | none=>none
    else none
  | _=>none
def ZsX (P:Program) (s:S) (d:D) (o:Oper):Option (S×List Prop):=
  match o.dst,o.op with
  | none,.store t x y=>match ev s x,ev s y,P.info? t with
    | some (.one (.adr r off)),some tv,some i=>if i.size=1 then Zlr s d.oc d.wm r off tv else none
    | some (.one (.l (.ptr (some j)))),some tv,some i=>if i.size=1 then Zlr s d.oc d.wm (.obj j) 0 tv else none
    | _,_,_=>none
  | _,_=>none
section
variable {P:Program} {g g':G} {s:S} {w w':World}
theorem ZkB (hm:ZdJ g s w) {t:TypeId} {i:TypeInfo} (hi:P.info? t=some i) (h1c:i.size=1) {oc:List L} {md:Nat} {r:Root} {off:Nat} {tv:TV} {s':S} {ps:List Prop} {v:Value}
    (h:Zlr s oc md r off tv=some (s',ps)) (hp:Zcy ps) (hv:ZdD g s w v tv) :
    ∃w' g',(storeVar t (ad (g.rb r) off) v).run P w = .ok () w'∧Mod g g' w w'∧ZdJ g' s' w'∧ZbK (· ∈ []) s s' g g' w w':=by
  unfold Zlr at h;split at h<;>try (cases h;done)
  rename_i r' off' ep sz lo len;split at h<;>try (cases h;done)
  rename_i hh;obtain ⟨rfl,rfl⟩:=hh;split at h<;>try (cases h;done)
  rename_i c ps' hc;split at h<;>try (cases h;done)
  rename_i e sz' xs hseg;split at h<;>try (cases h;done)
  rename_i hh;obtain ⟨rfl,he⟩:=hh;split at h<;>simp only [zA,zE,reduceCtorEq] at h;rename_i c' hrep;obtain ⟨rfl,rfl⟩:=h;rw [Zcy.cons,Zcy.append] at hp;obtain ⟨rfl,hp1,hp2⟩:=hp;obtain ⟨hri,hrok,hng,hblk⟩:=Zfq hm hc hp1;obtain ⟨cur,E,hb,hcr⟩:=hblk.heap;obtain ⟨u,hu1,hu2,hu3⟩:=hcr.at1 hseg rfl;simp only [bump,yI] at hu3;have hcell:w.cell? (ad (g.rb r') off')=some u:=by simp [World.cell?,hb];simpa using hu1
  have hrow:=ZkM.1 hu3;have hwin:=hv.2.2.2 u ⟨rfl,hrok,hcell⟩;obtain ⟨w1,w2,w3⟩:=Zib hp2;have hnew:=hrow.win hwin w2 (he.imp id w3);rw [←w1] at hnew;have hone:v.oneCell'=true:=hv.1;have hcells:v.cells.toList = [v]:=ZjA hone;have hlt:off'<cur.size:=by
    rcases zV off' cur.toList.length with h' | h'
    · simpa using h'
    rw [zM h'] at hu1;cases hu1
  have hrun:=run_storeCells_at P (g.rb r') off' E [v] 0 cur w hb (by simp only [yW];omega) (by simpa using hone);simp only [vK] at hrun;have hst:((s.setRoot r' c').drop []).bump true=(s.setRoot r' c').bump true:=rfl;obtain ⟨cs,hcs⟩ : ∃cs,cs=(cur.toList.take off' ++ [v]++cur.toList.drop (off' + [v].length)).toArray:=⟨_,rfl⟩
  have hcs':cs.toList=cur.toList.take off' ++ [v]++cur.toList.drop (off' + [v].length):=by rw [hcs]
  rw [←hcs] at hrun;have key:=Zly hm (c':=c') (cs:=cs) (off:=off') (m:=[]) (bp:=true) hc hp1 hb (fun q hq=>by cases hq) (fun h=>by cases h) (by
    intro K hmv hrw;have hl:LR (g.retag (g.rb r') off' []) (w.setRow (g.rb r') cs) (some (g.rb r',off')) v (.own e sz' (win md xs lo len).1):=
      LR.keepO K (fun b' h'=>hrw b' off' h') (ZkM.2 hnew)
    have:=(hcr.keepO K hrw).repl hrep (us:=[v]) (by simpa [Dn.bump] using CR.one _ v [] _ [] hl hone (.nil _)) rfl;rw [hcs'];exact this.2)
  rw [hst] at key;refine ⟨_,_,?_,key⟩;unfold storeVar;rw [Sem.run_bind,ZdS hi];have hne : ¬ (v.cells.size≠i.size):=by
    have:=congrArg List.length hcells;simp only [Array.length_toList,yW] at this;omega
  simp only [Result.andThen_ok,Sem.run_ite,aE hne,hcells];exact hrun
theorem ZdB.self {s s':S} {o:Oper} {d:D} {ps:List Prop} (h:ZsX P s d o=some (s',ps)) (hp:Zcy ps):ZdB P o [] s s'∧∃tv,s'.sl=(s.put o.dst tv).sl:=by
  unfold ZsX at h;have hsl : ∀{r:Root} {off:Nat} {tv:TV},Zlr s d.oc d.wm r off tv=some (s',ps)→s'.sl=s.sl∧s'.si.length=s.si.length:=by
    intro r off tv h;unfold Zlr at h;split at h<;>try (cases h;done)
    split at h<;>try (cases h;done)
    split at h<;>try (cases h;done)
    split at h<;>try (cases h;done)
    split at h<;>try (cases h;done)
    split at h<;>simp only [zA,zE,reduceCtorEq] at h;obtain ⟨rfl,_⟩:=h;exact ZdR _ _ _
  split at h<;>try (cases h;done)
  rename_i t x y hd ho;split at h<;>try (cases h;done)
  · rename_i r off tv i hx hy hi
    split at h<;>try (cases h;done)
    rename_i h1c;obtain ⟨e1,e2⟩:=hsl h;refine ⟨fun g w a hs K Q hK=>?_,⟨.u,by rw [hd];exact e1⟩⟩;obtain ⟨w',g',k1,k2,k3,k4⟩:=ZkB hs.mem hi h1c h hp (Zcg hs hy);have hrok:Zfg s r:=by
      unfold Zlr at h;split at h<;>try (cases h;done)
      split at h<;>try (cases h;done)
      rename_i hh;obtain ⟨rfl,rfl⟩:=hh;split at h<;>try (cases h;done)
      rename_i c ps' hc;split at h<;>try (cases h;done)
      split at h<;>try (cases h;done)
      split at h<;>simp only [zA,zE,reduceCtorEq] at h;obtain ⟨_,rfl⟩:=h;rw [Zcy.cons,Zcy.append] at hp;exact (ZdU hs.mem hc hp.2.1).2.1
    have hx2:=(Zcg hs hx).2.2.2 hrok;unfold Oper.wp;have hexec:(execOp a.eval o).run P w = .ok .skip w':=by simp [execOp,ho,hx2,Instr.storeAt,Instr.sureAddr,k1]
    rw [hexec];exact hK g' w' undef k2 k4 (hs.next k4 (fun _ h=>by cases h) k3 e2 (dst:=o.dst) (tv:=.u) (by rw [hd];exact e1) (by rw [hd];simp))
  rename_i j tv i hx hy hi;split at h<;>try (cases h;done)
  rename_i h1c;obtain ⟨e1,e2⟩:=hsl h;refine ⟨fun g w a hs K Q hK=>?_,⟨.u,by rw [hd];exact e1⟩⟩;obtain ⟨w',g',k1,k2,k3,k4⟩:=ZkB hs.mem hi h1c h hp (Zcg hs hy);have hx2:a.eval x = .pointer (some (ad (g.ob j) 0)):=by
    have:=(Zcg hs hx).2;simp only [TR] at this;generalize a.eval x=v at this;cases this;rfl
  unfold Oper.wp;have hexec:(execOp a.eval o).run P w = .ok .skip w':=by
    have k1':(storeVar t (ad (g.ob j) 0) (a.eval y)).run P w = .ok () w':=k1;simp [execOp,ho,hx2,Instr.storeAt,Instr.sureAddr,k1']
  rw [hexec];exact hK g' w' undef k2 k4 (hs.next k4 (fun _ h=>by cases h) k3 e2 (dst:=o.dst) (tv:=.u) (by rw [hd];exact e1) (by rw [hd];simp))
end
end Go.Dn
namespace Go.Dn
variable [Globs]
def fbOp (s:S) (o:Oper):Option TV:=
  match o.op with
  | .box _ x=>match (ev s x).bind tvL with
    | some ls=>some (.one (.l (.bx (sizes ls) ls)))
    | none=>none
  | _=>none
def ldbOp (P:Program) (s:S) (o:Oper):Option TV:=
  match o.op with
  | .load t x=>match ev s x,ZeS P t,P.info? t with
    | some (.one (.l (.bx _ ls))),some ag,some i=>ZjD ag i.size ls 0 Zit
    | _,_,_=>none
  | _=>none
section
variable {P:Program} {g g':G} {s:S} {w w':World}
theorem ZdB.fb {o:Oper} {tv:TV} (h:fbOp s o=some tv):ZdB P o [] s (s.put o.dst tv):=by
  unfold fbOp at h;split at h<;>try (cases h;done)
  rename_i t x ho;split at h<;>simp only [zA,reduceCtorEq] at h;rename_i ls hls;subst h;obtain ⟨tv,h1,h2⟩:=yB.1 hls;intro g w a hs K Q hK;have hc:=ZoP (p:=none) h2 (Zcg hs h1);have hm:=hs.mem;have hn:(a.eval x).cells.toList.length=sizes ls:=hc.size;unfold Oper.wp;have hexec:(execOp a.eval o).run P w = .ok (.value (.pointer (some ⟨w.heap.size,0,none⟩))) (w.alloc (.cells (a.eval x).cells t)):=by simp [execOp,ho,Instr.box,Go.newVar,Go.newRow]
  rw [hexec];obtain ⟨g',hg'⟩ : ∃g':G,g' = { g with ow:=ZgF g.ow w.heap.size (some .foreign),Z:=ZgF g.Z w.heap.size (sizes ls)}:=⟨_,rfl⟩
  have eow : ∀b,b<w.heap.size→g'.ow b=g.ow b:=fun b hb=>by rw [hg'];exact Zds _ _ (by omega)
  have eZ : ∀b,b<w.heap.size→g'.Z b=g.Z b:=fun b hb=>by rw [hg'];exact Zds _ _ (by omega)
  have eow0:g'.ow w.heap.size=some .foreign:=by rw [hg'];exact ZbQ _ _ _
  have eZ0:g'.Z w.heap.size=sizes ls:=by rw [hg'];exact ZbQ _ _ _
  have eob:g'.ob=g.ob∧g'.nob=g.nob∧g'.sb=g.sb∧g'.hd=g.hd:=by rw [hg'];exact ⟨rfl,rfl,rfl,rfl⟩
  have hsz:(w.alloc (.cells (a.eval x).cells t)).heap.size=w.heap.size+1:=Array.size_push _;have sm : ∀b,b<w.heap.size→Zhl g g' w (w.alloc (.cells (a.eval x).cells t)) b:=fun b hb=>⟨ZeF w _ hb,eow b hb,eZ b hb⟩
  have Kp:Zdh g g' w (w.alloc (.cells (a.eval x).cells t)):=by
    refine ⟨fun i _=>by rw [eob.1],by rw [eob.2.1];exact zJ _,fun b=>?_,fun b o' ho'=>?_,fun b ho'=>?_⟩
    rotate_left 2
    · have hb:b<w.heap.size:=by
        rcases zV b w.heap.size with h' | h'
        · exact h'
        rw [hm.z b h'] at ho';omega
      exact Zfi (ZeF w _ hb)
    · by_cases hb:b<w.heap.size
      · rw [eZ b hb];exact zJ _
      rw [hm.z b (by omega)];exact xP _
    have hb:b<w.heap.size:=by
      rcases zV b w.heap.size with h' | h'
      · exact h'
      rw [hm.z b h'] at ho';omega
    exact ZdC (ZeF w _ hb)
  have so : ∀{b:Nat} {t':Ow},g.ow b=some t'→Zhl g g' w (w.alloc (.cells (a.eval x).cells t)) b:=fun h=>sm _ (hm.own _ _ h);have hM:Mod g g' w (w.alloc (.cells (a.eval x).cells t)):=by
    refine ⟨Kp,rfl,rfl,rfl,by omega,fun b hb=>.inl (sm b hb),fun b hb h1 h2=>?_,fun i h1 h2=>by rw [eob.2.1] at h2;omega⟩;rw [eow b hb] at h1 h2;exact ⟨h1,h2⟩
  have hS:ZdJ g' (s.put o.dst (.one (.l (.bx (sizes ls) ls)))) (w.alloc (.cells (a.eval x).cells t)):=by
    have e1:(s.put o.dst (.one (.l (.bx (sizes ls) ls)))).si=s.si∧(s.put o.dst (.one (.l (.bx (sizes ls) ls)))).st=s.st:=by cases o.dst<;>exact ⟨rfl,rfl⟩
    refine ⟨by rw [e1.2,eob.2.1];exact hm.stl,fun i c h hne=>?_,fun i hi=>?_,fun m ent h=>?_,fun b t' h=>?_,fun b hb=>?_,hm.gl.keep Kp⟩
    · rw [e1.2] at h
      rw [eob.1];have h3:=hm.obj i c h hne;exact h3.keep Kp (so h3.1) (fun b' o' hb=>so hb)
    · rw [eob.1]
      rw [eob.2.1] at hi;rcases hm.objB i hi with h | h
      · exact .inl ((so h).2.1.trans h)
      exact .inr ((so h).2.1.trans h)
    · rw [e1.1] at h
      have h3:=hm.site m ent h;cases ent with
      | cells c=>simp only [Zgu] at h3 ⊢;rw [eob.2.2.1];exact h3.keep Kp (so h3.1) (fun b' o' hb=>so hb)
      | row ver e sz xs=>simp only [Zgu] at h3 ⊢;rw [eob.2.2.2];exact h3.keep Kp (fun b hb=>so hb)
      | mp es=>simp only [Zgu] at h3 ⊢;rw [eob.2.2.2];exact h3.keep Kp (fun b hb=>so hb)
    · by_cases hb:b<w.heap.size
      · omega
      rcases zV w.heap.size b with hb' | hb'
      · rw [hg'] at h
        have:(ZgF g.ow w.heap.size (some Ow.foreign)) b=some t':=h;rw [Zds _ _ (by omega)] at this;have:=hm.own _ _ this;omega
      omega
    rw [hsz] at hb;rw [hg'];show ZgF g.Z w.heap.size (sizes ls) b=0;rw [Zds _ _ (by omega)];exact hm.z b (by omega)
  have hk:ZbK (· ∈ []) s (s.put o.dst (.one (.l (.bx (sizes ls) ls)))) g g' w (w.alloc (.cells (a.eval x).cells t)):=by
    have e1:(s.put o.dst (.one (.l (.bx (sizes ls) ls)))).si=s.si∧(s.put o.dst (.one (.l (.bx (sizes ls) ls)))).ep=s.ep:=by cases o.dst<;>exact ⟨rfl,rfl⟩
    refine ⟨Kp,fun m _ h=>?_,fun m ver _ h=>?_,fun m _ h=>?_,fun _ r hg hi hok _ _ off hv h=>?_,by rw [e1.2];exact zJ _⟩
    · rw [e1.1] at h;exact ⟨h,by rw [eob.2.2.1]⟩
    · rw [e1.1] at h;exact .inl ⟨h,by rw [eob.2.2.2]⟩
    · rw [e1.1] at h;exact ⟨h,by rw [eob.2.2.2]⟩
    left;have hb:Zhl g g' w (w.alloc (.cells (a.eval x).cells t)) (g.rb r):=by
      cases r with
      | site m=>obtain ⟨c,hok⟩:=hok;exact so (hm.site m _ hok).1
      | obj i=>rcases hm.objB i hi with h | h<;>exact so h
      | glob k=>exact absurd rfl (hg k)
    rwa [ZdC hb.1] at h
  refine hK g' _ _ hM hk (hs.next hk (fun _ h=>by cases h) hS (by cases o.dst<;>rfl) (dst:=o.dst) (tv:=.one (.l (.bx (sizes ls) ls))) rfl (fun _=>⟨rfl,?_⟩));refine .bx _ _ w.heap.size 0 ls (a.eval x).cells.toList hn (by rw [eZ0];omega) (fun j v hj=>?_) (CR.keep Kp hc);simp only [World.cell?,heap_alloc_new,yI];simpa using hj
theorem ZdB.ldb {o:Oper} {tv:TV} (h:ldbOp P s o=some tv):ZdB P o [] s (s.put o.dst tv):=by
  refine .value fun g w a hs=>?_;unfold ldbOp at h;split at h<;>try (cases h;done)
  rename_i t x ho;split at h<;>try (cases h;done)
  rename_i n ls ag i hx hag hi;have hv:=(Zcg hs hx).2;simp only [TR] at hv;have key : ∃u,(Instr.loadAt t (a.eval x)).run P w = .ok u w∧ZdD g s w u tv:=by
    generalize a.eval x=v at hv;cases hv with
    | bx _ _ b o' _ vs hn hZ hc hx'=>
      obtain ⟨u,h1,h2⟩:=Zgm (s:=s) hag hi h hx' (b:=b) (o:=o') hc (fun x tv v hx hl hone _=>ZgC hx hl hone) (fun x tv hx=>Zgj hx);refine ⟨u,?_,h2⟩;rw [vK] at h1;simp [Instr.loadAt,Instr.sureAddr,h1]
  obtain ⟨u,h1,h2⟩:=key;exact ⟨u,by simp [execOp,ho,h1],h2⟩
end
end Go.Dn
namespace Go.Dn
variable [Globs]
def sl3Op (P:Program) (s:S) (o:Oper) (d:D):Option (TV×List Prop):=none
def slxOp (P:Program) (s:S) (o:Oper):Option (TV×List Prop):=
  match o.op with
  | .slice t x low (some hx) none=>match P.underlying t with
    | some (.slice e)=>match P.info? e,ev s x with
      | some i,some (.one (.h (.row n ver) sz lo len))=>match bnd s 0 low,bnd s 0 (some hx),s.si[n]? with
        | some (l,ps),some (h,qs),some (some (.row ver' _ _ xs))=>if i.size=sz∧ver=ver' then some (.one (.h (.row n ver) sz (lo+l) (h-l)),ps++qs ++ [l≤h,lo+h≤xs.length]) else none
        | _,_,_=>none
      | _,_=>none
    | _=>none
  | _=>none
def apiOp (P:Program) (s:S) (o:Oper):Option (S×List Prop):=none
section
variable {P:Program} {g g':G} {s:S} {w w':World}
theorem ZdB.sl3 {o:Oper} {d:D} {tv:TV} {ps:List Prop} (h:sl3Op P s o d=some (tv,ps)) (hp:Zcy ps):ZdB P o [] s (s.put o.dst tv):=by unfold Dn.sl3Op at h;cases h
theorem ZmV {a:Act} (hs:Sat g s w a.tmps) {t e:TypeId} {i:TypeInfo} (hu:P.underlying t=some (.slice e)) (hi:P.info? e=some i) {q:Option Addr} {len cap l h:Nat} {low:Option Operand} {hx:Operand} {ps qs:List Prop}
    (hl:bnd s 0 low=some (l,ps)) (hh:bnd s 0 (some hx)=some (h,qs)) (hp:Zcy ps) (hq:Zcy qs) (h1:l≤h) (h2:h≤cap) :
    (Instr.sliceAt t (.slice q len cap) (low.map a.eval) (some (a.eval hx)) none).run P w = .ok (.slice (if cap=l then q else q.map (·.add (l*i.size))) (h-l) (cap-l)) w:=by
  have hb:(Instr.sliceBounds true len cap (low.map a.eval) (some (a.eval hx)) none).run P w = .ok (l,h,cap) w:=by
    unfold Instr.sliceBounds;rcases Zks hs hh hq with ⟨h,_⟩ | ⟨y',k',m',e0,e1',e2',rfl⟩
    · cases h
    cases e0;rcases Zks hs hl hp with ⟨rfl,rfl⟩ | ⟨y,k,m,rfl,e1,e2,rfl⟩
    · simp only [yU,vC,e1',Sem.run_bind,Sem.run_pure,Result.andThen_ok]
      rw [run_sliceBound w k' m' cap _ e2' (by omega)];rfl
    simp only [yU,vC,e1,e1',Sem.run_bind,Sem.run_pure,Result.andThen_ok];rw [run_sliceBound w k' m' cap _ e2' (by omega)];simp only [Result.andThen_ok];rw [run_sliceBound w k m _ _ e2 (by omega)];rfl
  unfold Instr.sliceAt;rw [Sem.run_bind,run_underlying hu];simp only [Result.andThen_ok];unfold Instr.slice;rw [Sem.run_bind,run_underlying hu];simp only [Result.andThen_ok,Sem.run_bind,hb,ZdS hi,Sem.run_pure]
theorem Zha.hdlen {t:Ow} {b o n c:Nat} {e:Bool} {sz:Nat} {xs:List (List L)} (h:Zha g w t (.slice (some (ad b o)) n c) e sz xs):xs.length=n:=by
  rcases h with ⟨h,_⟩ | ⟨_,_,h,rfl⟩ | ⟨_,_,_,_,_,h,_⟩
  · cases h
  · simp only [Value.slice.injEq] at h;simp [h.2.1]
  simp only [Value.slice.injEq] at h;exact h.2.1.symm
theorem ZdB.slx {o:Oper} {tv:TV} {ps:List Prop} (h:slxOp P s o=some (tv,ps)) (hp:Zcy ps):ZdB P o [] s (s.put o.dst tv):=by
  refine .value fun g w a hs=>?_;unfold slxOp at h;split at h<;>try (cases h;done)
  rename_i t x low hx ho;split at h<;>try (cases h;done)
  rename_i e hu;split at h<;>try (cases h;done)
  rename_i i n ver sz lo len hi hxe;split at h<;>try (cases h;done)
  rename_i l ps1 hh qs1 ver' e' sz' xs hl hhi hsi;split at h<;>simp only [zA,zE,reduceCtorEq] at h;rename_i hsz;obtain ⟨hsz,hver⟩:=hsz;subst hsz;subst hver;obtain ⟨rfl,rfl⟩:=h;rw [Zcy.append,Zcy.append] at hp;obtain ⟨⟨hp1,hp2⟩,hp3⟩:=hp;simp only [Zcy] at hp3;obtain ⟨h1,h2⟩:=hp3;have hrow:=hs.mem.site n _ hsi;simp only [Zgu] at hrow;obtain ⟨hone,_,hin,hwin⟩:=Zcg hs hxe;have hH:Hd g s w (.row n ver) (g.hd n):=⟨⟨_,_,_,hsi⟩,rfl⟩
  have ex : ∀{u:Value},(Instr.sliceAt t (a.eval x) (low.map a.eval) (some (a.eval hx)) none).run P w = .ok u w→(execOp a.eval o).run P w = .ok (.value u) w:=by
    intro u h;simp only [execOp,ho,vC,yU,Sem.run_bind,h,Result.andThen_ok,Sem.run_pure]
  rcases hwin _ hH with ⟨hv0,rfl,rfl,hv'⟩ | ⟨b,o0,m,c,o',hv0,⟨k1,k2⟩,hv',k3,k4⟩
  · have hx0:xs = []:=by
      rcases hrow with ⟨_,h⟩ | ⟨_,_,h,_⟩ | ⟨_,_,_,_,_,h,_⟩
      · exact h
      · rw [hv0] at h;cases h
      rw [hv0] at h;cases h
    subst hx0;have e1:hh=0:=by simpa using h2
    have e2:l=0:=by omega
    subst e1;subst e2;have hrun:=ZmV (P:=P) (w:=w) hs hu hi (q:=none) (len:=0) (cap:=0) hl hhi hp1 hp2 h1 (zJ _);rw [←hv'] at hrun;refine ⟨_,ex hrun,rfl,⟨_,_,rfl,.inl rfl⟩,hin,fun hv2 hH2=>?_⟩;rw [Hd.inj hH2 hH];left;exact ⟨hv0,rfl,rfl,rfl⟩
  have hxl:xs.length=m:=by rw [hv0] at hrow;exact hrow.hdlen
  have hrun:=ZmV (P:=P) (w:=w) hs hu hi (q:=some (ad b o')) (len:=len) (cap:=c-lo) hl hhi hp1 hp2 h1 (by omega);rw [←hv'] at hrun;refine ⟨_,ex hrun,rfl,⟨_,_,rfl,.inr (by split<;>rfl)⟩,hin,fun hv2 hH2=>?_⟩;rw [Hd.inj hH2 hH];right;have eadd:(some (ad b o')).map (·.add (l*i.size))=some (ad b (o'+l*i.size)):=by
    simp only [yU,zA];unfold Addr.add;split<;>simp_all
  by_cases hc:c-lo=l
  · rw [aD hc]
    exact ⟨b,o0,m,c,o',hv0,⟨by omega,k2⟩,by rw [Nat.sub_sub],fun h=>by omega,fun h=>k4 (by omega)⟩
  rw [aE hc,eadd];refine ⟨b,o0,m,c,o'+l*i.size,hv0,⟨by omega,k2⟩,by rw [Nat.sub_sub],fun h=>?_,fun h=>?_⟩
  · rw [k3 (by omega),wD];omega
  have e1:lo=0:=by omega
  have e2:l=0:=by omega
  rw [e2];simp [k4 e1]
theorem ZdB.api {o:Oper} {s':S} {ps:List Prop} (h:apiOp P s o=some (s',ps)) (hp:Zcy ps):ZdB P o [] s s'∧∃tv,s'.sl=(s.put o.dst tv).sl:=by unfold Dn.apiOp at h;cases h
end
end Go.Dn
namespace Go.Dn
variable [Globs]
inductive BVs (st:List (List L)):List L→List L→Prop where
  | nil:BVs st [] []
  | pl (l:L) (ls ks:List L) (h:l.plain=true) (r:BVs st ls ks):BVs st (l::ls) (l::ks)
  | sl (sz:Nat) (xs:List (List L)) (ls ks:List L) (r:BVs st ls ks):BVs st (.sl sz xs::ls) (.sl sz xs::ks)
  | own (e:Bool) (sz:Nat) (xs:List (List L)) (ls ks:List L) (r:BVs st ls ks):BVs st (.own e sz xs::ls) (.sl sz xs::ks)
  | mp (es:List (L×L)) (ls ks:List L) (r:BVs st ls ks):BVs st (.mp es::ls) (.mz es::ks)
  | bx (n:Nat) (cs:List L) (ls ks:List L) (r:BVs st ls ks):BVs st (.bx n cs::ls) (.bx n cs::ks)
  | mz (es:List (L×L)) (ls ks:List L) (r:BVs st ls ks):BVs st (.mz es::ls) (.mz es::ks)
  | obj (i n:Nat) (c cs ls ks:List L) (h:st[i]? = some c) (hc:BVs st c cs) (hn:sizes cs=n) (hne:c.isEmpty=false) (r:BVs st ls ks):BVs st (.ptr (some i)::ls) (.bx n cs::ks)
theorem BVs.sizes {st:List (List L)} : ∀{c cs:List L},BVs st c cs→sizes c=sizes cs
  | _,_,.nil=>rfl
  | _,_,.pl _ _ _ _ r=>by simp only [Dn.sizes,r.sizes]
  | _,_,.sl _ _ _ _ r=>by simp only [Dn.sizes,r.sizes]
  | _,_,.own _ _ _ _ _ r=>by simp only [Dn.sizes,r.sizes,L.size]
  | _,_,.mp _ _ _ r=>by simp only [Dn.sizes,r.sizes,L.size]
  | _,_,.bx _ _ _ _ r=>by simp only [Dn.sizes,r.sizes]
  | _,_,.mz _ _ _ r=>by simp only [Dn.sizes,r.sizes]
  | _,_,.obj _ _ _ _ _ _ _ _ _ _ r=>by simp only [Dn.sizes,r.sizes,L.size]
section
variable {P:Program} {g g':G} {s:S} {w w':World}
theorem ZtE {b:Nat} (h:(g.ow b).isSome=true):ZgY w b≤(g.lift w).Z b:=by
  show _≤if _ then _ else _
  rw [aD h];exact Nat.le_max_right _ _
theorem BVs.cr (hm:ZdJ g s w) : ∀{c cs:List L},BVs s.st c cs→∀{p:Option (Nat×Nat)} {vs:List Value},CR g w p vs c→CR (g.lift w) w none vs cs
  | _,_,.nil,_,_,h=>by cases h;exact .nil _
  | _,_,.pl l ls ks hl r,p,_,h=>by
    cases h with
    | one _ v vs _ _ hv h1 hr=>
      refine .one _ _ _ _ _ ?_ h1 (BVs.cr hm r hr);cases hv<;>first | (simp [L.plain] at hl;done) | skip
      · exact .int _ _ _
      · exact .bool _ _
      · exact .str _ _
      · exact .nilp _
      exact .ref _ _ (by assumption)
    | arr _ k n xs vs _ hn hr=>exact .arr _ _ _ _ _ _ hn (BVs.cr hm r hr)
    | brr _ n xs vs _ hn hr=>exact .brr _ _ _ _ _ hn (BVs.cr hm r hr)
  | _,_,.sl sz xs ls ks r,p,_,h=>by
    cases h with
    | one _ v vs _ _ hv h1 hr=>
      refine .one _ _ _ _ _ ?_ h1 (BVs.cr hm r hr);cases hv with
      | slnil=>exact .slnil _ _
      | slz=>exact .slz _ _ _
      | sl _ b off len cap _ _ hl hc hZ he=>exact .sl _ b off len cap _ _ hl hc (wE hZ ((ZeE g w).Z b)) (he.keep (ZeE g w) (by rw [hl];exact hZ))
  | _,_,.own e sz xs ls ks r,p,_,h=>by
    cases h with
    | one _ v vs _ _ hv h1 hr=>
      refine .one _ _ _ _ _ ?_ h1 (BVs.cr hm r hr);cases hv with
      | ownnil=>exact .slnil _ _
      | ownz=>exact .slz _ _ _
      | own q b off len cap _ _ _ a E hl hc ho hb hs hZ he=>
        refine .sl _ b off len cap _ _ hl hc (wE ?_ (ZtE (by rw [ho];rfl))) (he.keep' (ZeE g w) fun _ _ _=>rfl);have:ZgY w b=a.size:=by simp [ZgY,hb]
        have h2:len*sz≤cap*sz:=Nat.mul_le_mul_right _ hc;omega
  | _,_,.mp es ls ks r,p,_,h=>by
    cases h with
    | one _ v vs _ _ hv h1 hr=>
      refine .one _ _ _ _ _ ?_ h1 (BVs.cr hm r hr);cases hv with
      | mp q b cl en _ ho hb he=>
        refine .mz _ b en _ (yK ?_ (ZtE (w:=w) (by rw [ho.1];rfl))) (by simp [Zkj,hb]) (he.keep (ZeE g w));simp [ZgY,hb]
  | _,_,.bx n cs ls ks r,p,_,h=>by
    cases h with
    | one _ v vs _ _ hv h1 hr=>
      refine .one _ _ _ _ _ ?_ h1 (BVs.cr hm r hr);cases hv with
      | bx _ _ b o _ us hn hZ hc hx=>exact .bx _ n b o cs us hn (wE hZ ((ZeE g w).Z b)) hc (hx.keep (ZeE g w))
  | _,_,.mz es ls ks r,p,_,h=>by
    cases h with
    | one _ v vs _ _ hv h1 hr=>
      refine .one _ _ _ _ _ ?_ h1 (BVs.cr hm r hr);cases hv with
      | mz _ b en _ hZ hb he=>exact .mz _ b en _ (yK hZ ((ZeE g w).Z b)) hb (he.keep (ZeE g w))
  | _,_,.obj i n c cs ls ks hst hc hn hne r,p,_,h=>by
    cases h with
    | one _ v vs _ _ hv h1 hr=>
      refine .one _ _ _ _ _ ?_ h1 (BVs.cr hm r hr);cases hv with
      | ref _ _ hi=>
        obtain ⟨h2,h3,a,E,h4,h5⟩:=hm.obj i c hst (by intro e;subst e;simp at hne);have h6:=BVs.cr hm hc h5;have hlen:a.toList.length=n:=by rw [h5.size,hc.sizes];exact hn
        refine .bx _ n _ 0 cs a.toList hlen ?_ (fun j v hj=>?_) h6
        · have hb:ZgY w (g.ob i)=a.size:=by simp [ZgY,h4]
          have:=ZtE (g:=g) (w:=w) (b:=g.ob i) (by rw [h2];rfl);simp at hlen;show 0+n≤(g.lift w).Z (g.ob i);omega
        simp only [World.cell?,h4];simpa using hj
def toCVV (s:S) (oc:List L) (md:Nat) (tv:TV) (c:Option CV):Option (CV×List Prop):=
  match tv,c with
  | .one (.adr (.obj i) 0),some (.one (.bx n cs))=>some (.one (.bx n cs),[BVs s.st [.ptr (some i)] [.bx n cs]])
  | .one (.l (.ptr (some i))),some (.one (.bx n cs))=>some (.one (.bx n cs),[BVs s.st [.ptr (some i)] [.bx n cs]])
  | tv,_=>toCVB s oc md tv
def ZoQ (s:S) (oc:List L) (md:Nat):List Operand→List CV→Option (List CV×List Prop)
  | [],_=>some ([],[])
  | x::xs,ks=>match ev s x with
    | some tv=>match toCVV s oc md tv ks.head?,ZoQ s oc md xs ks.tail with
      | some (c,ps),some (cs,qs)=>some (c::cs,ps++qs)
      | _,_=>none
    | none=>none
def callV (P:Program) (s:S) (o:Oper) (d:D):Option (List Nat×S×List Prop):=
  match o.op with
  | .call { callee:=.value (.func f),args:=⟨xs⟩,.. }=>match ZoQ s d.oc d.wm xs d.cv,ZiR (d.ns.headD 0) 0 d.rs with
    | some (cs,ps),some (tvs,r)=>
      if (Zlv (d.ns.headD 0) r).all (fun n=>!TV.mens n s.sl)&&d.rs.all ZrB then
        some (Zlv (d.ns.headD 0) r,(s.setEnt? (d.ns.headD 0) r).put o.dst (ZhG tvs),ps++ZrZ d.rs ++ [ZdP P f cs d.rs])
      else none
    | _,_=>none
  | _=>none
theorem BVs.val (hm:ZdJ g s w) {i n:Nat} {cs:List L} {v:Value} (h:BVs s.st [.ptr (some i)] [.bx n cs]) (hv:LR g w none v (.ptr (some i))) (h1:v.oneCell'=true):LR ((g.lift w).out true) w none v (.bx n cs):=by
  have h2:=BVs.cr hm h (CR.one none v [] _ [] hv h1 (.nil _));obtain ⟨u,h6,_,h8⟩:=h2.at1 (o:=0) (l:=.bx n cs) rfl rfl;simp only [yN,zA] at h6;subst h6;exact LR.keep (Zft _ true w) h8
theorem Zqj (hm:ZdJ g s w) {oc:List L} {md:Nat} {tv:TV} {k:Option CV} {c:CV} {ps:List Prop} {v:Value} {i:Nat} (h:toCVV s oc md tv k=some (c,ps)) (hp:Zcy ps) (hv:ZdD g s w v tv):CVR ((g.lift w).out true) w i v c:=by
  unfold toCVV at h;split at h
  · simp only [zA,zE] at h;obtain ⟨rfl,rfl⟩:=h
    simp only [Zcy] at hp;obtain ⟨h1,_,h2,h3⟩:=hv;have:=h3 trivial;subst this;exact ⟨h1,BVs.val hm hp (.ref _ _ h2) h1⟩
  · simp only [zA,zE] at h;obtain ⟨rfl,rfl⟩:=h
    simp only [Zcy] at hp;exact ⟨hv.1,BVs.val hm hp hv.2 hv.1⟩
  exact Zln hm h hp hv
theorem Zkz {oc:List L} {md:Nat} {a:Act} (hs:Sat g s w a.tmps) : ∀{xs:List Operand} {ks cs:List CV} {ps:List Prop} {i:Nat},ZoQ s oc md xs ks=some (cs,ps)→Zcy ps→Zgh ((g.lift w).out true) w i (xs.map a.eval) cs
  | [],ks,cs,ps,i,h,hp=>by simp only [ZoQ,zA,zE] at h;obtain ⟨rfl,rfl⟩:=h;rfl
  | x::xs,ks,cs,ps,i,h,hp=>by
    simp only [ZoQ] at h;split at h<;>try cases h
    rename_i tv hx;split at h<;>simp only [zA,zE,reduceCtorEq] at h;rename_i c ps1 cs1 qs1 h1 h2;obtain ⟨rfl,rfl⟩:=h;rw [Zcy.append] at hp;exact ⟨_,_,rfl,Zqj hs.mem h1 hp.1 (Zcg hs hx),Zkz hs h2 hp.2⟩
theorem ZdB.callV {s s':S} {o:Oper} {d:D} {X:List Nat} {ps:List Prop} (h:Dn.callV P s o d=some (X,s',ps)) (hp:Zcy ps):ZdB P o X s s'∧(∃tv,s'.sl=(s.put o.dst tv).sl)∧X.all (fun n=>!TV.mens n s.sl)=true:=by
  unfold Dn.callV at h;split at h<;>try (cases h;done)
  rename_i f xs _ ho;split at h<;>try (cases h;done)
  rename_i cs ps1 tvs r hcs hrs;split at h<;>simp only [zA,zE,reduceCtorEq] at h;rename_i hX;simp only [zT] at hX;obtain ⟨hX,hfl⟩:=hX;obtain ⟨rfl,rfl,rfl⟩:=h;rw [Zcy.append,Zcy.append] at hp;obtain ⟨⟨hp1,hp2⟩,hp3⟩:=hp;simp only [Zcy] at hp3;refine ⟨?_,⟨ZhG tvs,by cases o.dst<;>cases r<;>rfl⟩,hX⟩;intro g w a hs K Q hK;obtain ⟨hent,hp4⟩:=hp3 (s.seen true);unfold Oper.wp;have hrun:(execOp a.eval o).run P w = .ok (.enter f (xs.map a.eval).toArray) w:=by
    have:=Zho hent (xs.map a.eval).toArray w;simp [execOp,ho,resolve,Deferred.ofValue,Act.eval,invoke,this]
  rw [hrun];show Calls P f _ w _;refine (hp4 ((g.lift w).out true) w _ (Zkz hs hcs hp1) (ZpC hs.mem)).mono ?_;rintro e w' ⟨g',us,rfl,hM,hm',hus⟩;obtain ⟨g'',k1,k2,k3⟩:=ZpX hs hrs hX hfl (Zii hp2) hM hm' hus (dst:=o.dst) (s':=(s.setEnt? (d.ns.headD 0) r).put o.dst (ZhG tvs)) (by cases o.dst<;>cases r<;>rfl) (by cases o.dst<;>rfl) (by cases o.dst<;>cases r<;>rfl) (by cases o.dst<;>cases r<;>rfl);exact hK _ _ _ k1 k2 k3
end
end Go.Dn
namespace Go.Dn
variable [Globs]
def G.seat (g:G) (n d:Nat):G:=
  { g with ow:=fun b=>match g.ow b with
    | some (.rowS q)=>if q=n then some (.rowS d) else if q=d then some .foreign else some (.rowS q)
    | x=>x,hd:=ZgF g.hd d (g.hd n)}
def Zta (s:S) (o:Oper):Option (List Nat×S):=
  match o.dst,o.op with
  | some d,.assign x=>match ev s x with
    | some (.one (.h (.row n ver) sz lo len))=>match s.si[n]? with
      | some (some (.row ver1 e sz1 xs))=>if ver1=ver∧n≠d then
          (match s.si[d]? with
          | some (some (.row v0 _ _ _))=>some ([],{ s with si:=(s.si.set n none).set d (some (.row (v0+1) e sz1 xs))}.put (some d) (.one (.h (.row d (v0+1)) sz lo len)))
          | some none=>if TV.mens d s.sl then none else some ([d],{ s with si:=(s.si.set n none).set d (some (.row 0 e sz1 xs))}.put (some d) (.one (.h (.row d 0) sz lo len)))
          | _=>none)
        else none
      | _=>none
    | _=>none
  | _,_=>none
section
variable {P:Program} {g g':G} {s s':S} {w w':World}
theorem ZsZ {n d b:Nat} {t:Ow} (h:g.ow b=some t) (h1:t ≠ .rowS n) (h2:t ≠ .rowS d):(g.seat n d).ow b=some t:=by
  simp only [G.seat,h];cases t<;>try rfl
  rename_i q;show (if q=n then _ else _)=_;rw [aE (fun e=>h1 (by rw [e])),aE (fun e=>h2 (by rw [e]))]
theorem ZsY (hm:ZdJ g s w) {X:List Nat} {n d ver ver':Nat} {e:Bool} {sz:Nat} {xs:List (List L)} (hne:n≠d) (hn:s.si[n]? = some (some (.row ver e sz xs))) (hdlt:d<s.si.length)
    (hd:d∈X∨∃ver0 e0 sz0 xs0,s.si[d]? = some (some (.row ver0 e0 sz0 xs0))∧ver0<ver')
    (hsi:s'.si=(s.si.set n none).set d (some (.row ver' e sz xs))) (hst:s'.st=s.st) (hep:s'.ep=s.ep) :
    Mod g (g.seat n d) w w∧ZdJ (g.seat n d) s' w∧ZbK (· ∈ X) s s' g (g.seat n d) w w:=by
  have K:Zdh g (g.seat n d) w w:=⟨fun _ _=>rfl,zJ _,fun _=>zJ _,fun _ _ _=>rfl,fun _ _=>rfl⟩
  have hS : ∀b t,g.ow b=some t→t ≠ .rowS n→t ≠ .rowS d→Zhl g (g.seat n d) w w b:=fun b t h1 h2 h3=>⟨rfl,(ZsZ h1 h2 h3).trans h1.symm,rfl⟩
  have hnone : ∀b,g.ow b=none→(g.seat n d).ow b=none:=fun b h=>by simp [G.seat,h]
  have get : ∀{m:Nat} {x:Ent},s'.si[m]? = some (some x)→(m=d∧x = .row ver' e sz xs)∨(m≠d∧m≠n∧s.si[m]? = some (some x)):=by
    intro m x h;rw [hsi] at h;by_cases e1:d=m
    · subst e1
      rw [zO (by simpa using hdlt)] at h;simp only [zA] at h;exact .inl ⟨rfl,h.symm⟩
    rw [zP e1] at h;by_cases e2:n=m
    · subst e2
      rw [zO (Znr hn)] at h;cases h
    rw [zP e2] at h;exact .inr ⟨fun e=>e1 e.symm,fun e=>e2 e.symm,h⟩
  have hhd : ∀m,m≠d→(g.seat n d).hd m=g.hd m:=fun m h=>Zds _ _ h;have hrow:Zha (g.seat n d) w (.rowS d) (g.hd n) e sz xs:=by
    have h1:=hm.site n _ hn;simp only [Zgu] at h1;rcases h1 with h1 | h1 | ⟨b,off,cap,a,E,h1,h2,h3,h4,h5,h6,h7⟩
    · exact .inl h1
    · exact .inr (.inl h1)
    exact .inr (.inr ⟨b,off,cap,a,E,h1,h2,by simp [G.seat,h3],h4,h5,h6,h7.keep' K fun _ _ _=>rfl⟩)
  refine ⟨⟨K,rfl,rfl,rfl,zJ _,fun b hb=>?_,fun b hb h1 h2=>?_,fun i h1 h2=>absurd h2 (by show ¬ i<g.nob;omega)⟩,⟨by rw [hst];exact hm.stl,fun i c h hc=>?_,fun i hi=>?_,fun m ent h=>?_,fun b t h=>?_,hm.z,hm.gl.keep K⟩,⟨K,fun m hX h=>?_,fun m v hX h=>?_,fun m hX h=>?_,fun _ r hg hi hr _ _ off hv h=>.inl h,by omega⟩⟩
  · cases hb1:g.ow b with
    | none=>exact .inl ⟨rfl,(hnone b hb1).trans hb1.symm,rfl⟩
    | some t=>
      by_cases e1:t = .foreign
      · subst e1;exact .inl (hS b _ hb1 (by simp) (by simp))
      exact .inr ⟨by simp,fun e=>e1 (yY e)⟩
  · cases hb1:g.ow b with
    | none=>exact absurd (hnone b hb1) h1
    | some t=>
      refine ⟨by simp,fun e=>h2 ?_⟩;cases e;exact ZsZ hb1 (by simp) (by simp)
  · rw [hst] at h
    have h1:=hm.obj i c h hc;exact h1.keep K (hS _ _ h1.1 (by simp) (by simp)) (fun b' o hb=>hS _ _ hb (by simp) (by simp))
  · rcases hm.objB i hi with h | h
    · exact .inl ((hS _ _ h (by simp) (by simp)).2.1.trans h)
    exact .inr ((hS _ _ h (by simp) (by simp)).2.1.trans h)
  · rcases get h with ⟨rfl,rfl⟩ | ⟨m1,m2,h1⟩
    · show Zha _ _ _ ((g.seat n m).hd m) _ _ _
      rw [show (g.seat n m).hd m=g.hd n from ZbQ _ _ _];exact hrow
    have h2:=hm.site m ent h1;cases ent with
    | cells c=>exact ZmM.keep K h2 (hS _ _ h2.1 (by simp) (by simp)) (fun b' o hb=>hS _ _ hb (by simp) (by simp))
    | row v0 e0 sz0 xs0=>
      simp only [Zgu] at h2 ⊢;rw [hhd m m1];exact h2.keep K (fun b hb=>hS _ _ hb (by simp [m2]) (by simp [m1]))
    | mp es=>
      simp only [Zgu] at h2 ⊢;rw [hhd m m1];exact h2.keep K (fun b hb=>hS _ _ hb (by simp [m2]) (by simp [m1]))
  · cases hb1:g.ow b with
    | none=>rw [hnone b hb1] at h;cases h
    | some t'=>exact hm.own b t' hb1
  · obtain ⟨c,h⟩:=h
    rcases get h with ⟨_,h1⟩ | ⟨_,_,h1⟩
    · cases h1
    exact ⟨⟨c,h1⟩,rfl⟩
  · obtain ⟨e0,sz0,xs0,h⟩:=h
    rcases get h with ⟨rfl,h1⟩ | ⟨m1,_,h1⟩
    · cases h1
      rcases hd with hd | ⟨ver0,e1,sz1,xs1,h2,h3⟩
      · exact absurd hd hX
      exact .inr ⟨ver0,e1,sz1,xs1,h2,h3⟩
    exact .inl ⟨⟨_,_,_,h1⟩,hhd m m1⟩
  obtain ⟨es,h⟩:=h;rcases get h with ⟨_,h1⟩ | ⟨m1,_,h1⟩
  · cases h1
  exact ⟨⟨_,h1⟩,hhd m m1⟩
theorem ZdB.seat {o:Oper} {X:List Nat} (h:Zta s o=some (X,s')):ZdB P o X s s'∧(∃tv,s'.sl=(s.put o.dst tv).sl)∧X.all (fun n=>!TV.mens n s.sl)=true:=by
  unfold Zta at h;split at h<;>try (cases h;done)
  rename_i d x hdst ho;split at h<;>try (cases h;done)
  rename_i n ver sz lo len hx;split at h<;>try (cases h;done)
  rename_i ver1 e sz1 xs hn;split at h<;>try (cases h;done)
  rename_i hh;obtain ⟨rfl,hne⟩:=hh;have key : ∀(v':Nat) (X:List Nat) (hdlt:d<s.si.length),(d∈X∨∃ver0 e0 sz0 xs0,s.si[d]? = some (some (.row ver0 e0 sz0 xs0))∧ver0<v')→(∀m∈X,TV.mens m s.sl=false) →
      ZdB P o X s ({ s with si:=(s.si.set n none).set d (some (.row v' e sz1 xs))}.put (some d) (.one (.h (.row d v') sz lo len))):=by
    intro v' X hdlt hd hX g w a hs K Q hK;have hv:=Zcg hs hx;have hexec:(execOp a.eval o).run P w = .ok (.value (a.eval x)) w:=by simp [execOp,ho]
    unfold Oper.wp;rw [hexec];obtain ⟨k1,k2,k3⟩:=ZsY (s':={ s with si:=(s.si.set n none).set d (some (.row v' e sz1 xs))}.put (some d) (.one (.h (.row d v') sz lo len))) hs.mem (X:=X) hne hn hdlt hd rfl rfl rfl;refine hK _ w _ k1 k3 (hs.next k3 hX k2 (by simp [S.put]) (dst:=o.dst) (tv:=.one (.h (.row d v') sz lo len)) (by rw [hdst];rfl) (fun _=>?_));obtain ⟨h1,h2,h3,h4⟩:=hv;have hget:({ s with si:=(s.si.set n none).set d (some (.row v' e sz1 xs))}.put (some d) (.one (.h (.row d v') sz lo len))).si[d]? = some (some (.row v' e sz1 xs)):=by
      show ((s.si.set n none).set d _)[d]? = _;rw [zO (by simpa using hdlt)]
    refine ⟨h1,h2,fun ver'' e'' sz'' xs'' h=>?_,fun hv' hH=>?_⟩
    · rw [hget] at h;cases h;exact zJ _
    obtain ⟨_,rfl⟩:=hH;rw [show (g.seat n d).hd d=g.hd n from ZbQ _ _ _];exact h4 _ ⟨⟨_,_,_,hn⟩,rfl⟩
  split at h
  · rename_i v0 e0 sz0 xs0 hd
    simp only [zA,zE] at h;obtain ⟨rfl,rfl⟩:=h;exact ⟨key _ [] (Znr hd) (.inr ⟨_,_,_,_,hd,Nat.lt_succ_self _⟩) (fun _ h=>by cases h),⟨_,by rw [hdst];rfl⟩,rfl⟩
  · rename_i hd
    split at h<;>simp only [zA,zE,reduceCtorEq] at h;rename_i hmen;obtain ⟨rfl,rfl⟩:=h;have hmen':TV.mens d s.sl=false:=by simpa using hmen
    exact ⟨key _ [d] (Znr hd) (.inl (List.mem_singleton.2 rfl)) (fun m h=>by rw [List.mem_singleton.1 h];exact hmen'),⟨_,by rw [hdst];rfl⟩,by simp [hmen']⟩
  cases h
end
end Go.Dn
namespace Go.Dn
variable [Globs]
def msOp (P:Program) (s:S) (o:Oper):Option (S×List Prop):=none
section
variable {P:Program} {g:G} {s:S} {w:World}
theorem ZdB.ms {o:Oper} {s':S} {ps:List Prop} (h:msOp P s o=some (s',ps)) (hp:Zcy ps):ZdB P o o.dst.toList s s'∧(∃tv,s'.sl=(s.put o.dst tv).sl)∧o.dst.toList.all (fun n=>!TV.mens n s.sl)=true:=by unfold Dn.msOp at h;cases h
end
end Go.Dn
namespace Go.Dn
variable [Globs]
def clr2Op (P:Program) (s:S) (d:D) (o:Oper):Option (S×List Prop):=none
section
variable {P:Program} {g g':G} {s:S} {w w':World}
theorem ZmK.refl (hm:ZdJ g s w) (t:Ow):ZmK g g w w t:=
  ⟨⟨rfl,rfl,rfl,rfl,rfl⟩,⟨fun _ _=>rfl,zJ _,fun _=>zJ _,fun _ _ _=>rfl,fun _ _=>rfl⟩,⟨rfl,rfl,rfl⟩,rfl,fun _ _=>⟨rfl,rfl,rfl⟩,hm.z,fun _ _ _ _ h=>h⟩
theorem ZdB.clr2 {d:D} {o:Oper} {s':S} {ps:List Prop} (h:clr2Op P s d o=some (s',ps)) (hp:Zcy ps):ZdB P o [] s s'∧∃tv,s'.sl=(s.put o.dst tv).sl:=by unfold Dn.clr2Op at h;cases h
end
end Go.Dn
namespace Go.Dn
variable [Globs]
def nstOp (P:Program) (s:S) (d:D) (o:Oper):Option (S×List Prop):=none
section
variable {P:Program} {g g':G} {s:S} {w w':World}
theorem ZdB.nst {s s':S} {o:Oper} {d:D} {ps:List Prop} (h:nstOp P s d o=some (s',ps)) (hp:Zcy ps):ZdB P o [] s s'∧∃tv,s'.sl=(s.put o.dst tv).sl:=by unfold Dn.nstOp at h;cases h
end
end Go.Dn
namespace Go.Dn
variable [Globs]
def ldvOp (P:Program) (s:S) (o:Oper) (d:D):Option (List Nat×S×List Prop):=none
theorem ZdB.ldv {P:Program} {s s':S} {o:Oper} {d:D} {X:List Nat} {ps:List Prop} (h:ldvOp P s o d=some (X,s',ps)) (hp:Zcy ps):ZdB P o X s s'∧(∃tv,s'.sl=(s.put o.dst tv).sl)∧X.all (fun n=>!TV.mens n s.sl)=true:=by unfold Dn.ldvOp at h;cases h
def untOp (s:S) (o:Oper):Option TV:=match o.op with
  | .assign _=>some .u
  | _=>none
theorem ZdB.unt {P:Program} {s:S} {o:Oper} {tv:TV} (h:untOp s o=some tv):ZdB P o [] s (s.put o.dst tv):=by
  refine .value fun g w a hs=>?_;unfold untOp at h;split at h<;>simp only [zA,reduceCtorEq] at h;rename_i x ho;subst h;exact ⟨a.eval x,by simp [execOp,ho],trivial⟩
def ZdZ (P:Program):ZiD:=fun s o d=>
  match o.op with
  | .box _ _=>if d.m=2 then (fbOp s o).map fun r=>([],s.put o.dst r,[]) else ZnB P s o d
  | .load _ _=>if d.m=2 then (ldbOp P s o).map fun r=>([],s.put o.dst r,[]) else if d.m=13 then ldvOp P s o d else ZnB P s o d
  | .assign _=>if d.m=4 then Zta s o |>.map fun r=>(r.1,r.2,[]) else if d.m=14 then (untOp s o).map fun r=>([],s.put o.dst r,[]) else ZnB P s o d
  | .makeFunc _ _ _=>(Ztx s o).map fun r=>([],s.put o.dst r,[])
  | .makeSlice _ _ _=>(msOp P s o).map fun r=>(o.dst.toList,r.1,r.2)
  | .store _ _ _=>if d.m=8 then (ZsX P s d o).map fun r=>([],r.1,r.2) else if d.m=12 then (nstOp P s d o).map fun r=>([],r.1,r.2) else ZnB P s o d
  | .slice _ _ _ _ (some _)=>(sl3Op P s o d).map fun r=>([],s.put o.dst r.1,r.2)
  | .slice _ _ _ _ none=>if d.m=9 then (slxOp P s o).map fun r=>([],s.put o.dst r.1,r.2) else ZnB P s o d
  | .call { callee:=.builtin .append,.. }=>if d.m=9 then (apiOp P s o).map fun r=>([],r.1,r.2) else ZnB P s o d
  | .call { callee:=.builtin .clear,.. }=>if d.m=11 then (clr2Op P s d o).map fun r=>([],r.1,r.2) else (clrOp P s o).map fun r=>([],r.1,r.2)
  | .call { callee:=.value _,.. }=>if d.m=5 then callC P s o d else if d.m=6 then callM P s o d else if d.m=10 then callV P s o d else if d.m=7 then (ZsU P s o).map fun r=>([],r.1,r.2) else ZnB P s o d
  | _=>ZnB P s o d
theorem Zfx (P:Program):ZfZ P (ZdZ P):=by
  intro s o d X s' ps h hp;have F:=stepX_ok P s o d X s' ps;have two : ∀{x:Option (S×List Prop)},(∀s' ps,x=some (s',ps)→Zcy ps→ZdB P o [] s s'∧∃tv,s'.sl=(s.put o.dst tv).sl)→x.map (fun r=>(([]:List Nat),r.1,r.2))=some (X,s',ps) →
      ZdB P o X s s'∧(∃tv,s'.sl=(s.put o.dst tv).sl)∧X.all (fun n=>!TV.mens n s.sl)=true:=by
    intro x hok hx;obtain ⟨r,h1,h2⟩:=zH.1 hx;simp only [zE] at h2;obtain ⟨rfl,rfl,rfl⟩:=h2;obtain ⟨k1,k2⟩:=hok _ _ h1 hp;exact ⟨k1,k2,rfl⟩
  have one : ∀{x:Option TV},(∀r,x=some r→ZdB P o [] s (s.put o.dst r))→x.map (fun r=>(([]:List Nat),s.put o.dst r,([]:List Prop)))=some (X,s',ps)→ZdB P o X s s'∧(∃tv,s'.sl=(s.put o.dst tv).sl)∧X.all (fun n=>!TV.mens n s.sl)=true:=by
    intro x hok hx;obtain ⟨r,h1,h2⟩:=zH.1 hx;simp only [zE] at h2;obtain ⟨rfl,rfl,rfl⟩:=h2;exact ⟨hok r h1,⟨_,rfl⟩,rfl⟩
  have val : ∀{x:Option (TV×List Prop)},(∀r ps,x=some (r,ps)→Zcy ps→ZdB P o [] s (s.put o.dst r))→x.map (fun r=>(([]:List Nat),s.put o.dst r.1,r.2))=some (X,s',ps)→ZdB P o X s s'∧(∃tv,s'.sl=(s.put o.dst tv).sl)∧X.all (fun n=>!TV.mens n s.sl)=true:=by
    intro x hok hx;obtain ⟨r,h1,h2⟩:=zH.1 hx;simp only [zE] at h2;obtain ⟨rfl,rfl,rfl⟩:=h2;exact ⟨hok _ _ h1 hp,⟨_,rfl⟩,rfl⟩
  unfold ZdZ at h;split at h
  · split at h
    · exact one (fun r hr=>.fb hr) h
    exact F h hp
  · split at h
    · exact one (fun r hr=>.ldb hr) h
    split at h
    · exact ZdB.ldv h hp
    exact F h hp
  · split at h
    · obtain ⟨r,h1,h2⟩:=zH.1 h;simp only [zE] at h2;obtain ⟨rfl,rfl,rfl⟩:=h2
      exact ZdB.seat h1
    split at h
    · exact one (fun r hr=>.unt hr) h
    exact F h hp
  · obtain ⟨r,h1,h2⟩:=zH.1 h;simp only [zE] at h2;obtain ⟨rfl,rfl,rfl⟩:=h2
    exact ⟨.mkFn h1,⟨_,rfl⟩,rfl⟩
  · obtain ⟨r,h1,h2⟩:=zH.1 h;simp only [zE] at h2;obtain ⟨rfl,rfl,rfl⟩:=h2
    exact ZdB.ms h1 hp
  · split at h
    · exact two (fun s' ps hr hq=>ZdB.self hr hq) h
    split at h
    · exact two (fun s' ps hr hq=>ZdB.nst hr hq) h
    exact F h hp
  · exact val (fun r ps hr hq=>ZdB.sl3 hr hq) h
  · split at h
    · exact val (fun r ps hr hq=>ZdB.slx hr hq) h
    exact F h hp
  · split at h
    · exact two (fun s' ps hr hq=>ZdB.api hr hq) h
    exact F h hp
  · split at h
    · exact two (fun s' ps hr hq=>ZdB.clr2 hr hq) h
    exact two (fun s' ps hr hq=>ZdB.clr hr hq) h
  · split at h
    · exact ZdB.callC h hp
    split at h
    · exact ZdB.callM h hp
    split at h
    · exact ZdB.callV h hp
    split at h
    · exact two (fun s' ps hr hq=>ZdB.sort hr hq) h
    exact F h hp
  exact F h hp
def G.cut (g:G) (n:Nat):G:={ g with nob:=n}
def flatE:L→Bool
  | .int _ _ | .bool _ | .str _ | .arr _ _ _ | .brr _ _=>true
  | _=>false
def flatL:L→Bool
  | .sl _ xs=>xs.all fun x=>x.all flatE
  | l=>flatE l
def flatV:CV→Bool
  | .one x=>flatL x
  | .agg ls=>ls.all flatL
  | .row _ _ xs=>xs.all fun x=>x.all flatE
section
variable {g g':G} {w w':World}
theorem LR.flatE {p:Option (Nat×Nat)} {n:Nat} {v:Value} {l:L} (hl:Dn.flatE l=true) (h:LR g w p v l):LR (g.cut n) w p v l:=by
  cases h<;>first | (simp [Dn.flatE] at hl;done) | skip
  · exact .int _ _ _
  · exact .bool _ _
  exact .str _ _
theorem CR.flatE {n:Nat} : ∀{p:Option (Nat×Nat)} {vs:List Value} {ls:List L},CR g w p vs ls→ls.all Dn.flatE=true→CR (g.cut n) w p vs ls
  | _,_,_,.nil _,_=>.nil _
  | _,_,_,.one _ v vs l ls hv h1 hr,hl=>by
    simp only [yR,zT] at hl;exact .one _ _ _ _ _ (hv.flatE hl.1) h1 (CR.flatE hr hl.2)
  | _,_,_,.arr _ k n xs vs ls hn hr,hl=>by
    simp only [yR,zT] at hl;exact .arr _ _ _ _ _ _ hn (CR.flatE hr hl.2)
  | _,_,_,.brr _ n xs vs ls hn hr,hl=>by
    simp only [yR,zT] at hl;exact .brr _ _ _ _ _ hn (CR.flatE hr hl.2)
theorem ER.flatE {n:Nat} : ∀{xs:List (List L)} {b off sz:Nat},ER g w b off sz xs→(xs.all fun x=>x.all Dn.flatE)=true→ER (g.cut n) w b off sz xs
  | _,_,_,_,.nil _ _ _,_=>.nil _ _ _
  | _,_,_,_,.cons b off sz vs x xs hn hc hx hr,hl=>by
    simp only [yR,zT] at hl;exact .cons _ _ _ vs x xs hn hc (hx.flatE hl.1) (ER.flatE hr hl.2)
theorem LR.flatL {p:Option (Nat×Nat)} {n:Nat} {v:Value} {l:L} (hl:Dn.flatL l=true) (h:LR g w p v l):LR (g.cut n) w p v l:=by
  unfold Dn.flatL at hl;split at hl
  · cases h with
    | slnil=>exact .slnil _ _
    | slz=>exact .slz _ _ _
    | sl _ b off len cap _ _ h1 hc hZ he=>exact .sl _ b off len cap _ _ h1 hc hZ (he.flatE hl)
  exact h.flatE hl
theorem CR.flatL {n:Nat} : ∀{p:Option (Nat×Nat)} {vs:List Value} {ls:List L},CR g w p vs ls→ls.all Dn.flatL=true→CR (g.cut n) w p vs ls
  | _,_,_,.nil _,_=>.nil _
  | _,_,_,.one _ v vs l ls hv h1 hr,hl=>by
    simp only [yR,zT] at hl;exact .one _ _ _ _ _ (hv.flatL hl.1) h1 (CR.flatL hr hl.2)
  | _,_,_,.arr _ k n xs vs ls hn hr,hl=>by
    simp only [yR,zT] at hl;exact .arr _ _ _ _ _ _ hn (CR.flatL hr hl.2)
  | _,_,_,.brr _ n xs vs ls hn hr,hl=>by
    simp only [yR,zT] at hl;exact .brr _ _ _ _ _ hn (CR.flatL hr hl.2)
theorem Zgh.flatV {n:Nat} : ∀{rs:List CV} {us:List Value} {i:Nat},Zgh g w i us rs→rs.all Dn.flatV=true→Zgh (g.cut n) w i us rs
  | [],us,i,h,_=>h
  | c::cs,us,i,h,hl=>by
    simp only [yR,zT] at hl;obtain ⟨v,rest,rfl,hc,hr⟩:=h;refine ⟨v,rest,rfl,?_,Zgh.flatV hr hl.2⟩;cases c with
    | one x=>exact ⟨hc.1,hc.2.flatL hl.1⟩
    | agg ls=>obtain ⟨vs,rfl,h2⟩:=hc;exact ⟨vs,rfl,h2.flatL hl.1⟩
    | row e sz xs=>
      rcases hc with h1 | h1 | ⟨b,off,cap,a,E,h1,h2,h3,h4,h5,h6,h7⟩
      · exact .inl h1
      · exact .inr (.inl h1)
      exact .inr (.inr ⟨b,off,cap,a,E,h1,h2,h3,h4,h5,h6,h7.flatE hl.1⟩)
def ErO (g:G) (w:World) (sz:Nat) (xs:List (List L)):Prop:=xs = []∨∃b off,ER g w b off sz xs
theorem ErO.cons {sz:Nat} {x:List L} {xs:List (List L)} (h:ErO g w sz (x::xs)):(∃vs,CR g w none vs x)∧ErO g w sz xs:=by
  rcases h with h | ⟨b,off,h⟩
  · cases h
  cases h with
  | cons _ _ _ vs _ _ hn hc hx hr=>exact ⟨⟨vs,hx⟩,.inr ⟨_,_,hr⟩⟩
theorem LR.slO {p:Option (Nat×Nat)} {v:Value} {sz:Nat} {xs:List (List L)} (h:LR g w p v (.sl sz xs)):ErO g w sz xs:=by
  cases h with
  | slnil=>exact .inl rfl
  | slz=>exact .inl rfl
  | sl _ b off len cap _ _ hl hc hZ he=>exact .inr ⟨b,off,he⟩
theorem LR.ownO {p:Option (Nat×Nat)} {v:Value} {e:Bool} {sz:Nat} {xs:List (List L)} (h:LR g w p v (.own e sz xs)):ErO g w sz xs:=by
  cases h with
  | ownnil=>exact .inl rfl
  | ownz=>exact .inl rfl
  | own _ b off len cap _ _ _ a E hl hc ho hb hs hZ he=>exact .inr ⟨b,off,he⟩
theorem CR.tail {p:Option (Nat×Nat)} {vs:List Value} {l:L} {ls:List L} (h:CR g w p vs (l::ls)) : ∃p vs,CR g w p vs ls:=by
  cases h with
  | one _ _ _ _ _ _ _ hr=>exact ⟨_,_,hr⟩
  | arr _ _ _ _ _ _ _ hr=>exact ⟨_,_,hr⟩
  | brr _ _ _ _ _ _ hr=>exact ⟨_,_,hr⟩
mutual
theorem LR.cutO : ∀{p':Option (Nat×Nat)} {v':Value} {l:L},LR g' w' p' v' l→(∃p v,LR g w p v l)→LR (g'.cut g.nob) w' p' v' l
  | _,_,_,.int _ _ _,_=>.int _ _ _
  | _,_,_,.bool _ _,_=>.bool _ _
  | _,_,_,.str _ _,_=>.str _ _
  | _,_,_,.nilp _,_=>.nilp _
  | _,_,_,.ref _ i hi',⟨_,_,h⟩=>by cases h with | ref _ _ hi=>exact .ref (g:=g'.cut g.nob) _ i hi
  | _,_,_,.slnil _ _,_=>.slnil _ _
  | _,_,_,.slz _ _ _,_=>.slz _ _ _
  | _,_,_,.sl _ b off len cap sz xs hl hc hZ he,⟨_,_,h⟩=>.sl _ b off len cap sz xs hl hc hZ (ER.cutO he h.slO)
  | _,_,_,.ownnil _ _ _,_=>.ownnil _ _ _
  | _,_,_,.ownz _ _ _ _ _,_=>.ownz _ _ _ _ _
  | _,_,_,.own _ b off len cap sz e xs a E hl hc ho hb hs hZ he,⟨_,_,h⟩=>.own _ b off len cap sz e xs a E hl hc ho hb hs hZ (ER.cutO he h.ownO)
  | _,_,_,.mp _ b cl en es ho hb he,⟨_,_,h⟩=>.mp _ b cl en es ho hb (MR.cutO he (by cases h with | mp _ _ _ _ _ _ _ he=>exact ⟨_,he⟩))
  | _,_,_,.gone _ _,_=>.gone _ _
  | _,_,_,.fn _ f n vs cs hc,⟨_,_,h⟩=>.fn _ f n vs cs (CR.cutO hc (by cases h with | fn _ _ _ _ _ hc=>exact ⟨_,_,hc⟩))
  | _,_,_,.bx _ n b o ls vs hn hZ hc hx,⟨_,_,h⟩=>.bx _ n b o ls vs hn hZ hc (CR.cutO hx (by cases h with | bx _ _ _ _ _ _ _ _ _ hx=>exact ⟨_,_,hx⟩))
  | _,_,_,.mz _ b en es hZ hb he,⟨_,_,h⟩=>.mz _ b en es hZ hb (MR.cutO he (by cases h with | mz _ _ _ _ _ _ he=>exact ⟨_,he⟩))
  | _,_,_,.yl _ l,_=>.yl _ l
theorem CR.cutO : ∀{p':Option (Nat×Nat)} {vs':List Value} {ls:List L},CR g' w' p' vs' ls→(∃p vs,CR g w p vs ls)→CR (g'.cut g.nob) w' p' vs' ls
  | _,_,_,.nil _,_=>.nil _
  | _,_,_,.one _ v vs l ls hv h1 hr,⟨_,_,h⟩=>.one _ v vs l ls (LR.cutO hv (by
      cases h with
      | one _ _ _ _ _ hv' _ _=>exact ⟨_,_,hv'⟩
      | arr=>cases hv
      | brr=>cases hv)) h1 (CR.cutO hr h.tail)
  | _,_,_,.arr _ k n xs vs ls hn hr,⟨_,_,h⟩=>.arr _ k n xs vs ls hn (CR.cutO hr h.tail)
  | _,_,_,.brr _ n xs vs ls hn hr,⟨_,_,h⟩=>.brr _ n xs vs ls hn (CR.cutO hr h.tail)
theorem ER.cutO : ∀{b off sz:Nat} {xs:List (List L)},ER g' w' b off sz xs→ErO g w sz xs→ER (g'.cut g.nob) w' b off sz xs
  | _,_,_,_,.nil _ _ _,_=>.nil _ _ _
  | _,_,_,_,.cons b off sz vs x xs hn hc hx hr,h=>.cons b off sz vs x xs hn hc (CR.cutO hx ⟨_,h.cons.1⟩) (ER.cutO hr h.cons.2)
theorem MR.cutO : ∀{en':List MapEntry} {es:List (L×L)},MR g' w' en' es→(∃en,MR g w en es)→MR (g'.cut g.nob) w' en' es
  | _,_,.nil,_=>.nil
  | _,_,.cons e ens k v es hk hv h1 hr,⟨_,h⟩=>.cons e ens k v es hk (LR.cutO hv (by cases h with | cons _ _ _ _ _ _ hv _ _=>exact ⟨_,_,hv⟩)) h1 (MR.cutO hr (by cases h with | cons _ _ _ _ _ _ _ _ hr=>exact ⟨_,hr⟩))
end
theorem Snd.drop {P:Program} {f:FuncId} {args rs:List CV} {st ex:List (List L)} (h:Snd P f args st rs (st++ex)) (hr:rs.all Dn.flatV=true):Snd P f args st rs st:=by
  refine ⟨h.1,fun g w vs ha hm=>(h.2 g w vs ha hm).mono ?_⟩;rintro e w' ⟨g',us,rfl,hM,hm',hus⟩;have K:Zdh g (g'.cut g.nob) w w':=⟨hM.keep.ob,zJ _,hM.keep.Z,hM.keep.cell,hM.keep.mp⟩
  refine ⟨g'.cut g.nob,us,rfl,⟨K,hM.os,hM.tape,hM.output,hM.size,hM.same,hM.own,fun i h1 h2=>absurd h2 (by show ¬ i<g.nob;omega)⟩,⟨hm.stl,fun i c hc hne=>?_,fun i hi=>hm'.objB i (yK hi hM.keep.nob),fun n ent h=>by simp [S.ofSt] at h,hm'.own,hm'.z,hm.gl.keep K⟩,hus.flatV hr⟩;have hi:i<st.length:=by
    rcases zV i st.length with h' | h'
    · exact h'
    simp only [S.ofSt] at hc;rw [zM h'] at hc;cases hc
  obtain ⟨h1,h2,a,E,h3,h4⟩:=hm'.obj i c (by simp only [S.ofSt] at hc ⊢;rw [zW hi];exact hc) hne;obtain ⟨_,_,a0,_,_,h5⟩:=hm.obj i c hc hne;exact ⟨h1,h2,a,E,h3,CR.cutO h4 ⟨_,_,h5⟩⟩
theorem ZdP.of_ext {P:Program} {f:FuncId} {args rs:List CV} (h : ∀st,∃ex,Snd P f args st rs (st++ex)) (hr:rs.all Dn.flatV=true):ZdP P f args rs:=fun st=>(h st).elim fun _ h=>h.drop hr
end
end Go.Dn
namespace Go.Dn
variable [Globs]
def fe (ro:Option Nat):Fence:={ Fence.wide with round:=ro}
def ZlM (o:Oper):Bool:=match o.op with
  | .defer _=>false
  | _=>true
def ZiD.calm (step:ZiD):ZiD:=fun s o d=>match step s o d with
  | some ([],r)=>some ([],r)
  | _=>none
section
variable {P:Program} {g g':G} {s s':S} {w w':World} {n:Nat} {ro:Option Nat}
theorem fe_calls {f:FuncId} {args:Array Value} {R:Ending→World→Prop} (h:Calls P f args w R):CallsIn (fe ro) n P f args w R:=(callsIn_wide (n:=n)).2 h
theorem fe_rows {row:String} {args:Array Value} {R:Value→World→Prop} (h:Rows P row args w R):RowsIn (fe ro) n P row args w R:=
  fun c cs _=>let ⟨v,w',r,s⟩:=h c cs;⟨v,w',r,stepsIn_wide.2 s⟩
theorem op_fe {o:Oper} {a:Act} {K:Act→World→Prop} {Q:Exit→Act→World→Prop} (hd:ZlM o=true) (h:o.wp P a w K Q):o.wpIn (fe ro) n P a w K Q:=by
  refine ⟨fun f _=>trivial,?_⟩;rw [Oper.semAt_plain _ _ _ (fun c e=>by unfold ZlM at hd;rw [e] at hd;cases hd)];unfold Oper.wp at h;generalize (execOp a.eval o).run P w=r at h
  match r,h with
  | .ok (.enter f args) w',h=>exact ⟨(fun e=>by cases e),fe_calls h⟩
  | .ok (.row row args) w',h=>exact ⟨(fun e=>by cases e),fe_rows h⟩
  | .ok (.value _) _,h=>exact h
  | .ok .skip _,h=>exact h
  | .ok (.defer _) _,h=>exact h
  | .halt (.panic _) _,h=>exact h
theorem calm_ok {step:ZiD} (h:ZfZ P step):ZfZ P step.calm:=by
  intro s o d X s' ps e hp;unfold ZiD.calm at e;split at e<;>simp only [zA,reduceCtorEq] at e;rename_i r hr;exact h s o d _ _ _ (hr.trans (congrArg some e)) hp
theorem Zhp {step:ZiD} (hok:ZfZ P step) {ops:Array Oper} {Q:Exit→Act→World→Prop} {l2:List Oper} : ∀{l:List Oper} {i:Nat} {g:G} {s s':S} {w:World} {a:Act} {ds:List (Nat×D)} {ps:List Prop},
    l.all ZlM=true→Zgw step.calm (ops.toList.map (·.dst)) l i s ds=some (s',ps)→Zcy ps→Sat g s w a.tmps →
    (∀g' w' a',Mod g g' w w'→Sat g' s' w' a'.tmps→a'.defers=a.defers→(∀m,(∃c,s'.si[m]? = some (some (.cells c)))→(∃c,s.si[m]? = some (some (.cells c)))∧g'.sb m=g.sb m)→wpListIn (fe ro) n P ops Q l2 a' w')→wpListIn (fe ro) n P ops Q (l++l2) a w
  | [],i,g,s,s',w,a,ds,ps,hd,h,hp,hs,hQ=>by
    simp only [Zgw,zA,zE] at h;obtain ⟨rfl,rfl⟩:=h;exact hQ g w a (.refl _ _) hs rfl (fun m h=>⟨h,rfl⟩)
  | o::rest,i,g,s,s',w,a,ds,ps,hd,h,hp,hs,hQ=>by
    simp only [yR,zT] at hd;unfold Zgw at h;rw [List.cons_append];unfold wpListIn;split at h<;>try cases h
    · rename_i qs hg
      split at h<;>try cases h
      rename_i X s1 ps1 h1;split at h<;>simp only [zA,zE,reduceCtorEq] at h;rename_i s2 rs h2;obtain ⟨rfl,rfl⟩:=h;rw [Zcy.append,Zcy.append] at hp;rw [aD (ZgV hs hg hp.1.1)];have hX:X = []:=by
        unfold ZiD.calm at h1;split at h1<;>simp only [zA,zE,reduceCtorEq] at h1;exact h1.1.symm
      refine op_fe hd.1 ((calm_ok hok _ _ _ _ _ _ h1 hp.1.2).1 g w a hs _ _ fun g' w' v hm hk hs'=>?_);exact Zhp hok hd.2 h2 hp.2 hs' fun g'' w'' a'' hm' hs'' hd hc=>hQ g'' w'' a'' (hm.trans hm') hs'' (hd.trans (by cases o.dst<;>rfl)) fun m hm3=>by
        obtain ⟨k1,k2⟩:=hc m hm3;obtain ⟨k3,k4⟩:=hk.cells m (by rw [hX];simp) k1;exact ⟨k3,k2.trans k4⟩
    rename_i qs hg;split at h<;>simp only [zA,zE,reduceCtorEq] at h;rename_i s2 rs h2;obtain ⟨rfl,rfl⟩:=h;rw [Zcy.append] at hp;rw [aE (by rw [ZgV hs hg hp.1];decide)];refine ⟨fun _ _=>trivial,Zhp hok hd.2 h2 hp.2 (hs.skip o.dst) fun g'' w'' a'' hm' hs'' hd hc=>hQ g'' w'' a'' hm' hs'' (hd.trans (by cases o.dst<;>rfl)) fun m hm3=>?_⟩;obtain ⟨k1,k2⟩:=hc m hm3;have e:(s.put o.dst (.tup [])).si=s.si:=by cases o.dst<;>rfl
    rw [e] at k1;exact ⟨k1,k2⟩
end
structure ZrP (g:G) (w w':World):Prop where
  size:w.heap.size≤w'.heap.size
  at_ : ∀b,b<w.heap.size→w'.heap[b]? = w.heap[b]? ∨ ((g.ow b=none∨g.ow b=some .foreign)∧g.Z b=0∧∀i,i<g.nob→g.ob i≠b)
  os:w'.os=w.os
  tape:w'.tape=w.tape
  output:w'.output=w.output
section
variable {P:Program} {g g' g0:G} {s s':S} {w w' w0:World}
theorem ZrP.refl (g:G) (w:World):ZrP g w w:=⟨zJ _,fun _ _=>.inl rfl,rfl,rfl,rfl⟩
theorem ZrP.own (U:ZrP g w w') {b:Nat} {t:Ow} (hb:b<w.heap.size) (h:g.ow b=some t) (ht:t ≠ .foreign):w'.heap[b]? = w.heap[b]? := by
  rcases U.at_ b hb with h1 | ⟨h1 | h1,_⟩
  · exact h1
  · rw [h1] at h;cases h
  rw [h1] at h;cases h;exact absurd rfl ht
theorem ZrP.keeps (U:ZrP g w w') (hz : ∀b,w.heap.size≤b→g.Z b=0):Zdh g g w w':=by
  have key : ∀b,0<g.Z b→w'.heap[b]? = w.heap[b]? := by
    intro b hb;rcases zV b w.heap.size with h | h
    · rcases U.at_ b h with h1 | ⟨_,h1,_⟩
      · exact h1
      omega
    have:=hz b h;omega
  exact ⟨fun _ _=>rfl,zJ _,fun _=>zJ _,fun b o h=>ZdC (key b (by omega)),fun b h=>Zfi (key b h)⟩
theorem ZdJ.un (hm:ZdJ g s w) (U:ZrP g w w'):ZdJ g s w':=by
  have K:=U.keeps hm.z;have sm : ∀{b:Nat} {t:Ow},g.ow b=some t→t ≠ .foreign→Zhl g g w w' b:=fun h ht=>⟨U.own (hm.own _ _ h) h ht,rfl,rfl⟩
  refine ⟨hm.stl,fun i c h hne=>?_,hm.objB,fun n ent h=>?_,fun b t h=>yK (hm.own b t h) U.size,fun b hb=>hm.z b (wE U.size hb),hm.gl.keep K⟩
  · have h1:=hm.obj i c h hne
    exact h1.keep K (sm h1.1 (by simp)) (fun b' o hb=>sm hb (by simp))
  have h1:=hm.site n ent h;cases ent with
  | cells c=>exact ZmM.keep K h1 (sm h1.1 (by simp)) (fun b' o hb=>sm hb (by simp))
  | row ver e sz xs=>exact Zha.keep K h1 (fun b hb=>sm hb (by simp))
  | mp es=>exact ZuB.keep K h1 (fun b hb=>sm hb (by simp))
theorem ZbK.un (hm:ZdJ g s w) (U:ZrP g w w'):ZbK (fun _=>False) s s g g w w':=by
  refine ⟨U.keeps hm.z,fun n _ h=>⟨h,rfl⟩,fun n ver _ h=>.inl ⟨h,rfl⟩,fun n _ h=>⟨h,rfl⟩,fun _ r hg hi hr _ _ off hv h=>.inl ?_,zJ _⟩;have:w'.heap[g.rb r]? = w.heap[g.rb r]? := by
    cases r with
    | site n=>obtain ⟨c,hc⟩:=hr;have h1:=(hm.site n _ hc).1;exact U.own (hm.own _ _ h1) h1 (by simp)
    | obj i=>
      have hlt:g.ob i<w.heap.size:=by rcases hm.objB i hi with h1 | h1<;>exact hm.own _ _ h1
      rcases U.at_ _ hlt with h1 | ⟨_,_,h1⟩
      · exact h1
      exact absurd rfl (h1 i hi)
    | glob k=>exact absurd rfl (hg k)
  rw [ZdC this] at h;exact h
theorem Sat.un {t:Array Value} (hs:Sat g s w t) (U:ZrP g w w'):Sat g s w' t:=
  ⟨hs.len,hs.lensi,fun n tv h=>ZdD.keep (ZbK.un hs.mem U) (fun _ h=>h.elim) (hs.slot n tv h),hs.mem.un U⟩
theorem Mod.un (M:Mod g0 g w0 w) (U:ZrP g w w') (hz : ∀b,w.heap.size≤b→g.Z b=0) (hb : ∀b,b<w0.heap.size→w'.heap[b]? = w.heap[b]?):Mod g0 g w0 w':=
  ⟨M.keep.trans (U.keeps hz),U.os.trans M.os,U.tape.trans M.tape,U.output.trans M.output,wE M.size U.size,fun b h=>by
    rcases M.same b h with h1 | h1
    · exact .inl ⟨(hb b h).trans h1.1,h1.2⟩
    exact .inr h1,M.own,M.newob⟩
theorem Mod.fr {gf gf':G} {W W':World} (M1:Mod g0 g w0 W) (M2:Mod gf gf' W W') (e1:gf.ob=g.ob∧gf.nob=g.nob∧gf.Z=g.Z) (o1 : ∀b,b<w0.heap.size→gf.ow b=g.ow b) (e2:g'.ob=gf'.ob∧g'.nob=gf'.nob∧g'.Z=gf'.Z) (o2 : ∀b,b<w0.heap.size→g'.ow b=gf'.ow b):Mod g0 g' w0 W':=by
  have K1:Zdh g gf W W:=⟨fun i _=>by rw [e1.1],by rw [e1.2.1];exact zJ _,fun b=>by rw [e1.2.2];exact zJ _,fun _ _ _=>rfl,fun _ _=>rfl⟩
  have K2:Zdh gf' g' W' W':=⟨fun i _=>by rw [e2.1],by rw [e2.2.1];exact zJ _,fun b=>by rw [e2.2.2];exact zJ _,fun _ _ _=>rfl,fun _ _=>rfl⟩
  refine ⟨M1.keep.trans (K1.trans (M2.keep.trans K2)),M2.os.trans M1.os,M2.tape.trans M1.tape,M2.output.trans M1.output,wE M1.size M2.size,fun b hb=>?_,fun b hb h1 h2=>?_,fun i h1 h2=>?_⟩
  · rcases M1.same b hb with h1 | h1
    · rcases M2.same b (yK hb M1.size) with h2 | h2
      · exact .inl ⟨h2.1.trans h1.1,(o2 b hb).trans (h2.2.1.trans ((o1 b hb).trans h1.2.1)),by rw [e2.2.2,h2.2.2,e1.2.2];exact h1.2.2⟩
      rw [o1 b hb,h1.2.1] at h2;exact .inr h2
    exact .inr h1
  · rw [o2 b hb] at h1 h2
    obtain ⟨h3,h4⟩:=M2.own b (yK hb M1.size) h1 h2;rw [o1 b hb] at h3 h4;exact M1.own b hb h3 h4
  rw [e2.1];by_cases h:i<g.nob
  · rw [M2.keep.ob i (by rw [e1.2.1];exact h),e1.1];exact M1.newob i h1 h
  exact wE M1.size (M2.newob i (by rw [e1.2.1];omega) (by rw [←e2.2.1];exact h2))
end
def G.fr2 (g:G) (n1 b1 n2 b2:Nat):G:=
  { g with sb:=fun n=>if n=n1 then b1 else if n=n2 then b2 else g.sb n,ow:=fun b=>if b=b1 then some (.site n1) else if b=b2 then some (.site n2) else g.ow b}
def G.un2 (g:G) (b1 b2:Nat):G:={ g with ow:=fun b=>if b=b1∨b=b2 then some .foreign else g.ow b}
structure RI (g:G) (W:World) (B b1 b2 l D i:Nat) (v:Bool) (lp:Loop):Prop where
  u : ∀b,b=b1∨b=b2∨b=l∨b=D→(g.ow b=none∨g.ow b=some .foreign)∧g.Z b=0∧b<W.heap.size∧B≤b∧∀j,j<g.nob→g.ob j≠b
  ne:b1≠b2∧b1≠l∧b1≠D∧b2≠l∧b2≠D∧l≠D
  hi:i<g.nob
  h1 : ∃E,W.heap[b1]? = some (.cells #[.pointer (some ⟨g.ob i,0,none⟩)] E (0,0))
  h2 : ∃E,W.heap[b2]? = some (.cells #[.bool v] E (0,0))
  hl:W.heap[l]? = some (.loop lp)
  hD:W.heap[D]? = some (.deferred (some []))
section
variable {P:Program} {g g' g0:G} {s s':S} {W W' w0:World} {B b1 b2 l D i:Nat} {v:Bool} {lp:Loop}
theorem RI.same (I:RI g W B b1 b2 l D i v lp) (M:Mod g g' W W') {b:Nat} (h:b=b1∨b=b2∨b=l∨b=D):Zhl g g' W W' b:=by
  obtain ⟨h1,_,h3,_⟩:=I.u b h;rcases M.same b h3 with h4 | h4
  · exact h4
  rcases h1 with h1 | h1
  · exact absurd h1 h4.1
  exact absurd h1 h4.2
theorem RI.mod (I:RI g W B b1 b2 l D i v lp) (M:Mod g g' W W'):RI g' W' B b1 b2 l D i v lp:=by
  refine ⟨fun b h=>?_,I.ne,yK I.hi M.keep.nob,?_,?_,(I.same M (.inr (.inr (.inl rfl)))).1.trans I.hl,(I.same M (.inr (.inr (.inr rfl)))).1.trans I.hD⟩
  · obtain ⟨h1,h2,h3,h4,h5⟩:=I.u b h
    obtain ⟨k1,k2,k3⟩:=I.same M h;refine ⟨by rw [k2];exact h1,by rw [k3];exact h2,yK h3 M.size,h4,fun j hj=>?_⟩;by_cases e:j<g.nob
    · rw [M.keep.ob j e];exact h5 j e
    have:=M.newob j (by omega) hj;omega
  · obtain ⟨E,h⟩:=I.h1;exact ⟨E,by rw [M.keep.ob i I.hi];exact (I.same M (.inl rfl)).1.trans h⟩
  obtain ⟨E,h⟩:=I.h2;exact ⟨E,(I.same M (.inr (.inl rfl))).1.trans h⟩
theorem RI.put (I:RI g W B b1 b2 l D i v lp) (lp':Loop):RI g (W.putObj l (.loop lp')) B b1 b2 l D i v lp'∧ZrP g W (W.putObj l (.loop lp')):=by
  obtain ⟨n1,n2,n3,n4,n5,n6⟩:=I.ne;refine ⟨⟨fun b h=>by rw [World.putObj_size];exact I.u b h,I.ne,I.hi,?_,?_,World.putObj_heap_same (I.u l (by simp)).2.2.1,?_⟩,by rw [World.putObj_size];exact zJ _,fun b hb=>?_,rfl,rfl,rfl⟩
  · obtain ⟨E,h⟩:=I.h1;exact ⟨E,(World.putObj_heap_other n2).trans h⟩
  · obtain ⟨E,h⟩:=I.h2;exact ⟨E,(World.putObj_heap_other n4).trans h⟩
  · exact (World.putObj_heap_other (Ne.symm n6)).trans I.hD
  by_cases e:b=l
  · subst e;have:=I.u b (by simp);exact .inr ⟨this.1,this.2.1,this.2.2.2.2⟩
  exact .inl (World.putObj_heap_other e)
theorem RI.shut (I:RI g W B b1 b2 l D i v lp) (o:Obj):ZrP g W (W.putObj D o):=by
  refine ⟨by rw [World.putObj_size];exact zJ _,fun b hb=>?_,rfl,rfl,rfl⟩;by_cases e:b=D
  · subst e;have:=I.u b (by simp);exact .inr ⟨this.1,this.2.1,this.2.2.2.2⟩
  exact .inl (World.putObj_heap_other e)
theorem RI.frame (I:RI g W B b1 b2 l D i v lp) {st:List (List L)} (hm:ZdJ g (.ofSt st) W) {n1 n2:Nat} (hn:n1≠n2) (hst:s.st=st)
    (hsi : ∀n ent,s.si[n]? = some (some ent)→(n=n1∧ent = .cells [.ptr (some i)])∨(n=n2∧ent = .cells [.bool v])):ZdJ (g.fr2 n1 b1 n2 b2) s W:=by
  have K:Zdh g (g.fr2 n1 b1 n2 b2) W W:=⟨fun _ _=>rfl,zJ _,fun _=>zJ _,fun _ _ _=>rfl,fun _ _=>rfl⟩
  obtain ⟨u1,u2,u3,u4,u5⟩:=I.u b1 (by simp);obtain ⟨q1,q2,q3,q4,q5⟩:=I.u b2 (by simp);have how : ∀b t,g.ow b=some t→t ≠ .foreign→(g.fr2 n1 b1 n2 b2).ow b=g.ow b:=by
    intro b t h ht;show (if b=b1 then _ else if b=b2 then _ else g.ow b)=_;rw [aE,aE]
    · rintro rfl;rcases q1 with h1 | h1<;>rw [h1] at h<;>cases h;exact ht rfl
    rintro rfl;rcases u1 with h1 | h1<;>rw [h1] at h<;>cases h;exact ht rfl
  have hob : ∀j,j<g.nob→(g.fr2 n1 b1 n2 b2).ow (g.ob j)=g.ow (g.ob j):=fun j hj=>by
    show (if g.ob j=b1 then _ else if g.ob j=b2 then _ else g.ow (g.ob j))=_;rw [aE (u5 j hj),aE (q5 j hj)]
  refine ⟨by rw [hst];exact hm.stl,fun j c h hne=>?_,fun j hj=>?_,fun n ent h=>?_,fun b t h=>?_,hm.z,hm.gl.keep K⟩
  · have h1:=hm.obj j c (by rw [hst] at h;exact h) hne
    exact h1.keep K ⟨rfl,how _ _ h1.1 (by simp),rfl⟩ (fun b' o hb=>⟨rfl,how _ _ hb (by simp),rfl⟩)
  · show (g.fr2 n1 b1 n2 b2).ow (g.ob j)=_∨(g.fr2 n1 b1 n2 b2).ow (g.ob j)=_
    rw [hob j hj];exact hm.objB j hj
  · rcases hsi n ent h with ⟨rfl,rfl⟩ | ⟨rfl,rfl⟩
    · obtain ⟨E,h1⟩:=I.h1
      have e:(g.fr2 n b1 n2 b2).sb n=b1:=by show (if n=n then b1 else _)=_;rw [aD rfl]
      refine ⟨?_,?_,_,E,by rw [e];exact h1,.one _ _ _ _ _ (.ref _ i I.hi) rfl (.nil _)⟩
      · rw [e];show (if b1=b1 then _ else _)=_;rw [aD rfl]
      rw [e];exact u2
    obtain ⟨E,h1⟩:=I.h2;have e:(g.fr2 n1 b1 n b2).sb n=b2:=by show (if n=n1 then b1 else if n=n then b2 else _)=_;rw [aE (Ne.symm hn),aD rfl]
    refine ⟨?_,?_,_,E,by rw [e];exact h1,.one _ _ _ _ _ (.bool _ _) rfl (.nil _)⟩
    · rw [e];show (if b2=b1 then _ else if b2=b2 then _ else _)=_;rw [aE (Ne.symm I.ne.1),aD rfl]
    rw [e];exact q2
  have h':(if b=b1 then some (Ow.site n1) else if b=b2 then some (Ow.site n2) else g.ow b)=some t:=h;by_cases e1:b=b1
  · subst e1;exact u3
  rw [aE e1] at h';by_cases e2:b=b2
  · subst e2;exact q3
  rw [aE e2] at h';exact hm.own b t h'
theorem RI.back (I:RI g W B b1 b2 l D i v lp) {n1 n2:Nat} (hn:n1≠n2) {gf':G} (M:Mod (g.fr2 n1 b1 n2 b2) gf' W W') (hm:ZdJ gf' s' W') (k1:gf'.sb n1=b1) (k2:gf'.sb n2=b2) {v':Bool}
    (e1:s'.si[n1]? = some (some (.cells [.ptr (some i)]))) (e2:s'.si[n2]? = some (some (.cells [.bool v']))) :
    RI (gf'.un2 b1 b2) W' B b1 b2 l D i v' lp∧ZdJ (gf'.un2 b1 b2) (.ofSt s'.st) W':=by
  have K:Zdh gf' (gf'.un2 b1 b2) W' W':=⟨fun _ _=>rfl,zJ _,fun _=>zJ _,fun _ _ _=>rfl,fun _ _=>rfl⟩
  have hi:i<gf'.nob:=yK I.hi M.keep.nob;obtain ⟨o1,z1,a1,E1,p1,c1⟩:=hm.site n1 _ e1;obtain ⟨o2,z2,a2,E2,p2,c2⟩:=hm.site n2 _ e2;rw [k1] at o1 z1 p1;rw [k2] at o2 z2 p2;have how : ∀b t,gf'.ow b=some t→(∀n,t ≠ .site n)→(gf'.un2 b1 b2).ow b=gf'.ow b:=by
    intro b t h ht;show (if b=b1∨b=b2 then _ else gf'.ow b)=_;rw [aE];rintro (rfl | rfl)
    · rw [o1] at h;cases h;exact ht _ rfl
    rw [o2] at h;cases h;exact ht _ rfl
  obtain ⟨m1,m2,m3,m4,m5,m6⟩:=I.ne;have oth : ∀b,b=l∨b=D→Zhl (g.fr2 n1 b1 n2 b2) gf' W W' b∧(g.fr2 n1 b1 n2 b2).ow b=g.ow b:=by
    intro b hb;have e:(g.fr2 n1 b1 n2 b2).ow b=g.ow b:=by
      show (if b=b1 then _ else if b=b2 then _ else g.ow b)=_;rw [aE (by rintro rfl;rcases hb with h | h;exact m2 h;exact m3 h),aE (by rintro rfl;rcases hb with h | h;exact m4 h;exact m5 h)]
    obtain ⟨h1,_,h3,_⟩:=I.u b (by rcases hb with h | h<;>simp [h]);refine ⟨?_,e⟩;rcases M.same b h3 with h4 | h4
    · exact h4
    rw [e] at h4;rcases h1 with h1 | h1
    · exact absurd h1 h4.1
    exact absurd h1 h4.2
  refine ⟨⟨fun b hb=>?_,I.ne,hi,?_,?_,(oth l (.inl rfl)).1.1.trans I.hl,(oth D (.inr rfl)).1.1.trans I.hD⟩,⟨hm.stl,fun j c h hne=>?_,fun j hj=>?_,fun n ent h=>by simp [S.ofSt] at h,fun b t h=>?_,hm.z,hm.gl.keep K⟩⟩
  · have hB:=(I.u b hb).2.2.2.1
    have hsz:=yK (I.u b hb).2.2.1 M.size;have obne : ∀n,gf'.ow b=some (.site n)→∀j,j<gf'.nob→gf'.ob j≠b:=by
      rintro n h j hj rfl;rcases hm.objB j hj with h1 | h1<;>rw [h] at h1<;>cases h1
    by_cases hb12:b=b1∨b=b2
    · refine ⟨.inr ?_,?_,hsz,hB,?_⟩
      · show (if b=b1∨b=b2 then _ else _)=_;rw [aD hb12]
      · rcases hb12 with rfl | rfl;exact z1;exact z2
      rcases hb12 with rfl | rfl;exact obne _ o1;exact obne _ o2
    have hlD:b=l∨b=D:=by
      rcases hb with h | h | h | h
      · exact absurd (Or.inl h) hb12
      · exact absurd (Or.inr h) hb12
      · exact .inl h
      exact .inr h
    obtain ⟨⟨s1,s2,s3⟩,s4⟩:=oth b hlD;obtain ⟨h1,h2,h3,h4,h5⟩:=I.u b hb;refine ⟨?_,?_,hsz,hB,fun j hj=>?_⟩
    · show (if b=b1∨b=b2 then _ else gf'.ow b)=none∨(if b=b1∨b=b2 then _ else gf'.ow b)=_
      rw [aE hb12,s2,s4];exact h1
    · show gf'.Z b=0;rw [s3];exact h2
    by_cases e:j<g.nob
    · show gf'.ob j≠b
      rw [M.keep.ob j e];exact h5 j e
    have:=M.newob j (by show g.nob≤j;omega) hj;show gf'.ob j≠b;omega
  · obtain ⟨xs,rfl⟩ : ∃xs:List Value,a1=xs.toArray:=⟨a1.toList,rfl⟩
    cases c1 with
    | one _ v _ _ _ hv _ hr=>cases hr;cases hv;exact ⟨E1,p1⟩
  · obtain ⟨xs,rfl⟩ : ∃xs:List Value,a2=xs.toArray:=⟨a2.toList,rfl⟩
    cases c2 with
    | one _ v _ _ _ hv _ hr=>cases hr;cases hv;exact ⟨E2,p2⟩
  · have h1:=hm.obj j c h hne
    exact h1.keep K ⟨rfl,how _ _ h1.1 (by simp),rfl⟩ (fun b' o hb=>⟨rfl,how _ _ hb (by simp),rfl⟩)
  · show (gf'.un2 b1 b2).ow (gf'.ob j)=_∨(gf'.un2 b1 b2).ow (gf'.ob j)=_
    rcases hm.objB j hj with h1 | h1
    · left;rw [how _ _ h1 (by simp)];exact h1
    right;rw [how _ _ h1 (by simp)];exact h1
  have h':(if b=b1∨b=b2 then some Ow.foreign else gf'.ow b)=some t:=h;by_cases e:b=b1∨b=b2
  · exact yK (I.u b (by rcases e with h | h<;>simp [h])).2.2.1 M.size
  rw [aE e] at h';exact hm.own b t h'
end
theorem ZdJ.cut {g1 g:G} {s1:S} {w1 w:World} {st ex:List (List L)} (h1:ZdJ g1 s1 w1) (hst:s1.st=st) (hm:ZdJ g (.ofSt (st++ex)) w) (K0:Zdh g1 g w1 w):ZdJ (g.cut g1.nob) (.ofSt st) w:=by
  have K:Zdh g1 (g.cut g1.nob) w1 w:=⟨K0.ob,zJ _,K0.Z,K0.cell,K0.mp⟩
  refine ⟨by show st.length=g1.nob;rw [←hst];exact h1.stl,fun i c hc hne=>?_,fun i hi=>hm.objB i (yK hi K0.nob),fun n ent h=>by simp [S.ofSt] at h,hm.own,hm.z,h1.gl.keep K⟩;have hi:i<st.length:=by
    rcases zV i st.length with h' | h'
    · exact h'
    simp only [S.ofSt] at hc;rw [zM h'] at hc;cases hc
  obtain ⟨h2,h3,a,E,h4,h5⟩:=hm.obj i c (by simp only [S.ofSt] at hc ⊢;rw [zW hi];exact hc) hne;obtain ⟨_,_,a0,_,_,h6⟩:=h1.obj i c (by rw [hst];exact hc) hne;exact ⟨h2,h3,a,E,h4,CR.cutO h5 ⟨_,_,h6⟩⟩
theorem Mod.cut {g0 g:G} {w0 w:World} (M:Mod g0 g w0 w) {n:Nat} (h0:g0.nob≤n) (h1:n≤g.nob):Mod g0 (g.cut n) w0 w:=
  ⟨⟨M.keep.ob,h0,M.keep.Z,M.keep.cell,M.keep.mp⟩,M.os,M.tape,M.output,M.size,M.same,M.own,fun i h2 h3=>M.newob i h2 (yK h3 h1)⟩
end Go.Dn
namespace Go.Dn
variable [Globs]
inductive PS where
  | r (ds:List (Nat×D))
  | d (r:DR)
  | c (b:Bool)
  | s (n:Nat)
def Zrw (k:Nat):List PS→E→Bool
  | [.s n],.n=>k==n
  | _,_=>false
def goS (step:ZiD):Nat→List K→E→S→List PS→Option (List K×E×S×List Prop×List (Cmp×Cmp))
  | 0,_,_,_,_=>none
  | n+1,ks,e,s,ds=>if Zrw ks.length ds e then some (ks,.n,s,[],[]) else match ks with
    | []=>match ds with
      | []=>some ([],e,s,[],[])
      | _::_=>none
    | .h J::ks=>match e with
      | .n=>match ds with
        | []=>some (.h J::ks,.n,s,[],[])
        | _::_=>none
      | .x id=>goS step n ks (.x id) s ds
      | .ret=>goS step n ks .ret s ds
    | .b id::ks=>match e with
      | .n=>goS step n ks .n s ds
      | .x id'=>if id'=id then goS step n ks .n s ds else goS step n ks (.x id') s ds
      | .ret=>goS step n ks .ret s ds
    | .c x::ks=>match e with
      | .x id=>goS step n ks (.x id) s ds
      | .ret=>goS step n ks .ret s ds
      | .n=>match x with
        | .skip=>goS step n ks .n s ds
        | .seq x y=>goS step n (.c x :: .c y::ks) .n s ds
        | .block id x=>goS step n (.c x :: .b id::ks) .n s ds
        | .exit id=>goS step n ks (.x id) s ds
        | .ret=>goS step n ks .ret s ds
        | .cond t x y=>match ds with
          | .c b::ds=>match ev s t with
            | some (.one (.l (.bool v)))=>match goS step n (.c (if b then x else y)::ks) .n s ds with
              | some (ks',e',s',ps,es)=>some (ks',e',s',(v=b)::ps,es)
              | none=>none
            | _=>none
          | _=>none
        | .region _ ops dr=>match ds with
          | .r d::ds=>if dr then none else match Zgw step (ops.toList.map (·.dst)) ops.toList 0 s d with
            | some (s',ps)=>match goS step n ks .n s' ds with
              | some (ks',e',s'',qs,es)=>some (ks',e',s'',ps++qs,es)
              | none=>none
            | none=>none
          | .d r::ds=>if dr then match Zow step ops.toList s r with
            | some (s',ps,es)=>match goS step n ks .n s' ds with
              | some (ks',e',s'',qs,fs)=>some (ks',e',s'',ps++qs,es++fs)
              | none=>none
            | none=>none
            else none
          | _=>none
        | .loop x=>match ds with
          | []=>some (.c (.loop x)::ks,.n,s,[],[])
          | _::_=>none
        | _=>none
theorem isStop_n {k:Nat} {ds:List PS} {e:E} (h:Zrw k ds e=true):e = .n:=by
  unfold Zrw at h;split at h
  · rfl
  cases h
theorem ZtP {P:Program} {step:ZiD} (hok:ZfZ P step) (hfol:P.follows .mixedOrders=true) {R:Exit→Act→World→Prop} :
    ∀{n:Nat} {ks ks':List K} {e e':E} {s s':S} {ds:List PS} {ps:List Prop} {es:List (Cmp×Cmp)} {g:G} {a:Act} {w:World},goS step n ks e s ds=some (ks',e',s',ps,es)→Zcy ps→(∀q∈es,q.1=q.2)→Sat g s w a.tmps →
    (∀g' w' a',Mod g g' w w'→Sat g' s' w' a'.tmps→a'.defers=a.defers→exK P R ks' e'.exit a' w')→exK P R ks e.exit a w:=by
  intro n
  induction n with
  | zero=>
    intro ks ks' e e' s s' ds ps es g a w h hp he hs hQ;simp [goS] at h
  | succ n ih=>
    intro ks ks' e e' s s' ds ps es g a w h hp he hs hQ;have stop : ∀{ks:List K} {e:E},(ks=ks'∧e=e'∧s=s'∧[]=ps∧[]=es)→exK P R ks e.exit a w:=by
      rintro ks e ⟨rfl,rfl,rfl,rfl,rfl⟩;exact hQ g w a (.refl _ _) hs rfl
    by_cases hst:Zrw ks.length ds e=true
    · have:=isStop_n hst;subst this
      unfold goS at h;rw [aD hst] at h;simp only [zA,zE] at h;exact stop h
    unfold goS at h;rw [aE hst] at h;cases ks with
    | nil=>
      cases ds with
      | nil=>simp only [zA,zE] at h;exact stop h
      | cons d ds=>simp at h
    | cons k ks=>
      cases k with
      | h J=>
        cases e with
        | n=>cases ds with
          | nil=>simp only [zA,zE] at h;exact stop h
          | cons d ds=>simp at h
        | x id=>have:=ih h hp he hs hQ;simp only [E.exit] at this ⊢;unfold exK;exact this
        | ret=>have:=ih h hp he hs hQ;simp only [E.exit] at this ⊢;unfold exK;exact this
      | b id=>
        cases e with
        | n=>have:=ih h hp he hs hQ;simp only [E.exit] at this ⊢;unfold exK;exact this
        | x id'=>
          simp only [E.exit];unfold exK;simp only at h;split at h
          · rename_i hid
            rw [aD hid];exact ih h hp he hs hQ
          rename_i hid;rw [aE hid];exact ih h hp he hs hQ
        | ret=>have:=ih h hp he hs hQ;simp only [E.exit] at this ⊢;unfold exK;exact this
      | c x=>
        cases e with
        | x id=>have:=ih h hp he hs hQ;simp only [E.exit] at this ⊢;unfold exK;exact this
        | ret=>have:=ih h hp he hs hQ;simp only [E.exit] at this ⊢;unfold exK;exact this
        | n=>
          show exK P R _ .normal a w;cases x with
          | skip=>have:=ih h hp he hs hQ;unfold exK;exact wp_skip this
          | seq x y=>exact Zot (ih h hp he hs hQ)
          | block id x=>exact ZpO (ih h hp he hs hQ)
          | exit id=>have:=ih h hp he hs hQ;unfold exK;exact wp_exit this
          | ret=>have:=ih h hp he hs hQ;unfold exK;exact wp_ret this
          | cond t x y=>
            cases ds with
            | nil=>simp at h
            | cons d ds=>
              cases d with
              | r d=>simp at h
              | d d=>simp at h
              | s n=>simp at h
              | c b=>
                simp only at h;split at h<;>try (cases h;done)
                rename_i v hev;split at h<;>simp only [zA,zE,reduceCtorEq] at h;rename_i k1 e1 s1 ps1 es1 h1;obtain ⟨rfl,rfl,rfl,rfl,rfl⟩:=h;rw [Zcy.cons] at hp;obtain ⟨rfl,hp⟩:=hp;have hv:=(Zcg hs hev).2.bool_eq;have:=ih h1 hp he hs hQ;simp only [E.exit] at this;unfold exK at this ⊢;exact wp_cond hv this
          | region id ops dr=>
            cases ds with
            | nil=>simp at h
            | cons d ds=>
              cases d with
              | c b=>simp at h
              | s n=>simp at h
              | r d=>
                cases dr with
                | true=>simp at h
                | false=>
                  simp only [Bool.false_eq_true,if_false] at h;split at h<;>try (cases h;done)
                  rename_i s1 ps1 h1;split at h<;>simp only [zA,zE,reduceCtorEq] at h;rename_i k1 e1 s2 ps2 es2 h2;obtain ⟨rfl,rfl,rfl,rfl,rfl⟩:=h;rw [Zcy.append] at hp;unfold exK;refine wp_region_list (Zig hok h1 hp.1 hs fun g' w' a' hm hs' hd=>?_);exact ih h2 hp.2 he hs' fun g'' w'' a'' hm' hs'' hd'=>hQ g'' w'' a'' (hm.trans hm') hs'' (hd'.trans hd)
              | d d=>
                cases dr with
                | false=>simp at h
                | true=>
                  simp only [if_true] at h;split at h<;>try (cases h;done)
                  rename_i s1 ps1 es1 h1;split at h<;>simp only [zA,zE,reduceCtorEq] at h;rename_i k1 e1 s2 ps2 es2 h2;obtain ⟨rfl,rfl,rfl,rfl,rfl⟩:=h;rw [Zcy.append] at hp;unfold exK;refine Zsz hok hfol h1 hp.1 (fun q hq=>he q (List.mem_append_left _ hq)) hs fun g' w' a' hm hs' hd=>?_;exact ih h2 hp.2 (fun q hq=>he q (List.mem_append_right _ hq)) hs' fun g'' w'' a'' hm' hs'' hd'=>hQ g'' w'' a'' (hm.trans hm') hs'' (hd'.trans hd)
          | loop x=>
            cases ds with
            | nil=>simp only [zA,zE] at h;exact stop h
            | cons d ds=>simp at h
          | _=>simp at h
def At (g0:G) (w0:World) (s:S) (J:Act→World→Prop):Prop:=∀g w a,Mod g0 g w0 w→Sat g s w a.tmps→a.defers = []→J a w
def goQ (step:ZiD) (n:Nat) (ks:List K) (s:S) (ds:List PS) (live sites:List Nat):Option (List K×S×List Prop):=
  match goS step n ks .n s ds with
  | some (ks',.n,s',ps,[])=>some (ks',s'.norm live sites,ps)
  | _=>none
def goQd (step:ZiD) (n:Nat) (ks:List K) (s:S) (ds:List PS) (live sites:List Nat):Option (List K×S×List Prop):=
  match goS step n ks .n s ds with
  | some (ks',.n,s',ps,_)=>some (ks',s'.norm live sites,ps)
  | _=>none
def ZjL (b:Bool):Option (List K×E×S×List Prop×List (Cmp×Cmp))→List Cmp
  | some (_,_,_,_,es)=>es.map fun q=>if b then q.1 else q.2
  | none=>[]
def finQ (P:Program) (fn:Func) (step:ZiD) (n:Nat) (ks:List K) (s:S) (ds:List PS) (oc:List L) (md:Nat) (own:List Nat):Option (List CV×List (List L)×List Prop):=
  match goS step n ks .n s ds with
  | some ([],.n,s',ps,[])=>match ZhW P s' oc md own 0 fn.results.toList with
    | some (rs,_,qs)=>some (rs,s'.st,ps++qs)
    | none=>none
  | some ([],.ret,s',ps,[])=>match ZhW P s' oc md own 0 fn.results.toList with
    | some (rs,_,qs)=>some (rs,s'.st,ps++qs)
    | none=>none
  | _=>none
def Zop (P:Program) (fn:Func) (step:ZiD) (n:Nat) (ks:List K) (s:S) (ds:List PS) (oc:List L) (md:Nat) (own:List Nat):Option (List CV×List (List L)×List Prop):=
  match goS step n ks .n s ds with
  | some ([],.n,s',ps,_)=>match ZhW P s' oc md own 0 fn.results.toList with
    | some (rs,_,qs)=>some (rs,s'.st,ps++qs)
    | none=>none
  | some ([],.ret,s',ps,_)=>match ZhW P s' oc md own 0 fn.results.toList with
    | some (rs,_,qs)=>some (rs,s'.st,ps++qs)
    | none=>none
  | _=>none
section
variable {P:Program} {step:ZiD} {g0:G} {w0:World} {R:Exit→Act→World→Prop} {n:Nat} {ks ks':List K} {s s':S} {ds:List PS} {live sites:List Nat} {ps:List Prop}
theorem Zoy {x:Option (List K×E×S×List Prop×List (Cmp×Cmp))} {ks:List K} {e:E} {s:S} {ps:List Prop} {es:List (Cmp×Cmp)} (hx:x=some (ks,e,s,ps,es)) (h:ZjL true x=ZjL false x) : ∀q∈es,q.1=q.2:=by
  subst hx;simp only [ZjL,if_true,Bool.false_eq_true,if_false] at h;intro q hq;exact List.map_inj_left.1 h q hq
theorem At.goA (hok:ZfZ P step) (hfol:P.follows .mixedOrders=true) {e e':E} {es:List (Cmp×Cmp)} (h:goS step n ks e s ds=some (ks',e',s',ps,es)) (hp:Zcy ps) (he : ∀q∈es,q.1=q.2)
    (hk:At g0 w0 s' (exK P R ks' e'.exit)):At g0 w0 s (exK P R ks e.exit):=fun g w a hM hs hd=>
  ZtP hok hfol h hp he hs fun g' w' a' hM' hs' hd'=>hk g' w' a' (hM.trans hM') hs' (hd'.trans hd)
theorem At.norm {J:Act→World→Prop} (h:At g0 w0 (s.norm live sites) J):At g0 w0 s J:=fun g w a hM hs hd=>h g w a hM (hs.norm live sites) hd
theorem At.go (hok:ZfZ P step) (hfol:P.follows .mixedOrders=true) (h:goQ step n ks s ds live sites=some (ks',s',ps)) (hp:Zcy ps) (hk:At g0 w0 s' (exK P R ks' .normal)):At g0 w0 s (exK P R ks .normal):=by
  unfold goQ at h;split at h<;>simp only [zA,zE,reduceCtorEq] at h;rename_i h1;obtain ⟨rfl,rfl,rfl⟩:=h;exact At.goA (e:=.n) hok hfol h1 hp (fun q hq=>by cases hq) hk.norm
theorem At.goD (hok:ZfZ P step) (hfol:P.follows .mixedOrders=true) (h:goQd step n ks s ds live sites=some (ks',s',ps)) (hc:ZjL true (goS step n ks .n s ds)=ZjL false (goS step n ks .n s ds)) (hp:Zcy ps)
    (hk:At g0 w0 s' (exK P R ks' .normal)):At g0 w0 s (exK P R ks .normal):=by
  unfold goQd at h;split at h<;>simp only [zA,zE,reduceCtorEq] at h;rename_i h1;obtain ⟨rfl,rfl,rfl⟩:=h;exact At.goA (e:=.n) hok hfol h1 hp (Zoy h1 hc) hk.norm
theorem At.ends {fn:Func} {rs:List CV} {e':E} {oc:List L} {md:Nat} {own:List Nat} {m:Option (Nat×Nat)} {qs:List Prop} (hE:ZmL P fn g0 w0 rs s'.st R) (he:e' = .n∨e' = .ret) (hr:ZhW P s' oc md own 0 fn.results.toList=some (rs,m,qs)) (hq:Zcy qs) :
    At g0 w0 s' (exK P R [] e'.exit):=fun g w a hM hs hd=>by
  unfold exK;exact hE g w a s' oc md own m qs e' he hM hs hd hr hq rfl
theorem At.fin {fn:Func} {rs:List CV} {st':List (List L)} {oc:List L} {md:Nat} {own:List Nat} (hok:ZfZ P step) (hfol:P.follows .mixedOrders=true) (hE:ZmL P fn g0 w0 rs st' R)
    (h:finQ P fn step n ks s ds oc md own=some (rs,st',ps)) (hp:Zcy ps):At g0 w0 s (exK P R ks .normal):=by
  unfold finQ at h;split at h
  · rename_i h1
    split at h<;>simp only [zA,zE,reduceCtorEq] at h;rename_i h2;obtain ⟨rfl,rfl,rfl⟩:=h;rw [Zcy.append] at hp;exact At.goA (e:=.n) hok hfol h1 hp.1 (fun q hq=>by cases hq) (At.ends (e':=.n) hE (.inl rfl) h2 hp.2)
  · rename_i h1
    split at h<;>simp only [zA,zE,reduceCtorEq] at h;rename_i h2;obtain ⟨rfl,rfl,rfl⟩:=h;rw [Zcy.append] at hp;exact At.goA (e:=.n) hok hfol h1 hp.1 (fun q hq=>by cases hq) (At.ends (e':=.ret) hE (.inr rfl) h2 hp.2)
  cases h
theorem At.finD {fn:Func} {rs:List CV} {st':List (List L)} {oc:List L} {md:Nat} {own:List Nat} (hok:ZfZ P step) (hfol:P.follows .mixedOrders=true) (hE:ZmL P fn g0 w0 rs st' R)
    (h:Zop P fn step n ks s ds oc md own=some (rs,st',ps)) (hc:ZjL true (goS step n ks .n s ds)=ZjL false (goS step n ks .n s ds)) (hp:Zcy ps):At g0 w0 s (exK P R ks .normal):=by
  unfold Zop at h;split at h
  · rename_i h1
    split at h<;>simp only [zA,zE,reduceCtorEq] at h;rename_i h2;obtain ⟨rfl,rfl,rfl⟩:=h;rw [Zcy.append] at hp;exact At.goA (e:=.n) hok hfol h1 hp.1 (Zoy h1 hc) (At.ends (e':=.n) hE (.inl rfl) h2 hp.2)
  · rename_i h1
    split at h<;>simp only [zA,zE,reduceCtorEq] at h;rename_i h2;obtain ⟨rfl,rfl,rfl⟩:=h;rw [Zcy.append] at hp;exact At.goA (e:=.n) hok hfol h1 hp.1 (Zoy h1 hc) (At.ends (e':=.ret) hE (.inr rfl) h2 hp.2)
  cases h
theorem At.loop {x:Code} (m:Nat) (h:At g0 w0 s (Code.rounds P x (exK P R ks) m)):At g0 w0 s (exK P R (.c (.loop x)::ks) .normal):=fun g w a hM hs hd=>ZrD m (h g w a hM hs hd)
theorem At.round {x:Code} {m:Nat} (h:At g0 w0 s (exK P R (.c x :: .h (Code.rounds P x (exK P R ks) m)::ks) .normal)):At g0 w0 s (Code.rounds P x (exK P R ks) (m+1)):=fun g w a hM hs hd=>Zlx (h g w a hM hs hd)
theorem At.here {J:Act→World→Prop} (h:At g0 w0 s J):At g0 w0 s (exK P R (.h J::ks) .normal):=fun g w a hM hs hd=>by unfold exK;exact h g w a hM hs hd
theorem Snd.of {f:FuncId} {fn:Func} {c:Code} {args:List CV} {st:List (List L)} {rs:List CV} {st':List (List L)} (hf:P.funcs[f]? = some fn)
    (hn : (fn.name == "runtime.NumGoroutine") = false) (hb : fn.body = some c) (hlen : args.length ≤ fn.ntmps)
    (h : ∀(g:G) (w:World) (R:Exit→Act→World→Prop),ZmL P fn g w rs st' R→At g w (S.enter fn.ntmps args st) (exK P R [.c c] .normal)):Snd P f args st rs st':=
  Snd.mk hf hn hb hlen fun g w a R hs hd hE=>h g w R hE g w a (.refl _ _) hs hd
end
section
variable {α:Type}
def chk (p:Prop) [Decidable p] (A:Option α):Option α:=if p then A else none
theorem Zbe {p:Prop} [Decidable p] {A:Option α} {r:α} (h:chk p A=some r):p∧A=some r:=by
  unfold chk at h;split at h
  · exact ⟨by assumption,h⟩
  cases h
theorem Zbc {v:Bool} {A B:Option α} {r:α} {G:Prop} (h:(if v=true then A else B)=some r) (ht:v=true→A=some r→G) (hf:v=false→B=some r→G):G:=by
  cases v
  · exact hf rfl (by simpa using h)
  exact ht rfl (by simpa using h)
def Zbm {β:Type} (o:Option β) (f:β→Option α):Option α:=match o with
  | some i=>f i
  | none=>none
theorem Zac {β:Type} {o:Option β} {f:β→Option α} {r:α} (h:Zbm o f=some r) : ∃i,o=some i∧f i=some r:=by
  cases o with
  | none=>cases h
  | some i=>exact ⟨i,rfl,h⟩
theorem Zad {x r:α} (h:some x=some r):x=r:=by cases h;rfl
end
def mkSl:Nat→Nat→List (Nat×TV)→List TV
  | _,0,_=>[]
  | i,n+1,[]=>.u::mkSl (i+1) n []
  | i,n+1,(j,t)::r=>if i=j then t::mkSl (i+1) n r else .u::mkSl (i+1) n ((j,t)::r)
def mkSi:Nat→Nat→List (Nat×Ent)→List (Option Ent)
  | _,0,_=>[]
  | i,n+1,[]=>none::mkSi (i+1) n []
  | i,n+1,(j,t)::r=>if i=j then some t::mkSi (i+1) n r else none::mkSi (i+1) n ((j,t)::r)
def mkS (n:Nat) (sl:List (Nat×TV)) (si:List (Nat×Ent)) (st:List (List L)):S:=⟨mkSl 0 n sl,mkSi 0 n si,st,0⟩
def ZbM:Code→List Nat→Code
  | .seq a _,0::r=>ZbM a r
  | .seq _ b,_::r=>ZbM b r
  | .cond _ a _,0::r=>ZbM a r
  | .cond _ _ b,_::r=>ZbM b r
  | .block _ b,_::r=>ZbM b r
  | .loop b,_::r=>ZbM b r
  | .scope b,_::r=>ZbM b r
  | x,_=>x
end Go.Dn
namespace Go.Dn
variable [Globs]
def ZqV (o:Option (List K×S×List Prop)) (ks':List K) (s':S) (A:Prop):Prop:=
  match o with
  | some (k,s,ps)=>(k,s)=(ks',s')∧(A→Zcy ps)
  | none=>False
def ZqW (o:Option (List K×S×List Prop)) (k0:K) (s':S) (A:Prop):Prop:=
  match o with
  | some (k,s,ps)=>(k.head?,s)=(some k0,s')∧(A→Zcy ps)
  | none=>False
def ZiE (o:Option (List CV×List (List L)×List Prop)) (rs:List CV) (st':List (List L)) (A:Prop):Prop:=
  match o with
  | some (k,s,ps)=>(k,s)=(rs,st')∧(A→Zcy ps)
  | none=>False
section
variable {P:Program} {g0:G} {w0:World} {R:Exit→Act→World→Prop} {ks ks':List K} {s s':S} {A:Prop}
theorem goodQ {o:Option (List K×S×List Prop)} (h:((ks',s')=(ks',s')∧(A→A))=ZqV o ks' s' A) (a:A) : ∃ps,o=some (ks',s',ps)∧Zcy ps:=by
  have h1:ZqV o ks' s' A:=h ▸ ⟨rfl,id⟩;unfold ZqV at h1;split at h1
  · rename_i k s ps
    obtain ⟨h2,h3⟩:=h1;simp only [zE] at h2;obtain ⟨rfl,rfl⟩:=h2;exact ⟨ps,rfl,h3 a⟩
  exact h1.elim
theorem goodF {o:Option (List CV×List (List L)×List Prop)} {rs:List CV} {st':List (List L)} (h:((rs,st')=(rs,st')∧(A→A))=ZiE o rs st' A) (a:A) : ∃ps,o=some (rs,st',ps)∧Zcy ps:=by
  have h1:ZiE o rs st' A:=h ▸ ⟨rfl,id⟩;unfold ZiE at h1;split at h1
  · rename_i k s ps
    obtain ⟨h2,h3⟩:=h1;simp only [zE] at h2;obtain ⟨rfl,rfl⟩:=h2;exact ⟨ps,rfl,h3 a⟩
  exact h1.elim
theorem goodN {o:Option (List K×S×List Prop)} {k:K} (h:((some k,s')=(some k,s')∧(A→A))=ZqW o k s' A) (a:A) : ∃ks' ps,o=some (k::ks',s',ps)∧Zcy ps:=by
  have h1:ZqW o k s' A:=h ▸ ⟨rfl,id⟩;unfold ZqW at h1;split at h1
  · rename_i k0 s ps
    obtain ⟨h2,h3⟩:=h1;simp only [zE] at h2;obtain ⟨h4,rfl⟩:=h2;cases k0 with
    | nil=>cases h4
    | cons k0 ks0=>simp at h4;subst h4;exact ⟨_,ps,rfl,h3 a⟩
  exact h1.elim
theorem At.q (hfol:P.follows .mixedOrders=true) (n:Nat) (ds:List PS) (live sites:List Nat) (a:A) (hk:At g0 w0 s' (exK P R ks' .normal))
    (h:((ks',s')=(ks',s')∧(A→A))=ZqV (goQ (ZdZ P) n ks s ds live sites) ks' s' A):At g0 w0 s (exK P R ks .normal):=by
  obtain ⟨ps,h1,h2⟩:=goodQ h a;exact At.go (Zfx P) hfol h1 h2 hk
theorem At.qd (hfol:P.follows .mixedOrders=true) (n:Nat) (ds:List PS) (live sites:List Nat) (a:A) (hk:At g0 w0 s' (exK P R ks' .normal))
    (h:((ks',s')=(ks',s')∧(A→A))=ZqV (goQd (ZdZ P) n ks s ds live sites) ks' s' A) (hc:ZjL true (goS (ZdZ P) n ks .n s ds)=ZjL false (goS (ZdZ P) n ks .n s ds)):At g0 w0 s (exK P R ks .normal):=by
  obtain ⟨ps,h1,h2⟩:=goodQ h a;exact At.goD (Zfx P) hfol h1 hc h2 hk
theorem At.n {J:Act→World→Prop} (hfol:P.follows .mixedOrders=true) (n:Nat) (ds:List PS) (live sites:List Nat) (a:A) (hk:At g0 w0 s' J)
    (h:((some (K.h J),s')=(some (K.h J),s')∧(A→A))=ZqW (goQ (ZdZ P) n ks s ds live sites) (.h J) s' A):At g0 w0 s (exK P R ks .normal):=by
  obtain ⟨ks',ps,h1,h2⟩:=goodN h a;exact At.go (Zfx P) hfol h1 h2 (At.here hk)
theorem At.nd {J:Act→World→Prop} (hfol:P.follows .mixedOrders=true) (n:Nat) (ds:List PS) (live sites:List Nat) (a:A) (hk:At g0 w0 s' J)
    (h:((some (K.h J),s')=(some (K.h J),s')∧(A→A))=ZqW (goQd (ZdZ P) n ks s ds live sites) (.h J) s' A) (hc:ZjL true (goS (ZdZ P) n ks .n s ds)=ZjL false (goS (ZdZ P) n ks .n s ds)):At g0 w0 s (exK P R ks .normal):=by
  obtain ⟨ks',ps,h1,h2⟩:=goodN h a;exact At.goD (Zfx P) hfol h1 hc h2 (At.here hk)
theorem At.f {fn:Func} {rs:List CV} {st':List (List L)} (hfol:P.follows .mixedOrders=true) (hE:ZmL P fn g0 w0 rs st' R) (n:Nat) (ds:List PS) (oc:List L) (md:Nat) (own:List Nat) (a:A)
    (h:((rs,st')=(rs,st')∧(A→A))=ZiE (finQ P fn (ZdZ P) n ks s ds oc md own) rs st' A):At g0 w0 s (exK P R ks .normal):=by
  obtain ⟨ps,h1,h2⟩:=goodF h a;exact At.fin (Zfx P) hfol hE h1 h2
theorem At.fd {fn:Func} {rs:List CV} {st':List (List L)} (hfol:P.follows .mixedOrders=true) (hE:ZmL P fn g0 w0 rs st' R) (n:Nat) (ds:List PS) (oc:List L) (md:Nat) (own:List Nat) (a:A)
    (h:((rs,st')=(rs,st')∧(A→A))=ZiE (Zop P fn (ZdZ P) n ks s ds oc md own) rs st' A) (hc:ZjL true (goS (ZdZ P) n ks .n s ds)=ZjL false (goS (ZdZ P) n ks .n s ds)):At g0 w0 s (exK P R ks .normal):=by
  obtain ⟨ps,h1,h2⟩:=goodF h a;exact At.finD (Zfx P) hfol hE h1 hc h2
def loopN {α ρ:Type} (body:(α→Option ρ)→α→Option ρ):Nat→α→Option ρ
  | 0,_=>none
  | k+1,x=>body (loopN body k) x
theorem At.loopN {α ρ:Type} (St:α→S) {x:Code} {ks:List K} {body:(α→Option ρ)→α→Option ρ} {r:ρ}
    (hb : ∀(c:α→Option ρ) (J:Act→World→Prop),(∀y,c y=some r→At g0 w0 (St y) J)→∀y,body c y=some r→At g0 w0 (St y) (exK P R (.c x :: .h J::ks) .normal)) :
    ∀(k:Nat) (y:α),Dn.loopN body k y=some r→At g0 w0 (St y) (Code.rounds P x (exK P R ks) k)
  | 0,y,h=>by cases h
  | k+1,y,h=>At.round (hb (Dn.loopN body k) _ (fun y' h'=>At.loopN St hb k y' h') y h)
end
end Go.Dn
namespace Go.Dn
variable [Globs]
theorem Zar {st:List (List L)} {i:Nat} {c:List L} (h:st[i]? = some c) (c':List L):(st.set i c')[i]? = some c':=by
  have:i<st.length:=by
    rcases zV i st.length with h' | h'
    · exact h'
    rw [zM h'] at h;cases h
  simp [this]
theorem st_new (st:List (List L)) (c:List L):(st ++ [c])[st.length]? = some c:=by simp
theorem st_old {st:List (List L)} {i:Nat} {c:List L} (h:st[i]? = some c) (c':List L):(st ++ [c'])[i]? = some c:=by
  have:i<st.length:=by
    rcases zV i st.length with h' | h'
    · exact h'
    rw [zM h'] at h;cases h
  rw [zW this];exact h
theorem not_true {b:Bool} (h:b=true):(!b)=false:=by subst h;rfl
theorem not_false {b:Bool} (h:b=false):(!b)=true:=by subst h;rfl
theorem Zbt {b:Bool} (h:(!b)=true):b=false:=by cases b<;>first | rfl | cases h
theorem Zbu {b:Bool} (h:(!b)=false):b=true:=by cases b<;>first | rfl | cases h
def optM {α:Type} (o:Option (Option (Nat×L))) (f:Nat→L→Option α) (g:Option α):Option α:=match o with
  | some (some (j,v))=>f j v
  | some none=>g
  | none=>none
theorem Zoa {α:Type} {o:Option (Option (Nat×L))} {f:Nat→L→Option α} {g:Option α} {r:α} (h:optM o f g=some r):(∃j v,o=some (some (j,v))∧f j v=some r)∨(o=some none∧g=some r):=by
  unfold optM at h;split at h
  · exact .inl ⟨_,_,rfl,h⟩
  · exact .inr ⟨rfl,h⟩
  cases h
theorem ZtT {o:Option (Option (Nat×L))} {j:Nat} {v:L} (h:o=some (some (j,v))) : ∃j,o=some (some (j,v)):=⟨j,h⟩
theorem ex_at {o:Option (Option (Nat×L))} {j:Nat} {v:L} (h:o=some (some (j,v))) : ∃v,o=some (some (j,v)):=⟨v,h⟩
end Go.Dn
namespace Go.Dn
variable [Globs]
theorem ZjZ {α:Type} {a b:α} (h : [a] = [b]):a=b:=by cases h;rfl
end Go.Dn
namespace Go.Dn.F
open Go.Dn
variable [Globs]
def Zes (_:Nat) (x y c:Int):Option (Int×Int):=
  chk (0≤x)<|chk (0≤y)<|chk (0≤c)<|chk (c≤1)<|some ((x+y+c)%18446744073709551616,(x+y+c)/18446744073709551616)
def ZfD (_:Nat) (x y c:Int):Option (Int×Int):=
  chk (0≤x)<|chk (0≤y)<|chk (0≤c)<|chk (c≤1)<|chk (y≤18446744073709551615)<|some ((x-y-c)%18446744073709551616,if x<y+c then 1 else 0)
def ZnA:Array Value→Sem Value:=fun args=>do
  let (x, y, b) ← Extern.MathBitsCarry.three "Sub64" args
  pure (Extern.MathBitsCarry.pair ((x+Extern.MathBitsCarry.m64-y-b)%Extern.MathBitsCarry.m64) (if x<y+b then 1 else 0))
theorem run_sub {P:Program} (x y b:Nat) (hb:b≤1) (w:World) :
    (ZnA #[.int .u64 x,.int .u64 y,.int .u64 b]).run P w =
      .ok (.tuple #[.int .u64 (((x+18446744073709551616-y-b)%18446744073709551616:Nat):Int),.int .u64 ((if x<y+b then 1 else 0:Nat):Int)]) w:=by
  have:b=0∨b=1:=by omega
  rcases this with rfl | rfl<;>rfl
variable {P:Program} {f:FuncId} {fn:Func}
theorem ZmH (hf : P.funcs[f]? = some fn) (hname : (fn.name == "runtime.NumGoroutine") = false) (hb : fn.body.isNone = true) (hn : Extern.findNext fn = none) (he : Extern.find fn = some add64Entry)
    {N:Nat} {x y z:Int} {r:Int×Int} (h:Zes N x y z=some r):ExtI P f [(.u64,x),(.u64,y),(.u64,z)] [(.u64,r.1),(.u64,r.2)]:=by
  intro w;unfold Zes at h;obtain ⟨h1,h⟩:=Zbe h;obtain ⟨h2,h⟩:=Zbe h;obtain ⟨h3,h⟩:=Zbe h;obtain ⟨h4,h⟩:=Zbe h;have:=Zad h;subst this;rw [run_callFunc_extern hf hname hb hn he];show (Result.andThen ((add64Entry #[.int .u64 x,.int .u64 y,.int .u64 z]).run P w) _)=_;rw [run_add64 x y z h1 h2 h3 h4];rfl
theorem ZmG (hf : P.funcs[f]? = some fn) (hname : (fn.name == "runtime.NumGoroutine") = false) (hb : fn.body.isNone = true) (hn : Extern.findNext fn = none) (he : Extern.find fn = some ZnA)
    {N:Nat} {x y z:Int} {r:Int×Int} (h:ZfD N x y z=some r):ExtI P f [(.u64,x),(.u64,y),(.u64,z)] [(.u64,r.1),(.u64,r.2)]:=by
  intro w;unfold ZfD at h;obtain ⟨h1,h⟩:=Zbe h;obtain ⟨h2,h⟩:=Zbe h;obtain ⟨h3,h⟩:=Zbe h;obtain ⟨h4,h⟩:=Zbe h;obtain ⟨h5,h⟩:=Zbe h;have:=Zad h;subst this;rw [run_callFunc_extern hf hname hb hn he];obtain ⟨X,rfl⟩:=tM h1;obtain ⟨Y,rfl⟩:=tM h2;obtain ⟨Z,rfl⟩:=tM h3;show (Result.andThen ((ZnA #[.int .u64 X,.int .u64 Y,.int .u64 Z]).run P w) _)=_;rw [run_sub X Y Z (by omega)];have e1:(((X+18446744073709551616-Y-Z)%18446744073709551616:Nat):Int)=((X:Int)-Y-Z)%18446744073709551616:=by omega
  have e2:((if X<Y+Z then 1 else 0:Nat):Int)=if (X:Int)<Y+Z then 1 else 0:=by
    by_cases hh:X<Y+Z
    · rw [aD hh,aD (by omega)];rfl
    rw [aE hh,aE (by omega)];rfl
  rw [e1,e2];rfl
end Go.Dn.F
namespace Go.Dn
variable [Globs]
section
variable {P:Program} {g0:G} {w0:World} {R:Exit→Act→World→Prop} {ks:List K} {s:S}
theorem Ztu {o:Oper} {d1 d2 T T2 E:Nat} {sz:Nat} {xs:List (List L)} (h:o.op = .binOp .eql T (.tmp d1) (.const (.slice none 0 0)) T2) (hu:P.underlying T=some (.slice E)) (hd:o.dst=some d2)
    (hs0:s.sl[d1]? = some (.one (.l (.sl sz xs)))) {g:G} {w:World} {a:Act} (hs:Sat g s w a.tmps) {K:Act→World→Prop} {Q:Exit→Act→World→Prop}
    (hK : ∀b g' a',(b=true→xs = [])→Mod g g' w w→Sat g' (s.put (some d2) (.one (.l (.bool b)))) w a'.tmps→a'.defers=a.defers→K a' w):o.wp P a w K Q:=by
  have hv:=hs.slot d1 _ hs0;have ha:a.eval (.tmp d1)=a.tmps.getD d1 undef:=rfl;rw [←ha] at hv;obtain ⟨_,hl⟩:=hv;simp only [TR] at hl;obtain ⟨p,n,c,hpv,hnil⟩ : ∃p n c,a.eval (.tmp d1) = .slice p n c∧(p.isNone=true→xs = []):=by
    generalize a.eval (.tmp d1)=v at hl;cases hl with
    | slnil=>exact ⟨none,0,0,rfl,fun _=>rfl⟩
    | slz _ _ a0=>exact ⟨_,0,0,rfl,fun h=>by cases h⟩
    | sl _ b off len cap _ _ hl hc hZ he=>exact ⟨_,_,_,rfl,fun h=>by cases h⟩
  have hc0:a.eval (.const (.slice none 0 0)) = .slice none 0 0:=rfl;have hrun:(execOp a.eval o).run P w = .ok (.value (.bool p.isNone)) w:=by
    have h1:(binOp .eql T (.slice p n c) (.slice none 0 0)).run P w = .ok (.bool p.isNone) w:=by
      exact Lib.run_eql_slice_nil w T E p n c 0 0 hu
    have h2:(eqGuard .eql T (.tmp d1) (.const (.slice none 0 0)) (.slice p n c) (.slice none 0 0)).run P w = .ok () w:=by simp [eqGuard]
    simp only [execOp,h,hpv,hc0,Sem.run_bind,h1,h2,Result.andThen_ok,Sem.run_pure]
  unfold Oper.wp;rw [hrun];have hsl:ZdD g (s.put o.dst (.one (.l (.bool p.isNone)))) w (.bool p.isNone) (.one (.l (.bool p.isNone))):=⟨rfl,.bool _ _⟩
  have hn:=hs.next (X:=fun _=>False) (s':=s.put o.dst (.one (.l (.bool p.isNone)))) (ZbK.refl (by cases o.dst<;>rfl) (by cases o.dst<;>rfl)) (fun _ h=>h.elim) (hs.mem.cast (by cases o.dst<;>rfl) (by cases o.dst<;>rfl)) (by cases o.dst<;>rfl) (dst:=o.dst) (tv:=.one (.l (.bool p.isNone))) (v:=.bool p.isNone) rfl (fun _=>hsl);rw [←hd] at hK;exact hK p.isNone g _ hnil (.refl g w) hn (by cases o.dst<;>rfl)
theorem At.nilcmp (hok:ZfZ P (ZdZ P)) {id d0 d1 d2 T T2 E:Nat} {o1 o2:Oper} {sz:Nat} {xs:List (List L)} {rest:Code}
    (h1:o1.op = .move (.tmp d0)) (g1:o1.guard=none) (e1:o1.dst=some d1) (h2:o2.op = .binOp .eql T (.tmp d1) (.const (.slice none 0 0)) T2) (g2:o2.guard=none) (e2:o2.dst=some d2) (hu:P.underlying T=some (.slice E))
    (hs0:s.sl[d0]? = some (.one (.l (.sl sz xs)))) (hd1:d1<s.sl.length)
    (k : ∀b,(b=true→xs = [])→At g0 w0 ((s.put (some d1) (.one (.l (.sl sz xs)))).put (some d2) (.one (.l (.bool b)))) (exK P R (.c rest::ks) .normal)) :
    At g0 w0 s (exK P R (.c (.seq (.region id #[o1,o2] false) rest)::ks) .normal):=by
  intro g w a hM hs hd;refine Zot ?_;unfold exK;refine wp_region_list ?_;unfold wpList;rw [aD (by unfold Region.wanted;rw [g1])];left;have hpv:Dn.pv P s o1=some (.one (.l (.sl sz xs)),[]):=by
    unfold Dn.pv;rw [h1];simp only [ev,hs0,yU]
  refine (ZdB.pv hpv trivial) g w a hs _ _ fun g' w' v hm hk hs'=>?_;rw [e1] at hs' ⊢;unfold wpList;rw [aD (by unfold Region.wanted;rw [g2])];left;refine Ztu (s:=s.put (some d1) (.one (.l (.sl sz xs)))) (sz:=sz) (xs:=xs) h2 hu e2 (by simp [S.put,hd1]) hs' fun b g'' a' hb hm' hs'' hd'=>?_;unfold wpList;exact k b hb g'' w' a' ((hM.trans hm).trans hm') hs'' (by rw [hd'];exact hd)
end
def opPos:Code→Nat→String
  | .seq (.region _ os _) _,i=>match os[i]? with
    | some o=>o.pos
    | none => ""
  | _, _ => ""
end Go.Dn
namespace Go.Dn
open Go.ChangeShapes Go.WideShapes Go.RowKit
def ZlU (w:World):G:=
  { ob:=fun _=>0,nob:=0,sb:=fun _=>0,hd:=fun _=>.slice none 0 0,ow:=fun _=>none
    Z:=fun b=>match w.heap[b]? with | some (.cells a _ _)=>a.size | _=>0}
theorem ZlT {w:World} {b o:Nat} {v:Value} (h:w.cell? (ad b o)=some v):o<(ZlU w).Z b:=by
  simp only [World.cell?] at h;simp only [ZlU];cases hb:w.heap[b]? with
  | none=>rw [hb] at h;simp at h
  | some x=>
    rw [hb] at h;cases x with
    | cells a E lo=>simp only at h;exact (Array.getElem?_eq_some_iff.1 h).1
    | _=>simp at h
section
variable [Globs]
theorem lawG_sat {w:World} (hg:GlR (ZlU w) w):ZdJ (ZlU w) (.ofSt []) w:=
  ⟨rfl,fun i c h=>by simp [S.ofSt] at h,fun i h=>absurd h (rV i),fun n e h=>by simp [S.ofSt] at h,(fun b t h=>by cases h),
   fun b hb=>by simp [ZlU,rP hb],hg⟩
theorem law {P:Program} {f:FuncId} {args rs:List CV} {st':List (List L)} {w:World} {vs:List Value} (h:Snd P f args [] rs st') (hg:GlR (ZlU w) w) (hv:Zgh (ZlU w) w 0 vs args) :
    Calls P f vs.toArray w fun e w'=>(∃us g',e = .returned (Zqu us)∧Zgh g' w' 0 us rs)∧Below w.heap.size w w':=
  (h.2 (ZlU w) w vs hv (lawG_sat hg)).mono fun e w' ⟨g',us,he,hM,_,hu⟩=>
    ⟨⟨us,g',he,hu⟩,hM.os,hM.tape,hM.output,hM.size,fun k hk=>by
      rcases hM.same k hk with h | h
      · exact h.1
      exact absurd rfl h.1⟩
theorem law_true {P:Program} {f:FuncId} {args:List CV} {st':List (List L)} {w:World} {vs:List Value} (h:Snd P f args [] [.one (.bool true)] st') (hg:GlR (ZlU w) w) (hv:Zgh (ZlU w) w 0 vs args) :
    Calls P f vs.toArray w fun e w'=>e = .returned (.bool true)∧Below w.heap.size w w':=
  (law h hg hv).mono fun e w' ⟨⟨us,g',he,v,r,hu,h1,h2⟩,hb⟩=>by
    subst hu;cases h2;cases h1.2;exact ⟨he,hb⟩
theorem law_nil {g:G} {w:World} {i:Nat}:Zgh g w i [] []:=rfl
theorem Zrv {g:G} {w:World} {i:Nat} {v:Value} {vs:List Value} {c:CV} {cs:List CV} (h:CVR g w i v c) (hs:Zgh g w (i+1) vs cs):Zgh g w i (v::vs) (c::cs):=⟨v,vs,rfl,h,hs⟩
theorem Zun {P:Program} {w:World} {base:Nat} {sp:Nat→Bool} {held:Bool} {H:Type} {enc:TypeId×Value→H} {fuel t e n:Nat} {k:IntKind} {cs:List Value} {xs:List Int} {p:List MemPlace}
    (hu:P.underlying t=some (.array n e)) (he:P.underlying e=some (.int k)) (hc:P.cellsOf e=1) (hct:P.cellsOf t=n)
    (h:DataW.trod enc P w base sp held fuel t cs=some (.agg (xs.map fun x=>.lit (.int k x)),p)):cs=xs.map (Value.int k)∧xs.length=n:=by
  obtain ⟨ys,m,_,h1,h2,h3,h4⟩:=DataW.trod_array hu h;simp only [zE,DataW.agg.injEq] at h1;have hl:xs.length=n:=by
    have:=congrArg List.length h1.1;simp at this;omega
  refine ⟨?_,hl⟩;apply List.ext_getElem?;intro i;rw [hc] at h4;by_cases hi:i<n
  · have h5:=h4 i hi
    rw [Nat.mul_one,zR (by omega)] at h5;obtain ⟨z,h6,h7,_⟩:=DataW.trod_int he h5;have h8:(ys.map (·.1))[i]? = some (.lit (.int k z)):=by
      rw [xA,zR (by omega),h7];rfl
    rw [←h1.1,xA] at h8;have h9:xs[i]? = some z:=by
      rw [zR (by omega)] at h8 ⊢;simp only [yU,zA,DataW.lit.injEq,Lit.int.injEq,true_and] at h8;rw [h8]
    rw [xA,h9];have h10:=congrArg (fun l:List Value=>l[0]?) h6;simp only [xB,xQ] at h10;simpa using h10
  rw [zM (by omega),zM (by simp;omega)]
theorem ZpE {P:Program} {w:World} {name:String} {d:DataW Unit} {r:List (String×DataW Unit)} {ps:List MemPlace} (h:DataW.LaidVars P w ((name,d)::r) ps) {g t e n:Nat} {k:IntKind} (xs:List Int)
    (hg:P.globalNamed name=some g) (ht:(P.globals[g]?).map (·.type)=some t) (hu:P.underlying t=some (.array n e)) (he:P.underlying e=some (.int k)) (hc:P.cellsOf e=1) (hct:P.cellsOf t=n)
    (hd:d = .agg (xs.map fun x=>.lit (.int k x))) (h0:0<n):(∃sz,ER (ZlU w) w g 0 sz [[.arr k n xs]]∧sz≤(ZlU w).Z g)∧∃q,DataW.LaidVars P w r q:=by
  obtain ⟨g',t',cs,fuel,p,q,h1,h2,h3,h4,h5,_⟩:=h;obtain rfl:=yY (h1.symm.trans hg);obtain rfl:=yY (h2.symm.trans ht);subst hd;obtain ⟨hcs,hl⟩:=Zun hu he hc hct h4;have hcell : ∀j v,(xs.map (Value.int k))[j]? = some v→w.cell? (ad g' (0+j))=some v:=fun j v hj=>by
    have:=World.var?_cell hg h3 j;rw [yI,show ad g' j=⟨g',j,none⟩ from rfl,this,←Array.getElem?_toList,hcs,hj]
  refine ⟨⟨n,.cons g' 0 n (xs.map (Value.int k)) [.arr k n xs] [] (by simp [hl]) hcell ?_ (.nil _ _ _),?_⟩,q,h5⟩
  · have:=CR.arr (g:=ZlU w) (w:=w) none k n xs [] [] hl (.nil _)
    simpa using this
  have:(xs.map (Value.int k))[n-1]? = some (Value.int k (xs.getD (n-1) 0)):=by
    rw [xA,zR (by omega)];simp [List.getD,zR (show n-1<xs.length by omega)]
  have:=ZlT (hcell _ _ this);omega
end
end Go.Dn
namespace Go.Dn
theorem Zah {α:Type} {p:Prop} [Decidable p] {A:Option α} (h:p):chk p A=A:=aD h
@[simp] theorem Zaa {α β:Type} (x:β) (f:β→Option α):Zbm (some x) f=f x:=rfl
@[simp] theorem optM_hit {α:Type} (j:Nat) (v:L) (f:Nat→L→Option α) (g:Option α):optM (some (some (j,v))) f g=f j v:=rfl
@[simp] theorem optM_miss {α:Type} (f:Nat→L→Option α) (g:Option α):optM (some none) f g=g:=rfl
theorem Zax {α ρ:Type} (body:(α→Option ρ)→α→Option ρ) (k:Nat) (x:α):loopN body (k+1) x=body (loopN body k) x:=rfl
@[simp] theorem ZdT (l:List Int):(Zel l).length=l.length:=by simp [Zel]
theorem Zpf (n:Nat) (l:List Int):(Zel l).take n=Zel (l.take n):=by simp [Zel]
theorem ZhF (l m:List Int):Zel l++Zel m=Zel (l++m):=by simp [Zel]
theorem ZkV (n:Int) : [[L.int .i64 n]]=Zel [n]:=rfl
theorem Zjs {l:List Int} {i:Nat} (h:i<l.length):(Zel l)[i]? = some [L.int .i64 l[i]]:=by simp [Zel,h]
theorem ZiY {zs:List Int} {j:Nat} {x:Int} (h:zs[j]? = some x):(Zel zs)[Int.toNat (j:Int)]? = some [L.int .i64 x]:=by
  rw [Int.toNat_natCast];simp [Zel,h]
theorem ZmX (l:List Int):ZeB (Zel l)=true:=by simp [ZeB,Zel,L.plain]
theorem ZsW {α:Type} {l:List α} {i:Nat} {x:α} (h:l[i]? = some x):l.set i x=l:=by
  obtain ⟨hi,rfl⟩:=yD.1 h;exact List.set_getElem_self hi
theorem Zry {α:Type} {l:List α} {i:Nat} {x:α} (h:l[i]? = some x):i<l.length:=(yD.1 h).1
def fi:List (Int×Int)→Int→Option (Nat×Int)
  | [],_=>none
  | (k,v)::es,x=>if x=k then some (0,v) else (fi es x).map fun r=>(r.1+1,r.2)
def sm (es:List (Int×Int)) (x:Int):Int:=((fi es x).map (·.2)).getD 0
end Go.Dn
namespace Go.Dn.F
theorem Zkk {α ρ:Type} {body:(α→Option ρ)→α→Option ρ} {Q:ρ→Prop} (I:Nat→α→Prop)
    (step : ∀(G:α→Option ρ) m x,I m x→(∀m' y,m'<m→I m' y→∃r,G y=some r∧Q r)→∃r,body G x=some r∧Q r) :
    ∀k m x,I m x→m<k→∃r,loopN body k x=some r∧Q r
  | 0,_,_,_,h=>absurd h (rV _)
  | k+1,m,x,hI,h=>step (loopN body k) m x hI fun m' y hm hy=>Zkk I step k m' y hy (by omega)
theorem ZbY {α ρ:Type} {body:(α→Option ρ)→α→Option ρ} {o:Option ρ} (I:Nat→α→Prop)
    (step : ∀(G:α→Option ρ) m x,I m x→(∀m' y,m'<m→I m' y→G y=o)→body G x=o) :
    ∀k m x,I m x→m<k→loopN body k x=o
  | 0,_,_,_,h=>absurd h (rV _)
  | k+1,m,x,hI,h=>step (loopN body k) m x hI fun m' y hm hy=>ZbY I step k m' y hy (by omega)
end Go.Dn.F
namespace Go.Dn
variable [Globs]
open Go.ChangeShapes Go.WideShapes Go.RowKit
inductive Ty where
  | int (k:IntKind)
  | bool
  | str
  | arr (k:IntKind) (n:Nat)
  | sl (sz:Nat) (ts:List Ty)
mutual
def LTy:Ty→L→Prop
  | .int k,l=>∃n,l = .int k n∧(Lit.int k n).wf=true
  | .bool,l=>∃b,l = .bool b
  | .str,l=>∃s,l = .str s∧s.size≤maxLen
  | .arr k n,l=>∃xs,l = .arr k n xs∧xs.length=n∧∀x∈xs,(Lit.int k x).wf=true
  | .sl sz ts,l=>∃xs,l = .sl sz xs∧xs.length≤maxLen∧∀x∈xs,ZhR ts x
def ZhR:List Ty→List L→Prop
  | [],ls=>ls = []
  | t::ts,ls=>∃l r,ls=l::r∧LTy t l∧ZhR ts r
end
theorem ZhR.append : ∀{ts us:List Ty} {ls ms:List L},ZhR ts ls→ZhR us ms→ZhR (ts++us) (ls++ms)
  | [],us,ls,ms,h,k=>by rw [ZhR] at h;subst h;exact k
  | t::ts,us,ls,ms,h,k=>by
    rw [ZhR] at h;obtain ⟨l,r,rfl,h1,h2⟩:=h;rw [List.cons_append,ZhR];exact ⟨l,r++ms,rfl,h1,ZhR.append h2 k⟩
def ZkL (P:Program):Nat→List Field→Nat→Bool
  | off,[],tot=>off==tot
  | off,f::fs,tot=>f.offset==off&&ZkL P (off+P.cellsOf f.type) fs tot
def lay (P:Program):Nat→TypeId→Option (List Ty)
  | 0,_=>none
  | n+1,t=>match P.underlying t with
    | some (.int k)=>some [.int k]
    | some .bool=>some [.bool]
    | some .string=>some [.str]
    | some (.array m e)=>match P.underlying e with
      | some (.int k)=>if P.cellsOf e=1∧P.cellsOf t=m then some [.arr k m] else none
      | _=>none
    | some (.slice e)=>if 0<P.cellsOf e then (lay P n e).map fun ts=>[.sl (P.cellsOf e) ts] else none
    | some (.struct fs)=>if ZkL P 0 fs.toList (P.cellsOf t) then (fs.toList.mapM fun f=>lay P n f.type).map List.flatten else none
    | _=>none
theorem ER_of {g:G} {w:World} {b sz:Nat} {Q:List L→Prop} : ∀(m off:Nat),(∀i,i<m→∃vs x,vs.length=sz∧(∀j v,vs[j]? = some v→w.cell? (ad b (off+i*sz+j))=some v)∧CR g w none vs x∧Q x) →
    ∃xs,xs.length=m∧ER g w b off sz xs∧∀x∈xs,Q x
  | 0,off,_=>⟨[],rfl,.nil _ _ _,fun x h=>by cases h⟩
  | m+1,off,h=>by
    obtain ⟨vs,x,h1,h2,h3,h4⟩:=h 0 (by omega);obtain ⟨xs,k1,k2,k3⟩:=ER_of m (off+sz) fun i hi=>by
      obtain ⟨vs,x,h1,h2,h3,h4⟩:=h (i+1) (by omega);refine ⟨vs,x,h1,fun j v hj=>?_,h3,h4⟩;have:=h2 j v hj;rwa [wD,Nat.one_mul,show off+(i*sz+sz)+j=off+sz+i*sz+j by omega] at this
    refine ⟨x::xs,by simp [k1],.cons b off sz vs x xs h1 (fun j v hj=>?_) h3 k2,fun y hy=>?_⟩
    · have:=h2 j v hj
      rwa [Nat.zero_mul,vK] at this
    rcases wO.1 hy with rfl | hy
    · exact h4
    exact k3 y hy
section
variable {H:Type} {enc:TypeId×Value→H} {P:Program} {w:World} {held:Bool}
theorem ZmO {n:Nat} {cs:List Value} (ih : ∀(t:TypeId) (tys:List Ty) (fuel:Nat) (cs:List Value) (x:DataW H×List MemPlace),lay P n t=some tys→DataW.trod enc P w 0 (fun _=>true) held fuel t cs=some x→∃ls,CR (ZlU w) w none cs ls∧ZhR tys ls)
    {fuel:Nat} : ∀(fs:List Field) (off:Nat) (tyss:List (List Ty)),ZkL P off fs cs.length=true→off≤cs.length→fs.mapM (fun f=>lay P n f.type)=some tyss →
    (∀f∈fs,∃x,DataW.trod enc P w 0 (fun _=>true) held fuel f.type ((cs.drop f.offset).take (P.cellsOf f.type))=some x)→∃ls,CR (ZlU w) w none (cs.drop off) ls∧ZhR tyss.flatten ls
  | [],off,tyss,hc,ho,hm,_=>by
    simp only [ZkL,beq_iff_eq] at hc;simp only [List.mapM_nil] at hm;cases hm;refine ⟨[],?_,by rw [List.flatten_nil,ZhR]⟩;rw [List.drop_eq_nil_of_le (by omega)];exact .nil _
  | f::fs,off,tyss,hc,ho,hm,hx=>by
    simp only [ZkL,zT,beq_iff_eq] at hc;obtain ⟨hc1,hc2⟩:=hc;rw [List.mapM_cons] at hm;obtain ⟨ty,h1,hm⟩:=yB.1 hm;obtain ⟨tys,h2,hm⟩:=yB.1 hm;cases hm;obtain ⟨x,hx1⟩:=hx f (by simp);obtain ⟨ls,k1,k2⟩:=ih f.type ty fuel _ x h1 hx1;have hle:off+P.cellsOf f.type≤cs.length:=by
      clear hx h2 ih;have : ∀(fs:List Field) (o:Nat),ZkL P o fs cs.length=true→o≤cs.length:=by
        intro fs
        induction fs with
        | nil=>intro o h;simp only [ZkL,beq_iff_eq] at h;omega
        | cons f fs ihf=>intro o h;simp only [ZkL,zT,beq_iff_eq] at h;have:=ihf _ h.2;omega
      exact this _ _ hc2
    obtain ⟨ms,k3,k4⟩:=ZmO ih fs (off+P.cellsOf f.type) tys hc2 hle h2 (fun f' hf'=>hx f' (List.mem_cons_of_mem _ hf'));refine ⟨ls++ms,?_,by rw [List.flatten_cons];exact k2.append k4⟩;rw [hc1] at k1;have:=CR.append k1 (vs:=cs.drop (off+P.cellsOf f.type)) (ys:=ms) k3;rwa [←List.drop_drop,wQ] at this
theorem ZkY : ∀(n:Nat) (t:TypeId) (tys:List Ty) (fuel:Nat) (cs:List Value) (x:DataW H×List MemPlace),lay P n t=some tys→DataW.trod enc P w 0 (fun _=>true) held fuel t cs=some x→∃ls,CR (ZlU w) w none cs ls∧ZhR tys ls
  | 0,_,_,_,_,_,h,_=>by simp [lay] at h
  | n+1,t,tys,fuel,cs,x,h,hd=>by
    have one : ∀{ty:Ty} {l:L},LTy ty l→ZhR [ty] [l]:=fun {ty l} h=>by rw [ZhR];exact ⟨l,[],rfl,h,by rw [ZhR]⟩
    simp only [lay] at h;split at h
    · rename_i k ht
      cases h;obtain ⟨z,rfl,_,hw⟩:=DataW.trod_int ht hd;exact ⟨[.int k z],.one _ _ _ _ _ (.int _ _ _) rfl (.nil _),one (by rw [LTy];exact ⟨z,rfl,hw⟩)⟩
    · rename_i ht
      cases h;obtain ⟨b,rfl,_⟩:=DataW.trod_bool ht hd;exact ⟨[.bool b],.one _ _ _ _ _ (.bool _ _) rfl (.nil _),one (by rw [LTy];exact ⟨b,rfl⟩)⟩
    · rename_i ht
      cases h;obtain ⟨s,rfl,_,hw⟩:=DataW.trod_string ht hd;exact ⟨[.str s],.one _ _ _ _ _ (.str _ _) rfl (.nil _),one (by rw [LTy];exact ⟨s,rfl,hw⟩)⟩
    · rename_i m e ht
      split at h<;>try (cases h;done)
      rename_i k he;split at h<;>try (cases h;done)
      rename_i hc;cases h;obtain ⟨ys,fu,_,_,h3,h4,h5⟩:=DataW.trod_array ht hd;rw [hc.1] at h5;rw [hc.2] at h3;have each : ∀i,i<m→∃z,cs[i]? = some (.int k z)∧(Lit.int k z).wf=true:=by
        intro i hi;have h6:=h5 i hi;rw [Nat.mul_one,zR (by omega)] at h6;obtain ⟨z,h7,_,hw⟩:=DataW.trod_int he h6;have h8:=congrArg (fun l:List Value=>l[0]?) h7;simp only [xB,xQ] at h8;exact ⟨z,by simpa using h8,hw⟩
      have hcs:cs=(cs.map fun v=>match v with | .int _ z=>z | _=>0).map (Value.int k):=by
        apply List.ext_getElem?;intro i;by_cases hi:i<m
        · obtain ⟨z,hz,_⟩:=each i hi
          rw [xA,xA,hz];rfl
        rw [zM (by omega),zM (by simp;omega)]
      refine ⟨[.arr k m (cs.map fun v=>match v with | .int _ z=>z | _=>0)],?_,one (by
        rw [LTy];refine ⟨_,rfl,by simpa using h3,fun y hy=>?_⟩;obtain ⟨v,hv,rfl⟩:=List.mem_map.1 hy;obtain ⟨i,hi,e⟩:=List.getElem_of_mem hv;obtain ⟨z,hz,hw⟩:=each i (by omega);rw [zR hi,e] at hz;cases hz;exact hw)⟩
      have:=CR.arr (g:=ZlU w) (w:=w) none k m (cs.map fun v=>match v with | .int _ z=>z | _=>0) [] [] (by simpa using h3) (.nil _);rwa [List.append_nil,←hcs] at this
    · rename_i e ht
      split at h<;>try (cases h;done)
      rename_i hpos;obtain ⟨ts,h1,h2⟩:=zH.1 h;subst h2;rcases DataW.trod_slice ht hd with ⟨rfl,_⟩ | ⟨a,len,cap,elems,rest,fu,_,rfl,_,hb,hl,hm,hlen,hel,hsp,_⟩
      · exact ⟨[.sl (P.cellsOf e) []],.one _ _ _ _ _ (.slnil _ _) rfl (.nil _),one (by rw [LTy];exact ⟨[],rfl,xP _,fun x h=>by cases h⟩)⟩
      have el : ∀i,i<len→∃vs y,w.cells? 0 (a.add (i*P.cellsOf e)) (P.cellsOf e)=some vs∧DataW.trod enc P w 0 (fun _=>true) held fu e vs=some y:=fun i hi=>by
        have:=hel i hi;rw [zR (by omega)] at this;obtain ⟨vs,h3,h4⟩:=yB.1 this;exact ⟨vs,_,h3,h4⟩
      have hlong:len≤maxLen:=by omega
      by_cases hc0:cap=0
      · subst hc0
        obtain rfl:len=0:=by omega
        exact ⟨[.sl (P.cellsOf e) []],.one _ _ _ _ _ (.slz _ _ _) rfl (.nil _),one (by rw [LTy];exact ⟨[],rfl,xP _,fun x h=>by cases h⟩)⟩
      have first : ∃vs,w.cells? 0 (a.add (0*P.cellsOf e)) (P.cellsOf e)=some vs:=by
        by_cases hl0:0<len
        · obtain ⟨vs,_,h3,_⟩:=el 0 hl0
          exact ⟨vs,h3⟩
        obtain ⟨k1,k2⟩:=hsp rfl;have:=k2 0 (by omega);rw [zR (by omega),show len+0=0 by omega] at this;obtain ⟨vs,h3,_⟩:=yB.1 this;exact ⟨vs,h3⟩
      obtain ⟨vs0,hv0⟩:=first
      obtain ⟨_,c1,c2⟩:=World.cells?_some hv0;have c3:=c2 0 hpos;rw [zR (by omega)] at c3;obtain ⟨b,off,spot⟩:=a;have hspot:spot=none:=by
        have:=World.cell?_spot c3;simpa [Addr.add] using this
      subst hspot;have cel : ∀i,i<len→∃vs y,vs.length=P.cellsOf e∧(∀j v,vs[j]? = some v→w.cell? (ad b (off+i*P.cellsOf e+j))=some v)∧DataW.trod enc P w 0 (fun _=>true) held fu e vs=some y:=fun i hi=>by
        obtain ⟨vs,y,h3,h4⟩:=el i hi;obtain ⟨_,d1,d2⟩:=World.cells?_some h3;refine ⟨vs,y,d1,fun j v hj=>?_,h4⟩;have:=d2 j (by have:=Znr hj;omega);rw [add_plain,add_plain,hj] at this;exact this
      obtain ⟨xs,q1,q2,q3⟩:=ER_of (g:=ZlU w) (w:=w) (b:=b) (sz:=P.cellsOf e) (Q:=ZhR ts) len off (fun i hi=>by
        obtain ⟨vs,y,d1,d2,d3⟩:=cel i hi;obtain ⟨ls,d4,d5⟩:=ZkY n e ts fu vs y h1 d3;exact ⟨vs,ls,d1,d2,d4,d5⟩)
      have hZ:off+len*P.cellsOf e≤(ZlU w).Z b:=by
        by_cases hl0:0<len
        · obtain ⟨vs,y,d1,d2,_⟩:=cel (len-1) (by omega)
          have:=ZlT (d2 (P.cellsOf e-1) _ (zR (by omega)));have e1:len*P.cellsOf e=(len-1)*P.cellsOf e+P.cellsOf e:=by
            conv=>lhs;rw [show len=len-1+1 by omega,wD,Nat.one_mul]
          omega
        obtain rfl:len=0:=by omega
        rw [add_plain,add_plain,Nat.zero_mul] at c3;have:=ZlT c3;omega
      refine ⟨[.sl (P.cellsOf e) xs],.one _ _ _ _ _ (.sl _ b off len cap _ xs q1 hl hZ q2) rfl (.nil _),one (by rw [LTy];exact ⟨xs,rfl,by omega,q3⟩)⟩
    · rename_i fs ht
      split at h<;>try (cases h;done)
      rename_i hc;obtain ⟨tyss,h1,rfl⟩:=zH.1 h;obtain ⟨xs,fu,_,_,hlen,hxl,hf⟩:=DataW.trod_struct ht hd;rw [←hlen] at hc;have:=ZmO (enc:=enc) (held:=held) (cs:=cs) (fuel:=fu) (ZkY n) fs.toList 0 tyss hc (xP _) h1 (fun f hfm=>by
        obtain ⟨i,hi,e⟩:=List.getElem_of_mem hfm;have hi':i<fs.size:=by simpa using hi
        have hfi:fs[i]? = some f:=by rw [tF hi',←e];simp
        have:=hf i f hfi;rw [zR (by omega)] at this;exact ⟨_,this⟩)
      simpa using this
    cases h
theorem law_rows {r:Reach} {b0:Nat} {t e:TypeId} {v:Value} {d:DataW H} {p:List MemPlace} (i:Nat) (n:Nat) {ts:List Ty} (ht:P.underlying t=some (.slice e)) (hl:lay P n e=some ts) (hpos:0<P.cellsOf e)
    (hval:Value.okWide P w r b0 t v) (h:DataW.Trod enc P w 0 (fun _=>true) held t v d p) :
    ∃xs,CVR (ZlU w) w i v (.one (.sl (P.cellsOf e) xs))∧(∀x∈xs,ZhR ts x)∧xs.length≤maxLen:=by
  obtain ⟨fuel,hf⟩:=h;have hv : ∃q n c,v = .slice q n c:=by
    simp only [Value.okWide,ht,Cell.okWide,Cell.ok] at hval;split at hval<;>simp_all
  obtain ⟨q,m,c,rfl⟩:=hv;obtain ⟨ls,h1,h2⟩:=ZkY (n+1) t [.sl (P.cellsOf e) ts] fuel _ _ (by simp only [lay,ht,hpos,if_true,hl,yU]) hf;rw [ZhR] at h2;obtain ⟨l,r',rfl,h3,h4⟩:=h2;rw [ZhR] at h4;subst h4;rw [LTy] at h3;obtain ⟨xs,rfl,h5,h6⟩:=h3;have h1':CR (ZlU w) w none [.slice q m c] [.sl (P.cellsOf e) xs]:=h1;generalize hvs : [Value.slice q m c]=vs at h1';cases h1' with
  | one _ _ _ _ _ hv h1 hr=>cases hvs;exact ⟨xs,⟨rfl,hv⟩,h6,h5⟩
theorem Zss {r:Reach} {b0:Nat} {t:TypeId} {fs:Array Field} {v:Value} {d:DataW H} {p:List MemPlace} (i:Nat) (n:Nat) {tys:List Ty} (ht:P.underlying t=some (.struct fs)) (hl:lay P n t=some tys)
    (hval:Value.okWide P w r b0 t v) (h:DataW.Trod enc P w 0 (fun _=>true) held t v d p) :
    ∃ls,CVR (ZlU w) w i v (.agg ls)∧ZhR tys ls:=by
  obtain ⟨fuel,hf⟩:=h;have hv : ∃cs,v = .agg cs:=by
    simp only [Value.okWide,ht] at hval;obtain ⟨cs,h,_⟩:=hval;exact ⟨cs,h⟩
  obtain ⟨cs,rfl⟩:=hv;obtain ⟨ls,h1,h2⟩:=ZkY n t tys fuel _ _ hl hf;exact ⟨ls,⟨cs,rfl,h1⟩,h2⟩
theorem ZhR.cons_inv {t:Ty} {ts:List Ty} {ls:List L} (h:ZhR (t::ts) ls) : ∃l r,ls=l::r∧LTy t l∧ZhR ts r:=by rwa [ZhR] at h
theorem ZhR.nil_inv {ls:List L} (h:ZhR [] ls):ls = []:=by rwa [ZhR] at h
theorem LTy.int_inv {k:IntKind} {l:L} (h:LTy (.int k) l) : ∃n,l = .int k n∧(Lit.int k n).wf=true:=by rwa [LTy] at h
theorem LTy.bool_inv {l:L} (h:LTy .bool l) : ∃b,l = .bool b:=by rwa [LTy] at h
theorem LTy.arr_inv {k:IntKind} {n:Nat} {l:L} (h:LTy (.arr k n) l) : ∃xs,l = .arr k n xs∧xs.length=n∧∀x∈xs,(Lit.int k x).wf=true:=by rwa [LTy] at h
theorem LTy.sl_inv {sz:Nat} {ts:List Ty} {l:L} (h:LTy (.sl sz ts) l) : ∃xs,l = .sl sz xs∧xs.length≤maxLen∧∀x∈xs,ZhR ts x:=by rwa [LTy] at h
end
theorem ZrG {α:Type} {e:α→List L} {good:α→Prop} : ∀{xs:List (List L)},(∀x∈xs,∃a,x=e a∧good a)→∃bs:List α,xs=bs.map e∧∀a∈bs,good a
  | [],_=>⟨[],rfl,fun a h=>by cases h⟩
  | x::xs,h=>by
    obtain ⟨a,h1,h2⟩:=h x (by simp);obtain ⟨bs,h3,h4⟩:=ZrG fun y hy=>h y (List.mem_cons_of_mem _ hy);refine ⟨a::bs,by rw [h1,h3];rfl,fun b hb=>?_⟩;rcases wO.1 hb with rfl | hb
    · exact h2
    exact h4 b hb
end Go.Dn
namespace Go.Dn
abbrev LL:=List (List L)
abbrev LM:=List (L×L)
abbrev w64 (n:Int):Int:=IntKind.wrap .i64 n
abbrev v64 (n:Int):Int:=IntKind.wrap .u64 n
abbrev v32 (n:Int):Int:=IntKind.wrap .u32 n
abbrev v8 (n:Int):Int:=IntKind.wrap .u8 n
abbrev len {α:Type} (l:List α):Int:=(l.length:Int)
def gs (l:List L) (i:Nat):List L:=l.set i .gone
variable [Globs]
theorem aI {p q:Prop} (a:p) (b:q):p∧q:=⟨a,b⟩
section
variable {P:Program} {f:FuncId} {g:G} {w:World} {rs:List CV} {st st':LL}
theorem LR.nil_sz {p:Option (Nat×Nat)} {v:Value} {a:Nat} (b:Nat) (h:LR g w p v (.sl a [])):LR g w p v (.sl b []):=by
  cases h with
  | slnil=>exact .slnil _ _
  | slz _ _ a=>exact .slz _ _ a
  | sl _ bl off len cap _ _ hl hc hZ he=>
    cases hl;exact .sl _ bl off 0 cap b [] rfl hc (by simpa using hZ) (.nil _ _ _)
theorem Zgh.nl {a:Nat} (b:Nat) : ∀{cs:List CV} {i:Nat} {vs:List Value},Zgh g w i vs (cs ++ [.one (.sl a [])])→Zgh g w i vs (cs ++ [.one (.sl b [])])
  | [],i,vs,h=>by
    obtain ⟨v,rest,h1,h2,h3⟩:=h;exact ⟨v,rest,h1,⟨h2.1,h2.2.nil_sz b⟩,h3⟩
  | c::cs,i,vs,h=>by
    obtain ⟨v,rest,h1,h2,h3⟩:=h;exact ⟨v,rest,h1,h2,Zgh.nl b h3⟩
theorem Snd.nl {cs:List CV} {a:Nat} (h:Snd P f (cs ++ [.one (.sl a [])]) st rs st'):Snd P f (cs ++ [.one (.sl 0 [])]) st rs st':=⟨h.1,fun g w vs hv hm=>h.2 g w vs (hv.nl a) hm⟩
theorem ZdP.nl {cs:List CV} {a:Nat} (h:ZdP P f (cs ++ [.one (.sl a [])]) rs):ZdP P f (cs ++ [.one (.sl 0 [])]) rs:=fun st=>(h st).nl
end
section
variable {p q r s t u v w:Prop}
theorem aJ (a:p) (b:q) (c:r):p∧q∧r:=⟨a,b,c⟩
theorem aK (a:p) (b:q) (c:r) (d:s):p∧q∧r∧s:=⟨a,b,c,d⟩
theorem aL (a:p) (b:q) (c:r) (d:s) (e:t):p∧q∧r∧s∧t:=⟨a,b,c,d,e⟩
theorem aM (a:p) (b:q) (c:r) (d:s) (e:t) (f:u):p∧q∧r∧s∧t∧u:=⟨a,b,c,d,e,f⟩
theorem aN (a:p) (b:q) (c:r) (d:s) (e:t) (f:u) (g:v):p∧q∧r∧s∧t∧u∧v:=⟨a,b,c,d,e,f,g⟩
theorem aO (a:p) (b:q) (c:r) (d:s) (e:t) (f:u) (g:v) (h:w):p∧q∧r∧s∧t∧u∧v∧w:=⟨a,b,c,d,e,f,g,h⟩
end
abbrev sI (n:Int):TV:=.one (.l (L.int .i64 n))
abbrev sP (p:Option Nat):TV:=.one (.l (L.ptr p))
abbrev sV (n:Nat) (l:LL):TV:=.one (.l (L.sl n l))
abbrev sA (n:Nat):TV:=.one (.adr (.site n) 0)
abbrev oI (n:Int):CV:=.one (L.int .i64 n)
abbrev oB (b:Bool):CV:=.one (L.bool b)
def wF:D:={want:=false}
def yF:D:={yes:=false}
abbrev q1 (l:List CV):D:={rs:=l,m:=1}
abbrev q0 (l:List CV):D:={rs:=l,m:=10}
theorem eF:false=false:=rfl
theorem eT:true=true:=rfl
theorem oD {p:Prop} [Decidable p] (h:decide p=true):p:=of_decide_eq_true h
theorem leI (a b:Int) (h:decide (a≤b)=true:=by rfl):a≤b:=of_decide_eq_true h
theorem ltI (a b:Int) (h:decide (a<b)=true:=by rfl):a<b:=of_decide_eq_true h
theorem ix {q:Prop} (a b:Int) (c:q) (h:decide (0≤a)=true:=by rfl) (k:decide (a<b)=true:=by rfl):0≤a∧a<b∧q:=⟨of_decide_eq_true h,of_decide_eq_true k,c⟩
theorem leN (a b:Nat) (h:Nat.ble a b=true:=by rfl):a≤b:=Nat.le_of_ble_eq_true h
theorem neI (a:Int) (h:decide (a≠0)=true:=by rfl):a≠0:=of_decide_eq_true h
theorem eN (a:Nat):a=a:=rfl
theorem eB (a:Bool):a=a:=rfl
theorem z0:(0:Nat)=0:=rfl
theorem eO (a:List L):some a=some a:=rfl
section
variable {st:LL} {ls ks:List L}
theorem bN:BVs st [] []:=.nil
theorem bP {l:L} (r:BVs st ls ks) (h:l.plain=true:=by rfl):BVs st (l::ls) (l::ks):=.pl l ls ks h r
theorem bS {sz:Nat} {xs:LL} (r:BVs st ls ks):BVs st (.sl sz xs::ls) (.sl sz xs::ks):=.sl sz xs ls ks r
theorem bW {e:Bool} {sz:Nat} {xs:LL} (r:BVs st ls ks):BVs st (.own e sz xs::ls) (.sl sz xs::ks):=.own e sz xs ls ks r
theorem bM {es:LM} (r:BVs st ls ks):BVs st (.mp es::ls) (.mz es::ks):=.mp es ls ks r
theorem bC {i:Nat} (n:Nat) {c cs:List L} (h:st[i]? = some c) (hc:BVs st c cs) (r:BVs st ls ks) (hn:sizes cs=n:=by kernel_rfl) (hne:c.isEmpty=false:=by kernel_rfl):BVs st (.ptr (some i)::ls) (.bx n cs::ks):=.obj i n c cs ls ks h hc hn hne r
theorem bO {i:Nat} (n:Nat) {c cs:List L} (h:st[i]? = some c) (hc:BVs st c cs) (hn:sizes cs=n:=by kernel_rfl) (hne:c.isEmpty=false:=by kernel_rfl):BVs st [.ptr (some i)] [.bx n cs]:=.obj i n c cs [] [] h hc hn hne .nil
end
section
variable {P:Program} {g0:G} {w0:World} {R:Exit→Act→World→Prop} {ks ks':List K} {s s':S} {A:Prop}
abbrev XK (P:Program) (R:Exit→Act→World→Prop) (ks:List K):Act→World→Prop:=exK P R ks .normal
theorem aq (hfol:P.follows .mixedOrders=true) (ds:List PS) (live sites:List Nat) (a:A) (hk:At g0 w0 s' (exK P R ks' .normal))
    (h:((ks',s')=(ks',s')∧(A→A))=ZqV (goQ (ZdZ P) 400 ks s ds live sites) ks' s' A:=by kernel_rfl):At g0 w0 s (exK P R ks .normal):=At.q hfol 400 ds live sites a hk h
theorem aqd (hfol:P.follows .mixedOrders=true) (ds:List PS) (live sites:List Nat) (a:A) (hk:At g0 w0 s' (exK P R ks' .normal))
    (h:((ks',s')=(ks',s')∧(A→A))=ZqV (goQd (ZdZ P) 400 ks s ds live sites) ks' s' A:=by kernel_rfl) (hc:ZjL true (goS (ZdZ P) 400 ks .n s ds)=ZjL false (goS (ZdZ P) 400 ks .n s ds):=by kernel_rfl):At g0 w0 s (exK P R ks .normal):=At.qd hfol 400 ds live sites a hk h hc
theorem an {J:Act→World→Prop} (hfol:P.follows .mixedOrders=true) (ds:List PS) (live sites:List Nat) (a:A) (hk:At g0 w0 s' J)
    (h:((some (K.h J),s')=(some (K.h J),s')∧(A→A))=ZqW (goQ (ZdZ P) 400 ks s ds live sites) (.h J) s' A:=by kernel_rfl):At g0 w0 s (exK P R ks .normal):=At.n hfol 400 ds live sites a hk h
theorem ZjR {J:Act→World→Prop} (hfol:P.follows .mixedOrders=true) (ds:List PS) (live sites:List Nat) (a:A) (hk:At g0 w0 s' J)
    (h:((some (K.h J),s')=(some (K.h J),s')∧(A→A))=ZqW (goQd (ZdZ P) 400 ks s ds live sites) (.h J) s' A:=by kernel_rfl) (hc:ZjL true (goS (ZdZ P) 400 ks .n s ds)=ZjL false (goS (ZdZ P) 400 ks .n s ds):=by kernel_rfl):At g0 w0 s (exK P R ks .normal):=At.nd hfol 400 ds live sites a hk h hc
theorem af {fn:Func} {rs:List CV} {st':List (List L)} (hfol:P.follows .mixedOrders=true) (hE:ZmL P fn g0 w0 rs st' R) (ds:List PS) (oc:List L) (md:Nat) (own:List Nat) (a:A)
    (h:((rs,st')=(rs,st')∧(A→A))=ZiE (finQ P fn (ZdZ P) 400 ks s ds oc md own) rs st' A:=by kernel_rfl):At g0 w0 s (exK P R ks .normal):=At.f hfol hE 400 ds oc md own a h
theorem afd {fn:Func} {rs:List CV} {st':List (List L)} (hfol:P.follows .mixedOrders=true) (hE:ZmL P fn g0 w0 rs st' R) (ds:List PS) (oc:List L) (md:Nat) (own:List Nat) (a:A)
    (h:((rs,st')=(rs,st')∧(A→A))=ZiE (Zop P fn (ZdZ P) 400 ks s ds oc md own) rs st' A:=by kernel_rfl) (hc:ZjL true (goS (ZdZ P) 400 ks .n s ds)=ZjL false (goS (ZdZ P) 400 ks .n s ds):=by kernel_rfl):At g0 w0 s (exK P R ks .normal):=At.fd hfol hE 400 ds oc md own a h hc
theorem sO {f:FuncId} {fn:Func} (c:Code) {args:List CV} {st:List (List L)} {rs:List CV} {st':List (List L)} (hf:P.funcs[f]? = some fn)
    (h : ∀(g:G) (w:World) (R:Exit→Act→World→Prop),ZmL P fn g w rs st' R→At g w (S.enter fn.ntmps args st) (exK P R [.c c] .normal))
    (hn : (fn.name == "runtime.NumGoroutine") = false := by kernel_rfl) (hb : fn.body = some c := by kernel_rfl) (hlen : decide (args.length ≤ fn.ntmps) = true := by kernel_rfl) : Snd P f args st rs st' :=
  Snd.of hf hn hb (of_decide_eq_true hlen) h
end
section
variable {α:Type} {r:α} {A:Option α}
def Zde {κ:Type} (o:Option (List L)) (d:List L→κ→Option α) (k:κ):Option α:=Zbm o fun e=>d e k
@[simp] theorem Zan {κ:Type} (e:List L) (d:List L→κ→Option α) (k:κ):Zde (some e) d k=d e k:=rfl
theorem ck2 {p0 p1:Prop} [Decidable p0] [Decidable p1] (h:chk p0 (chk p1 A)=some r):p0∧p1∧A=some r:=by
  obtain ⟨a,h⟩:=Zbe h;exact ⟨a,Zbe h⟩
theorem ck3 {p0 p1 p2:Prop} [Decidable p0] [Decidable p1] [Decidable p2] (h:chk p0 (chk p1 (chk p2 A))=some r):p0∧p1∧p2∧A=some r:=by
  obtain ⟨a,h⟩:=Zbe h;exact ⟨a,ck2 h⟩
theorem ck4 {p0 p1 p2 p3:Prop} [Decidable p0] [Decidable p1] [Decidable p2] [Decidable p3] (h:chk p0 (chk p1 (chk p2 (chk p3 A)))=some r):p0∧p1∧p2∧p3∧A=some r:=by
  obtain ⟨a,h⟩:=Zbe h;exact ⟨a,ck3 h⟩
theorem ck5 {p0 p1 p2 p3 p4:Prop} [Decidable p0] [Decidable p1] [Decidable p2] [Decidable p3] [Decidable p4] (h:chk p0 (chk p1 (chk p2 (chk p3 (chk p4 A))))=some r):p0∧p1∧p2∧p3∧p4∧A=some r:=by
  obtain ⟨a,h⟩:=Zbe h;exact ⟨a,ck4 h⟩
theorem ck6 {p0 p1 p2 p3 p4 p5:Prop} [Decidable p0] [Decidable p1] [Decidable p2] [Decidable p3] [Decidable p4] [Decidable p5] (h:chk p0 (chk p1 (chk p2 (chk p3 (chk p4 (chk p5 A)))))=some r):p0∧p1∧p2∧p3∧p4∧p5∧A=some r:=by
  obtain ⟨a,h⟩:=Zbe h;exact ⟨a,ck5 h⟩
theorem ck7 {p0 p1 p2 p3 p4 p5 p6:Prop} [Decidable p0] [Decidable p1] [Decidable p2] [Decidable p3] [Decidable p4] [Decidable p5] [Decidable p6] (h:chk p0 (chk p1 (chk p2 (chk p3 (chk p4 (chk p5 (chk p6 A))))))=some r):p0∧p1∧p2∧p3∧p4∧p5∧p6∧A=some r:=by
  obtain ⟨a,h⟩:=Zbe h;exact ⟨a,ck6 h⟩
theorem ck8 {p0 p1 p2 p3 p4 p5 p6 p7:Prop} [Decidable p0] [Decidable p1] [Decidable p2] [Decidable p3] [Decidable p4] [Decidable p5] [Decidable p6] [Decidable p7] (h:chk p0 (chk p1 (chk p2 (chk p3 (chk p4 (chk p5 (chk p6 (chk p7 A)))))))=some r):p0∧p1∧p2∧p3∧p4∧p5∧p6∧p7∧A=some r:=by
  obtain ⟨a,h⟩:=Zbe h;exact ⟨a,ck7 h⟩
end
noncomputable def eqO (a b:Option (List L)):Bool:=@decide (a=b) (Classical.propDecidable _)
theorem ZfI {a b:Option (List L)} (h:eqO a b=true):a=b:=of_decide_eq_true (inst:=Classical.propDecidable _) h
theorem eqO_of {a b:Option (List L)} (h:a=b):eqO a b=true:=decide_eq_true (inst:=Classical.propDecidable _) h
theorem xS {P:Program} {g0:G} {w0:World} {R:Exit→Act→World→Prop} {f:Func} {ρ1:Type} {q:ρ1→List CV} {u:List (List L)} {x r:ρ1} {ks:List K} {s:S} (hfol:P.follows .mixedOrders=true) (e:some x=some r) (hE:ZmL P f g0 w0 (q r) u R) (ds:List PS) {A:Prop} (a:A) (h:((q x,u)=(q x,u)∧(A→A))=ZiE (finQ P f (ZdZ P) 400 ks s ds [] 0 []) (q x) u A:=by kernel_rfl):At g0 w0 s (exK P R ks .normal):=by cases e;exact af hfol hE ds [] 0 [] a h
theorem xR {P:Program} {g0:G} {w0:World} {R:Exit→Act→World→Prop} {f:Func} {q:(List (List L))→List CV} {x r:(List (List L))} {ks:List K} {s:S} (hfol:P.follows .mixedOrders=true) (e:some x=some r) (hE:ZmL P f g0 w0 (q r) r R) (ds:List PS) {A:Prop} (a:A) (h:((q x,x)=(q x,x)∧(A→A))=ZiE (finQ P f (ZdZ P) 400 ks s ds [] 0 []) (q x) x A:=by kernel_rfl):At g0 w0 s (exK P R ks .normal):=by cases e;exact af hfol hE ds [] 0 [] a h
theorem xT {P:Program} {g0:G} {w0:World} {R:Exit→Act→World→Prop} {f:Func} {ρ1:Type} {q:(ρ1×List (List L))→List CV} {x r:(ρ1×List (List L))} {ks:List K} {s:S} (hfol:P.follows .mixedOrders=true) (e:some x=some r) (hE:ZmL P f g0 w0 (q r) r.2 R) (ds:List PS) {A:Prop} (a:A) (h:((q x,x.2)=(q x,x.2)∧(A→A))=ZiE (finQ P f (ZdZ P) 400 ks s ds [] 0 []) (q x) x.2 A:=by kernel_rfl):At g0 w0 s (exK P R ks .normal):=by cases e;exact af hfol hE ds [] 0 [] a h
theorem xU {P:Program} {g0:G} {w0:World} {R:Exit→Act→World→Prop} {f:Func} {ρ1 ρ2:Type} {q:(ρ1×ρ2×List (List L))→List CV} {x r:(ρ1×ρ2×List (List L))} {ks:List K} {s:S} (hfol:P.follows .mixedOrders=true) (e:some x=some r) (hE:ZmL P f g0 w0 (q r) r.2.2 R) (ds:List PS) {A:Prop} (a:A) (h:((q x,x.2.2)=(q x,x.2.2)∧(A→A))=ZiE (finQ P f (ZdZ P) 400 ks s ds [] 0 []) (q x) x.2.2 A:=by kernel_rfl):At g0 w0 s (exK P R ks .normal):=by cases e;exact af hfol hE ds [] 0 [] a h
theorem xV {P:Program} {g0:G} {w0:World} {R:Exit→Act→World→Prop} {f:Func} {ρ1 ρ2 ρ3:Type} {q:(ρ1×ρ2×ρ3×List (List L))→List CV} {x r:(ρ1×ρ2×ρ3×List (List L))} {ks:List K} {s:S} (hfol:P.follows .mixedOrders=true) (e:some x=some r) (hE:ZmL P f g0 w0 (q r) r.2.2.2 R) (ds:List PS) {A:Prop} (a:A) (h:((q x,x.2.2.2)=(q x,x.2.2.2)∧(A→A))=ZiE (finQ P f (ZdZ P) 400 ks s ds [] 0 []) (q x) x.2.2.2 A:=by kernel_rfl):At g0 w0 s (exK P R ks .normal):=by cases e;exact af hfol hE ds [] 0 [] a h
theorem xSd {P:Program} {g0:G} {w0:World} {R:Exit→Act→World→Prop} {f:Func} {ρ1:Type} {q:ρ1→List CV} {u:List (List L)} {x r:ρ1} {ks:List K} {s:S} (hfol:P.follows .mixedOrders=true) (e:some x=some r) (hE:ZmL P f g0 w0 (q r) u R) (ds:List PS) {A:Prop} (a:A) (h:((q x,u)=(q x,u)∧(A→A))=ZiE (Zop P f (ZdZ P) 400 ks s ds [] 0 []) (q x) u A:=by kernel_rfl) (hc:ZjL true (goS (ZdZ P) 400 ks .n s ds)=ZjL false (goS (ZdZ P) 400 ks .n s ds):=by kernel_rfl):At g0 w0 s (exK P R ks .normal):=by cases e;exact afd hfol hE ds [] 0 [] a h hc
theorem xRd {P:Program} {g0:G} {w0:World} {R:Exit→Act→World→Prop} {f:Func} {q:(List (List L))→List CV} {x r:(List (List L))} {ks:List K} {s:S} (hfol:P.follows .mixedOrders=true) (e:some x=some r) (hE:ZmL P f g0 w0 (q r) r R) (ds:List PS) {A:Prop} (a:A) (h:((q x,x)=(q x,x)∧(A→A))=ZiE (Zop P f (ZdZ P) 400 ks s ds [] 0 []) (q x) x A:=by kernel_rfl) (hc:ZjL true (goS (ZdZ P) 400 ks .n s ds)=ZjL false (goS (ZdZ P) 400 ks .n s ds):=by kernel_rfl):At g0 w0 s (exK P R ks .normal):=by cases e;exact afd hfol hE ds [] 0 [] a h hc
theorem xTd {P:Program} {g0:G} {w0:World} {R:Exit→Act→World→Prop} {f:Func} {ρ1:Type} {q:(ρ1×List (List L))→List CV} {x r:(ρ1×List (List L))} {ks:List K} {s:S} (hfol:P.follows .mixedOrders=true) (e:some x=some r) (hE:ZmL P f g0 w0 (q r) r.2 R) (ds:List PS) {A:Prop} (a:A) (h:((q x,x.2)=(q x,x.2)∧(A→A))=ZiE (Zop P f (ZdZ P) 400 ks s ds [] 0 []) (q x) x.2 A:=by kernel_rfl) (hc:ZjL true (goS (ZdZ P) 400 ks .n s ds)=ZjL false (goS (ZdZ P) 400 ks .n s ds):=by kernel_rfl):At g0 w0 s (exK P R ks .normal):=by cases e;exact afd hfol hE ds [] 0 [] a h hc
theorem xUd {P:Program} {g0:G} {w0:World} {R:Exit→Act→World→Prop} {f:Func} {ρ1 ρ2:Type} {q:(ρ1×ρ2×List (List L))→List CV} {x r:(ρ1×ρ2×List (List L))} {ks:List K} {s:S} (hfol:P.follows .mixedOrders=true) (e:some x=some r) (hE:ZmL P f g0 w0 (q r) r.2.2 R) (ds:List PS) {A:Prop} (a:A) (h:((q x,x.2.2)=(q x,x.2.2)∧(A→A))=ZiE (Zop P f (ZdZ P) 400 ks s ds [] 0 []) (q x) x.2.2 A:=by kernel_rfl) (hc:ZjL true (goS (ZdZ P) 400 ks .n s ds)=ZjL false (goS (ZdZ P) 400 ks .n s ds):=by kernel_rfl):At g0 w0 s (exK P R ks .normal):=by cases e;exact afd hfol hE ds [] 0 [] a h hc
theorem xVd {P:Program} {g0:G} {w0:World} {R:Exit→Act→World→Prop} {f:Func} {ρ1 ρ2 ρ3:Type} {q:(ρ1×ρ2×ρ3×List (List L))→List CV} {x r:(ρ1×ρ2×ρ3×List (List L))} {ks:List K} {s:S} (hfol:P.follows .mixedOrders=true) (e:some x=some r) (hE:ZmL P f g0 w0 (q r) r.2.2.2 R) (ds:List PS) {A:Prop} (a:A) (h:((q x,x.2.2.2)=(q x,x.2.2.2)∧(A→A))=ZiE (Zop P f (ZdZ P) 400 ks s ds [] 0 []) (q x) x.2.2.2 A:=by kernel_rfl) (hc:ZjL true (goS (ZdZ P) 400 ks .n s ds)=ZjL false (goS (ZdZ P) 400 ks .n s ds):=by kernel_rfl):At g0 w0 s (exK P R ks .normal):=by cases e;exact afd hfol hE ds [] 0 [] a h hc
noncomputable abbrev rZ:PS:=.r []
noncomputable abbrev cT:PS:=.c true
noncomputable abbrev cF:PS:=.c false
noncomputable abbrev cK (b:Code) (l:List Nat):K:=.c (ZbM b l)
end Go.Dn
