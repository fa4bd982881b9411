import Derived.Test.YtbijemnnbdndpaaGreatDoorKb
import Derived.Sort.Row
import Derived.Sort.Grow
import Derived.Laws.MakeOwn
import Derived.KernelRfl
import Derived.Laws.Externs
import Derived.Lib.SliceRun
import Derived.OpenShut
import Derived.Carry
import Derived.SizedLaws
import Derived.LaidLaws
import Derived.LaidHandle
import Derived.FnData
set_option linter.all false
open Array renaming getElem?_eq_none→rC,getElem?_append_left→uO,getElem?_modify→rL,getElem?_eq_getElem→sN
open Bool renaming and_eq_true→zQ
open Int renaming eq_ofNat_of_zero_le→tC
open List renaming map_cons→yO,map_nil→vQ,length_replicate→uL,getElem?_eq_none→zM,getElem?_map→yQ,getElem?_take→yS,getElem?_drop→xF,all_cons→xB,getElem?_cons_zero→yG,getElem?_set_ne→zV,getElem?_set_self→zO,mem_cons→wD,length_singleton→xA,getElem?_append_right→zZ,getElem?_append_left→yD,getElem?_eq_getElem→zS,getElem?_eq_some_iff→xD
open List.cons renaming injEq→yK
open Nat renaming le_refl→zL,add_mul→xO,lt_or_ge→yA,zero_le→xE,zero_add→yB,le_trans→wH,lt_of_lt_of_le→xC,not_lt_zero→rH
open Option renaming map_eq_some_iff→zG,bind_eq_some_iff→zW,map_some→yN,map_none→wT
open Option.some renaming injEq→zA,inj→xH
open Prod.mk renaming injEq→zC
namespace Go.Dn
variable [Globs]
def vT (s:S) (oc:List L) (md:Nat):T→Option (T×List Prop)
  | .h src sz lo len=>match ZgV s oc src with
    | some (false,sz',xs,ps)=>if sz=sz' then some (.l (.sl sz (win md xs lo len).1),(win md xs lo len).2++ps) else none
    | _=>none
  | t=>some (t,[])
section
variable {P:Program} {g g':G} {s:S} {w w':World}
end
def Zqg (P:Program) (s:S) (o:Oper):Option TV:=
  match o.op with
  | .assign x=>if Zpq x then match P.underlying o.type with
    | some (.slice e)=>(P.info? e).map fun i=>.one (.l (.own true i.size []))
    | _=>none
    else none
  | _=>none
theorem Zcr.nil2 {P:Program} {s:S} {o:Oper} {tv:TV} (h:Zqg P s o=some tv):Zcr P o [] s (s.put o.dst tv):=by
  refine .value fun g w a hs=>?_
  unfold Zqg at h
  split at h<;>try (cases h;done)
  rename_i x ho
  split at h<;>try (cases h;done)
  rename_i hnil
  split at h<;>try (cases h;done)
  obtain ⟨i,h1,rfl⟩:=zG.1 h
  have hv:a.eval x = .slice none 0 0:=by
    unfold Zpq at hnil
    split at hnil
    · rfl
    · cases hnil
  exact ⟨.slice none 0 0,by simp [execOp,ho,hv],rfl,.ownnil _ _ _⟩
def ZmZ (s:S) (k:IntKind):List Int→List (Nat×Operand)→Option (List Int)
  | xs,[]=>some xs
  | xs,(i,x)::r=>match (ev s x).bind Zly with
    | some (.int k' v)=>if k'=k∧i<xs.length then ZmZ s k (xs.set i v) r else none
    | _=>none
def buildA (P:Program) (s:S) (o:Oper):Option TV:=
  match o.op with
  | .build t ⟨parts⟩=>match P.underlying t,P.info? t with
    | some (.array n e),some it=>match P.info? e,it.zero with
      | some ie,some z=>match zTs [.arr (match P.underlying e with | some (.int k)=>k | _=>.i64) n (List.replicate n 0)] z.cells.toList with
        | some [.l (.arr k m xs)]=>if ie.size=1 then (ZmZ s k xs parts).map fun ys=>.agg [.l (.arr k m ys)] else none
        | _=>none
      | _,_=>none
    | _,_=>none
  | _=>none
section
variable {P:Program} {g g':G} {s:S} {w w':World}
theorem ZmY {k:IntKind} : ∀{parts:List (Nat×Operand)} {xs ys:List Int},ZmZ s k xs parts=some ys→ys.length=xs.length
  | [],xs,ys,h=>by simp only [ZmZ,zA] at h;subst h;rfl
  | (i,x)::r,xs,ys,h=>by
    simp only [ZmZ] at h
    split at h<;>try (cases h;done)
    split at h<;>try (cases h;done)
    simpa using ZmY h
theorem ZjZ {a:Act} (hs:Sat g s w a.tmps) {k:IntKind} : ∀{parts:List (Nat×Operand)} {xs ys:List Int} {cells:Array Value},ZmZ s k xs parts=some ys→cells.toList=xs.map (Value.int k) →
    ∃c',Instr.fill (fun i=>some (i*1,1)) cells (parts.map fun p=>(p.1,a.eval p.2))=some c'∧c'.toList=ys.map (Value.int k)
  | [],xs,ys,cells,h,hc=>by simp only [ZmZ,zA] at h;subst h;exact ⟨cells,rfl,hc⟩
  | (i,x)::r,xs,ys,cells,h,hc=>by
    simp only [ZmZ] at h
    split at h<;>try (cases h;done)
    rename_i k' v hx
    split at h<;>try (cases h;done)
    rename_i hh
    obtain ⟨rfl,hi⟩:=hh
    obtain ⟨tv,h1,h2⟩:=zW.1 hx
    have hv:=Zbx hs h1
    rw [ZfP h2] at hv
    have hv:=hv.2.int_eq
    have hsz:cells.size=xs.length:=by have:=congrArg List.length hc;simpa using this
    have hnew:(cells.setIfInBounds i (.int k' v)).toList=(xs.set i v).map (Value.int k'):=by
      rw [Array.toList_setIfInBounds,hc,List.map_set]
    obtain ⟨c',h3,h4⟩:=ZjZ hs h hnew
    refine ⟨c',?_,h4⟩
    simp only [yO]
    unfold Instr.fill
    simp only [hv,Value.cells,Nat.mul_one]
    rw [if_neg (by simp;omega)]
    simpa using h3
theorem Zcr.buildA {o:Oper} {tv:TV} (h:Dn.buildA P s o=some tv):Zcr P o [] s (s.put o.dst tv):=by
  refine .value fun g w a hs=>?_
  unfold Dn.buildA at h
  split at h<;>try (cases h;done)
  rename_i t parts ho
  split at h<;>try (cases h;done)
  rename_i n e it hu hit
  split at h<;>try (cases h;done)
  rename_i ie z hie hz
  split at h<;>try (cases h;done)
  rename_i k m xs hts
  split at h<;>try (cases h;done)
  rename_i h1
  obtain ⟨ys,h2,rfl⟩:=zG.1 h
  have hzt:=Zmi (g:=g) (s:=s) (w:=w) hts
  rw [TsR] at hzt
  obtain ⟨hl,rest,hz2,hrest⟩:=hzt
  rw [TsR] at hrest;subst hrest
  rw [List.append_nil] at hz2
  obtain ⟨c',h3,h4⟩:=ZjZ hs h2 hz2
  have hly:ys.length=m:=by rw [ZmY h2];exact hl
  refine ⟨.agg c',?_,⟨c',rfl,?_⟩⟩
  · have hb:P.built t ((⟨parts⟩:Array (Nat×Operand)).map fun (i,x)=>(i,a.eval x)).toList=some c':=by
      have e2:((⟨parts⟩:Array (Nat×Operand)).map fun (i,x)=>(i,a.eval x)).toList=parts.map fun p=>(p.1,a.eval p.2):=by simp
      rw [e2]
      unfold Program.built
      simp only [hit,hu,hz,hie,h1];exact h3
    simp only [execOp,ho,Sem.run_bind,run_build w t _ c' hb,Result.andThen_ok,Sem.run_pure]
  · rw [TsR]
    exact ⟨hly,[],by simpa using h4,by rw [TsR]⟩
def ivs (l:List (IntKind×Int)):List Value:=l.map fun p=>.int p.1 p.2
def ExtI (P:Program) (f:FuncId) (as rs:List (IntKind×Int)):Prop:=∀w,(callFunc f (ivs as).toArray).run P w = .ok (.value (ZiW (ivs rs))) w
def ZjX (s:S):List Operand→Option (List (IntKind×Int))
  | []=>some []
  | x::xs=>match (ev s x).bind Zly,ZjX s xs with
    | some (.int k n),some r=>some ((k,n)::r)
    | _,_=>none
def cvInts:List CV→Option (List (IntKind×Int))
  | []=>some []
  | .one (.int k n)::cs=>(cvInts cs).map ((k,n) :: ·)
  | _=>none
def extOp (s:S) (o:Oper) (P:Program) (d:D):Option (TV×List Prop):=
  match o.op with
  | .call { callee:=.value (.func f),args:=⟨xs⟩,.. }=>match ZjX s xs,cvInts d.rs with
    | some as,some rs=>some (Zfb (rs.map fun p=>.one (.l (.int p.1 p.2))),[ExtI P f as rs])
    | _,_=>none
  | _=>none
theorem ZhQ {a:Act} (hs:Sat g s w a.tmps) : ∀{xs:List Operand} {as:List (IntKind×Int)},ZjX s xs=some as→xs.map a.eval=ivs as
  | [],as,h=>by simp only [ZjX,zA] at h;subst h;rfl
  | x::xs,as,h=>by
    simp only [ZjX] at h
    split at h<;>simp only [zA,reduceCtorEq] at h
    rename_i k n r h1 h2
    subst h
    obtain ⟨tv,h3,h4⟩:=zW.1 h1
    have hv:=Zbx hs h3
    rw [ZfP h4] at hv
    simp only [yO,ivs,hv.2.int_eq]
    rw [ZhQ hs h2];rfl
theorem Zcr.ext {o:Oper} {d:D} {tv:TV} {ps:List Prop} (h:extOp s o P d=some (tv,ps)) (hp:ZbE ps):Zcr P o [] s (s.put o.dst tv):=by
  refine .value fun g w a hs=>?_
  unfold extOp at h
  split at h<;>try (cases h;done)
  rename_i f xs _ ho
  split at h<;>simp only [zA,zC,reduceCtorEq] at h
  rename_i as rs has hrs
  obtain ⟨rfl,rfl⟩:=h
  simp only [ZbE] at hp
  refine ⟨ZiW (ivs rs),?_,?_⟩
  · have:=hp w
    rw [←ZhQ hs has] at this
    simp [execOp,ho,resolve,Deferred.ofValue,Act.eval,invoke,this]
  · refine ZhH ?_
    clear hp hrs ho
    induction rs with
    | nil=>rw [vQ,Zeu];rfl
    | cons r rs ih=>exact ⟨_,_,rfl,⟨rfl,.int _ _ _⟩,ih⟩
end
end Go.Dn
namespace Go.Dn
variable [Globs]
def Zft (w:World) (b:Nat):Nat:=match w.heap[b]? with
  | some (.cells a _ _)=>a.size
  | some (.map _ _)=>1
  | _=>0
def G.lift (g:G) (w:World):G:={ g with Z:=fun b=>if (g.ow b).isSome then max (g.Z b) (Zft w b) else g.Z b}
def toCVB (s:S) (oc:List L) (md:Nat):TV→Option (CV×List Prop)
  | .one (.h src sz lo len)=>match ZgV s oc src with
    | some (_,sz',xs,ps)=>if sz=sz' then some (.one (.sl sz (win md xs lo len).1),(win md xs lo len).2++ps) else none
    | none=>none
  | .one (.asl r off n lo len)=>match Zev s oc r with
    | some (c,ps)=>match ZeR c off with
      | some (.arr k m xs)=>if m=n then (if lo=0∧len=n then some (.one (.sl 1 (xs.map fun x=>[.int k x])),ps) else some (.one (.sl 1 (((xs.drop lo).take len).map fun x=>[.int k x])),ps)) else none
      | _=>none
    | none=>none
  | tv=>toCV s oc md tv
def Zmm (s:S) (oc:List L) (md:Nat):List Operand→Option (List CV×List Prop)
  | []=>some ([],[])
  | x::xs=>match ev s x with
    | some tv=>match toCVB s oc md tv,Zmm s oc md xs with
      | some (c,ps),some (cs,qs)=>some (c::cs,ps++qs)
      | _,_=>none
    | none=>none
def ZoC:CV→Bool
  | .one x=>x.plain
  | .agg ls=>ls.all L.plain
  | .row _ _ _=>true
def ZdB (xs:List (List L)):Bool:=xs.all fun x=>x.all L.plain
def ZoZ:List CV→List Prop
  | []=>[]
  | .row _ _ xs::cs=>(ZdB xs=true)::ZoZ cs
  | _::cs=>ZoZ cs
def callB (P:Program) (s:S) (o:Oper) (d:D):Option (List Nat×S×List Prop):=
  match o.op with
  | .call { callee:=.value (.func f),args:=⟨xs⟩,.. }=>match Zmm s d.oc d.wm xs,ZgB (d.ns.headD 0) 0 d.rs with
    | some (cs,ps),some (tvs,r)=>
      if (ZiV (d.ns.headD 0) r).all (fun n=>!TV.mens n s.sl)&&d.rs.all ZoC then
        some (ZiV (d.ns.headD 0) r,(s.setEnt? (d.ns.headD 0) r).put o.dst (Zfb tvs),ps++ZoZ d.rs ++ [Zde P f cs d.rs])
      else none
    | _,_=>none
  | _=>none
section
variable {P:Program} {g g':G} {s:S} {w w':World}
theorem Zdv (g:G) (w:World):ZcA g (g.lift w) w w:=
  ⟨fun _ _=>rfl,zL _,fun b=>(by show g.Z b≤if _ then _ else _;split;exact Nat.le_max_left _ _;exact zL _),fun _ _ _=>rfl,fun _ _=>rfl⟩
theorem ZmO (hm:Zdr g s w):Zdr ((g.lift w).out true) (.ofSt (s.seen true)) w:=by
  have h0:Zdr (g.lift w) (.ofSt (s.seen true)) w:=by
    refine ⟨by simp only [S.ofSt,S.seen,if_true,uL];exact hm.stl,fun i c h hne=>?_,hm.objB,fun n ent h=>by simp [S.ofSt] at h,hm.own,fun b hb=>?_,hm.gl.keep (Zdv g w)⟩
    · simp only [S.ofSt,S.seen,if_true,List.getElem?_replicate] at h
      split at h<;>simp at h
      exact absurd h.symm (fun e=>hne (e ▸ rfl))
    · show (if _ then _ else _)=_
      rw [if_neg]
      · exact hm.z b hb
      · intro h
        obtain ⟨t,ht⟩:=Option.isSome_iff_exists.1 h
        have:=hm.own b t ht;omega
  have:=Zlx h0 true
  simpa [S.seen,S.ofSt] using this
theorem Zfu.slB {t:Ow} {hv v:Value} {e:Bool} {sz lo len:Nat} {xs:List (List L)} (h:Zfu g w t hv e sz xs) (hw:Win sz lo len hv v) (hl:lo+len≤xs.length) :
    LR (g.lift w) w none v (.sl sz ((xs.drop lo).take len)):=by
  rcases h with ⟨rfl,rfl⟩ | ⟨b,o,rfl,rfl⟩ | ⟨b,off,cap,a,E,rfl,h2,h3,h4,h5,h6,h7⟩
  · rcases hw with ⟨_,rfl,rfl,rfl⟩ | ⟨b,o,n,c,o',h,_⟩
    · exact .slnil _ _
    · cases h
  · rcases hw with ⟨h,_⟩ | ⟨b,o,n,c,o',h,h1,rfl,_⟩
    · cases h
    · simp only [Value.slice.injEq,zA,Addr.mk.injEq] at h
      obtain ⟨_,rfl,rfl⟩:=h
      have:len=0:=by simp at hl;omega
      subst this
      simp only [List.drop_nil,List.take_nil,Nat.zero_sub]
      exact .slz _ _ _
  · rcases hw with ⟨h,_⟩ | ⟨b',o,n,c,o',h,h1,rfl,k1,k2⟩
    · cases h
    · simp only [Value.slice.injEq,zA,Addr.mk.injEq] at h
      obtain ⟨⟨rfl,rfl,-⟩,rfl,rfl⟩:=h
      have hlen:((xs.drop lo).take len).length=len:=by simp;omega
      by_cases hc:lo<cap
      · have:=k1 hc;subst this
        refine .sl _ b _ len (cap-lo) sz _ hlen (by omega) ?_ ((ER.keep' (Zdv g w) (h7.dropN lo (by omega)) fun _ _ _=>rfl).takeN len)
        show _≤if _ then _ else _
        rw [if_pos (by rw [h3];rfl)]
        have hbs:Zft w b=a.size:=by simp [Zft,h4]
        rw [hbs]
        have:lo*sz+len*sz≤cap*sz:=by rw [←xO];exact Nat.mul_le_mul_right _ (by omega)
        omega
      · have:len=0:=by omega
        subst this
        rw [show cap-lo=0 by omega,List.take_zero]
        exact .slz _ _ _
theorem Zjt (hm:Zdr g s w) {oc:List L} {md:Nat} {tv:TV} {c:CV} {ps:List Prop} {v:Value} {i:Nat} (h:toCVB s oc md tv=some (c,ps)) (hp:ZbE ps) (hv:Zct g s w v tv):CVR ((g.lift w).out true) w i v c:=by
  have K1:ZcA g ((g.lift w).out true) w w:=(Zdv g w).trans (Zex _ true w)
  unfold toCVB at h
  split at h
  · rename_i src sz lo len
    split at h<;>try (cases h;done)
    rename_i e sz' xs ps' hr
    split at h<;>simp only [zA,zC,reduceCtorEq] at h
    rename_i hz;subst hz
    obtain ⟨rfl,rfl⟩:=h
    rw [ZbE.append] at hp
    obtain ⟨hv0,t0,k1,k2,_⟩:=Zed hm hr hp.2
    obtain ⟨w1,w2,_⟩:=Zgr hp.1
    refine ⟨hv.1,?_⟩
    rw [w1]
    exact LR.keep (Zex _ true w) (k2.slB (hv.2.2.2 _ k1) w2)
  · rename_i r off n lo len
    split at h<;>try (cases h;done)
    rename_i c0 ps' hc
    split at h<;>try (cases h;done)
    rename_i k m xs hseg
    split at h<;>try (cases h;done)
    rename_i hmn;subst hmn
    have main:ZbE ps'→LR ((g.lift w).out true) w none v (.sl 1 (((xs.drop lo).take len).map fun x=>[.int k x])):=by
      intro hp'
      obtain ⟨hin,hok,t,hblk⟩:=ZcQ hm hc hp'
      obtain ⟨q1,o',rfl,q4⟩:=hv.2.2.2 hok
      obtain ⟨h2,h3,a,E,h4,h5⟩:=hblk
      obtain ⟨k1,k2⟩:=h5.atArr hseg
      refine LR.keep (Zex _ true w) ?_
      have hlen:(((xs.drop lo).take len).map fun x=>[L.int k x]).length=len:=by simp;omega
      by_cases hlt:lo<m
      · have:=q4 hlt;subst this
        have hsz:off+m≤a.size:=by
          have h6:=k2 (m-1) (by omega)
          have h7:off+(m-1)<a.toList.length:=by
            rcases yA (off+(m-1)) a.toList.length with h' | h'
            · exact h'
            · rw [zM h'] at h6;cases h6
          simp at h7;omega
        refine .sl _ _ _ len (m-lo) 1 _ hlen (by omega) ?_ (ZlX k _ fun j v hj=>?_)
        · show _≤if _ then _ else _
          rw [if_pos (by rw [h2];rfl)]
          have hbs:Zft w (g.rb r)=a.size:=by simp [Zft,h4]
          rw [hbs];omega
        · simp only [yQ,yS,xF] at hj
          split at hj<;>simp at hj
          rename_i hjl
          obtain ⟨y,hy,rfl⟩:=hj
          have h6:=k2 (lo+j) (by omega)
          have h8:xs.getD (lo+j) 0=y:=by simp [List.getD,hy]
          rw [h8] at h6
          simp only [World.cell?,h4]
          rw [show off+lo+j=off+(lo+j) by omega]
          simpa using h6
      · have hl0:len=0:=by omega
        subst hl0
        rw [List.take_zero,vQ,show m-lo=0 by omega]
        exact .slz _ _ _
    split at h<;>simp only [zA,zC] at h<;>obtain ⟨rfl,rfl⟩:=h
    · rename_i hh
      obtain ⟨rfl,rfl⟩:=hh
      have:=main hp
      refine ⟨hv.1,?_⟩
      obtain ⟨_,_,t,hblk⟩:=ZcQ hm hc hp
      obtain ⟨h2,h3,a,E,h4,h5⟩:=hblk
      have hxl:=(h5.atArr hseg).1
      rwa [List.drop_zero,List.take_of_length_le (by omega)] at this
    · exact ⟨hv.1,main hp⟩
  · have h1:=Zii hm (pu:=true) (i:=i) h hp hv
    have K0:ZcA (g.out true) ((g.lift w).out true) w w:=⟨fun _ _=>rfl,zL _,(Zdv g w).Z,fun _ _ _=>rfl,fun _ _=>rfl⟩
    exact CVR.in K0 (Zkz h) h1
theorem ZiC {oc:List L} {md:Nat} {a:Act} (hs:Sat g s w a.tmps) : ∀{xs:List Operand} {cs:List CV} {ps:List Prop} {i:Nat},Zmm s oc md xs=some (cs,ps)→ZbE ps→Zfk ((g.lift w).out true) w i (xs.map a.eval) cs
  | [],cs,ps,i,h,hp=>by simp only [Zmm,zA,zC] at h;obtain ⟨rfl,rfl⟩:=h;rfl
  | x::xs,cs,ps,i,h,hp=>by
    simp only [Zmm] at h
    split at h<;>try cases h
    rename_i tv hx
    split at h<;>simp only [zA,zC,reduceCtorEq] at h
    rename_i c ps1 cs1 qs1 h1 h2
    obtain ⟨rfl,rfl⟩:=h
    rw [ZbE.append] at hp
    exact ⟨_,_,rfl,Zjt hs.mem h1 hp.1 (Zbx hs hx),ZiC hs h2 hp.2⟩
theorem LR.plain {p:Option (Nat×Nat)} {v:Value} {x:L} (hob:g'.ob=g.ob) (hnob:g'.nob=g.nob) (hx:x.plain=true) (h:LR g w p v x):LR g' w' p v x:=by
  cases h<;>first | (simp [L.plain] at hx;done) | skip
  · exact .int _ _ _
  · exact .bool _ _
  · exact .str _ _
  · exact .nilp _
  · rename_i i hi
    rw [←hob];exact .ref _ i (by rw [hnob];exact hi)
theorem CR.plain (hob:g'.ob=g.ob) (hnob:g'.nob=g.nob) : ∀{p:Option (Nat×Nat)} {vs:List Value} {ls:List L},CR g w p vs ls→ls.all L.plain=true→CR g' w' p vs ls
  | _,_,_,.nil _,_=>.nil _
  | _,_,_,.one _ v vs l ls hv h1 hr,hp=>by
    simp only [xB,zQ] at hp
    exact .one _ v vs l ls (LR.plain hob hnob hp.1 hv) h1 (CR.plain hob hnob hr hp.2)
  | _,_,_,.arr _ k n xs vs ls hn hr,hp=>by
    simp only [xB,zQ] at hp
    exact .arr _ k n xs vs ls hn (CR.plain hob hnob hr hp.2)
  | _,_,_,.brr _ n xs vs ls hn hr,hp=>by
    simp only [xB,zQ] at hp
    exact .brr _ n xs vs ls hn (CR.plain hob hnob hr hp.2)
theorem ER.plain (hob:g'.ob=g.ob) (hnob:g'.nob=g.nob) : ∀{xs:List (List L)} {b off sz:Nat},ER g w b off sz xs→ZdB xs=true→ER g' w b off sz xs
  | _,_,_,_,.nil _ _ _,_=>.nil _ _ _
  | _,_,_,_,.cons b off sz vs x xs hn hc hx hr,hp=>by
    simp only [ZdB,xB,zQ] at hp
    exact .cons _ _ _ vs x xs hn hc (CR.plain hob hnob hx hp.1) (ER.plain hob hnob hr hp.2)
def G.backB (g:G) (w:World) (g':G) (p n:Nat) (hv:Value):G:=
  { g' with ow:=fun b=>if b<w.heap.size then g.ow b else ZfM p n (g'.ow b),Z:=fun b=>if b<w.heap.size then g.Z b else g'.Z b,sb:=g.sb,hd:=Zfv g.hd n hv}
theorem ZnG (g:G) (b:Nat):(g.out true).ow b=none∨(g.out true).ow b=some .foreign:=by
  cases h:g.ow b with
  | none=>exact .inl (ZgZ.2 h)
  | some t=>
    right
    cases t<;>simp [G.out,h]
    rename_i b' o
    cases h2:g.ow b' with
    | none=>rfl
    | some t2=>cases t2<;>rfl
theorem ZfU (hM:Mod ((g.lift w).out true) g' w w') {p n:Nat} {hv:Value} {b:Nat} (hb:b<w.heap.size):Zgq g (g.backB w g' p n hv) w w' b:=by
  have h1:Zgq ((g.lift w).out true) g' w w' b:=by
    rcases hM.same b hb with h1 | h1
    · exact h1
    · rcases ZnG (g.lift w) b with h2 | h2
      · exact absurd h2 h1.1
      · exact absurd h2 h1.2
  refine ⟨h1.1,?_,?_⟩
  · show (if b<w.heap.size then g.ow b else _)=_
    rw [if_pos hb]
  · show (if b<w.heap.size then g.Z b else _)=_
    rw [if_pos hb]
theorem Zkh (hm:Zdr g s w) (hM:Mod ((g.lift w).out true) g' w w') {p n:Nat} {hv:Value}:ZcA g (g.backB w g' p n hv) w w':=by
  refine ⟨hM.keep.ob,hM.keep.nob,fun b=>?_,fun b o ho=>?_,fun b ho=>?_⟩
  rotate_left 2
  · have hb:b<w.heap.size:=by
      rcases yA b w.heap.size with h | h
      · exact h
      · rw [hm.z b h] at ho;omega
    simp only [Ziq]
    rw [(ZfU (p:=p) (n:=n) (hv:=hv) hM hb).1]
  · show g.Z b≤if b<w.heap.size then g.Z b else g'.Z b
    split
    · exact zL _
    · rw [hm.z b (by omega)];exact xE _
  · have hb:b<w.heap.size:=by
      rcases yA b w.heap.size with h | h
      · exact h
      · rw [hm.z b h] at ho;omega
    exact ZcP (ZfU (p:=p) (n:=n) (hv:=hv) hM hb).1
theorem ZqR (hm:Zdr g s w) (hM:Mod ((g.lift w).out true) g' w w') {p n:Nat} {hv:Value}:Mod g (g.backB w g' p n hv) w w':=by
  refine ⟨Zkh hm hM,hM.os,hM.tape,hM.output,hM.size,fun b hb=>.inl (ZfU hM hb),fun b hb h1 h2=>?_,hM.newob⟩
  have e:(g.backB w g' p n hv).ow b=g.ow b:=(ZfU hM hb).2.1
  rw [e] at h1 h2
  exact ⟨h1,h2⟩
theorem Znj {s s':S} {a:Act} {dst:Option Nat} {n:Nat} {rs:List CV} {tvs:List TV} {r:Option (Nat×Ent)} {us:List Value}
    (hs:Sat g s w a.tmps) (hrs:ZgB n 0 rs=some (tvs,r)) (hX:(ZiV n r).all (fun n=>!TV.mens n s.sl)=true) (hfl:rs.all ZoC=true) (hpl : ∀e sz xs,CV.row e sz xs∈rs→ZdB xs=true)
    (hM:Mod ((g.lift w).out true) g' w w') (hm':Zdr g' (.ofSt (s.seen true)) w') (hus:Zfk g' w' 0 us rs)
    (esl:s'.sl=(s.put dst (Zfb tvs)).sl) (esi:s'.si=(s.setEnt? n r).si) (est:s'.st=s.st) (eep:s'.ep=s.ep) :
    ∃g'',Mod g g'' w w'∧Zbc (· ∈ ZiV n r) s s' g g'' w w'∧Sat g'' s' w' (a.put dst (ZiW us)).tmps:=by
  obtain ⟨hr1,hr2⟩:=ZjM hrs
  have hm:=hs.mem
  obtain ⟨p,hv,hrow,hnone⟩ : ∃p hv,(∀(j:Nat) (e:Bool) (sz:Nat) (xs:List (List L)),rs[j]? = some (CV.row e sz xs)→us[j]? = some hv∧p=j)∧(r=none→hv=g.hd n):=by
    cases hr:r with
    | none=>exact ⟨0,g.hd n,fun j e sz xs h=>(by have:=hr1 j e sz xs h;rw [hr] at this;cases this),fun _=>rfl⟩
    | some q=>
      obtain ⟨j,e,sz,xs,rfl,h2⟩:=hr2 q hr
      obtain ⟨v,h3,h4⟩:=hus.get h2
      refine ⟨j,v,fun j' e' sz' xs' h=>?_,fun h=>by cases h⟩
      have:=hr1 j' e' sz' xs' h
      rw [hr] at this
      simp only [yB,zA,zC] at this
      obtain ⟨rfl,_⟩:=this
      exact ⟨h3,rfl⟩
  have K:=Zkh (p:=p) (n:=n) (hv:=hv) hm hM
  have sm : ∀{b:Nat} {t:Ow},g.ow b=some t→Zgq g (g.backB w g' p n hv) w w' b:=fun {b t} h=>ZfU hM (hm.own b t h)
  have hnob:g'.nob=g.nob:=by
    have h1:=hm'.stl
    simp only [S.ofSt,S.seen,if_true,uL] at h1
    exact h1.symm.trans hm.stl
  have newrow : ∀{v:Value} {e:Bool} {sz:Nat} {xs:List (List L)},ZdB xs=true→Zfu g' w' (.rowS p) v e sz xs→Zfu (g.backB w g' p n hv) w' (.rowS n) v e sz xs:=by
    rintro v e sz xs hplain (h1 | h1 | ⟨b1,o1,cap,aa,E,rfl,k2,k3,k4,k5,k6,k7⟩)
    · exact .inl h1
    · exact .inr (.inl h1)
    · have hb : ¬ b1<w.heap.size:=by
        intro hb
        rcases hM.same b1 hb with h2 | h2
        · rcases ZnG (g.lift w) b1 with h3 | h3<;>(rw [h2.2.1,h3] at k3;cases k3)
        · rcases ZnG (g.lift w) b1 with h3 | h3
          · exact absurd h3 h2.1
          · exact absurd h3 h2.2
      refine .inr (.inr ⟨b1,o1,cap,aa,E,rfl,k2,?_,k4,k5,?_,ER.plain (g:=g') (g':=g.backB w g' p n hv) rfl rfl k7 hplain⟩)
      · show (if b1<w.heap.size then g.ow b1 else ZfM p n (g'.ow b1))=_
        rw [if_neg hb,k3];simp [ZfM]
      · show (if b1<w.heap.size then g.Z b1 else g'.Z b1)=_
        rw [if_neg hb];exact k6
  have hslots : ∀{rs:List CV} {i:Nat} {us:List Value} {tvs:List TV} {r:Option (Nat×Ent)},ZgB n i rs=some (tvs,r)→rs.all ZoC=true →
      Zfk g' w' i us rs→(∀(j:Nat) (e:Bool) (sz:Nat) (xs:List (List L)),rs[j]? = some (CV.row e sz xs)→us[j]? = some hv)→Zeu (g.backB w g' p n hv) s' w' us tvs:=by
    intro rs
    induction rs with
    | nil=>
      intro i us tvs r h _ hu _
      simp only [ZgB,zA,zC] at h;obtain ⟨rfl,rfl⟩:=h
      exact hu
    | cons c cs ih=>
      intro i us tvs r h hfl hu hr
      simp only [xB,zQ] at hfl
      obtain ⟨v,rest,rfl,hc,hu⟩:=hu
      simp only [ZgB] at h
      split at h<;>try cases h
      rename_i tvs1 r1 h1
      have ih:=ih h1 hfl.2 hu fun j e sz xs hj=>by simpa using hr (j+1) e sz xs (by simpa using hj)
      split at h
      · simp only [zA,zC] at h;obtain ⟨rfl,rfl⟩:=h
        exact ⟨v,rest,rfl,⟨hc.1,LR.plain (g:=g') rfl rfl hfl.1 hc.2⟩,ih⟩
      · simp only [zA,zC] at h;obtain ⟨rfl,rfl⟩:=h
        obtain ⟨vs,rfl,h3⟩:=hc
        exact ⟨_,rest,rfl,⟨vs,rfl,CR.toTs (CR.plain (g:=g') (g':=g.backB w g' p n hv) (w':=w') rfl rfl h3 hfl.1)⟩,ih⟩
      · rename_i e sz xs
        split at h<;>simp only [zA,zC,reduceCtorEq] at h
        obtain ⟨rfl,rfl⟩:=h
        have hveq:=hr 0 e sz xs rfl
        simp only [yG,zA] at hveq
        subst hveq
        refine ⟨v,rest,rfl,?_,ih⟩
        simp only [CVR] at hc
        rcases hc with ⟨rfl,rfl⟩ | ⟨b1,o1,rfl,rfl⟩ | ⟨b1,o1,cap,aa,E,rfl,k2,k3,k4,k5,k6,k7⟩
        · refine ⟨rfl,⟨_,_,rfl,.inl rfl⟩,fun _ _ _ _ _=>xE _,?_⟩
          rintro hv' ⟨_,rfl⟩
          left
          exact ⟨Zbf _ _ _,rfl,rfl,rfl⟩
        · refine ⟨rfl,⟨_,_,rfl,.inl rfl⟩,fun _ _ _ _ _=>xE _,?_⟩
          rintro hv' ⟨_,rfl⟩
          right
          exact ⟨b1,o1,0,0,o1,Zbf _ _ _,⟨by simp,zL _⟩,by simp,fun h=>by omega,fun _=>rfl⟩
        · refine ⟨rfl,⟨_,_,rfl,.inr rfl⟩,fun _ _ _ _ _=>xE _,?_⟩
          rintro hv' ⟨_,rfl⟩
          right
          exact ⟨b1,o1,xs.length,cap,o1,Zbf _ _ _,⟨by omega,k2⟩,by simp,fun _=>by simp,fun _=>rfl⟩
  have hXn : ∀m,m∉ZiV n r→s'.si[m]? = s.si[m]? ∧ (g.backB w g' p n hv).hd m=g.hd m:=by
    intro m hm
    rw [esi]
    cases hr:r with
    | none=>
      refine ⟨rfl,?_⟩
      by_cases e:m=n
      · subst e;exact (Zbf _ _ _).trans (hnone hr)
      · exact Zcx _ _ e
    | some q=>
      rw [hr] at hm
      have e:m≠n:=fun e=>hm (by simp [ZiV,e])
      exact ⟨zV (fun e'=>e e'.symm),Zcx _ _ e⟩
  have oldE : ∀m ent,s.si[m]? = some (some ent)→(g.backB w g' p n hv).hd m=g.hd m→Zfe (g.backB w g' p n hv) w' m ent:=by
    intro m ent h hhd
    have h1:=hm.site m ent h
    cases ent with
    | cells c=>exact Zky.keep K h1 (sm h1.1) (fun b' o hb=>sm hb)
    | row ver e sz xs=>
      simp only [Zfe] at h1 ⊢
      rw [hhd]
      exact h1.keep K (fun b hb=>sm hb)
    | mp es=>
      simp only [Zfe] at h1 ⊢
      rw [hhd]
      exact h1.keep K (fun b hb=>sm hb)
  have hmS:Zdr (g.backB w g' p n hv) s' w':=by
    refine ⟨by rw [est];exact hm.stl.trans hnob.symm,fun i c h hne=>?_,fun i hi=>?_,fun m ent h=>?_,fun b t h=>?_,fun b hb=>?_,hm.gl.keep K⟩
    · rw [est] at h
      have h1:=hm.obj i c h hne
      have hi:i<g.nob:=by
        rw [←hm.stl]
        rcases yA i s.st.length with h' | h'
        · exact h'
        · rw [zM h'] at h;cases h
      show Zky (g.backB w g' p n hv) w' (g'.ob i) (.obj i) c
      rw [show g'.ob i=g.ob i from hM.keep.ob i hi]
      exact h1.keep K (sm h1.1) (fun b' o hb=>sm hb)
    · have hi':i<g.nob:=by rw [←hnob];exact hi
      show (g.backB w g' p n hv).ow (g'.ob i)=_∨(g.backB w g' p n hv).ow (g'.ob i)=_
      rw [show g'.ob i=g.ob i from hM.keep.ob i hi']
      rcases hm.objB i hi' with h1 | h1
      · exact .inl ((sm h1).2.1.trans h1)
      · exact .inr ((sm h1).2.1.trans h1)
    · by_cases hmX:m∈ZiV n r
      · obtain ⟨q,hq⟩ : ∃q,r=some q:=by
          cases hr:r with
          | none=>rw [hr] at hmX;simp [ZiV] at hmX
          | some q=>exact ⟨q,rfl⟩
        rw [hq] at hmX
        simp [ZiV] at hmX;subst hmX
        rw [esi,hq] at h
        simp only [S.setEnt?,S.setEnt] at h
        have hd:m<s.si.length:=by
          rcases yA m s.si.length with h' | h'
          · exact h'
          · rw [zM (by simpa using h')] at h;cases h
        rw [zO hd] at h
        simp only [zA] at h
        obtain ⟨j,e,sz,xs,rfl,h2⟩:=hr2 q hq
        simp only at h;subst h
        obtain ⟨h3,rfl⟩:=hrow j e sz xs h2
        obtain ⟨v,h4,h5⟩:=hus.get h2
        rw [h3] at h4;cases h4
        simp only [Zfe]
        rw [show (g.backB w g' p m hv).hd m=hv from Zbf _ _ _]
        simp only [CVR,yB] at h5
        exact newrow (hpl e sz xs (List.mem_of_getElem? h2)) h5
      · obtain ⟨h1,h2⟩:=hXn m hmX
        rw [h1] at h
        exact oldE m ent h h2
    · by_cases hb:b<w.heap.size
      · have:=hM.size;omega
      · have e:(g.backB w g' p n hv).ow b=ZfM p n (g'.ow b):=by
          show (if _ then _ else _)=_
          rw [if_neg hb]
        rw [e] at h
        cases hb:g'.ow b with
        | none=>rw [hb] at h;cases h
        | some t'=>exact hm'.own b t' hb
    · show (if b<w.heap.size then _ else _)=_
      have:=hM.size
      rw [if_neg (by omega)];exact hm'.z b hb
  have k:Zbc (· ∈ ZiV n r) s s' g (g.backB w g' p n hv) w w':=by
    refine ⟨K,fun m hm' h=>?_,fun m ver hm' h=>?_,fun m hm' h=>?_,fun h rt hg hi hok _ _ off hv' hc=>?_,by rw [eep];exact zL _⟩
    · obtain ⟨c,h⟩:=h
      rw [(hXn m hm').1] at h
      exact ⟨⟨c,h⟩,rfl⟩
    · obtain ⟨e,sz,xs,h⟩:=h
      rw [(hXn m hm').1] at h
      exact .inl ⟨⟨e,sz,xs,h⟩,(hXn m hm').2⟩
    · obtain ⟨es,h⟩:=h
      rw [(hXn m hm').1] at h
      exact ⟨⟨es,h⟩,(hXn m hm').2⟩
    · left
      have hsm:Zgq g (g.backB w g' p n hv) w w' (g.rb rt):=by
        cases rt with
        | site m=>
          obtain ⟨c,hok⟩:=hok
          exact sm (hm.site m _ hok).1
        | obj i=>
          rcases hm.objB i hi with h | h<;>exact sm h
        | glob j=>exact absurd rfl (hg j)
      rwa [ZcP hsm.1] at hc
  have hfin:=hs.next k (fun m hm=>by
    have:=List.all_eq_true.1 hX m hm
    simpa using this) hmS (by rw [esi];cases r<;>simp [S.setEnt?,S.setEnt]) (dst:=dst) (tv:=Zfb tvs) (v:=ZiW us) esl (fun _=>ZhH (hslots hrs hfl hus fun j e sz xs h=>(hrow j e sz xs h).1))
  exact ⟨_,ZqR hm hM,k,hfin⟩
theorem Zgy : ∀{rs:List CV},ZbE (ZoZ rs)→∀e sz xs,CV.row e sz xs∈rs→ZdB xs=true
  | [],_,_,_,_,h=>by cases h
  | c::cs,hp,e,sz,xs,h=>by
    cases c with
    | one x=>
      rcases wD.1 h with h | h
      · cases h
      · exact Zgy (rs:=cs) hp e sz xs h
    | agg x=>
      rcases wD.1 h with h | h
      · cases h
      · exact Zgy (rs:=cs) hp e sz xs h
    | row e' sz' xs'=>
      simp only [ZoZ] at hp
      rw [ZbE.cons] at hp
      rcases wD.1 h with h | h
      · cases h;exact hp.1
      · exact Zgy hp.2 e sz xs h
theorem Zcr.callB {s s':S} {o:Oper} {d:D} {X:List Nat} {ps:List Prop} (h:Dn.callB P s o d=some (X,s',ps)) (hp:ZbE ps):Zcr P o X s s'∧(∃tv,s'.sl=(s.put o.dst tv).sl)∧X.all (fun n=>!TV.mens n s.sl)=true:=by
  unfold Dn.callB at h
  split at h<;>try (cases h;done)
  rename_i f xs _ ho
  split at h<;>try (cases h;done)
  rename_i cs ps1 tvs r hcs hrs
  split at h<;>simp only [zA,zC,reduceCtorEq] at h
  rename_i hX
  simp only [zQ] at hX
  obtain ⟨hX,hfl⟩:=hX
  obtain ⟨rfl,rfl,rfl⟩:=h
  rw [ZbE.append,ZbE.append] at hp
  obtain ⟨⟨hp1,hp2⟩,hp3⟩:=hp
  simp only [ZbE] at hp3
  refine ⟨?_,⟨Zfb tvs,by cases o.dst<;>cases r<;>rfl⟩,hX⟩
  intro g w a hs K Q hK
  obtain ⟨hent,hp4⟩:=hp3 (s.seen true)
  unfold Oper.wp
  have hrun:(execOp a.eval o).run P w = .ok (.enter f (xs.map a.eval).toArray) w:=by
    have:=Zgw hent (xs.map a.eval).toArray w
    simp [execOp,ho,resolve,Deferred.ofValue,Act.eval,invoke,this]
  rw [hrun]
  show Calls P f _ w _
  refine (hp4 ((g.lift w).out true) w _ (ZiC hs hcs hp1) (ZmO hs.mem)).mono ?_
  rintro e w' ⟨g',us,rfl,hM,hm',hus⟩
  obtain ⟨g'',k1,k2,k3⟩:=Znj hs hrs hX hfl (Zgy hp2) hM hm' hus (dst:=o.dst) (s':=(s.setEnt? (d.ns.headD 0) r).put o.dst (Zfb tvs)) (by cases o.dst<;>cases r<;>rfl) (by cases o.dst<;>rfl) (by cases o.dst<;>cases r<;>rfl) (by cases o.dst<;>cases r<;>rfl)
  exact hK _ _ _ k1 k2 k3
end
end Go.Dn
namespace Go.Dn
variable [Globs]
def stepY (P:Program):Zif:=fun s o d=>
  match o.op with
  | .assign _=>if d.m=2 then (Zqg P s o).map fun r=>([],s.put o.dst r,[]) else ZpJ P s o d
  | .build _ _=>if d.m=3 then (buildA P s o).map fun r=>([],s.put o.dst r,[]) else ZpJ P s o d
  | .call { callee:=.value (.func _),.. }=>if d.m=2 then callB P s o d else if d.m=4 then (extOp s o P d).map fun r=>([],s.put o.dst r.1,r.2) else ZpJ P s o d
  | _=>ZpJ P s o d
theorem stepY_ok (P:Program):ZeX P (stepY P):=by
  intro s o d X s' ps h hp
  have F:=stepF_ok P s o d X s' ps
  have put : ∀{α:Type} {x:Option α} {f:α→TV} {g:α→List Prop},(∀r,x=some r→ZbE (g r)→Zcr P o [] s (s.put o.dst (f r)))→x.map (fun r=>(([]:List Nat),s.put o.dst (f r),g r))=some (X,s',ps) →
      Zcr P o X s s'∧(∃tv,s'.sl=(s.put o.dst tv).sl)∧X.all (fun n=>!TV.mens n s.sl)=true:=by
    intro α x f g hok hx
    obtain ⟨r,h1,h2⟩:=zG.1 hx;simp only [zC] at h2;obtain ⟨rfl,rfl,rfl⟩:=h2
    exact ⟨hok r h1 hp,⟨_,rfl⟩,rfl⟩
  unfold stepY at h
  split at h
  · split at h
    · exact put (f:=id) (g:=fun _=>[]) (fun r hr _=>.nil2 hr) h
    · exact F h hp
  · split at h
    · exact put (f:=id) (g:=fun _=>[]) (fun r hr _=>.buildA hr) h
    · exact F h hp
  · split at h
    · exact Zcr.callB h hp
    · split at h
      · exact put (f:=Prod.fst) (g:=Prod.snd) (fun r hr hq=>.ext hr hq) h
      · exact F h hp
  · exact F h hp
def Zli (P:Program):Zif:=stepY P
theorem stepX_ok (P:Program):ZeX P (Zli P):=stepY_ok P
def mkFnOp (s:S) (o:Oper):Option TV:=none
section
variable {P:Program} {g g':G} {s:S} {w w':World}
theorem Zcr.mkFn {o:Oper} {tv:TV} (h:mkFnOp s o=some tv):Zcr P o [] s (s.put o.dst tv):=by unfold Dn.mkFnOp at h;cases h
theorem Zfk.append {i:Nat} : ∀{cs ks:List CV} {j:Nat} {us vs:List Value},Zfk g w j us cs→Zfk g w (j+cs.length) vs ks→Zfk g w j (us++vs) (cs++ks)
  | [],ks,j,us,vs,h,h'=>by rw [Zfk] at h;subst h;simpa using h'
  | c::cs,ks,j,us,vs,h,h'=>by
    obtain ⟨v,r,rfl,h1,h2⟩:=h
    exact ⟨v,r++vs,rfl,h1,Zfk.append (i:=i) h2 (by rw [show j+1+cs.length=j+(c::cs).length by simp;omega];exact h')⟩
theorem CR.split : ∀{n:Nat} {vs:List Value} {ls:List L},CR g w none vs ls→ls.all L.single=true→CR g w none (vs.take n) (ls.take n)∧CR g w none (vs.drop n) (ls.drop n)
  | 0,vs,ls,h,_=>by simpa using ⟨CR.nil none,h⟩
  | n+1,vs,[],h,_=>by cases h;simpa using CR.nil none
  | n+1,vs,l::ls,h,hs=>by
    simp only [xB,zQ] at hs
    cases h with
    | one _ v vs _ _ hv h1 hr=>
      obtain ⟨k1,k2⟩:=CR.split (n:=n) (by simpa [bump] using hr) hs.2
      exact ⟨.one _ _ _ _ _ hv h1 k1,k2⟩
    | arr=>simp [L.single] at hs
    | brr=>simp [L.single] at hs
def callC (P:Program) (s:S) (o:Oper) (d:D):Option (List Nat×S×List Prop):=none
theorem Zcr.callC {s s':S} {o:Oper} {d:D} {X:List Nat} {ps:List Prop} (h:Dn.callC P s o d=some (X,s',ps)) (hp:ZbE ps):Zcr P o X s s'∧(∃tv,s'.sl=(s.put o.dst tv).sl)∧X.all (fun n=>!TV.mens n s.sl)=true:=by unfold Dn.callC at h;cases h
section
variable {n i:Nat}
end
end
end Go.Dn
namespace Go.Dn
variable [Globs]
section
variable {P:Program} {g g':G} {s:S} {w w':World}
def callM (P:Program) (s:S) (o:Oper) (d:D):Option (List Nat×S×List Prop):=none
theorem Zcr.callM {s s':S} {o:Oper} {d:D} {X:List Nat} {ps:List Prop} (h:Dn.callM P s o d=some (X,s',ps)) (hp:ZbE ps):Zcr P o X s s'∧(∃tv,s'.sl=(s.put o.dst tv).sl)∧X.all (fun n=>!TV.mens n s.sl)=true:=by unfold Dn.callM at h;cases h
end
end Go.Dn
namespace Go.Dn
variable [Globs]
def isI (xs:List (List L)):Bool:=xs.all fun x=>match x with
  | [.int .i64 _]=>true
  | _=>false
def ZdD (l:List Int):List (List L):=l.map fun n=>[.int .i64 n]
def Zjw (xs:List (List L)):List (List L):=ZdD ((xs.map Zez).mergeSort fun x y=>decide (x≤y))
def SortC (P:Program) (f:FuncId):Prop:=
  ZoT P f∧(∀p cap w,Calls P f #[.slice p 0 cap] w fun e w'=>e = .returned (.tuple #[])∧w'=w) ∧
  ∀(blk off cap:Nat) (zs:List Int) (w:World),Go.Sort.Holds (Value.int .i64) w blk off zs.toArray→blk<w.heap.size→zs.length<4611686018427387904 →
    Calls P f #[.slice (some ⟨blk,off,none⟩) zs.length cap] w fun e w'=>e = .returned (.tuple #[])∧∃n os,w'=Go.Sort.grow (Go.Sort.putRow (Value.int .i64) (Go.Sort.ahead w n) blk off (zs.mergeSort fun x y=>decide (x≤y)).toArray) os
def ZpL (P:Program) (s:S) (o:Oper):Option (S×List Prop):=
  match o.op with
  | .call { callee:=.value (.func f),args:=⟨[x]⟩,.. }=>match ev s x with
    | some (.one (.h (.row n ver) 1 lo len))=>match s.si[n]? with
      | some (some (.row ver' true 1 xs))=>if ver=ver' then
          some ({ s with si:=s.si.set n (some (.row ver true 1 (Zjw xs)))}.put o.dst (.tup []),[lo=0,len=xs.length,isI xs=true,xs.length<4611686018427387904,SortC P f]) else none
      | _=>none
    | _=>none
  | _=>none
section
variable {P:Program} {g g':G} {s:S} {w w':World}
theorem Zjj : ∀{xs:List (List L)},isI xs=true→xs=ZdD (xs.map Zez)
  | [],_=>rfl
  | x::xs,h=>by
    simp only [isI,xB,zQ] at h
    have h1:=Zjj (xs:=xs) h.2
    have h2:=h.1
    split at h2<;>simp at h2
    rename_i n
    simp only [ZdD,yO,Zez] at h1 ⊢
    rw [←h1]
theorem ER.cellsI : ∀{l:List Int} {b o:Nat},ER g w b o 1 (ZdD l)→∀j v,(l.map (Value.int .i64))[j]? = some v→w.cell? (ad b (o+j))=some v
  | [],b,o,h,j,v,hj=>by simp at hj
  | y::ys,b,o,h,j,v,hj=>by
    simp only [ZdD,yO] at h
    cases h with
    | cons _ _ _ vs _ _ hn hc hx hr=>
      cases j with
      | zero=>
        simp only [yO,yG,zA] at hj
        cases hx with
        | one _ u us _ _ hv h1 hr'=>
          cases hr'
          have:=hv.int_eq;subst this
          subst hj
          exact hc 0 _ rfl
      | succ j=>
        simp only [yO,List.getElem?_cons_succ] at hj
        have:=ER.cellsI (l:=ys) hr j v hj
        rwa [show o+(j+1)=o+1+j by omega]
theorem Znv {blk off n:Nat} {d:Array Int} {os:Array Obj} {cur:Array Value} {E:TypeId} (h:w.heap[blk]? = some (.cells cur E (0,0))) :
    (Go.Sort.grow (Go.Sort.putRow (Value.int .i64) (Go.Sort.ahead w n) blk off d) os).heap[blk]? = some (.cells (Go.Sort.putCells (Value.int .i64) off d cur) E (0,0)) ∧
    (∀b,b<w.heap.size→b≠blk→(Go.Sort.grow (Go.Sort.putRow (Value.int .i64) (Go.Sort.ahead w n) blk off d) os).heap[b]? = w.heap[b]?) ∧
    w.heap.size≤(Go.Sort.grow (Go.Sort.putRow (Value.int .i64) (Go.Sort.ahead w n) blk off d) os).heap.size:=by
  have hlt:blk<w.heap.size:=by
    rcases yA blk w.heap.size with h' | h'
    · exact h'
    · rw [rC h'] at h;cases h
  have hs:(Go.Sort.putRow (Value.int .i64) (Go.Sort.ahead w n) blk off d).heap.size=w.heap.size:=by simp [Go.Sort.putRow,Go.Sort.mapBlock,Go.Sort.ahead]
  refine ⟨?_,fun b hb hne=>?_,?_⟩
  · simp only [Go.Sort.grow]
    rw [uO (by rw [hs];exact hlt)]
    simp only [Go.Sort.putRow,Go.Sort.mapBlock,Go.Sort.ahead,rL,if_true,h,yN,Go.Sort.onCells]
  · simp only [Go.Sort.grow]
    rw [uO (by rw [hs];exact hb)]
    simp only [Go.Sort.putRow,Go.Sort.mapBlock,Go.Sort.ahead,rL]
    rw [if_neg (fun e=>hne e.symm)]
  · simp only [Go.Sort.grow,Array.size_append,hs];omega
theorem Zcr.sort {o:Oper} {s':S} {ps:List Prop} (h:ZpL P s o=some (s',ps)) (hp:ZbE ps):Zcr P o [] s s'∧∃tv,s'.sl=(s.put o.dst tv).sl:=by
  unfold ZpL at h
  split at h<;>try (cases h;done)
  rename_i f x _ ho
  split at h<;>try (cases h;done)
  rename_i n ver lo len hx
  split at h<;>try (cases h;done)
  rename_i ver' xs hsi
  split at h<;>simp only [zA,zC,reduceCtorEq] at h
  rename_i hver;subst hver
  obtain ⟨rfl,rfl⟩:=h
  simp only [ZbE] at hp
  obtain ⟨rfl,rfl,hI,hlen,hC⟩:=hp
  refine ⟨fun g w a hs K Q hK=>?_,⟨.tup [],by cases o.dst<;>rfl⟩⟩
  obtain ⟨hent,hC0,hC1⟩:=hC
  have hxs:=Zjj hI
  obtain ⟨zs,hzs⟩ : ∃zs,zs=xs.map Zez:=⟨_,rfl⟩
  rw [←hzs] at hxs
  have hzl:zs.length=xs.length:=by rw [hzs];simp
  have hrow:=hs.mem.site n _ hsi
  simp only [Zfe] at hrow
  have hnlt:n<s.si.length:=by
    rcases yA n s.si.length with h' | h'
    · exact h'
    · rw [zM h'] at hsi;cases hsi
  have hxv:=Zbx hs hx
  have hwin:=hxv.2.2.2 (g.hd n) ⟨⟨_,_,_,hsi⟩,rfl⟩
  have hrun:(execOp a.eval o).run P w = .ok (.enter f #[a.eval x]) w:=by
    have:=Zgw hent #[a.eval x] w
    have hfun:a.eval (.func f) = .func (.func f) #[] #[]:=rfl
    simp [execOp,ho,resolve,Deferred.ofValue,hfun,invoke,this]
  unfold Oper.wp
  rw [hrun]
  show Calls P f _ w _
  have fin : ∀w',w.heap.size≤w'.heap.size→(w'.os=w.os∧w'.tape=w.tape∧w'.output=w.output)→(∀b,b<w.heap.size→g.ow b≠some (.rowS n)→w'.heap[b]? = w.heap[b]?) →
      (∀b o',o'<g.Z b→w'.cell? (ad b o')=w.cell? (ad b o'))→(∀b,0<g.Z b→Ziq w' b=Ziq w b)→Zfu g w' (.rowS n) (g.hd n) true 1 (Zjw xs)→K (a.put o.dst (.tuple #[])) w':=by
    intro w' h1 h2 h3 h4 h4' h5
    have Kp:ZcA g g w w':=⟨fun _ _=>rfl,zL _,fun _=>zL _,h4,h4'⟩
    obtain ⟨j1,j2,j3⟩:=Zln (g':=g) (s':={ s with si:=s.si.set n (some (.row ver true 1 (Zjw xs)))}.put o.dst (.tup [])) hs.mem (X:=[]) (n:=n) (ver':=ver) (.inr ⟨_,_,_,_,hsi,.inr ⟨rfl,rfl⟩⟩) ⟨rfl,rfl,rfl⟩ (fun _ _=>rfl) Kp h2 h1
      (fun b hb hne=>⟨h3 b hb hne,rfl,rfl⟩) (fun b t hb=>by have:=hs.mem.own b t hb;omega) (fun b hb=>hs.mem.z b (by omega)) h5 (by cases o.dst<;>rfl) (by cases o.dst<;>rfl) (by cases o.dst<;>rfl)
    refine hK g w' (.tuple #[]) j1 j3 (hs.next j3 (fun _ h=>by cases h) j2 (by cases o.dst<;>simp [S.put]) (dst:=o.dst) (tv:=.tup []) (by cases o.dst<;>rfl) (fun _=>?_))
    exact ⟨#[],rfl,by rw [Zeu]⟩
  rcases hrow with ⟨h0,h1⟩ | ⟨b,o1,h0,h1⟩ | ⟨b,off,cap,cur,E,h0,h2,h3,h4,h5,h6,h7⟩
  · have hv:a.eval x = .slice none 0 0:=by
      rcases hwin with ⟨_,_,_,h⟩ | ⟨b,o,n',c,o',h,_⟩
      · exact h
      · rw [h0] at h;cases h
    rw [hv]
    refine (hC0 none 0 w).mono ?_
    rintro e w' ⟨rfl,rfl⟩
    exact fin w' (zL _) ⟨rfl,rfl,rfl⟩ (fun _ _ _=>rfl) (fun _ _ _=>rfl) (fun _ _=>rfl) (.inl ⟨h0,by rw [h1];simp [Zjw,ZdD]⟩)
  · have hv : ∃p c,a.eval x = .slice p 0 c:=by
      rcases hwin with ⟨h,_⟩ | ⟨b',o,n',c,o',h,h',hv,_⟩
      · rw [h0] at h;cases h
      · rw [h0] at h;cases h
        have:xs.length=0:=by rw [h1];rfl
        rw [this] at hv
        exact ⟨_,_,hv⟩
    obtain ⟨p,c,hv⟩:=hv
    rw [hv]
    refine (hC0 p c w).mono ?_
    rintro e w' ⟨rfl,rfl⟩
    exact fin w' (zL _) ⟨rfl,rfl,rfl⟩ (fun _ _ _=>rfl) (fun _ _ _=>rfl) (fun _ _=>rfl) (.inr (.inl ⟨b,o1,h0,by rw [h1];simp [Zjw,ZdD]⟩))
  · rw [if_pos rfl] at h6
    have hv:a.eval x = .slice (some ⟨b,off,none⟩) zs.length cap:=by
      rcases hwin with ⟨h,_⟩ | ⟨b',o,n',c,o',h,h',hv,k1,k2⟩
      · rw [h0] at h;cases h
      · rw [h0] at h
        simp only [Value.slice.injEq,zA,Addr.mk.injEq] at h
        obtain ⟨⟨rfl,rfl,-⟩,rfl,rfl⟩:=h
        have:=k2 rfl;subst this
        rw [hv,hzl,Nat.sub_zero]
    have hb:b<w.heap.size:=hs.mem.own b _ h3
    have hcells:=ER.cellsI (l:=zs) (by rw [←hxs];exact h7)
    have hfit:off+zs.length≤cur.size:=by rw [hzl];omega
    have hH:Go.Sort.Holds (Value.int .i64) w b off zs.toArray:=by
      intro j hj
      have hj':j<zs.length:=by simpa using hj
      refine ⟨?_,by simp [World.frozen?,h4]⟩
      have:=hcells j (.int .i64 zs[j]) (by simp [hj'])
      rw [show (zs.toArray)[j]! = zs[j] by simp [hj']]
      exact this
    rw [hv]
    refine (hC1 b off cap zs w hH hb (by rw [hzl];exact hlen)).mono ?_
    rintro e w' ⟨rfl,nn,os,rfl⟩
    obtain ⟨q1,q2,q3⟩:=Znv (n:=nn) (off:=off) (d:=(zs.mergeSort fun x y=>decide (x≤y)).toArray) (os:=os) h4
    have hcellb : ∀p,(Go.Sort.grow (Go.Sort.putRow (Value.int .i64) (Go.Sort.ahead w nn) b off (zs.mergeSort fun x y=>decide (x≤y)).toArray) os).cell? (ad b p)=(Go.Sort.putCells (Value.int .i64) off (zs.mergeSort fun x y=>decide (x≤y)).toArray cur)[p]? := fun p=>by simp [World.cell?,q1]
    refine fin _ q3 ⟨rfl,rfl,rfl⟩ (fun b' hb' hne=>q2 b' hb' (fun e=>hne (by rw [e];exact h3))) (fun b' o' ho'=>?_) (fun b' hb'=>?_) (.inr (.inr ⟨b,off,cap,_,E,?_,?_,h3,q1,?_,by rw [if_pos rfl];exact h6,?_⟩))
    · by_cases e:b'=b
      · subst e;omega
      · have hb':b'<w.heap.size:=by
          rcases yA b' w.heap.size with h' | h'
          · exact h'
          · have:=hs.mem.z b' h';omega
        exact ZcP (q2 b' hb' e)
    · by_cases e:b'=b
      · rw [e,Zgc h4,Zgc q1]
      · have hb'':b'<w.heap.size:=by
          rcases yA b' w.heap.size with h' | h'
          · exact h'
          · have:=hs.mem.z b' h';omega
        exact Zer (q2 b' hb'' e)
    · rw [h0];simp [Zjw,ZdD]
    · simpa [Zjw,ZdD] using h2
    · simpa [Go.Sort.putCells] using h5
    · unfold Zjw
      rw [←hzs]
      refine ZlX .i64 _ fun j v hj=>?_
      rw [hcellb]
      simp only [yQ] at hj
      obtain ⟨y,hy,rfl⟩:=zG.1 hj
      have hjl:j<(zs.mergeSort fun x y=>decide (x≤y)).length:=by
        rcases yA j (zs.mergeSort fun x y=>decide (x≤y)).length with h' | h'
        · exact h'
        · rw [zM h'] at hy;cases hy
      have hjl':j<zs.length:=by simpa using hjl
      have hcur:off+j<cur.size:=by omega
      simp only [Go.Sort.putCells,Array.getElem?_mapIdx,sN hcur,yN]
      rw [if_pos ⟨by omega,by simpa using hjl'⟩]
      congr 2
      rw [show off+j-off=j by omega]
      simp [hy]
end
def clrOp (P:Program) (s:S) (o:Oper):Option (S×List Prop):=none
section
variable {P:Program} {g g':G} {s:S} {w w':World}
theorem Zcr.clr {o:Oper} {s':S} {ps:List Prop} (h:clrOp P s o=some (s',ps)) (hp:ZbE ps):Zcr P o [] s s'∧∃tv,s'.sl=(s.put o.dst tv).sl:=by unfold Dn.clrOp at h;cases h
end
end Go.Dn
namespace Go.Dn
variable [Globs]
def Zjz (s:S) (oc:List L) (md:Nat) (r:Root) (off:Nat) (tv:TV):Option (S×List Prop):=
  match tv with
  | .one (.h (.mem r' off' ep) sz lo len)=>if off'=off∧ep=s.ep then
      match Zev s oc r with
      | some (c,ps)=>match ZeR c off with
        | some (.own e sz' xs)=>if sz'=sz∧(e=true∨md≤1) then match Zel c off 1 [.own e sz (win md xs lo len).1] with
            | some c'=>some ((s.setRoot r c').bump true,(r'=r)::(ps++(win md xs lo len).2))
            | none=>none
          else none
        | _=>none
      | none=>none
    else none
  | _=>none
def ZpN (P:Program) (s:S) (d:D) (o:Oper):Option (S×List Prop):=
  match o.dst,o.op with
  | none,.store t x y=>match ev s x,ev s y,P.info? t with
    | some (.one (.adr r off)),some tv,some i=>if i.size=1 then Zjz s d.oc d.wm r off tv else none
    | some (.one (.l (.ptr (some j)))),some tv,some i=>if i.size=1 then Zjz s d.oc d.wm (.obj j) 0 tv else none
    | _,_,_=>none
  | _,_=>none
section
variable {P:Program} {g g':G} {s:S} {w w':World}
theorem ZiE (hm:Zdr g s w) {t:TypeId} {i:TypeInfo} (hi:P.info? t=some i) (h1c:i.size=1) {oc:List L} {md:Nat} {r:Root} {off:Nat} {tv:TV} {s':S} {ps:List Prop} {v:Value}
    (h:Zjz s oc md r off tv=some (s',ps)) (hp:ZbE ps) (hv:Zct g s w v tv) :
    ∃w' g',(storeVar t (ad (g.rb r) off) v).run P w = .ok () w'∧Mod g g' w w'∧Zdr g' s' w'∧Zbc (· ∈ []) s s' g g' w w':=by
  unfold Zjz at h
  split at h<;>try (cases h;done)
  rename_i r' off' ep sz lo len
  split at h<;>try (cases h;done)
  rename_i hh
  obtain ⟨rfl,rfl⟩:=hh
  split at h<;>try (cases h;done)
  rename_i c ps' hc
  split at h<;>try (cases h;done)
  rename_i e sz' xs hseg
  split at h<;>try (cases h;done)
  rename_i hh
  obtain ⟨rfl,he⟩:=hh
  split at h<;>simp only [zA,zC,reduceCtorEq] at h
  rename_i c' hrep
  obtain ⟨rfl,rfl⟩:=h
  rw [ZbE.cons,ZbE.append] at hp
  obtain ⟨rfl,hp1,hp2⟩:=hp
  obtain ⟨hri,hrok,hng,hblk⟩:=ZdW hm hc hp1
  obtain ⟨cur,E,hb,hcr⟩:=hblk.heap
  obtain ⟨u,hu1,hu2,hu3⟩:=hcr.at1 hseg rfl
  simp only [bump,yB] at hu3
  have hcell:w.cell? (ad (g.rb r') off')=some u:=by simp [World.cell?,hb];simpa using hu1
  have hrow:=ZiT.1 hu3
  have hwin:=hv.2.2.2 u ⟨rfl,hrok,hcell⟩
  obtain ⟨w1,w2,w3⟩:=Zgr hp2
  have hnew:=hrow.win hwin w2 (he.imp id w3)
  rw [←w1] at hnew
  have hone:v.oneCell'=true:=hv.1
  have hcells:v.cells.toList = [v]:=ZhK hone
  have hlt:off'<cur.size:=by
    rcases yA off' cur.toList.length with h' | h'
    · simpa using h'
    · rw [zM h'] at hu1;cases hu1
  have hrun:=run_storeCells_at P (g.rb r') off' E [v] 0 cur w hb (by simp only [xA];omega) (by simpa using hone)
  simp only [Nat.add_zero] at hrun
  have hst:((s.setRoot r' c').drop []).bump true=(s.setRoot r' c').bump true:=rfl
  obtain ⟨cs,hcs⟩ : ∃cs,cs=(cur.toList.take off' ++ [v]++cur.toList.drop (off' + [v].length)).toArray:=⟨_,rfl⟩
  have hcs':cs.toList=cur.toList.take off' ++ [v]++cur.toList.drop (off' + [v].length):=by rw [hcs]
  rw [←hcs] at hrun
  have key:=ZjE hm (c':=c') (cs:=cs) (off:=off') (m:=[]) (bp:=true) hc hp1 hb (fun q hq=>by cases hq) (fun h=>by cases h) (by
    intro K hmv hrw
    have hl:LR (g.retag (g.rb r') off' []) (w.setRow (g.rb r') cs) (some (g.rb r',off')) v (.own e sz' (win md xs lo len).1):=
      LR.keepO K (fun b' h'=>hrw b' off' h') (ZiT.2 hnew)
    have:=(hcr.keepO K hrw).repl hrep (us:=[v]) (by simpa [Dn.bump] using CR.one _ v [] _ [] hl hone (.nil _)) rfl
    rw [hcs']
    exact this.2)
  rw [hst] at key
  refine ⟨_,_,?_,key⟩
  unfold storeVar
  rw [Sem.run_bind,ZcM hi]
  have hne : ¬ (v.cells.size≠i.size):=by
    have:=congrArg List.length hcells
    simp only [Array.length_toList,xA] at this
    omega
  simp only [Result.andThen_ok,Sem.run_ite,if_neg hne,hcells]
  exact hrun
theorem Zcr.self {s s':S} {o:Oper} {d:D} {ps:List Prop} (h:ZpN P s d o=some (s',ps)) (hp:ZbE ps):Zcr P o [] s s'∧∃tv,s'.sl=(s.put o.dst tv).sl:=by
  unfold ZpN at h
  have hsl : ∀{r:Root} {off:Nat} {tv:TV},Zjz s d.oc d.wm r off tv=some (s',ps)→s'.sl=s.sl∧s'.si.length=s.si.length:=by
    intro r off tv h
    unfold Zjz at h
    split at h<;>try (cases h;done)
    split at h<;>try (cases h;done)
    split at h<;>try (cases h;done)
    split at h<;>try (cases h;done)
    split at h<;>try (cases h;done)
    split at h<;>simp only [zA,zC,reduceCtorEq] at h
    obtain ⟨rfl,_⟩:=h
    exact ZcD _ _ _
  split at h<;>try (cases h;done)
  rename_i t x y hd ho
  split at h<;>try (cases h;done)
  · rename_i r off tv i hx hy hi
    split at h<;>try (cases h;done)
    rename_i h1c
    obtain ⟨e1,e2⟩:=hsl h
    refine ⟨fun g w a hs K Q hK=>?_,⟨.u,by rw [hd];exact e1⟩⟩
    obtain ⟨w',g',k1,k2,k3,k4⟩:=ZiE hs.mem hi h1c h hp (Zbx hs hy)
    have hrok:ZdO s r:=by
      unfold Zjz at h
      split at h<;>try (cases h;done)
      split at h<;>try (cases h;done)
      rename_i hh;obtain ⟨rfl,rfl⟩:=hh
      split at h<;>try (cases h;done)
      rename_i c ps' hc
      split at h<;>try (cases h;done)
      split at h<;>try (cases h;done)
      split at h<;>simp only [zA,zC,reduceCtorEq] at h
      obtain ⟨_,rfl⟩:=h
      rw [ZbE.cons,ZbE.append] at hp
      exact (ZcQ hs.mem hc hp.2.1).2.1
    have hx2:=(Zbx hs hx).2.2.2 hrok
    unfold Oper.wp
    have hexec:(execOp a.eval o).run P w = .ok .skip w':=by simp [execOp,ho,hx2,Instr.storeAt,Instr.sureAddr,k1]
    rw [hexec]
    exact hK g' w' undef k2 k4 (hs.next k4 (fun _ h=>by cases h) k3 e2 (dst:=o.dst) (tv:=.u) (by rw [hd];exact e1) (by rw [hd];simp))
  · rename_i j tv i hx hy hi
    split at h<;>try (cases h;done)
    rename_i h1c
    obtain ⟨e1,e2⟩:=hsl h
    refine ⟨fun g w a hs K Q hK=>?_,⟨.u,by rw [hd];exact e1⟩⟩
    obtain ⟨w',g',k1,k2,k3,k4⟩:=ZiE hs.mem hi h1c h hp (Zbx hs hy)
    have hx2:a.eval x = .pointer (some (ad (g.ob j) 0)):=by
      have:=(Zbx hs hx).2
      simp only [TR] at this
      generalize a.eval x=v at this
      cases this;rfl
    unfold Oper.wp
    have hexec:(execOp a.eval o).run P w = .ok .skip w':=by
      have k1':(storeVar t (ad (g.ob j) 0) (a.eval y)).run P w = .ok () w':=k1
      simp [execOp,ho,hx2,Instr.storeAt,Instr.sureAddr,k1']
    rw [hexec]
    exact hK g' w' undef k2 k4 (hs.next k4 (fun _ h=>by cases h) k3 e2 (dst:=o.dst) (tv:=.u) (by rw [hd];exact e1) (by rw [hd];simp))
end
end Go.Dn
namespace Go.Dn
variable [Globs]
def fbOp (s:S) (o:Oper):Option TV:=none
def ldbOp (P:Program) (s:S) (o:Oper):Option TV:=none
section
variable {P:Program} {g g':G} {s:S} {w w':World}
theorem Zcr.fb {o:Oper} {tv:TV} (h:fbOp s o=some tv):Zcr P o [] s (s.put o.dst tv):=by unfold Dn.fbOp at h;cases h
theorem Zcr.ldb {o:Oper} {tv:TV} (h:ldbOp P s o=some tv):Zcr P o [] s (s.put o.dst tv):=by unfold Dn.ldbOp at h;cases h
end
end Go.Dn
namespace Go.Dn
variable [Globs]
def sl3Op (P:Program) (s:S) (o:Oper) (d:D):Option (TV×List Prop):=none
def slxOp (P:Program) (s:S) (o:Oper):Option (TV×List Prop):=
  match o.op with
  | .slice t x low (some hx) none=>match P.underlying t with
    | some (.slice e)=>match P.info? e,ev s x with
      | some i,some (.one (.h (.row n ver) sz lo len))=>match bnd s 0 low,bnd s 0 (some hx),s.si[n]? with
        | some (l,ps),some (h,qs),some (some (.row ver' _ _ xs))=>if i.size=sz∧ver=ver' then some (.one (.h (.row n ver) sz (lo+l) (h-l)),ps++qs ++ [l≤h,lo+h≤xs.length]) else none
        | _,_,_=>none
      | _,_=>none
    | _=>none
  | _=>none
def apiOp (P:Program) (s:S) (o:Oper):Option (S×List Prop):=none
section
variable {P:Program} {g g':G} {s:S} {w w':World}
theorem Zcr.sl3 {o:Oper} {d:D} {tv:TV} {ps:List Prop} (h:sl3Op P s o d=some (tv,ps)) (hp:ZbE ps):Zcr P o [] s (s.put o.dst tv):=by unfold Dn.sl3Op at h;cases h
theorem ZkG {a:Act} (hs:Sat g s w a.tmps) {t e:TypeId} {i:TypeInfo} (hu:P.underlying t=some (.slice e)) (hi:P.info? e=some i) {q:Option Addr} {len cap l h:Nat} {low:Option Operand} {hx:Operand} {ps qs:List Prop}
    (hl:bnd s 0 low=some (l,ps)) (hh:bnd s 0 (some hx)=some (h,qs)) (hp:ZbE ps) (hq:ZbE qs) (h1:l≤h) (h2:h≤cap) :
    (Instr.sliceAt t (.slice q len cap) (low.map a.eval) (some (a.eval hx)) none).run P w = .ok (.slice (if cap=l then q else q.map (·.add (l*i.size))) (h-l) (cap-l)) w:=by
  have hb:(Instr.sliceBounds true len cap (low.map a.eval) (some (a.eval hx)) none).run P w = .ok (l,h,cap) w:=by
    unfold Instr.sliceBounds
    rcases Ziu hs hh hq with ⟨h,_⟩ | ⟨y',k',m',e0,e1',e2',rfl⟩
    · cases h
    cases e0
    rcases Ziu hs hl hp with ⟨rfl,rfl⟩ | ⟨y,k,m,rfl,e1,e2,rfl⟩
    · simp only [yN,wT,e1',Sem.run_bind,Sem.run_pure,Result.andThen_ok]
      rw [run_sliceBound w k' m' cap _ e2' (by omega)];rfl
    · simp only [yN,wT,e1,e1',Sem.run_bind,Sem.run_pure,Result.andThen_ok]
      rw [run_sliceBound w k' m' cap _ e2' (by omega)]
      simp only [Result.andThen_ok]
      rw [run_sliceBound w k m _ _ e2 (by omega)];rfl
  unfold Instr.sliceAt
  rw [Sem.run_bind,run_underlying hu]
  simp only [Result.andThen_ok]
  unfold Instr.slice
  rw [Sem.run_bind,run_underlying hu]
  simp only [Result.andThen_ok,Sem.run_bind,hb,ZcM hi,Sem.run_pure]
theorem Zfu.hdlen {t:Ow} {b o n c:Nat} {e:Bool} {sz:Nat} {xs:List (List L)} (h:Zfu g w t (.slice (some (ad b o)) n c) e sz xs):xs.length=n:=by
  rcases h with ⟨h,_⟩ | ⟨_,_,h,rfl⟩ | ⟨_,_,_,_,_,h,_⟩
  · cases h
  · simp only [Value.slice.injEq] at h;simp [h.2.1]
  · simp only [Value.slice.injEq] at h;exact h.2.1.symm
theorem Zcr.slx {o:Oper} {tv:TV} {ps:List Prop} (h:slxOp P s o=some (tv,ps)) (hp:ZbE ps):Zcr P o [] s (s.put o.dst tv):=by
  refine .value fun g w a hs=>?_
  unfold slxOp at h
  split at h<;>try (cases h;done)
  rename_i t x low hx ho
  split at h<;>try (cases h;done)
  rename_i e hu
  split at h<;>try (cases h;done)
  rename_i i n ver sz lo len hi hxe
  split at h<;>try (cases h;done)
  rename_i l ps1 hh qs1 ver' e' sz' xs hl hhi hsi
  split at h<;>simp only [zA,zC,reduceCtorEq] at h
  rename_i hsz
  obtain ⟨hsz,hver⟩:=hsz
  subst hsz;subst hver
  obtain ⟨rfl,rfl⟩:=h
  rw [ZbE.append,ZbE.append] at hp
  obtain ⟨⟨hp1,hp2⟩,hp3⟩:=hp
  simp only [ZbE] at hp3
  obtain ⟨h1,h2⟩:=hp3
  have hrow:=hs.mem.site n _ hsi
  simp only [Zfe] at hrow
  obtain ⟨hone,_,hin,hwin⟩:=Zbx hs hxe
  have hH:Hd g s w (.row n ver) (g.hd n):=⟨⟨_,_,_,hsi⟩,rfl⟩
  have ex : ∀{u:Value},(Instr.sliceAt t (a.eval x) (low.map a.eval) (some (a.eval hx)) none).run P w = .ok u w→(execOp a.eval o).run P w = .ok (.value u) w:=by
    intro u h
    simp only [execOp,ho,wT,yN,Sem.run_bind,h,Result.andThen_ok,Sem.run_pure]
  rcases hwin _ hH with ⟨hv0,rfl,rfl,hv'⟩ | ⟨b,o0,m,c,o',hv0,⟨k1,k2⟩,hv',k3,k4⟩
  · have hx0:xs = []:=by
      rcases hrow with ⟨_,h⟩ | ⟨_,_,h,_⟩ | ⟨_,_,_,_,_,h,_⟩
      · exact h
      · rw [hv0] at h;cases h
      · rw [hv0] at h;cases h
    subst hx0
    have e1:hh=0:=by simpa using h2
    have e2:l=0:=by omega
    subst e1;subst e2
    have hrun:=ZkG (P:=P) (w:=w) hs hu hi (q:=none) (len:=0) (cap:=0) hl hhi hp1 hp2 h1 (zL _)
    rw [←hv'] at hrun
    refine ⟨_,ex hrun,rfl,⟨_,_,rfl,.inl rfl⟩,hin,fun hv2 hH2=>?_⟩
    rw [Hd.inj hH2 hH]
    left;exact ⟨hv0,rfl,rfl,rfl⟩
  · have hxl:xs.length=m:=by rw [hv0] at hrow;exact hrow.hdlen
    have hrun:=ZkG (P:=P) (w:=w) hs hu hi (q:=some (ad b o')) (len:=len) (cap:=c-lo) hl hhi hp1 hp2 h1 (by omega)
    rw [←hv'] at hrun
    refine ⟨_,ex hrun,rfl,⟨_,_,rfl,.inr (by split<;>rfl)⟩,hin,fun hv2 hH2=>?_⟩
    rw [Hd.inj hH2 hH]
    right
    have eadd:(some (ad b o')).map (·.add (l*i.size))=some (ad b (o'+l*i.size)):=by
      simp only [yN,zA];unfold Addr.add;split<;>simp_all
    by_cases hc:c-lo=l
    · rw [if_pos hc]
      exact ⟨b,o0,m,c,o',hv0,⟨by omega,k2⟩,by rw [Nat.sub_sub],fun h=>by omega,fun h=>k4 (by omega)⟩
    · rw [if_neg hc,eadd]
      refine ⟨b,o0,m,c,o'+l*i.size,hv0,⟨by omega,k2⟩,by rw [Nat.sub_sub],fun h=>?_,fun h=>?_⟩
      · rw [k3 (by omega),xO];omega
      · have e1:lo=0:=by omega
        have e2:l=0:=by omega
        rw [e2];simp [k4 e1]
theorem Zcr.api {o:Oper} {s':S} {ps:List Prop} (h:apiOp P s o=some (s',ps)) (hp:ZbE ps):Zcr P o [] s s'∧∃tv,s'.sl=(s.put o.dst tv).sl:=by unfold Dn.apiOp at h;cases h
end
end Go.Dn
namespace Go.Dn
variable [Globs]
inductive BVs (st:List (List L)):List L→List L→Prop where
  | nil:BVs st [] []
  | pl (l:L) (ls ks:List L) (h:l.plain=true) (r:BVs st ls ks):BVs st (l::ls) (l::ks)
  | sl (sz:Nat) (xs:List (List L)) (ls ks:List L) (r:BVs st ls ks):BVs st (.sl sz xs::ls) (.sl sz xs::ks)
  | own (e:Bool) (sz:Nat) (xs:List (List L)) (ls ks:List L) (r:BVs st ls ks):BVs st (.own e sz xs::ls) (.sl sz xs::ks)
  | mp (es:List (L×L)) (ls ks:List L) (r:BVs st ls ks):BVs st (.mp es::ls) (.mz es::ks)
  | bx (n:Nat) (cs:List L) (ls ks:List L) (r:BVs st ls ks):BVs st (.bx n cs::ls) (.bx n cs::ks)
  | mz (es:List (L×L)) (ls ks:List L) (r:BVs st ls ks):BVs st (.mz es::ls) (.mz es::ks)
  | obj (i n:Nat) (c cs ls ks:List L) (h:st[i]? = some c) (hc:BVs st c cs) (hn:sizes cs=n) (hne:c.isEmpty=false) (r:BVs st ls ks):BVs st (.ptr (some i)::ls) (.bx n cs::ks)
theorem BVs.sizes {st:List (List L)} : ∀{c cs:List L},BVs st c cs→sizes c=sizes cs
  | _,_,.nil=>rfl
  | _,_,.pl _ _ _ _ r=>by simp only [Dn.sizes,r.sizes]
  | _,_,.sl _ _ _ _ r=>by simp only [Dn.sizes,r.sizes]
  | _,_,.own _ _ _ _ _ r=>by simp only [Dn.sizes,r.sizes,L.size]
  | _,_,.mp _ _ _ r=>by simp only [Dn.sizes,r.sizes,L.size]
  | _,_,.bx _ _ _ _ r=>by simp only [Dn.sizes,r.sizes]
  | _,_,.mz _ _ _ r=>by simp only [Dn.sizes,r.sizes]
  | _,_,.obj _ _ _ _ _ _ _ _ _ _ r=>by simp only [Dn.sizes,r.sizes,L.size]
section
variable {P:Program} {g g':G} {s:S} {w w':World}
theorem Zqn {b:Nat} (h:(g.ow b).isSome=true):Zft w b≤(g.lift w).Z b:=by
  show _≤if _ then _ else _
  rw [if_pos h];exact Nat.le_max_right _ _
theorem BVs.cr (hm:Zdr g s w) : ∀{c cs:List L},BVs s.st c cs→∀{p:Option (Nat×Nat)} {vs:List Value},CR g w p vs c→CR (g.lift w) w none vs cs
  | _,_,.nil,_,_,h=>by cases h;exact .nil _
  | _,_,.pl l ls ks hl r,p,_,h=>by
    cases h with
    | one _ v vs _ _ hv h1 hr=>
      refine .one _ _ _ _ _ ?_ h1 (BVs.cr hm r hr)
      cases hv<;>first | (simp [L.plain] at hl;done) | skip
      · exact .int _ _ _
      · exact .bool _ _
      · exact .str _ _
      · exact .nilp _
      · exact .ref _ _ (by assumption)
    | arr _ k n xs vs _ hn hr=>exact .arr _ _ _ _ _ _ hn (BVs.cr hm r hr)
    | brr _ n xs vs _ hn hr=>exact .brr _ _ _ _ _ hn (BVs.cr hm r hr)
  | _,_,.sl sz xs ls ks r,p,_,h=>by
    cases h with
    | one _ v vs _ _ hv h1 hr=>
      refine .one _ _ _ _ _ ?_ h1 (BVs.cr hm r hr)
      cases hv with
      | slnil=>exact .slnil _ _
      | slz=>exact .slz _ _ _
      | sl _ b off len cap _ _ hl hc hZ he=>exact .sl _ b off len cap _ _ hl hc (wH hZ ((Zdv g w).Z b)) (he.keep (Zdv g w) (by rw [hl];exact hZ))
  | _,_,.own e sz xs ls ks r,p,_,h=>by
    cases h with
    | one _ v vs _ _ hv h1 hr=>
      refine .one _ _ _ _ _ ?_ h1 (BVs.cr hm r hr)
      cases hv with
      | ownnil=>exact .slnil _ _
      | ownz=>exact .slz _ _ _
      | own q b off len cap _ _ _ a E hl hc ho hb hs hZ he=>
        refine .sl _ b off len cap _ _ hl hc (wH ?_ (Zqn (by rw [ho];rfl))) (he.keep' (Zdv g w) fun _ _ _=>rfl)
        have:Zft w b=a.size:=by simp [Zft,hb]
        have h2:len*sz≤cap*sz:=Nat.mul_le_mul_right _ hc
        omega
  | _,_,.mp es ls ks r,p,_,h=>by
    cases h with
    | one _ v vs _ _ hv h1 hr=>
      refine .one _ _ _ _ _ ?_ h1 (BVs.cr hm r hr)
      cases hv with
      | mp q b cl en _ ho hb he=>
        refine .mz _ b en _ (xC ?_ (Zqn (w:=w) (by rw [ho.1];rfl))) (by simp [Ziq,hb]) (he.keep (Zdv g w))
        simp [Zft,hb]
  | _,_,.bx n cs ls ks r,p,_,h=>by
    cases h with
    | one _ v vs _ _ hv h1 hr=>
      refine .one _ _ _ _ _ ?_ h1 (BVs.cr hm r hr)
      cases hv with
      | bx _ _ b o _ us hn hZ hc hx=>exact .bx _ n b o cs us hn (wH hZ ((Zdv g w).Z b)) hc (hx.keep (Zdv g w))
  | _,_,.mz es ls ks r,p,_,h=>by
    cases h with
    | one _ v vs _ _ hv h1 hr=>
      refine .one _ _ _ _ _ ?_ h1 (BVs.cr hm r hr)
      cases hv with
      | mz _ b en _ hZ hb he=>exact .mz _ b en _ (xC hZ ((Zdv g w).Z b)) hb (he.keep (Zdv g w))
  | _,_,.obj i n c cs ls ks hst hc hn hne r,p,_,h=>by
    cases h with
    | one _ v vs _ _ hv h1 hr=>
      refine .one _ _ _ _ _ ?_ h1 (BVs.cr hm r hr)
      cases hv with
      | ref _ _ hi=>
        obtain ⟨h2,h3,a,E,h4,h5⟩:=hm.obj i c hst (by intro e;subst e;simp at hne)
        have h6:=BVs.cr hm hc h5
        have hlen:a.toList.length=n:=by rw [h5.size,hc.sizes];exact hn
        refine .bx _ n _ 0 cs a.toList hlen ?_ (fun j v hj=>?_) h6
        · have hb:Zft w (g.ob i)=a.size:=by simp [Zft,h4]
          have:=Zqn (g:=g) (w:=w) (b:=g.ob i) (by rw [h2];rfl)
          simp at hlen
          show 0+n≤(g.lift w).Z (g.ob i)
          omega
        · simp only [World.cell?,h4]
          simpa using hj
def toCVV (s:S) (oc:List L) (md:Nat) (tv:TV) (c:Option CV):Option (CV×List Prop):=
  match tv,c with
  | .one (.adr (.obj i) 0),some (.one (.bx n cs))=>some (.one (.bx n cs),[BVs s.st [.ptr (some i)] [.bx n cs]])
  | .one (.l (.ptr (some i))),some (.one (.bx n cs))=>some (.one (.bx n cs),[BVs s.st [.ptr (some i)] [.bx n cs]])
  | tv,_=>toCVB s oc md tv
def Zml (s:S) (oc:List L) (md:Nat):List Operand→List CV→Option (List CV×List Prop)
  | [],_=>some ([],[])
  | x::xs,ks=>match ev s x with
    | some tv=>match toCVV s oc md tv ks.head?,Zml s oc md xs ks.tail with
      | some (c,ps),some (cs,qs)=>some (c::cs,ps++qs)
      | _,_=>none
    | none=>none
def callV (P:Program) (s:S) (o:Oper) (d:D):Option (List Nat×S×List Prop):=
  match o.op with
  | .call { callee:=.value (.func f),args:=⟨xs⟩,.. }=>match Zml s d.oc d.wm xs d.cv,ZgB (d.ns.headD 0) 0 d.rs with
    | some (cs,ps),some (tvs,r)=>
      if (ZiV (d.ns.headD 0) r).all (fun n=>!TV.mens n s.sl)&&d.rs.all ZoC then
        some (ZiV (d.ns.headD 0) r,(s.setEnt? (d.ns.headD 0) r).put o.dst (Zfb tvs),ps++ZoZ d.rs ++ [Zde P f cs d.rs])
      else none
    | _,_=>none
  | _=>none
theorem BVs.val (hm:Zdr g s w) {i n:Nat} {cs:List L} {v:Value} (h:BVs s.st [.ptr (some i)] [.bx n cs]) (hv:LR g w none v (.ptr (some i))) (h1:v.oneCell'=true):LR ((g.lift w).out true) w none v (.bx n cs):=by
  have h2:=BVs.cr hm h (CR.one none v [] _ [] hv h1 (.nil _))
  obtain ⟨u,h6,_,h8⟩:=h2.at1 (o:=0) (l:=.bx n cs) rfl rfl
  simp only [yG,zA] at h6
  subst h6
  exact LR.keep (Zex _ true w) h8
theorem Znq (hm:Zdr g s w) {oc:List L} {md:Nat} {tv:TV} {k:Option CV} {c:CV} {ps:List Prop} {v:Value} {i:Nat} (h:toCVV s oc md tv k=some (c,ps)) (hp:ZbE ps) (hv:Zct g s w v tv):CVR ((g.lift w).out true) w i v c:=by
  unfold toCVV at h
  split at h
  · simp only [zA,zC] at h;obtain ⟨rfl,rfl⟩:=h
    simp only [ZbE] at hp
    obtain ⟨h1,_,h2,h3⟩:=hv
    have:=h3 trivial;subst this
    exact ⟨h1,BVs.val hm hp (.ref _ _ h2) h1⟩
  · simp only [zA,zC] at h;obtain ⟨rfl,rfl⟩:=h
    simp only [ZbE] at hp
    exact ⟨hv.1,BVs.val hm hp hv.2 hv.1⟩
  · exact Zjt hm h hp hv
theorem ZiB {oc:List L} {md:Nat} {a:Act} (hs:Sat g s w a.tmps) : ∀{xs:List Operand} {ks cs:List CV} {ps:List Prop} {i:Nat},Zml s oc md xs ks=some (cs,ps)→ZbE ps→Zfk ((g.lift w).out true) w i (xs.map a.eval) cs
  | [],ks,cs,ps,i,h,hp=>by simp only [Zml,zA,zC] at h;obtain ⟨rfl,rfl⟩:=h;rfl
  | x::xs,ks,cs,ps,i,h,hp=>by
    simp only [Zml] at h
    split at h<;>try cases h
    rename_i tv hx
    split at h<;>simp only [zA,zC,reduceCtorEq] at h
    rename_i c ps1 cs1 qs1 h1 h2
    obtain ⟨rfl,rfl⟩:=h
    rw [ZbE.append] at hp
    exact ⟨_,_,rfl,Znq hs.mem h1 hp.1 (Zbx hs hx),ZiB hs h2 hp.2⟩
theorem Zcr.callV {s s':S} {o:Oper} {d:D} {X:List Nat} {ps:List Prop} (h:Dn.callV P s o d=some (X,s',ps)) (hp:ZbE ps):Zcr P o X s s'∧(∃tv,s'.sl=(s.put o.dst tv).sl)∧X.all (fun n=>!TV.mens n s.sl)=true:=by
  unfold Dn.callV at h
  split at h<;>try (cases h;done)
  rename_i f xs _ ho
  split at h<;>try (cases h;done)
  rename_i cs ps1 tvs r hcs hrs
  split at h<;>simp only [zA,zC,reduceCtorEq] at h
  rename_i hX
  simp only [zQ] at hX
  obtain ⟨hX,hfl⟩:=hX
  obtain ⟨rfl,rfl,rfl⟩:=h
  rw [ZbE.append,ZbE.append] at hp
  obtain ⟨⟨hp1,hp2⟩,hp3⟩:=hp
  simp only [ZbE] at hp3
  refine ⟨?_,⟨Zfb tvs,by cases o.dst<;>cases r<;>rfl⟩,hX⟩
  intro g w a hs K Q hK
  obtain ⟨hent,hp4⟩:=hp3 (s.seen true)
  unfold Oper.wp
  have hrun:(execOp a.eval o).run P w = .ok (.enter f (xs.map a.eval).toArray) w:=by
    have:=Zgw hent (xs.map a.eval).toArray w
    simp [execOp,ho,resolve,Deferred.ofValue,Act.eval,invoke,this]
  rw [hrun]
  show Calls P f _ w _
  refine (hp4 ((g.lift w).out true) w _ (ZiB hs hcs hp1) (ZmO hs.mem)).mono ?_
  rintro e w' ⟨g',us,rfl,hM,hm',hus⟩
  obtain ⟨g'',k1,k2,k3⟩:=Znj hs hrs hX hfl (Zgy hp2) hM hm' hus (dst:=o.dst) (s':=(s.setEnt? (d.ns.headD 0) r).put o.dst (Zfb tvs)) (by cases o.dst<;>cases r<;>rfl) (by cases o.dst<;>rfl) (by cases o.dst<;>cases r<;>rfl) (by cases o.dst<;>cases r<;>rfl)
  exact hK _ _ _ k1 k2 k3
end
end Go.Dn
namespace Go.Dn
variable [Globs]
def G.seat (g:G) (n d:Nat):G:=
  { g with ow:=fun b=>match g.ow b with
    | some (.rowS q)=>if q=n then some (.rowS d) else if q=d then some .foreign else some (.rowS q)
    | x=>x,hd:=Zfv g.hd d (g.hd n)}
def ZpQ (s:S) (o:Oper):Option (List Nat×S):=
  match o.dst,o.op with
  | some d,.assign x=>match ev s x with
    | some (.one (.h (.row n ver) sz lo len))=>match s.si[n]? with
      | some (some (.row ver1 e sz1 xs))=>if ver1=ver∧n≠d then
          (match s.si[d]? with
          | some (some (.row v0 _ _ _))=>some ([],{ s with si:=(s.si.set n none).set d (some (.row (v0+1) e sz1 xs))}.put (some d) (.one (.h (.row d (v0+1)) sz lo len)))
          | some none=>if TV.mens d s.sl then none else some ([d],{ s with si:=(s.si.set n none).set d (some (.row 0 e sz1 xs))}.put (some d) (.one (.h (.row d 0) sz lo len)))
          | _=>none)
        else none
      | _=>none
    | _=>none
  | _,_=>none
section
variable {P:Program} {g g':G} {s s':S} {w w':World}
theorem ZpP {n d b:Nat} {t:Ow} (h:g.ow b=some t) (h1:t ≠ .rowS n) (h2:t ≠ .rowS d):(g.seat n d).ow b=some t:=by
  simp only [G.seat,h]
  cases t<;>try rfl
  rename_i q
  show (if q=n then _ else _)=_
  rw [if_neg (fun e=>h1 (by rw [e])),if_neg (fun e=>h2 (by rw [e]))]
theorem ZpO (hm:Zdr g s w) {X:List Nat} {n d ver ver':Nat} {e:Bool} {sz:Nat} {xs:List (List L)} (hne:n≠d) (hn:s.si[n]? = some (some (.row ver e sz xs))) (hdlt:d<s.si.length)
    (hd:d∈X∨∃ver0 e0 sz0 xs0,s.si[d]? = some (some (.row ver0 e0 sz0 xs0))∧ver0<ver')
    (hsi:s'.si=(s.si.set n none).set d (some (.row ver' e sz xs))) (hst:s'.st=s.st) (hep:s'.ep=s.ep) :
    Mod g (g.seat n d) w w∧Zdr (g.seat n d) s' w∧Zbc (· ∈ X) s s' g (g.seat n d) w w:=by
  have K:ZcA g (g.seat n d) w w:=⟨fun _ _=>rfl,zL _,fun _=>zL _,fun _ _ _=>rfl,fun _ _=>rfl⟩
  have hS : ∀b t,g.ow b=some t→t ≠ .rowS n→t ≠ .rowS d→Zgq g (g.seat n d) w w b:=fun b t h1 h2 h3=>⟨rfl,(ZpP h1 h2 h3).trans h1.symm,rfl⟩
  have hnone : ∀b,g.ow b=none→(g.seat n d).ow b=none:=fun b h=>by simp [G.seat,h]
  have get : ∀{m:Nat} {x:Ent},s'.si[m]? = some (some x)→(m=d∧x = .row ver' e sz xs)∨(m≠d∧m≠n∧s.si[m]? = some (some x)):=by
    intro m x h
    rw [hsi] at h
    by_cases e1:d=m
    · subst e1
      rw [zO (by simpa using hdlt)] at h
      simp only [zA] at h
      exact .inl ⟨rfl,h.symm⟩
    · rw [zV e1] at h
      by_cases e2:n=m
      · subst e2
        rw [zO (Zla hn)] at h;cases h
      · rw [zV e2] at h
        exact .inr ⟨fun e=>e1 e.symm,fun e=>e2 e.symm,h⟩
  have hhd : ∀m,m≠d→(g.seat n d).hd m=g.hd m:=fun m h=>Zcx _ _ h
  have hrow:Zfu (g.seat n d) w (.rowS d) (g.hd n) e sz xs:=by
    have h1:=hm.site n _ hn
    simp only [Zfe] at h1
    rcases h1 with h1 | h1 | ⟨b,off,cap,a,E,h1,h2,h3,h4,h5,h6,h7⟩
    · exact .inl h1
    · exact .inr (.inl h1)
    · exact .inr (.inr ⟨b,off,cap,a,E,h1,h2,by simp [G.seat,h3],h4,h5,h6,h7.keep' K fun _ _ _=>rfl⟩)
  refine ⟨⟨K,rfl,rfl,rfl,zL _,fun b hb=>?_,fun b hb h1 h2=>?_,fun i h1 h2=>absurd h2 (by show ¬ i<g.nob;omega)⟩,⟨by rw [hst];exact hm.stl,fun i c h hc=>?_,fun i hi=>?_,fun m ent h=>?_,fun b t h=>?_,hm.z,hm.gl.keep K⟩,⟨K,fun m hX h=>?_,fun m v hX h=>?_,fun m hX h=>?_,fun _ r hg hi hr _ _ off hv h=>.inl h,by omega⟩⟩
  · cases hb1:g.ow b with
    | none=>exact .inl ⟨rfl,(hnone b hb1).trans hb1.symm,rfl⟩
    | some t=>
      by_cases e1:t = .foreign
      · subst e1;exact .inl (hS b _ hb1 (by simp) (by simp))
      · exact .inr ⟨by simp,fun e=>e1 (xH e)⟩
  · cases hb1:g.ow b with
    | none=>exact absurd (hnone b hb1) h1
    | some t=>
      refine ⟨by simp,fun e=>h2 ?_⟩
      cases e
      exact ZpP hb1 (by simp) (by simp)
  · rw [hst] at h
    have h1:=hm.obj i c h hc
    exact h1.keep K (hS _ _ h1.1 (by simp) (by simp)) (fun b' o hb=>hS _ _ hb (by simp) (by simp))
  · rcases hm.objB i hi with h | h
    · exact .inl ((hS _ _ h (by simp) (by simp)).2.1.trans h)
    · exact .inr ((hS _ _ h (by simp) (by simp)).2.1.trans h)
  · rcases get h with ⟨rfl,rfl⟩ | ⟨m1,m2,h1⟩
    · show Zfu _ _ _ ((g.seat n m).hd m) _ _ _
      rw [show (g.seat n m).hd m=g.hd n from Zbf _ _ _]
      exact hrow
    · have h2:=hm.site m ent h1
      cases ent with
      | cells c=>exact Zky.keep K h2 (hS _ _ h2.1 (by simp) (by simp)) (fun b' o hb=>hS _ _ hb (by simp) (by simp))
      | row v0 e0 sz0 xs0=>
        simp only [Zfe] at h2 ⊢
        rw [hhd m m1]
        exact h2.keep K (fun b hb=>hS _ _ hb (by simp [m2]) (by simp [m1]))
      | mp es=>
        simp only [Zfe] at h2 ⊢
        rw [hhd m m1]
        exact h2.keep K (fun b hb=>hS _ _ hb (by simp [m2]) (by simp [m1]))
  · cases hb1:g.ow b with
    | none=>rw [hnone b hb1] at h;cases h
    | some t'=>exact hm.own b t' hb1
  · obtain ⟨c,h⟩:=h
    rcases get h with ⟨_,h1⟩ | ⟨_,_,h1⟩
    · cases h1
    · exact ⟨⟨c,h1⟩,rfl⟩
  · obtain ⟨e0,sz0,xs0,h⟩:=h
    rcases get h with ⟨rfl,h1⟩ | ⟨m1,_,h1⟩
    · cases h1
      rcases hd with hd | ⟨ver0,e1,sz1,xs1,h2,h3⟩
      · exact absurd hd hX
      · exact .inr ⟨ver0,e1,sz1,xs1,h2,h3⟩
    · exact .inl ⟨⟨_,_,_,h1⟩,hhd m m1⟩
  · obtain ⟨es,h⟩:=h
    rcases get h with ⟨_,h1⟩ | ⟨m1,_,h1⟩
    · cases h1
    · exact ⟨⟨_,h1⟩,hhd m m1⟩
theorem Zcr.seat {o:Oper} {X:List Nat} (h:ZpQ s o=some (X,s')):Zcr P o X s s'∧(∃tv,s'.sl=(s.put o.dst tv).sl)∧X.all (fun n=>!TV.mens n s.sl)=true:=by
  unfold ZpQ at h
  split at h<;>try (cases h;done)
  rename_i d x hdst ho
  split at h<;>try (cases h;done)
  rename_i n ver sz lo len hx
  split at h<;>try (cases h;done)
  rename_i ver1 e sz1 xs hn
  split at h<;>try (cases h;done)
  rename_i hh
  obtain ⟨rfl,hne⟩:=hh
  have key : ∀(v':Nat) (X:List Nat) (hdlt:d<s.si.length),(d∈X∨∃ver0 e0 sz0 xs0,s.si[d]? = some (some (.row ver0 e0 sz0 xs0))∧ver0<v')→(∀m∈X,TV.mens m s.sl=false) →
      Zcr P o X s ({ s with si:=(s.si.set n none).set d (some (.row v' e sz1 xs))}.put (some d) (.one (.h (.row d v') sz lo len))):=by
    intro v' X hdlt hd hX g w a hs K Q hK
    have hv:=Zbx hs hx
    have hexec:(execOp a.eval o).run P w = .ok (.value (a.eval x)) w:=by simp [execOp,ho]
    unfold Oper.wp
    rw [hexec]
    obtain ⟨k1,k2,k3⟩:=ZpO (s':={ s with si:=(s.si.set n none).set d (some (.row v' e sz1 xs))}.put (some d) (.one (.h (.row d v') sz lo len))) hs.mem (X:=X) hne hn hdlt hd rfl rfl rfl
    refine hK _ w _ k1 k3 (hs.next k3 hX k2 (by simp [S.put]) (dst:=o.dst) (tv:=.one (.h (.row d v') sz lo len)) (by rw [hdst];rfl) (fun _=>?_))
    obtain ⟨h1,h2,h3,h4⟩:=hv
    have hget:({ s with si:=(s.si.set n none).set d (some (.row v' e sz1 xs))}.put (some d) (.one (.h (.row d v') sz lo len))).si[d]? = some (some (.row v' e sz1 xs)):=by
      show ((s.si.set n none).set d _)[d]? = _
      rw [zO (by simpa using hdlt)]
    refine ⟨h1,h2,fun ver'' e'' sz'' xs'' h=>?_,fun hv' hH=>?_⟩
    · rw [hget] at h;cases h;exact zL _
    · obtain ⟨_,rfl⟩:=hH
      rw [show (g.seat n d).hd d=g.hd n from Zbf _ _ _]
      exact h4 _ ⟨⟨_,_,_,hn⟩,rfl⟩
  split at h
  · rename_i v0 e0 sz0 xs0 hd
    simp only [zA,zC] at h;obtain ⟨rfl,rfl⟩:=h
    exact ⟨key _ [] (Zla hd) (.inr ⟨_,_,_,_,hd,Nat.lt_succ_self _⟩) (fun _ h=>by cases h),⟨_,by rw [hdst];rfl⟩,rfl⟩
  · rename_i hd
    split at h<;>simp only [zA,zC,reduceCtorEq] at h
    rename_i hmen
    obtain ⟨rfl,rfl⟩:=h
    have hmen':TV.mens d s.sl=false:=by simpa using hmen
    exact ⟨key _ [d] (Zla hd) (.inl (List.mem_singleton.2 rfl)) (fun m h=>by rw [List.mem_singleton.1 h];exact hmen'),⟨_,by rw [hdst];rfl⟩,by simp [hmen']⟩
  · cases h
end
end Go.Dn
namespace Go.Dn
variable [Globs]
def msOp (P:Program) (s:S) (o:Oper):Option (S×List Prop):=none
section
variable {P:Program} {g:G} {s:S} {w:World}
theorem Zcr.ms {o:Oper} {s':S} {ps:List Prop} (h:msOp P s o=some (s',ps)) (hp:ZbE ps):Zcr P o o.dst.toList s s'∧(∃tv,s'.sl=(s.put o.dst tv).sl)∧o.dst.toList.all (fun n=>!TV.mens n s.sl)=true:=by unfold Dn.msOp at h;cases h
end
end Go.Dn
namespace Go.Dn
variable [Globs]
def clr2Op (P:Program) (s:S) (d:D) (o:Oper):Option (S×List Prop):=none
section
variable {P:Program} {g g':G} {s:S} {w w':World}
theorem Zkx.refl (hm:Zdr g s w) (t:Ow):Zkx g g w w t:=
  ⟨⟨rfl,rfl,rfl,rfl,rfl⟩,⟨fun _ _=>rfl,zL _,fun _=>zL _,fun _ _ _=>rfl,fun _ _=>rfl⟩,⟨rfl,rfl,rfl⟩,rfl,fun _ _=>⟨rfl,rfl,rfl⟩,hm.z,fun _ _ _ _ h=>h⟩
theorem Zcr.clr2 {d:D} {o:Oper} {s':S} {ps:List Prop} (h:clr2Op P s d o=some (s',ps)) (hp:ZbE ps):Zcr P o [] s s'∧∃tv,s'.sl=(s.put o.dst tv).sl:=by unfold Dn.clr2Op at h;cases h
end
end Go.Dn
namespace Go.Dn
variable [Globs]
def nstOp (P:Program) (s:S) (d:D) (o:Oper):Option (S×List Prop):=none
section
variable {P:Program} {g g':G} {s:S} {w w':World}
theorem Zcr.nst {s s':S} {o:Oper} {d:D} {ps:List Prop} (h:nstOp P s d o=some (s',ps)) (hp:ZbE ps):Zcr P o [] s s'∧∃tv,s'.sl=(s.put o.dst tv).sl:=by unfold Dn.nstOp at h;cases h
end
end Go.Dn
namespace Go.Dn
variable [Globs]
def ldvOp (P:Program) (s:S) (o:Oper) (d:D):Option (List Nat×S×List Prop):=none
theorem Zcr.ldv {P:Program} {s s':S} {o:Oper} {d:D} {X:List Nat} {ps:List Prop} (h:ldvOp P s o d=some (X,s',ps)) (hp:ZbE ps):Zcr P o X s s'∧(∃tv,s'.sl=(s.put o.dst tv).sl)∧X.all (fun n=>!TV.mens n s.sl)=true:=by unfold Dn.ldvOp at h;cases h
def untOp (s:S) (o:Oper):Option TV:=none
theorem Zcr.unt {P:Program} {s:S} {o:Oper} {tv:TV} (h:untOp s o=some tv):Zcr P o [] s (s.put o.dst tv):=by unfold Dn.untOp at h;cases h
def insOp (P:Program) (s:S) (o:Oper) (d:D):Option (List Nat×S×List Prop):=none
section
variable {P:Program} {g g':G} {s:S} {w w':World}
theorem Zcr.ins {o:Oper} {d:D} {X:List Nat} {s':S} {ps:List Prop} (h:insOp P s o d=some (X,s',ps)) (hp:ZbE ps):Zcr P o X s s'∧(∃tv,s'.sl=(s.put o.dst tv).sl)∧X.all (fun n=>!TV.mens n s.sl)=true:=by unfold Dn.insOp at h;cases h
end
end Go.Dn
namespace Go.Dn
variable [Globs]
inductive BVx (st:List (List L)):List L→List L→Prop where
  | of (c cs:List L) (h:BVs st c cs):BVx st c cs
  | pl (l:L) (ls ks:List L) (h:l.plain=true) (r:BVx st ls ks):BVx st (l::ls) (l::ks)
  | gone (ls ks:List L) (r:BVx st ls ks):BVx st (.gone::ls) (.gone::ks)
  | bx (n:Nat) (c cs ls ks:List L) (hc:BVx st c cs) (r:BVx st ls ks):BVx st (.bx n c::ls) (.bx n cs::ks)
  | obj (i n:Nat) (c cs ls ks:List L) (h:st[i]? = some c) (hc:BVx st c cs) (hn:sizes cs=n) (hne:c.isEmpty=false) (r:BVx st ls ks):BVx st (.ptr (some i)::ls) (.bx n cs::ks)
theorem BVx.sizes {st:List (List L)} : ∀{c cs:List L},BVx st c cs→Dn.sizes c=Dn.sizes cs
  | _,_,.of _ _ h=>h.sizes
  | _,_,.pl _ _ _ _ r=>by simp only [Dn.sizes,r.sizes]
  | _,_,.gone _ _ r=>by simp only [Dn.sizes,r.sizes]
  | _,_,.bx _ _ _ _ _ _ r=>by simp only [Dn.sizes,r.sizes,L.size]
  | _,_,.obj _ _ _ _ _ _ _ _ _ _ r=>by simp only [Dn.sizes,r.sizes,L.size]
section
variable {P:Program} {g g' G0:G} {s:S} {w w':World}
def dlfOp (P:Program) (s:S) (o:Oper) (d:D):Option (List Nat×S×List Prop):=none
theorem Zcr.dlf {o:Oper} {d:D} {X:List Nat} {s':S} {ps:List Prop} (h:dlfOp P s o d=some (X,s',ps)) (hp:ZbE ps):Zcr P o X s s'∧(∃tv,s'.sl=(s.put o.dst tv).sl)∧X.all (fun n=>!TV.mens n s.sl)=true:=by unfold Dn.dlfOp at h;cases h
end
end Go.Dn
namespace Go.Dn
variable [Globs]
def ZhS:List L→Option Nat
  | []=>none
  | .gone::_=>some 0
  | l::ls=>(ZhS ls).map (· + l.size)
def ZfG (t:T):List L→List T
  | []=>[]
  | .gone::ls=>t::ls.map .l
  | l::ls=>.l l::ZfG t ls
def Zrh (P:Program) (f:FuncId) (args:List CV) (st:List (List L)) (sz:Nat) (xs:List (List L)) (ls:List L) (rest:List CV) (st':List (List L)):Prop:=
  ZoT P f∧∀(g:G) (w:World) (vs:List Value),Zfk g w 0 vs args→Zdr g (.ofSt st) w →
    Calls P f vs.toArray w fun e w'=>∃(g':G) (v:Value) (va:Array Value) (us:List Value),e = .returned (ZiW (.agg va::us))∧Mod g g' w w'∧Zdr g' (.ofSt st') w' ∧
      Zfk g' w' 0 (v :: .agg va::us) (.row true sz xs :: .agg ls::rest)∧∃k,ZhS ls=some k∧va.toList[k]? = some v
def callW (P:Program) (s:S) (o:Oper) (d:D):Option (List Nat×S×List Prop):=
  match o.dst,o.op,d.rs with
  | some dd,.call { callee:=.value (.func f),args:=⟨xs⟩,.. },.row true sz ys :: .agg ls::rest=>
    match ZoW s d.oc d.wm xs,ZgB dd 0 (.row true sz ys :: .agg ls::rest) with
    | some (cs,ps),some (.one h :: .agg ts::tvs,r)=>
      if TV.mens dd s.sl=false∧dd<s.sl.length then
        some (ZiV dd r,{ (s.setEnt? dd r).put (some dd) (Zfb (.agg (ZfG h ls)::tvs)) with st:=d.st,ep:=s.ep+1},ps ++ [Zrh P f cs s.st sz ys ls rest d.st])
      else none
    | _,_=>none
  | _,_,_=>none
section
variable {P:Program} {g g':G} {s s':S} {w w':World}
theorem ZoO {v:Value} {t:T} (ht : ∀l,t = .l l→l.single=true) (hv:v.oneCell'=true∧TR g s w v t) : ∀{ls:List L} {vs:List Value} {k:Nat},TsR g s w vs (ls.map .l)→ZhS ls=some k→vs[k]? = some v→TsR g s w vs (ZfG t ls)
  | [],vs,k,h,hk,hg=>by cases hk
  | l::ls,vs,k,h,hk,hg=>by
    rw [yO] at h
    obtain ⟨us,rest,rfl,hu,h1,h2⟩:=h.inv
    by_cases e:l = .gone
    · subst e
      simp only [ZhS,zA] at hk
      subst hk
      rw [ZfI (fun l' e=>by cases e;rfl)] at h1
      obtain ⟨u,rfl,_,_⟩:=h1
      simp only [List.singleton_append,yG,zA] at hg
      subst hg
      have h3:TsR g s w [u] [t]:=(ZfI ht).2 ⟨u,rfl,hv.1,hv.2⟩
      exact h3.join h2
    · have e1:ZfG t (l::ls) = .l l::ZfG t ls:=by cases l<;>first | rfl | exact absurd rfl e
      have e2:ZhS (l::ls)=(ZhS ls).map (· + l.size):=by cases l<;>first | rfl | exact absurd rfl e
      rw [e2] at hk
      obtain ⟨k',hk1,hk2⟩:=zG.1 hk
      subst hk2
      have hsz:(T.l l).size=l.size:=rfl
      rw [hsz] at hu
      rw [zZ (by omega),hu,Nat.add_sub_cancel] at hg
      rw [e1]
      exact h1.join (ZoO ht hv h2 hk1 hg)
theorem Zcr.callW {o:Oper} {d:D} {X:List Nat} {ps:List Prop} (h:Dn.callW P s o d=some (X,s',ps)) (hp:ZbE ps):Zcr P o X s s'∧(∃tv,s'.sl=(s.put o.dst tv).sl)∧X.all (fun n=>!TV.mens n s.sl)=true:=by
  unfold Dn.callW at h
  split at h<;>try (cases h;done)
  rename_i dd f xs _ sz ys ls rest hd ho hdr
  split at h<;>try (cases h;done)
  rename_i cs ps1 hh ts tvs r hcs hrs
  split at h<;>simp only [zA,zC,reduceCtorEq] at h
  rename_i hmen
  obtain ⟨hmen,hlt⟩:=hmen
  obtain ⟨rfl,rfl,rfl⟩:=h
  rw [ZbE.append] at hp
  obtain ⟨hp1,hp2⟩:=hp
  simp only [ZbE] at hp2
  have hX:(ZiV dd r).all (fun n=>!TV.mens n s.sl)=true:=by
    cases r<;>simp [ZiV,hmen]
  have hrs0:=hrs
  simp only [ZgB] at hrs
  split at hrs<;>try (cases hrs;done)
  rename_i tvs1 r1 hrs1
  split at hrs1<;>try (cases hrs1;done)
  rename_i tvs2 r2 hrs2
  simp only [zA,zC] at hrs1
  obtain ⟨rfl,rfl⟩:=hrs1
  split at hrs<;>simp only [zA,zC,yK,TV.one.injEq,TV.agg.injEq,reduceCtorEq] at hrs
  obtain ⟨⟨rfl,rfl,rfl⟩,rfl⟩:=hrs
  refine ⟨?_,⟨Zfb (.agg (ZfG (.h (.row dd 0) sz 0 ys.length) ls)::tvs2),by rw [hd];rfl⟩,hX⟩
  intro g w a hs K Q hK
  obtain ⟨hent,hp3⟩:=hp2
  unfold Oper.wp
  have hrun:(execOp a.eval o).run P w = .ok (.enter f (xs.map a.eval).toArray) w:=by
    have:=Zgw hent (xs.map a.eval).toArray w
    simp [execOp,ho,resolve,Deferred.ofValue,Act.eval,invoke,this]
  rw [hrun]
  show Calls P f _ w _
  refine (hp3 (g.out false) w _ (Zhm hs hcs hp1) (Zlx hs.mem false)).mono ?_
  rintro e w' ⟨g',v,va,us,rfl,hM,hm',hus,k,hk1,hk2⟩
  obtain ⟨g'',k1,k2,k3⟩:=ZoI (pu:=false) (st':=d.st) (s':={ (s.setEnt? dd (some (0,Ent.row 0 true sz ys))).put (some dd) (Zfb (.one (.h (.row dd 0) sz 0 ys.length) :: .agg (ls.map .l)::tvs2)) with st:=d.st,ep:=s.ep+1}) hs hrs0 hX hM hm' hus (fun h=>by cases h) (dst:=some dd)
    rfl rfl rfl rfl
  show K (a.put o.dst (ZiW (.agg va::us))) w'
  obtain ⟨sv,hsv⟩ : ∃sv:S,sv = { (s.setEnt? dd (some (0,Ent.row 0 true sz ys))).put (some dd) (Zfb (.one (.h (.row dd 0) sz 0 ys.length) :: .agg (ls.map .l)::tvs2)) with st:=d.st,ep:=s.ep+1}:=⟨_,rfl⟩
  rw [←hsv] at k2 k3
  have sl1:sv.sl=s.sl.set dd (Zfb (.one (.h (.row dd 0) sz 0 ys.length) :: .agg (ls.map .l)::tvs2)):=by rw [hsv];rfl
  have hslot:=k3.slot dd _ (by rw [sl1];exact zO hlt)
  have hsz:dd<a.tmps.size:=by rw [hs.len];exact hlt
  have hget:(a.put (some dd) (ZiW (v :: .agg va::us))).tmps.getD dd undef=ZiW (v :: .agg va::us):=by simp [Act.put,hsz]
  rw [hget] at hslot
  obtain ⟨arr,e1,hS⟩:=hslot
  have e2:arr.toList=v :: .agg va::us:=by
    have:arr=(v :: .agg va::us).toArray:=by
      simp only [ZiW] at e1
      exact (Value.tuple.inj e1).symm
    rw [this]
  rw [e2] at hS
  obtain ⟨v1,r1,q1,h1,hS⟩:=hS
  simp only [yK] at q1
  obtain ⟨rfl,rfl⟩:=q1
  obtain ⟨v2,r2,q2,h2,hS⟩:=hS
  simp only [yK] at q2
  obtain ⟨rfl,rfl⟩:=q2
  obtain ⟨va',q3,h2⟩:=h2
  obtain rfl:=Value.agg.inj q3
  have h3:TsR g'' sv w' va.toList (ZfG (.h (.row dd 0) sz 0 ys.length) ls):=ZoO (fun l e=>by cases e) h1 h2 hk1 hk2
  have h4:Zct g'' sv w' (ZiW (.agg va::us)) (Zfb (.agg (ZfG (.h (.row dd 0) sz 0 ys.length) ls)::tvs2)):=ZhH ⟨_,_,rfl,⟨va,rfl,h3⟩,hS⟩
  obtain ⟨s2,hs2⟩ : ∃s2:S,s2 = { (s.setEnt? dd (some (0,Ent.row 0 true sz ys))).put (some dd) (Zfb (.agg (ZfG (.h (.row dd 0) sz 0 ys.length) ls)::tvs2)) with st:=d.st,ep:=s.ep+1}:=⟨_,rfl⟩
  rw [←hs2] at hK
  have esi:s2.si=sv.si:=by rw [hs2,hsv];rfl
  have est:s2.st=sv.st:=by rw [hs2,hsv]
  have eep:s2.ep=sv.ep:=by rw [hs2,hsv]
  have kr:Zbc (fun _=>False) sv s2 g'' g'' w' w':=.refl esi eep
  have kk:Zbc (· ∈ ZiV dd (some (0,Ent.row 0 true sz ys))) s s2 g g'' w w':=k2.trans (.refl esi eep)
  have hmem:Zdr g'' s2 w':=⟨by rw [est];exact k3.mem.stl,fun i c h=>k3.mem.obj i c (by rwa [est] at h),k3.mem.objB,fun n ent h=>by
    have:=k3.mem.site n ent (by rwa [esi] at h)
    cases ent<;>exact this,k3.mem.own,k3.mem.z,k3.mem.gl⟩
  refine hK g'' w' _ k1 kk ?_
  rw [hd]
  exact (hs.next kk (fun m hm=>by have:=List.all_eq_true.1 hX m hm;simpa using this) hmem (by rw [hs2];simp [S.setEnt?,S.setEnt,S.put]) (dst:=some dd) (tv:=Zfb (.agg (ZfG (.h (.row dd 0) sz 0 ys.length) ls)::tvs2)) (by rw [hs2];rfl) (fun _=>Zct.keep kr (fun n h=>h.elim) h4))
end
def ZkY (n ep:Nat):Nat→List L→Option (List T)
  | _,[]=>some []
  | o,x::ls=>match x with
    | .own true sz xs=>(ZkY n ep (o+1) ls).map (.h (.mem (.site n) o ep) sz 0 xs.length :: ·)
    | .own false _ _=>none
    | .mp _=>none
    | .gone=>none
    | x=>(ZkY n ep (o+x.size) ls).map (.l x :: ·)
def ldwT (P:Program) (s:S) (t:TypeId) (tv:TV):Option TV:=
  match ZdG P t,P.info? t,tv with
  | some true,some i,.one (.adr (.site n) 0)=>match s.si[n]? with
    | some (some (.cells c))=>if sizes c=i.size then (ZkY n s.ep 0 c).map .agg else none
    | _=>none
  | _,_,_=>none
def ldwOp (P:Program) (s:S) (o:Oper):Option TV:=
  match o.op with
  | .load t x=>(ev s x).bind (ldwT P s t)
  | _=>none
def lsT':List T→Option (List L)
  | []=>some []
  | .l x::ts=>(lsT' ts).map (x :: ·)
  | _=>none
def preT:List T→Option (List L×(Root×Nat×Nat×Nat×Nat)×List L)
  | []=>none
  | .l x::ts=>(preT ts).map fun q=>(x::q.1,q.2)
  | .h (.mem r off ep) sz 0 len::ts=>(lsT' ts).map fun q=>([],(r,off,ep,sz,len),q)
  | _=>none
def mstOp (P:Program) (s:S) (d:D) (o:Oper):Option (List Nat×S×List Prop):=
  match o.dst,o.op,d.mv with
  | none,.store t x y,[dd]=>match ev s x,ev s y,P.info? t with
    | some (.one (.adr (.site n0) off0)),some (.agg ts),some i=>
      match preT ts with
      | some (pre,(r,off,ep,sz,len),post)=>
        match Zev s d.oc r with
        | some (c,qs)=>match ZiP c off with
          | some (e,sz',xs,c')=>
            if ep=s.ep∧TV.mens dd s.sl=false∧r ≠ .site dd∧n0≠dd∧sz'=sz then
              match Zgh ((s.setRoot r c').setEnt dd (.row 0 e sz' xs)) [] [] [dd] d.wm (.site n0) off0 i.size (.agg (pre.map .l ++ .h (.row dd 0) sz 0 len::post.map .l)) with
              | some (s2,ps)=>some ([dd],s2,qs++ps)
              | none=>none
            else none
          | none=>none
        | none=>none
      | none=>none
    | _,_,_=>none
  | _,_,_=>none
section
variable {P:Program} {g g1:G} {s s1:S} {w:World}
theorem Zki {t:T} (ht : ∀l,t = .l l→l.single=true) {post:List L} : ∀{pre:List L} {vs:List Value},TsR g s w vs (pre.map .l++t::post.map .l)→∃v1 v v2,vs=v1++v::v2∧v1.length=sizes pre∧TsR g s w v1 (pre.map .l)∧(v.oneCell'=true∧TR g s w v t)∧TsR g s w v2 (post.map .l)
  | [],vs,h=>by
    rw [vQ,List.nil_append] at h
    obtain ⟨us,rest,rfl,hu,h1,h2⟩:=h.inv
    obtain ⟨u,rfl,h3,h4⟩:=(ZfI ht).1 h1
    exact ⟨[],u,rest,rfl,rfl,rfl,⟨h3,h4⟩,h2⟩
  | l::pre,vs,h=>by
    rw [yO,List.cons_append] at h
    obtain ⟨us,rest,rfl,hu,h1,h2⟩:=h.inv
    obtain ⟨v1,v,v2,rfl,e,h3,h4,h5⟩:=Zki ht h2
    refine ⟨us++v1,v,v2,by simp,?_,h1.join h3,h4,h5⟩
    have:(T.l l).size=l.size:=rfl
    rw [this] at hu
    simp only [List.length_append,Dn.sizes,hu,e]
theorem ZgF {n:Nat} : ∀{ls:List L} {o:Nat} {vs:List Value} {ts:List T},ZkY n s.ep o ls=some ts→CR g w (some (g.sb n,o)) vs ls→(∀j v,vs[j]? = some v→w.cell? (ad (g.sb n) (o+j))=some v)→TsR g s w vs ts
  | [],o,vs,ts,h,hc,_=>by simp only [ZkY,zA] at h;subst h;cases hc;rw [TsR]
  | x::ls,o,vs,ts,h,hc,hw=>by
    obtain ⟨us,rest,rfl,hu,h1,h2⟩:=hc.inv
    have hw2 : ∀j v,rest[j]? = some v→w.cell? (ad (g.sb n) (o+x.size+j))=some v:=fun j v hj=>by
      have:=hw (x.size+j) v (by rw [zZ (by omega),hu,Nat.add_sub_cancel_left];exact hj)
      rwa [←Nat.add_assoc] at this
    have h2':CR g w (some (g.sb n,o+x.size)) rest ls:=by simpa [Dn.bump] using h2
    unfold ZkY at h
    split at h<;>try (cases h;done)
    · rename_i sz xs
      obtain ⟨ts',h3,rfl⟩:=zG.1 h
      refine TsR.join ?_ (ZgF h3 h2' hw2)
      cases h1 with
      | one _ v _ _ _ hv h1' hr=>
        cases hr
        have h4:=ZiL (g:=g) (s:=s) (w:=w) (r:=.site n) (tv:=.one (.h (.mem (.site n) o s.ep) sz 0 xs.length)) (off:=o) rfl hv h1' rfl trivial (fun k e=>by cases e) (hw 0 v rfl)
        exact (ZfI (fun l e=>by cases e)).2 ⟨v,rfl,h4.1,h4.2⟩
    · rename_i k1 k2 k3 k4
      obtain ⟨ts',h3,rfl⟩:=zG.1 h
      refine TsR.join ?_ (ZgF h3 h2' hw2)
      cases h1 with
      | one _ v _ _ _ hv h1' hr=>
        cases hr
        have hs:x.single=true:=by cases hv<;>rfl
        rw [Zfj (by rintro _ ⟨⟩;exact hs)]
        refine ⟨h1',hv.out ?_ (fun es he=>by subst he;exact k3 _ rfl),by rw [TsR]⟩
        intro e sz xs he;subst he
        cases e
        · exact k2 _ _ rfl
        · exact k1 _ _ rfl
      | arr _ k n xs _ _ hn hr=>cases hr;rw [TsR];exact ⟨hn,[],rfl,by rw [TsR]⟩
      | brr _ n xs _ _ hn hr=>cases hr;rw [TsR];exact ⟨hn,[],rfl,by rw [TsR]⟩
theorem ZmQ (hm:Zdr g s w) {t:TypeId} {tv r:TV} {v:Value} (h:ldwT P s t tv=some r) (hv:Zct g s w v tv) : ∃u,(Instr.loadAt t v).run P w = .ok u w∧Zct g s w u r:=by
  unfold ldwT at h
  split at h<;>try (cases h;done)
  rename_i i n ha hi
  split at h<;>try (cases h;done)
  rename_i c hsi
  split at h<;>try (cases h;done)
  rename_i hsz
  obtain ⟨ts,hts,rfl⟩:=zG.1 h
  obtain ⟨vs,k4,k5⟩:=Zky.cell (hm.site n _ hsi)
  have hl:vs.length=i.size:=by rw [←hsz];exact CR.size k4
  obtain ⟨_,_,_,h3⟩:=hv
  have hr:=run_loadCells_list (P:=P) w (ad (g.sb n) 0) vs (fun j v hj=>by rw [ZeW,yB,k5];exact hj)
  rw [hl] at hr
  refine ⟨.agg vs.toArray,?_,_,rfl,by simpa using ZgF hts k4 (fun j v hj=>by rw [yB,k5];exact hj)⟩
  rw [h3 ⟨_,hsi⟩]
  unfold Instr.loadAt loadVar
  simp only [Instr.sureAddr,G.rb]
  rw [Sem.run_bind,Sem.run_pure]
  simp only [Result.andThen_ok]
  rw [Sem.run_bind,Zem ha]
  simp only [Result.andThen_ok,if_true]
  rw [Sem.run_bind,ZcM hi]
  simp only [Result.andThen_ok,Sem.run_bind,hr,Sem.run_pure]
theorem Zcr.ldw {o:Oper} {tv:TV} (h:ldwOp P s o=some tv):Zcr P o [] s (s.put o.dst tv):=by
  refine .value fun g w a hs=>?_
  unfold ldwOp at h
  split at h<;>try (cases h;done)
  rename_i t x ho
  obtain ⟨tv0,hx,h1⟩:=zW.1 h
  obtain ⟨u,h1,h2⟩:=ZmQ (P:=P) hs.mem h1 (Zbx hs hx)
  exact ⟨u,by simp [execOp,ho,h1],h2⟩
theorem lsT'_eq : ∀{ts:List T} {ls:List L},lsT' ts=some ls→ts=ls.map .l
  | [],ls,h=>by cases h;rfl
  | t::ts,ls,h=>by
    unfold lsT' at h
    split at h
    · rename_i h0;cases h0
    · rename_i x ts1 h0
      cases h0
      obtain ⟨q,h1,rfl⟩:=zG.1 h
      rw [lsT'_eq h1];rfl
    · cases h
theorem ZnF : ∀{ts:List T} {p q:List L} {r:Root} {off ep sz len:Nat},preT ts=some (p,(r,off,ep,sz,len),q)→ts=p.map .l ++ .h (.mem r off ep) sz 0 len::q.map .l
  | [],_,_,_,_,_,_,_,h=>by cases h
  | t::ts,p,q,r,off,ep,sz,len,h=>by
    unfold preT at h
    split at h
    · rename_i h0;cases h0
    · rename_i x ts1 h0
      cases h0
      obtain ⟨⟨p1,r1,q1⟩,h1,h2⟩:=zG.1 h
      simp only [zC] at h2
      obtain ⟨rfl,rfl,rfl⟩:=h2
      rw [ZnF h1];rfl
    · rename_i h0
      cases h0
      obtain ⟨q1,h1,h2⟩:=zG.1 h
      simp only [zC] at h2
      obtain ⟨rfl,⟨rfl,rfl,rfl,rfl,rfl⟩,rfl⟩:=h2
      rw [lsT'_eq h1];rfl
    · cases h
theorem any_l (n:Nat) : ∀ls:List L,(ls.map T.l).any (T.men n)=false
  | []=>rfl
  | l::ls=>by rw [yO,List.any_cons,any_l n ls];rfl
theorem ZqY {dd:Nat} (k:Zbc (· ∈ [dd]) s s1 g g1 w w) {r:Root} {off ep sz len:Nat} (leaf : ∀v,TR g s w v (.h (.mem r off ep) sz 0 len)→TR g1 s1 w v (.h (.row dd 0) sz 0 len)) {pre post:List L} {vs:List Value}
    (h:TsR g s w vs (pre.map .l ++ .h (.mem r off ep) sz 0 len::post.map .l)):TsR g1 s1 w vs (pre.map .l ++ .h (.row dd 0) sz 0 len::post.map .l):=by
  obtain ⟨v1,v,v2,rfl,hl,q1,⟨q2,q3⟩,q4⟩:=Zki (fun l e=>by cases e) h
  have h3:TsR g1 s1 w [v] [.h (.row dd 0) sz 0 len]:=(ZfI (fun l e=>by cases e)).2 ⟨v,rfl,q2,leaf v q3⟩
  exact (TsR.keep k (fun n _=>any_l n pre) q1).append (h3.join (TsR.keep k (fun n _=>any_l n post) q4))
theorem Zoj {dd:Nat} {r:Root} {off ep sz len:Nat} {v0:Value} (hd:Hd g s w (.mem r off ep) v0) (hg:g1.hd dd=v0) (v:Value) (h:TR g s w v (.h (.mem r off ep) sz 0 len)):TR g1 s1 w v (.h (.row dd 0) sz 0 len):=
  ⟨h.1,fun _ _ _ _ _=>xE _,fun hv e=>by rw [e.2,hg];exact h.2.2 v0 hd⟩
theorem ZpK {oc oe:List L} {mv:List Nat} {md:Nat} {r:Root} {off n:Nat} {tv:TV} {s':S} {ps:List Prop} (h1:Zgh s oc oe mv md r off n tv=some (s',ps)):(s'.sl=s.sl∧s'.si.length=s.si.length)∧∃c qs,Zev s oc r=some (c,qs):=by
  unfold Zgh at h1
  split at h1<;>try (cases h1;done)
  rename_i c qs _ hc _
  split at h1<;>try (cases h1;done)
  split at h1<;>try (cases h1;done)
  split at h1<;>simp only [zA,zC,reduceCtorEq] at h1
  obtain ⟨rfl,_⟩:=h1
  exact ⟨Zjy _ _ _ _ _,c,qs,hc⟩
theorem Zcr.mst {s':S} {o:Oper} {d:D} {X:List Nat} {ps:List Prop} (h:mstOp P s d o=some (X,s',ps)) (hp:ZbE ps):Zcr P o X s s'∧(∃tv,s'.sl=(s.put o.dst tv).sl)∧X.all (fun n=>!TV.mens n s.sl)=true:=by
  unfold mstOp at h
  split at h<;>try (cases h;done)
  rename_i t x y dd hd ho hmv
  split at h<;>try (cases h;done)
  rename_i n0 off0 ts i hx hy hi
  split at h<;>try (cases h;done)
  rename_i pre r off ep sz len post htr
  split at h<;>try (cases h;done)
  rename_i c qs hc
  split at h<;>try (cases h;done)
  rename_i e sz' xs c' hgo
  split at h<;>try (cases h;done)
  rename_i hh
  obtain ⟨rfl,hmen,hr,hn0,rfl⟩:=hh
  split at h<;>simp only [zA,zC,reduceCtorEq] at h
  rename_i s2 ps2 hst
  obtain ⟨rfl,rfl,rfl⟩:=h
  rw [ZbE.append] at hp
  obtain ⟨e1,cc,qc,hcc⟩:=ZpK hst
  have e2:s2.sl=s.sl∧s2.si.length=s.si.length:=by
    refine ⟨e1.1.trans (ZcD _ _ _).1,e1.2.trans ?_⟩
    simp only [S.setEnt,List.length_set];exact (ZcD _ _ _).2
  refine ⟨fun g w a hs K Q hK=>?_,⟨.u,by rw [hd];exact e2.1⟩,by simp [hmen]⟩
  obtain ⟨v0,k1,k2,k3,k4,k5⟩:=Zju hs.mem hc hp.1 hgo hr
  have hhd:(g.take (g.rb r) off dd v0).hd dd=v0:=Zbf _ _ _
  obtain ⟨va,ey,hT⟩:=Zbx hs hy
  rw [ZnF htr] at hT
  have hT1:=ZqY k4 (Zoj k1 hhd) hT
  obtain ⟨w',g',j1,j2,j3,j4⟩:=ZiD (P:=P) k3 hi hst hp.2 (v:=.agg va) ⟨va,rfl,hT1⟩
  have hsite : ∃c0,((s.setRoot r c').setEnt dd (.row 0 e sz' xs)).si[n0]? = some (some (.cells c0)):=by
    simp only [Zev] at hcc
    split at hcc
    · rename_i c0 h0;exact ⟨c0,h0⟩
    · cases hcc
  obtain ⟨hrok,hsb⟩:=k4.cells n0 (by simpa using hn0) hsite
  have hx2:=(Zbx hs hx).2.2.2 hrok
  have hrb:(g.take (g.rb r) off dd v0).rb (.site n0)=g.rb (.site n0):=hsb
  rw [hrb] at j1
  unfold Oper.wp
  have hexec:(execOp a.eval o).run P w = .ok .skip w':=by simp [execOp,ho,hx2,ey,Instr.storeAt,Instr.sureAddr,j1]
  rw [hexec]
  have kk:Zbc (· ∈ [dd]) s s2 g g' w w':=k4.trans ⟨j4.keep,fun n _=>j4.cells n (by simp),fun n ver _=>j4.row n ver (by simp),fun n _=>j4.mp n (by simp),fun h r h1 h2 h3 h4 _=>j4.mem h r h1 h2 h3 h4 (fun _ _ hx=>by cases hx),j4.ep⟩
  exact hK g' w' undef (k2.trans j2) kk (hs.next kk (fun n hn=>by simp at hn;subst hn;exact hmen) j3 e2.2 (dst:=o.dst) (tv:=.u) (by rw [hd];exact e2.1) (by rw [hd];simp))
end
end Go.Dn
namespace Go.Dn
variable [Globs]
def Zdn (P:Program):Zif:=fun s o d=>
  match o.op with
  | .box _ _=>if d.m=2 then (fbOp s o).map fun r=>([],s.put o.dst r,[]) else Zli P s o d
  | .load _ _=>if d.m=2 then (ldbOp P s o).map fun r=>([],s.put o.dst r,[]) else if d.m=13 then ldvOp P s o d else if d.m=19 then (ldwOp P s o).map fun r=>([],s.put o.dst r,[]) else Zli P s o d
  | .assign _=>if d.m=4 then ZpQ s o |>.map fun r=>(r.1,r.2,[]) else if d.m=14 then (untOp s o).map fun r=>([],s.put o.dst r,[]) else Zli P s o d
  | .makeFunc _ _ _=>(mkFnOp s o).map fun r=>([],s.put o.dst r,[])
  | .makeSlice _ _ _=>(msOp P s o).map fun r=>(o.dst.toList,r.1,r.2)
  | .store _ _ _=>if d.m=8 then (ZpN P s d o).map fun r=>([],r.1,r.2) else if d.m=12 then (nstOp P s d o).map fun r=>([],r.1,r.2) else if d.m=18 then mstOp P s d o else Zli P s o d
  | .slice _ _ _ _ (some _)=>(sl3Op P s o d).map fun r=>([],s.put o.dst r.1,r.2)
  | .slice _ _ _ _ none=>if d.m=9 then (slxOp P s o).map fun r=>([],s.put o.dst r.1,r.2) else Zli P s o d
  | .call { callee:=.builtin .append,.. }=>if d.m=9 then (apiOp P s o).map fun r=>([],r.1,r.2) else Zli P s o d
  | .call { callee:=.builtin .clear,.. }=>if d.m=11 then (clr2Op P s d o).map fun r=>([],r.1,r.2) else (clrOp P s o).map fun r=>([],r.1,r.2)
  | .call { callee:=.value _,.. }=>if d.m=5 then callC P s o d else if d.m=6 then callM P s o d else if d.m=10 then callV P s o d else if d.m=15 then insOp P s o d else if d.m=16 then dlfOp P s o d else if d.m=17 then callW P s o d else if d.m=7 then (ZpL P s o).map fun r=>([],r.1,r.2) else Zli P s o d
  | _=>Zli P s o d
theorem Zfz (P:Program):ZeX P (Zdn P):=by
  intro s o d X s' ps h hp
  have F:=stepX_ok P s o d X s' ps
  have two : ∀{x:Option (S×List Prop)},(∀s' ps,x=some (s',ps)→ZbE ps→Zcr P o [] s s'∧∃tv,s'.sl=(s.put o.dst tv).sl)→x.map (fun r=>(([]:List Nat),r.1,r.2))=some (X,s',ps) →
      Zcr P o X s s'∧(∃tv,s'.sl=(s.put o.dst tv).sl)∧X.all (fun n=>!TV.mens n s.sl)=true:=by
    intro x hok hx
    obtain ⟨r,h1,h2⟩:=zG.1 hx;simp only [zC] at h2;obtain ⟨rfl,rfl,rfl⟩:=h2
    obtain ⟨k1,k2⟩:=hok _ _ h1 hp
    exact ⟨k1,k2,rfl⟩
  have one : ∀{x:Option TV},(∀r,x=some r→Zcr P o [] s (s.put o.dst r))→x.map (fun r=>(([]:List Nat),s.put o.dst r,([]:List Prop)))=some (X,s',ps)→Zcr P o X s s'∧(∃tv,s'.sl=(s.put o.dst tv).sl)∧X.all (fun n=>!TV.mens n s.sl)=true:=by
    intro x hok hx
    obtain ⟨r,h1,h2⟩:=zG.1 hx;simp only [zC] at h2;obtain ⟨rfl,rfl,rfl⟩:=h2
    exact ⟨hok r h1,⟨_,rfl⟩,rfl⟩
  have val : ∀{x:Option (TV×List Prop)},(∀r ps,x=some (r,ps)→ZbE ps→Zcr P o [] s (s.put o.dst r))→x.map (fun r=>(([]:List Nat),s.put o.dst r.1,r.2))=some (X,s',ps)→Zcr P o X s s'∧(∃tv,s'.sl=(s.put o.dst tv).sl)∧X.all (fun n=>!TV.mens n s.sl)=true:=by
    intro x hok hx
    obtain ⟨r,h1,h2⟩:=zG.1 hx;simp only [zC] at h2;obtain ⟨rfl,rfl,rfl⟩:=h2
    exact ⟨hok _ _ h1 hp,⟨_,rfl⟩,rfl⟩
  unfold Zdn at h
  split at h
  · split at h
    · exact one (fun r hr=>.fb hr) h
    · exact F h hp
  · split at h
    · exact one (fun r hr=>.ldb hr) h
    · split at h
      · exact Zcr.ldv h hp
      · split at h
        · exact one (fun r hr=>.ldw hr) h
        · exact F h hp
  · split at h
    · obtain ⟨r,h1,h2⟩:=zG.1 h;simp only [zC] at h2;obtain ⟨rfl,rfl,rfl⟩:=h2
      exact Zcr.seat h1
    · split at h
      · exact one (fun r hr=>.unt hr) h
      · exact F h hp
  · obtain ⟨r,h1,h2⟩:=zG.1 h;simp only [zC] at h2;obtain ⟨rfl,rfl,rfl⟩:=h2
    exact ⟨.mkFn h1,⟨_,rfl⟩,rfl⟩
  · obtain ⟨r,h1,h2⟩:=zG.1 h;simp only [zC] at h2;obtain ⟨rfl,rfl,rfl⟩:=h2
    exact Zcr.ms h1 hp
  · split at h
    · exact two (fun s' ps hr hq=>Zcr.self hr hq) h
    · split at h
      · exact two (fun s' ps hr hq=>Zcr.nst hr hq) h
      · split at h
        · exact Zcr.mst h hp
        · exact F h hp
  · exact val (fun r ps hr hq=>Zcr.sl3 hr hq) h
  · split at h
    · exact val (fun r ps hr hq=>Zcr.slx hr hq) h
    · exact F h hp
  · split at h
    · exact two (fun s' ps hr hq=>Zcr.api hr hq) h
    · exact F h hp
  · split at h
    · exact two (fun s' ps hr hq=>Zcr.clr2 hr hq) h
    · exact two (fun s' ps hr hq=>Zcr.clr hr hq) h
  · split at h
    · exact Zcr.callC h hp
    · split at h
      · exact Zcr.callM h hp
      · split at h
        · exact Zcr.callV h hp
        · split at h
          · exact Zcr.ins h hp
          · split at h
            · exact Zcr.dlf h hp
            · split at h
              · exact Zcr.callW h hp
              · split at h
                · exact two (fun s' ps hr hq=>Zcr.sort hr hq) h
                · exact F h hp
  · exact F h hp
def G.cut (g:G) (n:Nat):G:={ g with nob:=n}
def flatE:L→Bool
  | .int _ _ | .bool _ | .str _ | .arr _ _ _ | .brr _ _=>true
  | _=>false
def flatL:L→Bool
  | .sl _ xs=>xs.all fun x=>x.all flatE
  | l=>flatE l
def flatV:CV→Bool
  | .one x=>flatL x
  | .agg ls=>ls.all flatL
  | .row _ _ xs=>xs.all fun x=>x.all flatE
section
variable {g g':G} {w w':World}
theorem LR.flatE {p:Option (Nat×Nat)} {n:Nat} {v:Value} {l:L} (hl:Dn.flatE l=true) (h:LR g w p v l):LR (g.cut n) w p v l:=by
  cases h<;>first | (simp [Dn.flatE] at hl;done) | skip
  · exact .int _ _ _
  · exact .bool _ _
  · exact .str _ _
theorem CR.flatE {n:Nat} : ∀{p:Option (Nat×Nat)} {vs:List Value} {ls:List L},CR g w p vs ls→ls.all Dn.flatE=true→CR (g.cut n) w p vs ls
  | _,_,_,.nil _,_=>.nil _
  | _,_,_,.one _ v vs l ls hv h1 hr,hl=>by
    simp only [xB,zQ] at hl
    exact .one _ _ _ _ _ (hv.flatE hl.1) h1 (CR.flatE hr hl.2)
  | _,_,_,.arr _ k n xs vs ls hn hr,hl=>by
    simp only [xB,zQ] at hl
    exact .arr _ _ _ _ _ _ hn (CR.flatE hr hl.2)
  | _,_,_,.brr _ n xs vs ls hn hr,hl=>by
    simp only [xB,zQ] at hl
    exact .brr _ _ _ _ _ hn (CR.flatE hr hl.2)
theorem ER.flatE {n:Nat} : ∀{xs:List (List L)} {b off sz:Nat},ER g w b off sz xs→(xs.all fun x=>x.all Dn.flatE)=true→ER (g.cut n) w b off sz xs
  | _,_,_,_,.nil _ _ _,_=>.nil _ _ _
  | _,_,_,_,.cons b off sz vs x xs hn hc hx hr,hl=>by
    simp only [xB,zQ] at hl
    exact .cons _ _ _ vs x xs hn hc (hx.flatE hl.1) (ER.flatE hr hl.2)
theorem LR.flatL {p:Option (Nat×Nat)} {n:Nat} {v:Value} {l:L} (hl:Dn.flatL l=true) (h:LR g w p v l):LR (g.cut n) w p v l:=by
  unfold Dn.flatL at hl
  split at hl
  · cases h with
    | slnil=>exact .slnil _ _
    | slz=>exact .slz _ _ _
    | sl _ b off len cap _ _ h1 hc hZ he=>exact .sl _ b off len cap _ _ h1 hc hZ (he.flatE hl)
  · exact h.flatE hl
theorem CR.flatL {n:Nat} : ∀{p:Option (Nat×Nat)} {vs:List Value} {ls:List L},CR g w p vs ls→ls.all Dn.flatL=true→CR (g.cut n) w p vs ls
  | _,_,_,.nil _,_=>.nil _
  | _,_,_,.one _ v vs l ls hv h1 hr,hl=>by
    simp only [xB,zQ] at hl
    exact .one _ _ _ _ _ (hv.flatL hl.1) h1 (CR.flatL hr hl.2)
  | _,_,_,.arr _ k n xs vs ls hn hr,hl=>by
    simp only [xB,zQ] at hl
    exact .arr _ _ _ _ _ _ hn (CR.flatL hr hl.2)
  | _,_,_,.brr _ n xs vs ls hn hr,hl=>by
    simp only [xB,zQ] at hl
    exact .brr _ _ _ _ _ hn (CR.flatL hr hl.2)
theorem Zfk.flatV {n:Nat} : ∀{rs:List CV} {us:List Value} {i:Nat},Zfk g w i us rs→rs.all Dn.flatV=true→Zfk (g.cut n) w i us rs
  | [],us,i,h,_=>h
  | c::cs,us,i,h,hl=>by
    simp only [xB,zQ] at hl
    obtain ⟨v,rest,rfl,hc,hr⟩:=h
    refine ⟨v,rest,rfl,?_,Zfk.flatV hr hl.2⟩
    cases c with
    | one x=>exact ⟨hc.1,hc.2.flatL hl.1⟩
    | agg ls=>obtain ⟨vs,rfl,h2⟩:=hc;exact ⟨vs,rfl,h2.flatL hl.1⟩
    | row e sz xs=>
      rcases hc with h1 | h1 | ⟨b,off,cap,a,E,h1,h2,h3,h4,h5,h6,h7⟩
      · exact .inl h1
      · exact .inr (.inl h1)
      · exact .inr (.inr ⟨b,off,cap,a,E,h1,h2,h3,h4,h5,h6,h7.flatE hl.1⟩)
def ErO (g:G) (w:World) (sz:Nat) (xs:List (List L)):Prop:=xs = []∨∃b off,ER g w b off sz xs
theorem ErO.cons {sz:Nat} {x:List L} {xs:List (List L)} (h:ErO g w sz (x::xs)):(∃vs,CR g w none vs x)∧ErO g w sz xs:=by
  rcases h with h | ⟨b,off,h⟩
  · cases h
  · cases h with
    | cons _ _ _ vs _ _ hn hc hx hr=>exact ⟨⟨vs,hx⟩,.inr ⟨_,_,hr⟩⟩
theorem LR.slO {p:Option (Nat×Nat)} {v:Value} {sz:Nat} {xs:List (List L)} (h:LR g w p v (.sl sz xs)):ErO g w sz xs:=by
  cases h with
  | slnil=>exact .inl rfl
  | slz=>exact .inl rfl
  | sl _ b off len cap _ _ hl hc hZ he=>exact .inr ⟨b,off,he⟩
theorem LR.ownO {p:Option (Nat×Nat)} {v:Value} {e:Bool} {sz:Nat} {xs:List (List L)} (h:LR g w p v (.own e sz xs)):ErO g w sz xs:=by
  cases h with
  | ownnil=>exact .inl rfl
  | ownz=>exact .inl rfl
  | own _ b off len cap _ _ _ a E hl hc ho hb hs hZ he=>exact .inr ⟨b,off,he⟩
theorem CR.tail {p:Option (Nat×Nat)} {vs:List Value} {l:L} {ls:List L} (h:CR g w p vs (l::ls)) : ∃p vs,CR g w p vs ls:=by
  cases h with
  | one _ _ _ _ _ _ _ hr=>exact ⟨_,_,hr⟩
  | arr _ _ _ _ _ _ _ hr=>exact ⟨_,_,hr⟩
  | brr _ _ _ _ _ _ hr=>exact ⟨_,_,hr⟩
mutual
theorem LR.cutO : ∀{p':Option (Nat×Nat)} {v':Value} {l:L},LR g' w' p' v' l→(∃p v,LR g w p v l)→LR (g'.cut g.nob) w' p' v' l
  | _,_,_,.int _ _ _,_=>.int _ _ _
  | _,_,_,.bool _ _,_=>.bool _ _
  | _,_,_,.str _ _,_=>.str _ _
  | _,_,_,.nilp _,_=>.nilp _
  | _,_,_,.ref _ i hi',⟨_,_,h⟩=>by cases h with | ref _ _ hi=>exact .ref (g:=g'.cut g.nob) _ i hi
  | _,_,_,.slnil _ _,_=>.slnil _ _
  | _,_,_,.slz _ _ _,_=>.slz _ _ _
  | _,_,_,.sl _ b off len cap sz xs hl hc hZ he,⟨_,_,h⟩=>.sl _ b off len cap sz xs hl hc hZ (ER.cutO he h.slO)
  | _,_,_,.ownnil _ _ _,_=>.ownnil _ _ _
  | _,_,_,.ownz _ _ _ _ _,_=>.ownz _ _ _ _ _
  | _,_,_,.own _ b off len cap sz e xs a E hl hc ho hb hs hZ he,⟨_,_,h⟩=>.own _ b off len cap sz e xs a E hl hc ho hb hs hZ (ER.cutO he h.ownO)
  | _,_,_,.mp _ b cl en es ho hb he,⟨_,_,h⟩=>.mp _ b cl en es ho hb (MR.cutO he (by cases h with | mp _ _ _ _ _ _ _ he=>exact ⟨_,he⟩))
  | _,_,_,.gone _ _,_=>.gone _ _
  | _,_,_,.fn _ f n vs cs hc,⟨_,_,h⟩=>.fn _ f n vs cs (CR.cutO hc (by cases h with | fn _ _ _ _ _ hc=>exact ⟨_,_,hc⟩))
  | _,_,_,.bx _ n b o ls vs hn hZ hc hx,⟨_,_,h⟩=>.bx _ n b o ls vs hn hZ hc (CR.cutO hx (by cases h with | bx _ _ _ _ _ _ _ _ _ hx=>exact ⟨_,_,hx⟩))
  | _,_,_,.mz _ b en es hZ hb he,⟨_,_,h⟩=>.mz _ b en es hZ hb (MR.cutO he (by cases h with | mz _ _ _ _ _ _ he=>exact ⟨_,he⟩))
  | _,_,_,.yl _ l,_=>.yl _ l
theorem CR.cutO : ∀{p':Option (Nat×Nat)} {vs':List Value} {ls:List L},CR g' w' p' vs' ls→(∃p vs,CR g w p vs ls)→CR (g'.cut g.nob) w' p' vs' ls
  | _,_,_,.nil _,_=>.nil _
  | _,_,_,.one _ v vs l ls hv h1 hr,⟨_,_,h⟩=>.one _ v vs l ls (LR.cutO hv (by
      cases h with
      | one _ _ _ _ _ hv' _ _=>exact ⟨_,_,hv'⟩
      | arr=>cases hv
      | brr=>cases hv)) h1 (CR.cutO hr h.tail)
  | _,_,_,.arr _ k n xs vs ls hn hr,⟨_,_,h⟩=>.arr _ k n xs vs ls hn (CR.cutO hr h.tail)
  | _,_,_,.brr _ n xs vs ls hn hr,⟨_,_,h⟩=>.brr _ n xs vs ls hn (CR.cutO hr h.tail)
theorem ER.cutO : ∀{b off sz:Nat} {xs:List (List L)},ER g' w' b off sz xs→ErO g w sz xs→ER (g'.cut g.nob) w' b off sz xs
  | _,_,_,_,.nil _ _ _,_=>.nil _ _ _
  | _,_,_,_,.cons b off sz vs x xs hn hc hx hr,h=>.cons b off sz vs x xs hn hc (CR.cutO hx ⟨_,h.cons.1⟩) (ER.cutO hr h.cons.2)
theorem MR.cutO : ∀{en':List MapEntry} {es:List (L×L)},MR g' w' en' es→(∃en,MR g w en es)→MR (g'.cut g.nob) w' en' es
  | _,_,.nil,_=>.nil
  | _,_,.cons e ens k v es hk hv h1 hr,⟨_,h⟩=>.cons e ens k v es hk (LR.cutO hv (by cases h with | cons _ _ _ _ _ _ hv _ _=>exact ⟨_,_,hv⟩)) h1 (MR.cutO hr (by cases h with | cons _ _ _ _ _ _ _ _ hr=>exact ⟨_,hr⟩))
end
theorem Snd.drop {P:Program} {f:FuncId} {args rs:List CV} {st ex:List (List L)} (h:Snd P f args st rs (st++ex)) (hr:rs.all Dn.flatV=true):Snd P f args st rs st:=by
  refine ⟨h.1,fun g w vs ha hm=>(h.2 g w vs ha hm).mono ?_⟩
  rintro e w' ⟨g',us,rfl,hM,hm',hus⟩
  have K:ZcA g (g'.cut g.nob) w w':=⟨hM.keep.ob,zL _,hM.keep.Z,hM.keep.cell,hM.keep.mp⟩
  refine ⟨g'.cut g.nob,us,rfl,⟨K,hM.os,hM.tape,hM.output,hM.size,hM.same,hM.own,fun i h1 h2=>absurd h2 (by show ¬ i<g.nob;omega)⟩,⟨hm.stl,fun i c hc hne=>?_,fun i hi=>hm'.objB i (xC hi hM.keep.nob),fun n ent h=>by simp [S.ofSt] at h,hm'.own,hm'.z,hm.gl.keep K⟩,hus.flatV hr⟩
  have hi:i<st.length:=by
    rcases yA i st.length with h' | h'
    · exact h'
    · simp only [S.ofSt] at hc;rw [zM h'] at hc;cases hc
  obtain ⟨h1,h2,a,E,h3,h4⟩:=hm'.obj i c (by simp only [S.ofSt] at hc ⊢;rw [yD hi];exact hc) hne
  obtain ⟨_,_,a0,_,_,h5⟩:=hm.obj i c hc hne
  exact ⟨h1,h2,a,E,h3,CR.cutO h4 ⟨_,_,h5⟩⟩
theorem Zde.of_ext {P:Program} {f:FuncId} {args rs:List CV} (h : ∀st,∃ex,Snd P f args st rs (st++ex)) (hr:rs.all Dn.flatV=true):Zde P f args rs:=fun st=>(h st).elim fun _ h=>h.drop hr
end
end Go.Dn
namespace Go.Dn
variable [Globs]
inductive PS where
  | r (ds:List (Nat×D))
  | d (r:DR)
  | c (b:Bool)
  | s (n:Nat)
def Zox (k:Nat):List PS→E→Bool
  | [.s n],.n=>k==n
  | _,_=>false
def goS (step:Zif):Nat→List K→E→S→List PS→Option (List K×E×S×List Prop×List (Cmp×Cmp))
  | 0,_,_,_,_=>none
  | n+1,ks,e,s,ds=>if Zox ks.length ds e then some (ks,.n,s,[],[]) else match ks with
    | []=>match ds with
      | []=>some ([],e,s,[],[])
      | _::_=>none
    | .h J::ks=>match e with
      | .n=>match ds with
        | []=>some (.h J::ks,.n,s,[],[])
        | _::_=>none
      | .x id=>goS step n ks (.x id) s ds
      | .ret=>goS step n ks .ret s ds
    | .b id::ks=>match e with
      | .n=>goS step n ks .n s ds
      | .x id'=>if id'=id then goS step n ks .n s ds else goS step n ks (.x id') s ds
      | .ret=>goS step n ks .ret s ds
    | .c x::ks=>match e with
      | .x id=>goS step n ks (.x id) s ds
      | .ret=>goS step n ks .ret s ds
      | .n=>match x with
        | .skip=>goS step n ks .n s ds
        | .seq x y=>goS step n (.c x :: .c y::ks) .n s ds
        | .block id x=>goS step n (.c x :: .b id::ks) .n s ds
        | .exit id=>goS step n ks (.x id) s ds
        | .ret=>goS step n ks .ret s ds
        | .cond t x y=>match ds with
          | .c b::ds=>match ev s t with
            | some (.one (.l (.bool v)))=>match goS step n (.c (if b then x else y)::ks) .n s ds with
              | some (ks',e',s',ps,es)=>some (ks',e',s',(v=b)::ps,es)
              | none=>none
            | _=>none
          | _=>none
        | .region _ ops dr=>match ds with
          | .r d::ds=>if dr then none else match ZhF step (ops.toList.map (·.dst)) ops.toList 0 s d with
            | some (s',ps)=>match goS step n ks .n s' ds with
              | some (ks',e',s'',qs,es)=>some (ks',e',s'',ps++qs,es)
              | none=>none
            | none=>none
          | .d r::ds=>if dr then match ZlQ step ops.toList s r with
            | some (s',ps,es)=>match goS step n ks .n s' ds with
              | some (ks',e',s'',qs,fs)=>some (ks',e',s'',ps++qs,es++fs)
              | none=>none
            | none=>none
            else none
          | _=>none
        | .loop x=>match ds with
          | []=>some (.c (.loop x)::ks,.n,s,[],[])
          | _::_=>none
        | _=>none
theorem isStop_n {k:Nat} {ds:List PS} {e:E} (h:Zox k ds e=true):e = .n:=by
  unfold Zox at h
  split at h
  · rfl
  · cases h
theorem Zqw {P:Program} {step:Zif} (hok:ZeX P step) (hfol:P.follows .mixedOrders=true) {R:Exit→Act→World→Prop} :
    ∀{n:Nat} {ks ks':List K} {e e':E} {s s':S} {ds:List PS} {ps:List Prop} {es:List (Cmp×Cmp)} {g:G} {a:Act} {w:World},goS step n ks e s ds=some (ks',e',s',ps,es)→ZbE ps→(∀q∈es,q.1=q.2)→Sat g s w a.tmps →
    (∀g' w' a',Mod g g' w w'→Sat g' s' w' a'.tmps→a'.defers=a.defers→exK P R ks' e'.exit a' w')→exK P R ks e.exit a w:=by
  intro n
  induction n with
  | zero=>
    intro ks ks' e e' s s' ds ps es g a w h hp he hs hQ
    simp [goS] at h
  | succ n ih=>
    intro ks ks' e e' s s' ds ps es g a w h hp he hs hQ
    have stop : ∀{ks:List K} {e:E},(ks=ks'∧e=e'∧s=s'∧[]=ps∧[]=es)→exK P R ks e.exit a w:=by
      rintro ks e ⟨rfl,rfl,rfl,rfl,rfl⟩
      exact hQ g w a (.refl _ _) hs rfl
    by_cases hst:Zox ks.length ds e=true
    · have:=isStop_n hst;subst this
      unfold goS at h
      rw [if_pos hst] at h
      simp only [zA,zC] at h;exact stop h
    unfold goS at h
    rw [if_neg hst] at h
    cases ks with
    | nil=>
      cases ds with
      | nil=>simp only [zA,zC] at h;exact stop h
      | cons d ds=>simp at h
    | cons k ks=>
      cases k with
      | h J=>
        cases e with
        | n=>cases ds with
          | nil=>simp only [zA,zC] at h;exact stop h
          | cons d ds=>simp at h
        | x id=>have:=ih h hp he hs hQ;simp only [E.exit] at this ⊢;unfold exK;exact this
        | ret=>have:=ih h hp he hs hQ;simp only [E.exit] at this ⊢;unfold exK;exact this
      | b id=>
        cases e with
        | n=>have:=ih h hp he hs hQ;simp only [E.exit] at this ⊢;unfold exK;exact this
        | x id'=>
          simp only [E.exit];unfold exK
          simp only at h
          split at h
          · rename_i hid
            rw [if_pos hid];exact ih h hp he hs hQ
          · rename_i hid
            rw [if_neg hid];exact ih h hp he hs hQ
        | ret=>have:=ih h hp he hs hQ;simp only [E.exit] at this ⊢;unfold exK;exact this
      | c x=>
        cases e with
        | x id=>have:=ih h hp he hs hQ;simp only [E.exit] at this ⊢;unfold exK;exact this
        | ret=>have:=ih h hp he hs hQ;simp only [E.exit] at this ⊢;unfold exK;exact this
        | n=>
          show exK P R _ .normal a w
          cases x with
          | skip=>have:=ih h hp he hs hQ;unfold exK;exact wp_skip this
          | seq x y=>exact Zqz (ih h hp he hs hQ)
          | block id x=>exact ZqA (ih h hp he hs hQ)
          | exit id=>have:=ih h hp he hs hQ;unfold exK;exact wp_exit this
          | ret=>have:=ih h hp he hs hQ;unfold exK;exact wp_ret this
          | cond t x y=>
            cases ds with
            | nil=>simp at h
            | cons d ds=>
              cases d with
              | r d=>simp at h
              | d d=>simp at h
              | s n=>simp at h
              | c b=>
                simp only at h
                split at h<;>try (cases h;done)
                rename_i v hev
                split at h<;>simp only [zA,zC,reduceCtorEq] at h
                rename_i k1 e1 s1 ps1 es1 h1
                obtain ⟨rfl,rfl,rfl,rfl,rfl⟩:=h
                rw [ZbE.cons] at hp
                obtain ⟨rfl,hp⟩:=hp
                have hv:=(Zbx hs hev).2.bool_eq
                have:=ih h1 hp he hs hQ
                simp only [E.exit] at this
                unfold exK at this ⊢
                exact wp_cond hv this
          | region id ops dr=>
            cases ds with
            | nil=>simp at h
            | cons d ds=>
              cases d with
              | c b=>simp at h
              | s n=>simp at h
              | r d=>
                cases dr with
                | true=>simp at h
                | false=>
                  simp only [Bool.false_eq_true,if_false] at h
                  split at h<;>try (cases h;done)
                  rename_i s1 ps1 h1
                  split at h<;>simp only [zA,zC,reduceCtorEq] at h
                  rename_i k1 e1 s2 ps2 es2 h2
                  obtain ⟨rfl,rfl,rfl,rfl,rfl⟩:=h
                  rw [ZbE.append] at hp
                  unfold exK
                  refine wp_region_list (Zgx hok h1 hp.1 hs fun g' w' a' hm hs' hd=>?_)
                  exact ih h2 hp.2 he hs' fun g'' w'' a'' hm' hs'' hd'=>hQ g'' w'' a'' (hm.trans hm') hs'' (hd'.trans hd)
              | d d=>
                cases dr with
                | false=>simp at h
                | true=>
                  simp only [if_true] at h
                  split at h<;>try (cases h;done)
                  rename_i s1 ps1 es1 h1
                  split at h<;>simp only [zA,zC,reduceCtorEq] at h
                  rename_i k1 e1 s2 ps2 es2 h2
                  obtain ⟨rfl,rfl,rfl,rfl,rfl⟩:=h
                  rw [ZbE.append] at hp
                  unfold exK
                  refine Zpu hok hfol h1 hp.1 (fun q hq=>he q (List.mem_append_left _ hq)) hs fun g' w' a' hm hs' hd=>?_
                  exact ih h2 hp.2 (fun q hq=>he q (List.mem_append_right _ hq)) hs' fun g'' w'' a'' hm' hs'' hd'=>hQ g'' w'' a'' (hm.trans hm') hs'' (hd'.trans hd)
          | loop x=>
            cases ds with
            | nil=>simp only [zA,zC] at h;exact stop h
            | cons d ds=>simp at h
          | _=>simp at h
def At (g0:G) (w0:World) (s:S) (J:Act→World→Prop):Prop:=∀g w a,Mod g0 g w0 w→Sat g s w a.tmps→a.defers = []→J a w
def goQ (step:Zif) (n:Nat) (ks:List K) (s:S) (ds:List PS) (live sites:List Nat):Option (List K×S×List Prop):=
  match goS step n ks .n s ds with
  | some (ks',.n,s',ps,[])=>some (ks',s'.norm live sites,ps)
  | _=>none
def goQd (step:Zif) (n:Nat) (ks:List K) (s:S) (ds:List PS) (live sites:List Nat):Option (List K×S×List Prop):=
  match goS step n ks .n s ds with
  | some (ks',.n,s',ps,_)=>some (ks',s'.norm live sites,ps)
  | _=>none
def ZhZ (b:Bool):Option (List K×E×S×List Prop×List (Cmp×Cmp))→List Cmp
  | some (_,_,_,_,es)=>es.map fun q=>if b then q.1 else q.2
  | none=>[]
def finQ (P:Program) (fn:Func) (step:Zif) (n:Nat) (ks:List K) (s:S) (ds:List PS) (oc:List L) (md:Nat) (own:List Nat):Option (List CV×List (List L)×List Prop):=
  match goS step n ks .n s ds with
  | some ([],.n,s',ps,[])=>match Zgl P s' oc md own 0 fn.results.toList with
    | some (rs,_,qs)=>some (rs,s'.st,ps++qs)
    | none=>none
  | some ([],.ret,s',ps,[])=>match Zgl P s' oc md own 0 fn.results.toList with
    | some (rs,_,qs)=>some (rs,s'.st,ps++qs)
    | none=>none
  | _=>none
def ZlK (P:Program) (fn:Func) (step:Zif) (n:Nat) (ks:List K) (s:S) (ds:List PS) (oc:List L) (md:Nat) (own:List Nat):Option (List CV×List (List L)×List Prop):=
  match goS step n ks .n s ds with
  | some ([],.n,s',ps,_)=>match Zgl P s' oc md own 0 fn.results.toList with
    | some (rs,_,qs)=>some (rs,s'.st,ps++qs)
    | none=>none
  | some ([],.ret,s',ps,_)=>match Zgl P s' oc md own 0 fn.results.toList with
    | some (rs,_,qs)=>some (rs,s'.st,ps++qs)
    | none=>none
  | _=>none
section
variable {P:Program} {step:Zif} {g0:G} {w0:World} {R:Exit→Act→World→Prop} {n:Nat} {ks ks':List K} {s s':S} {ds:List PS} {live sites:List Nat} {ps:List Prop}
theorem ZlR {x:Option (List K×E×S×List Prop×List (Cmp×Cmp))} {ks:List K} {e:E} {s:S} {ps:List Prop} {es:List (Cmp×Cmp)} (hx:x=some (ks,e,s,ps,es)) (h:ZhZ true x=ZhZ false x) : ∀q∈es,q.1=q.2:=by
  subst hx
  simp only [ZhZ,if_true,Bool.false_eq_true,if_false] at h
  intro q hq
  exact List.map_inj_left.1 h q hq
theorem At.goA (hok:ZeX P step) (hfol:P.follows .mixedOrders=true) {e e':E} {es:List (Cmp×Cmp)} (h:goS step n ks e s ds=some (ks',e',s',ps,es)) (hp:ZbE ps) (he : ∀q∈es,q.1=q.2)
    (hk:At g0 w0 s' (exK P R ks' e'.exit)):At g0 w0 s (exK P R ks e.exit):=fun g w a hM hs hd=>
  Zqw hok hfol h hp he hs fun g' w' a' hM' hs' hd'=>hk g' w' a' (hM.trans hM') hs' (hd'.trans hd)
theorem At.norm {J:Act→World→Prop} (h:At g0 w0 (s.norm live sites) J):At g0 w0 s J:=fun g w a hM hs hd=>h g w a hM (hs.norm live sites) hd
theorem At.go (hok:ZeX P step) (hfol:P.follows .mixedOrders=true) (h:goQ step n ks s ds live sites=some (ks',s',ps)) (hp:ZbE ps) (hk:At g0 w0 s' (exK P R ks' .normal)):At g0 w0 s (exK P R ks .normal):=by
  unfold goQ at h
  split at h<;>simp only [zA,zC,reduceCtorEq] at h
  rename_i h1
  obtain ⟨rfl,rfl,rfl⟩:=h
  exact At.goA (e:=.n) hok hfol h1 hp (fun q hq=>by cases hq) hk.norm
theorem At.goD (hok:ZeX P step) (hfol:P.follows .mixedOrders=true) (h:goQd step n ks s ds live sites=some (ks',s',ps)) (hc:ZhZ true (goS step n ks .n s ds)=ZhZ false (goS step n ks .n s ds)) (hp:ZbE ps)
    (hk:At g0 w0 s' (exK P R ks' .normal)):At g0 w0 s (exK P R ks .normal):=by
  unfold goQd at h
  split at h<;>simp only [zA,zC,reduceCtorEq] at h
  rename_i h1
  obtain ⟨rfl,rfl,rfl⟩:=h
  exact At.goA (e:=.n) hok hfol h1 hp (ZlR h1 hc) hk.norm
theorem At.ends {fn:Func} {rs:List CV} {e':E} {oc:List L} {md:Nat} {own:List Nat} {m:Option (Nat×Nat)} {qs:List Prop} (hE:Zkm P fn g0 w0 rs s'.st R) (he:e' = .n∨e' = .ret) (hr:Zgl P s' oc md own 0 fn.results.toList=some (rs,m,qs)) (hq:ZbE qs) :
    At g0 w0 s' (exK P R [] e'.exit):=fun g w a hM hs hd=>by
  unfold exK
  exact hE g w a s' oc md own m qs e' he hM hs hd hr hq rfl
theorem At.fin {fn:Func} {rs:List CV} {st':List (List L)} {oc:List L} {md:Nat} {own:List Nat} (hok:ZeX P step) (hfol:P.follows .mixedOrders=true) (hE:Zkm P fn g0 w0 rs st' R)
    (h:finQ P fn step n ks s ds oc md own=some (rs,st',ps)) (hp:ZbE ps):At g0 w0 s (exK P R ks .normal):=by
  unfold finQ at h
  split at h
  · rename_i h1
    split at h<;>simp only [zA,zC,reduceCtorEq] at h
    rename_i h2
    obtain ⟨rfl,rfl,rfl⟩:=h
    rw [ZbE.append] at hp
    exact At.goA (e:=.n) hok hfol h1 hp.1 (fun q hq=>by cases hq) (At.ends (e':=.n) hE (.inl rfl) h2 hp.2)
  · rename_i h1
    split at h<;>simp only [zA,zC,reduceCtorEq] at h
    rename_i h2
    obtain ⟨rfl,rfl,rfl⟩:=h
    rw [ZbE.append] at hp
    exact At.goA (e:=.n) hok hfol h1 hp.1 (fun q hq=>by cases hq) (At.ends (e':=.ret) hE (.inr rfl) h2 hp.2)
  · cases h
theorem At.finD {fn:Func} {rs:List CV} {st':List (List L)} {oc:List L} {md:Nat} {own:List Nat} (hok:ZeX P step) (hfol:P.follows .mixedOrders=true) (hE:Zkm P fn g0 w0 rs st' R)
    (h:ZlK P fn step n ks s ds oc md own=some (rs,st',ps)) (hc:ZhZ true (goS step n ks .n s ds)=ZhZ false (goS step n ks .n s ds)) (hp:ZbE ps):At g0 w0 s (exK P R ks .normal):=by
  unfold ZlK at h
  split at h
  · rename_i h1
    split at h<;>simp only [zA,zC,reduceCtorEq] at h
    rename_i h2
    obtain ⟨rfl,rfl,rfl⟩:=h
    rw [ZbE.append] at hp
    exact At.goA (e:=.n) hok hfol h1 hp.1 (ZlR h1 hc) (At.ends (e':=.n) hE (.inl rfl) h2 hp.2)
  · rename_i h1
    split at h<;>simp only [zA,zC,reduceCtorEq] at h
    rename_i h2
    obtain ⟨rfl,rfl,rfl⟩:=h
    rw [ZbE.append] at hp
    exact At.goA (e:=.n) hok hfol h1 hp.1 (ZlR h1 hc) (At.ends (e':=.ret) hE (.inr rfl) h2 hp.2)
  · cases h
theorem At.loop {x:Code} (m:Nat) (h:At g0 w0 s (Code.rounds P x (exK P R ks) m)):At g0 w0 s (exK P R (.c (.loop x)::ks) .normal):=fun g w a hM hs hd=>exK_loop m (h g w a hM hs hd)
theorem At.round {x:Code} {m:Nat} (h:At g0 w0 s (exK P R (.c x :: .h (Code.rounds P x (exK P R ks) m)::ks) .normal)):At g0 w0 s (Code.rounds P x (exK P R ks) (m+1)):=fun g w a hM hs hd=>Znz (h g w a hM hs hd)
theorem At.here {J:Act→World→Prop} (h:At g0 w0 s J):At g0 w0 s (exK P R (.h J::ks) .normal):=fun g w a hM hs hd=>by unfold exK;exact h g w a hM hs hd
theorem Snd.of {f:FuncId} {fn:Func} {c:Code} {args:List CV} {st:List (List L)} {rs:List CV} {st':List (List L)} (hf:P.funcs[f]? = some fn)
    (hn : (fn.name == "runtime.NumGoroutine") = false) (hb : fn.body = some c) (hlen : args.length ≤ fn.ntmps)
    (h : ∀(g:G) (w:World) (R:Exit→Act→World→Prop),Zkm P fn g w rs st' R→At g w (S.enter fn.ntmps args st) (exK P R [.c c] .normal)):Snd P f args st rs st':=
  Snd.mk hf hn hb hlen fun g w a R hs hd hE=>h g w R hE g w a (.refl _ _) hs hd
end
section
variable {α:Type}
def chk (p:Prop) [Decidable p] (A:Option α):Option α:=if p then A else none
theorem ZaP {p:Prop} [Decidable p] {A:Option α} {r:α} (h:chk p A=some r):p∧A=some r:=by
  unfold chk at h;split at h
  · exact ⟨by assumption,h⟩
  · cases h
theorem ZaY {v:Bool} {A B:Option α} {r:α} {G:Prop} (h:(if v=true then A else B)=some r) (ht:v=true→A=some r→G) (hf:v=false→B=some r→G):G:=by
  cases v
  · exact hf rfl (by simpa using h)
  · exact ht rfl (by simpa using h)
def Zbt {β:Type} (o:Option β) (f:β→Option α):Option α:=match o with
  | some i=>f i
  | none=>none
theorem Zaf {β:Type} {o:Option β} {f:β→Option α} {r:α} (h:Zbt o f=some r) : ∃i,o=some i∧f i=some r:=by
  cases o with
  | none=>cases h
  | some i=>exact ⟨i,rfl,h⟩
theorem Zac {x r:α} (h:some x=some r):x=r:=by cases h;rfl
end
def mkSl:Nat→Nat→List (Nat×TV)→List TV
  | _,0,_=>[]
  | i,n+1,[]=>.u::mkSl (i+1) n []
  | i,n+1,(j,t)::r=>if i=j then t::mkSl (i+1) n r else .u::mkSl (i+1) n ((j,t)::r)
def mkSi:Nat→Nat→List (Nat×Ent)→List (Option Ent)
  | _,0,_=>[]
  | i,n+1,[]=>none::mkSi (i+1) n []
  | i,n+1,(j,t)::r=>if i=j then some t::mkSi (i+1) n r else none::mkSi (i+1) n ((j,t)::r)
def mkS (n:Nat) (sl:List (Nat×TV)) (si:List (Nat×Ent)) (st:List (List L)):S:=⟨mkSl 0 n sl,mkSi 0 n si,st,0⟩
def Zbn:Code→List Nat→Code
  | .seq a _,0::r=>Zbn a r
  | .seq _ b,_::r=>Zbn b r
  | .cond _ a _,0::r=>Zbn a r
  | .cond _ _ b,_::r=>Zbn b r
  | .block _ b,_::r=>Zbn b r
  | .loop b,_::r=>Zbn b r
  | .scope b,_::r=>Zbn b r
  | x,_=>x
end Go.Dn
namespace Go.Dn
variable [Globs]
def ZnX (o:Option (List K×S×List Prop)) (ks':List K) (s':S) (A:Prop):Prop:=
  match o with
  | some (k,s,ps)=>(k,s)=(ks',s')∧(A→ZbE ps)
  | none=>False
def ZnY (o:Option (List K×S×List Prop)) (k0:K) (s':S) (A:Prop):Prop:=
  match o with
  | some (k,s,ps)=>(k.head?,s)=(some k0,s')∧(A→ZbE ps)
  | none=>False
def ZgQ (o:Option (List CV×List (List L)×List Prop)) (rs:List CV) (st':List (List L)) (A:Prop):Prop:=
  match o with
  | some (k,s,ps)=>(k,s)=(rs,st')∧(A→ZbE ps)
  | none=>False
section
variable {P:Program} {g0:G} {w0:World} {R:Exit→Act→World→Prop} {ks ks':List K} {s s':S} {A:Prop}
theorem goodQ {o:Option (List K×S×List Prop)} (h:((ks',s')=(ks',s')∧(A→A))=ZnX o ks' s' A) (a:A) : ∃ps,o=some (ks',s',ps)∧ZbE ps:=by
  have h1:ZnX o ks' s' A:=h ▸ ⟨rfl,id⟩
  unfold ZnX at h1
  split at h1
  · rename_i k s ps
    obtain ⟨h2,h3⟩:=h1
    simp only [zC] at h2
    obtain ⟨rfl,rfl⟩:=h2
    exact ⟨ps,rfl,h3 a⟩
  · exact h1.elim
theorem goodF {o:Option (List CV×List (List L)×List Prop)} {rs:List CV} {st':List (List L)} (h:((rs,st')=(rs,st')∧(A→A))=ZgQ o rs st' A) (a:A) : ∃ps,o=some (rs,st',ps)∧ZbE ps:=by
  have h1:ZgQ o rs st' A:=h ▸ ⟨rfl,id⟩
  unfold ZgQ at h1
  split at h1
  · rename_i k s ps
    obtain ⟨h2,h3⟩:=h1
    simp only [zC] at h2
    obtain ⟨rfl,rfl⟩:=h2
    exact ⟨ps,rfl,h3 a⟩
  · exact h1.elim
theorem goodN {o:Option (List K×S×List Prop)} {k:K} (h:((some k,s')=(some k,s')∧(A→A))=ZnY o k s' A) (a:A) : ∃ks' ps,o=some (k::ks',s',ps)∧ZbE ps:=by
  have h1:ZnY o k s' A:=h ▸ ⟨rfl,id⟩
  unfold ZnY at h1
  split at h1
  · rename_i k0 s ps
    obtain ⟨h2,h3⟩:=h1
    simp only [zC] at h2
    obtain ⟨h4,rfl⟩:=h2
    cases k0 with
    | nil=>cases h4
    | cons k0 ks0=>simp at h4;subst h4;exact ⟨_,ps,rfl,h3 a⟩
  · exact h1.elim
theorem At.q (hfol:P.follows .mixedOrders=true) (n:Nat) (ds:List PS) (live sites:List Nat) (a:A) (hk:At g0 w0 s' (exK P R ks' .normal))
    (h:((ks',s')=(ks',s')∧(A→A))=ZnX (goQ (Zdn P) n ks s ds live sites) ks' s' A):At g0 w0 s (exK P R ks .normal):=by
  obtain ⟨ps,h1,h2⟩:=goodQ h a
  exact At.go (Zfz P) hfol h1 h2 hk
theorem At.qd (hfol:P.follows .mixedOrders=true) (n:Nat) (ds:List PS) (live sites:List Nat) (a:A) (hk:At g0 w0 s' (exK P R ks' .normal))
    (h:((ks',s')=(ks',s')∧(A→A))=ZnX (goQd (Zdn P) n ks s ds live sites) ks' s' A) (hc:ZhZ true (goS (Zdn P) n ks .n s ds)=ZhZ false (goS (Zdn P) n ks .n s ds)):At g0 w0 s (exK P R ks .normal):=by
  obtain ⟨ps,h1,h2⟩:=goodQ h a
  exact At.goD (Zfz P) hfol h1 hc h2 hk
theorem At.n {J:Act→World→Prop} (hfol:P.follows .mixedOrders=true) (n:Nat) (ds:List PS) (live sites:List Nat) (a:A) (hk:At g0 w0 s' J)
    (h:((some (K.h J),s')=(some (K.h J),s')∧(A→A))=ZnY (goQ (Zdn P) n ks s ds live sites) (.h J) s' A):At g0 w0 s (exK P R ks .normal):=by
  obtain ⟨ks',ps,h1,h2⟩:=goodN h a
  exact At.go (Zfz P) hfol h1 h2 (At.here hk)
theorem At.nd {J:Act→World→Prop} (hfol:P.follows .mixedOrders=true) (n:Nat) (ds:List PS) (live sites:List Nat) (a:A) (hk:At g0 w0 s' J)
    (h:((some (K.h J),s')=(some (K.h J),s')∧(A→A))=ZnY (goQd (Zdn P) n ks s ds live sites) (.h J) s' A) (hc:ZhZ true (goS (Zdn P) n ks .n s ds)=ZhZ false (goS (Zdn P) n ks .n s ds)):At g0 w0 s (exK P R ks .normal):=by
  obtain ⟨ks',ps,h1,h2⟩:=goodN h a
  exact At.goD (Zfz P) hfol h1 hc h2 (At.here hk)
theorem At.f {fn:Func} {rs:List CV} {st':List (List L)} (hfol:P.follows .mixedOrders=true) (hE:Zkm P fn g0 w0 rs st' R) (n:Nat) (ds:List PS) (oc:List L) (md:Nat) (own:List Nat) (a:A)
    (h:((rs,st')=(rs,st')∧(A→A))=ZgQ (finQ P fn (Zdn P) n ks s ds oc md own) rs st' A):At g0 w0 s (exK P R ks .normal):=by
  obtain ⟨ps,h1,h2⟩:=goodF h a
  exact At.fin (Zfz P) hfol hE h1 h2
theorem At.fd {fn:Func} {rs:List CV} {st':List (List L)} (hfol:P.follows .mixedOrders=true) (hE:Zkm P fn g0 w0 rs st' R) (n:Nat) (ds:List PS) (oc:List L) (md:Nat) (own:List Nat) (a:A)
    (h:((rs,st')=(rs,st')∧(A→A))=ZgQ (ZlK P fn (Zdn P) n ks s ds oc md own) rs st' A) (hc:ZhZ true (goS (Zdn P) n ks .n s ds)=ZhZ false (goS (Zdn P) n ks .n s ds)):At g0 w0 s (exK P R ks .normal):=by
  obtain ⟨ps,h1,h2⟩:=goodF h a
  exact At.finD (Zfz P) hfol hE h1 hc h2
def loopN {α ρ:Type} (body:(α→Option ρ)→α→Option ρ):Nat→α→Option ρ
  | 0,_=>none
  | k+1,x=>body (loopN body k) x
theorem At.loopN {α ρ:Type} (St:α→S) {x:Code} {ks:List K} {body:(α→Option ρ)→α→Option ρ} {r:ρ}
    (hb : ∀(c:α→Option ρ) (J:Act→World→Prop),(∀y,c y=some r→At g0 w0 (St y) J)→∀y,body c y=some r→At g0 w0 (St y) (exK P R (.c x :: .h J::ks) .normal)) :
    ∀(k:Nat) (y:α),Dn.loopN body k y=some r→At g0 w0 (St y) (Code.rounds P x (exK P R ks) k)
  | 0,y,h=>by cases h
  | k+1,y,h=>At.round (hb (Dn.loopN body k) _ (fun y' h'=>At.loopN St hb k y' h') y h)
end
end Go.Dn
namespace Go.Dn
variable [Globs]
theorem Zaq {st:List (List L)} {i:Nat} {c:List L} (h:st[i]? = some c) (c':List L):(st.set i c')[i]? = some c':=by
  have:i<st.length:=by
    rcases yA i st.length with h' | h'
    · exact h'
    · rw [zM h'] at h;cases h
  simp [this]
theorem st_old {st:List (List L)} {i:Nat} {c:List L} (h:st[i]? = some c) (c':List L):(st ++ [c'])[i]? = some c:=by
  have:i<st.length:=by
    rcases yA i st.length with h' | h'
    · exact h'
    · rw [zM h'] at h;cases h
  rw [yD this];exact h
theorem not_true {b:Bool} (h:b=true):(!b)=false:=by subst h;rfl
theorem not_false {b:Bool} (h:b=false):(!b)=true:=by subst h;rfl
theorem ZbB {b:Bool} (h:(!b)=true):b=false:=by cases b<;>first | rfl | cases h
theorem ZbC {b:Bool} (h:(!b)=false):b=true:=by cases b<;>first | rfl | cases h
def optM {α:Type} (o:Option (Option (Nat×L))) (f:Nat→L→Option α) (g:Option α):Option α:=match o with
  | some (some (j,v))=>f j v
  | some none=>g
  | none=>none
theorem Zje {α:Type} {o:Option (Option (Nat×L))} {f:Nat→L→Option α} {g:Option α} {r:α} (h:optM o f g=some r):(∃j v,o=some (some (j,v))∧f j v=some r)∨(o=some none∧g=some r):=by
  unfold optM at h
  split at h
  · exact .inl ⟨_,_,rfl,h⟩
  · exact .inr ⟨rfl,h⟩
  · cases h
theorem ZnR {o:Option (Option (Nat×L))} {j:Nat} {v:L} (h:o=some (some (j,v))) : ∃j,o=some (some (j,v)):=⟨j,h⟩
theorem ex_at {o:Option (Option (Nat×L))} {j:Nat} {v:L} (h:o=some (some (j,v))) : ∃v,o=some (some (j,v)):=⟨v,h⟩
end Go.Dn
namespace Go.Dn
variable [Globs]
theorem ZgT {α:Type} {a b:α} (h : [a] = [b]):a=b:=by cases h;rfl
end Go.Dn
namespace Go.Dn.F
open Go.Dn
variable [Globs]
def Zdk (_:Nat) (x y c:Int):Option (Int×Int):=
  chk (0≤x)<|chk (0≤y)<|chk (0≤c)<|chk (c≤1)<|some ((x+y+c)%18446744073709551616,(x+y+c)/18446744073709551616)
def Zeg (_:Nat) (x y c:Int):Option (Int×Int):=
  chk (0≤x)<|chk (0≤y)<|chk (0≤c)<|chk (c≤1)<|chk (y≤18446744073709551615)<|some ((x-y-c)%18446744073709551616,if x<y+c then 1 else 0)
def Zlh:Array Value→Sem Value:=fun args=>do
  let (x, y, b) ← Extern.MathBitsCarry.three "Sub64" args
  pure (Extern.MathBitsCarry.pair ((x+Extern.MathBitsCarry.m64-y-b)%Extern.MathBitsCarry.m64) (if x<y+b then 1 else 0))
theorem run_sub {P:Program} (x y b:Nat) (hb:b≤1) (w:World) :
    (Zlh #[.int .u64 x,.int .u64 y,.int .u64 b]).run P w =
      .ok (.tuple #[.int .u64 (((x+18446744073709551616-y-b)%18446744073709551616:Nat):Int),.int .u64 ((if x<y+b then 1 else 0:Nat):Int)]) w:=by
  have:b=0∨b=1:=by omega
  rcases this with rfl | rfl<;>rfl
variable {P:Program} {f:FuncId} {fn:Func}
theorem Zkv (hf : P.funcs[f]? = some fn) (hname : (fn.name == "runtime.NumGoroutine") = false) (hb : fn.body.isNone = true) (hn : Extern.findNext fn = none) (he : Extern.find fn = some add64Entry)
    {N:Nat} {x y z:Int} {r:Int×Int} (h:Zdk N x y z=some r):ExtI P f [(.u64,x),(.u64,y),(.u64,z)] [(.u64,r.1),(.u64,r.2)]:=by
  intro w
  unfold Zdk at h
  obtain ⟨h1,h⟩:=ZaP h
  obtain ⟨h2,h⟩:=ZaP h
  obtain ⟨h3,h⟩:=ZaP h
  obtain ⟨h4,h⟩:=ZaP h
  have:=Zac h;subst this
  rw [run_callFunc_extern hf hname hb hn he]
  show (Result.andThen ((add64Entry #[.int .u64 x,.int .u64 y,.int .u64 z]).run P w) _)=_
  rw [run_add64 x y z h1 h2 h3 h4]
  rfl
theorem Zku (hf : P.funcs[f]? = some fn) (hname : (fn.name == "runtime.NumGoroutine") = false) (hb : fn.body.isNone = true) (hn : Extern.findNext fn = none) (he : Extern.find fn = some Zlh)
    {N:Nat} {x y z:Int} {r:Int×Int} (h:Zeg N x y z=some r):ExtI P f [(.u64,x),(.u64,y),(.u64,z)] [(.u64,r.1),(.u64,r.2)]:=by
  intro w
  unfold Zeg at h
  obtain ⟨h1,h⟩:=ZaP h
  obtain ⟨h2,h⟩:=ZaP h
  obtain ⟨h3,h⟩:=ZaP h
  obtain ⟨h4,h⟩:=ZaP h
  obtain ⟨h5,h⟩:=ZaP h
  have:=Zac h;subst this
  rw [run_callFunc_extern hf hname hb hn he]
  obtain ⟨X,rfl⟩:=tC h1
  obtain ⟨Y,rfl⟩:=tC h2
  obtain ⟨Z,rfl⟩:=tC h3
  show (Result.andThen ((Zlh #[.int .u64 X,.int .u64 Y,.int .u64 Z]).run P w) _)=_
  rw [run_sub X Y Z (by omega)]
  have e1:(((X+18446744073709551616-Y-Z)%18446744073709551616:Nat):Int)=((X:Int)-Y-Z)%18446744073709551616:=by omega
  have e2:((if X<Y+Z then 1 else 0:Nat):Int)=if (X:Int)<Y+Z then 1 else 0:=by
    by_cases hh:X<Y+Z
    · rw [if_pos hh,if_pos (by omega)];rfl
    · rw [if_neg hh,if_neg (by omega)];rfl
  rw [e1,e2]
  rfl
end Go.Dn.F
namespace Go.Dn
variable [Globs]
section
variable {P:Program} {g0:G} {w0:World} {R:Exit→Act→World→Prop} {ks:List K} {s:S}
theorem Zqe {o:Oper} {d1 d2 T T2 E:Nat} {sz:Nat} {xs:List (List L)} (h:o.op = .binOp .eql T (.tmp d1) (.const (.slice none 0 0)) T2) (hu:P.underlying T=some (.slice E)) (hd:o.dst=some d2)
    (hs0:s.sl[d1]? = some (.one (.l (.sl sz xs)))) {g:G} {w:World} {a:Act} (hs:Sat g s w a.tmps) {K:Act→World→Prop} {Q:Exit→Act→World→Prop}
    (hK : ∀b g' a',(b=true→xs = [])→Mod g g' w w→Sat g' (s.put (some d2) (.one (.l (.bool b)))) w a'.tmps→a'.defers=a.defers→K a' w):o.wp P a w K Q:=by
  have hv:=hs.slot d1 _ hs0
  have ha:a.eval (.tmp d1)=a.tmps.getD d1 undef:=rfl
  rw [←ha] at hv
  obtain ⟨_,hl⟩:=hv
  simp only [TR] at hl
  obtain ⟨p,n,c,hpv,hnil⟩ : ∃p n c,a.eval (.tmp d1) = .slice p n c∧(p.isNone=true→xs = []):=by
    generalize a.eval (.tmp d1)=v at hl
    cases hl with
    | slnil=>exact ⟨none,0,0,rfl,fun _=>rfl⟩
    | slz _ _ a0=>exact ⟨_,0,0,rfl,fun h=>by cases h⟩
    | sl _ b off len cap _ _ hl hc hZ he=>exact ⟨_,_,_,rfl,fun h=>by cases h⟩
  have hc0:a.eval (.const (.slice none 0 0)) = .slice none 0 0:=rfl
  have hrun:(execOp a.eval o).run P w = .ok (.value (.bool p.isNone)) w:=by
    have h1:(binOp .eql T (.slice p n c) (.slice none 0 0)).run P w = .ok (.bool p.isNone) w:=by
      exact Lib.run_eql_slice_nil w T E p n c 0 0 hu
    have h2:(eqGuard .eql T (.tmp d1) (.const (.slice none 0 0)) (.slice p n c) (.slice none 0 0)).run P w = .ok () w:=by simp [eqGuard]
    simp only [execOp,h,hpv,hc0,Sem.run_bind,h1,h2,Result.andThen_ok,Sem.run_pure]
  unfold Oper.wp
  rw [hrun]
  have hsl:Zct g (s.put o.dst (.one (.l (.bool p.isNone)))) w (.bool p.isNone) (.one (.l (.bool p.isNone))):=⟨rfl,.bool _ _⟩
  have hn:=hs.next (X:=fun _=>False) (s':=s.put o.dst (.one (.l (.bool p.isNone)))) (Zbc.refl (by cases o.dst<;>rfl) (by cases o.dst<;>rfl)) (fun _ h=>h.elim) (hs.mem.cast (by cases o.dst<;>rfl) (by cases o.dst<;>rfl)) (by cases o.dst<;>rfl) (dst:=o.dst) (tv:=.one (.l (.bool p.isNone))) (v:=.bool p.isNone) rfl (fun _=>hsl)
  rw [←hd] at hK
  exact hK p.isNone g _ hnil (.refl g w) hn (by cases o.dst<;>rfl)
theorem At.nilcmp (hok:ZeX P (Zdn P)) {id d0 d1 d2 T T2 E:Nat} {o1 o2:Oper} {sz:Nat} {xs:List (List L)} {rest:Code}
    (h1:o1.op = .move (.tmp d0)) (g1:o1.guard=none) (e1:o1.dst=some d1) (h2:o2.op = .binOp .eql T (.tmp d1) (.const (.slice none 0 0)) T2) (g2:o2.guard=none) (e2:o2.dst=some d2) (hu:P.underlying T=some (.slice E))
    (hs0:s.sl[d0]? = some (.one (.l (.sl sz xs)))) (hd1:d1<s.sl.length)
    (k : ∀b,(b=true→xs = [])→At g0 w0 ((s.put (some d1) (.one (.l (.sl sz xs)))).put (some d2) (.one (.l (.bool b)))) (exK P R (.c rest::ks) .normal)) :
    At g0 w0 s (exK P R (.c (.seq (.region id #[o1,o2] false) rest)::ks) .normal):=by
  intro g w a hM hs hd
  refine Zqz ?_
  unfold exK
  refine wp_region_list ?_
  unfold wpList
  rw [if_pos (by unfold Region.wanted;rw [g1])]
  left
  have hpv:Dn.pv P s o1=some (.one (.l (.sl sz xs)),[]):=by
    unfold Dn.pv
    rw [h1]
    simp only [ev,hs0,yN]
  refine (Zcr.pv hpv trivial) g w a hs _ _ fun g' w' v hm hk hs'=>?_
  rw [e1] at hs' ⊢
  unfold wpList
  rw [if_pos (by unfold Region.wanted;rw [g2])]
  left
  refine Zqe (s:=s.put (some d1) (.one (.l (.sl sz xs)))) (sz:=sz) (xs:=xs) h2 hu e2 (by simp [S.put,hd1]) hs' fun b g'' a' hb hm' hs'' hd'=>?_
  unfold wpList
  exact k b hb g'' w' a' ((hM.trans hm).trans hm') hs'' (by rw [hd'];exact hd)
end
def opPos:Code→Nat→String
  | .seq (.region _ os _) _,i=>match os[i]? with
    | some o=>o.pos
    | none => ""
  | _, _ => ""
end Go.Dn
namespace Go.Dn
open Go.ChangeShapes Go.WideShapes Go.RowKit
def ZjU (w:World):G:=
  { ob:=fun _=>0,nob:=0,sb:=fun _=>0,hd:=fun _=>.slice none 0 0,ow:=fun _=>none
    Z:=fun b=>match w.heap[b]? with | some (.cells a _ _)=>a.size | _=>0}
theorem ZjT {w:World} {b o:Nat} {v:Value} (h:w.cell? (ad b o)=some v):o<(ZjU w).Z b:=by
  simp only [World.cell?] at h
  simp only [ZjU]
  cases hb:w.heap[b]? with
  | none=>rw [hb] at h;simp at h
  | some x=>
    rw [hb] at h
    cases x with
    | cells a E lo=>simp only at h;exact (Array.getElem?_eq_some_iff.1 h).1
    | _=>simp at h
section
variable [Globs]
theorem lawG_sat {w:World} (hg:GlR (ZjU w) w):Zdr (ZjU w) (.ofSt []) w:=
  ⟨rfl,fun i c h=>by simp [S.ofSt] at h,fun i h=>absurd h (rH i),fun n e h=>by simp [S.ofSt] at h,(fun b t h=>by cases h),
   fun b hb=>by simp [ZjU,rC hb],hg⟩
theorem law {P:Program} {f:FuncId} {args rs:List CV} {st':List (List L)} {w:World} {vs:List Value} (h:Snd P f args [] rs st') (hg:GlR (ZjU w) w) (hv:Zfk (ZjU w) w 0 vs args) :
    Calls P f vs.toArray w fun e w'=>(∃us g',e = .returned (ZiW us)∧Zfk g' w' 0 us rs)∧Below w.heap.size w w':=
  (h.2 (ZjU w) w vs hv (lawG_sat hg)).mono fun e w' ⟨g',us,he,hM,_,hu⟩=>
    ⟨⟨us,g',he,hu⟩,hM.os,hM.tape,hM.output,hM.size,fun k hk=>by
      rcases hM.same k hk with h | h
      · exact h.1
      · exact absurd rfl h.1⟩
theorem law_true {P:Program} {f:FuncId} {args:List CV} {st':List (List L)} {w:World} {vs:List Value} (h:Snd P f args [] [.one (.bool true)] st') (hg:GlR (ZjU w) w) (hv:Zfk (ZjU w) w 0 vs args) :
    Calls P f vs.toArray w fun e w'=>e = .returned (.bool true)∧Below w.heap.size w w':=
  (law h hg hv).mono fun e w' ⟨⟨us,g',he,v,r,hu,h1,h2⟩,hb⟩=>by
    subst hu;cases h2;cases h1.2
    exact ⟨he,hb⟩
theorem law_nil {g:G} {w:World} {i:Nat}:Zfk g w i [] []:=rfl
theorem Zow {g:G} {w:World} {i:Nat} {v:Value} {vs:List Value} {c:CV} {cs:List CV} (h:CVR g w i v c) (hs:Zfk g w (i+1) vs cs):Zfk g w i (v::vs) (c::cs):=⟨v,vs,rfl,h,hs⟩
theorem ZqS {P:Program} {w:World} {base:Nat} {sp:Nat→Bool} {held:Bool} {H:Type} {enc:TypeId×Value→H} {fuel t e n:Nat} {k:IntKind} {cs:List Value} {xs:List Int} {p:List MemPlace}
    (hu:P.underlying t=some (.array n e)) (he:P.underlying e=some (.int k)) (hc:P.cellsOf e=1) (hct:P.cellsOf t=n)
    (h:DataW.trod enc P w base sp held fuel t cs=some (.agg (xs.map fun x=>.lit (.int k x)),p)):cs=xs.map (Value.int k)∧xs.length=n:=by
  obtain ⟨ys,m,_,h1,h2,h3,h4⟩:=DataW.trod_array hu h
  simp only [zC,DataW.agg.injEq] at h1
  have hl:xs.length=n:=by
    have:=congrArg List.length h1.1
    simp at this
    omega
  refine ⟨?_,hl⟩
  apply List.ext_getElem?
  intro i
  rw [hc] at h4
  by_cases hi:i<n
  · have h5:=h4 i hi
    rw [Nat.mul_one,zS (by omega)] at h5
    obtain ⟨z,h6,h7,_⟩:=DataW.trod_int he h5
    have h8:(ys.map (·.1))[i]? = some (.lit (.int k z)):=by
      rw [yQ,zS (by omega),h7];rfl
    rw [←h1.1,yQ] at h8
    have h9:xs[i]? = some z:=by
      rw [zS (by omega)] at h8 ⊢
      simp only [yN,zA,DataW.lit.injEq,Lit.int.injEq,true_and] at h8
      rw [h8]
    rw [yQ,h9]
    have h10:=congrArg (fun l:List Value=>l[0]?) h6
    simp only [yS,xF] at h10
    simpa using h10
  · rw [zM (by omega),zM (by simp;omega)]
theorem ZmR {P:Program} {w:World} {name:String} {d:DataW Unit} {r:List (String×DataW Unit)} {ps:List MemPlace} (h:DataW.LaidVars P w ((name,d)::r) ps) {g t e n:Nat} {k:IntKind} (xs:List Int)
    (hg:P.globalNamed name=some g) (ht:(P.globals[g]?).map (·.type)=some t) (hu:P.underlying t=some (.array n e)) (he:P.underlying e=some (.int k)) (hc:P.cellsOf e=1) (hct:P.cellsOf t=n)
    (hd:d = .agg (xs.map fun x=>.lit (.int k x))) (h0:0<n):(∃sz,ER (ZjU w) w g 0 sz [[.arr k n xs]]∧sz≤(ZjU w).Z g)∧∃q,DataW.LaidVars P w r q:=by
  obtain ⟨g',t',cs,fuel,p,q,h1,h2,h3,h4,h5,_⟩:=h
  obtain rfl:=xH (h1.symm.trans hg)
  obtain rfl:=xH (h2.symm.trans ht)
  subst hd
  obtain ⟨hcs,hl⟩:=ZqS hu he hc hct h4
  have hcell : ∀j v,(xs.map (Value.int k))[j]? = some v→w.cell? (ad g' (0+j))=some v:=fun j v hj=>by
    have:=World.var?_cell hg h3 j
    rw [yB,show ad g' j=⟨g',j,none⟩ from rfl,this,←Array.getElem?_toList,hcs,hj]
  refine ⟨⟨n,.cons g' 0 n (xs.map (Value.int k)) [.arr k n xs] [] (by simp [hl]) hcell ?_ (.nil _ _ _),?_⟩,q,h5⟩
  · have:=CR.arr (g:=ZjU w) (w:=w) none k n xs [] [] hl (.nil _)
    simpa using this
  · have:(xs.map (Value.int k))[n-1]? = some (Value.int k (xs.getD (n-1) 0)):=by
      rw [yQ,zS (by omega)]
      simp [List.getD,zS (show n-1<xs.length by omega)]
    have:=ZjT (hcell _ _ this)
    omega
end
end Go.Dn
namespace Go.Dn
theorem Zai {α:Type} {p:Prop} [Decidable p] {A:Option α} (h:p):chk p A=A:=if_pos h
@[simp] theorem Zad {α β:Type} (x:β) (f:β→Option α):Zbt (some x) f=f x:=rfl
@[simp] theorem optM_hit {α:Type} (j:Nat) (v:L) (f:Nat→L→Option α) (g:Option α):optM (some (some (j,v))) f g=f j v:=rfl
@[simp] theorem optM_miss {α:Type} (f:Nat→L→Option α) (g:Option α):optM (some none) f g=g:=rfl
theorem Zas {α ρ:Type} (body:(α→Option ρ)→α→Option ρ) (k:Nat) (x:α):loopN body (k+1) x=body (loopN body k) x:=rfl
@[simp] theorem Zdc (l:List Int):(ZdD l).length=l.length:=by simp [ZdD]
theorem Zmu (n:Nat) (l:List Int):(ZdD l).take n=ZdD (l.take n):=by simp [ZdD]
theorem ZjD (l m:List Int):ZdD l++ZdD m=ZdD (l++m):=by simp [ZdD]
theorem Zol (n:Int) : [[L.int .i64 n]]=ZdD [n]:=rfl
theorem Zjc {l:List Int} {i:Nat} (h:i<l.length):(ZdD l)[i]? = some [L.int .i64 l[i]]:=by simp [ZdD,h]
theorem Zho {zs:List Int} {j:Nat} {x:Int} (h:zs[j]? = some x):(ZdD zs)[Int.toNat (j:Int)]? = some [L.int .i64 x]:=by
  rw [Int.toNat_natCast];simp [ZdD,h]
theorem ZkI (l:List Int):ZdB (ZdD l)=true:=by simp [ZdB,ZdD,L.plain]
theorem ZpM {α:Type} {l:List α} {i:Nat} {x:α} (h:l[i]? = some x):l.set i x=l:=by
  obtain ⟨hi,rfl⟩:=xD.1 h
  exact List.set_getElem_self hi
theorem Zoy {α:Type} {l:List α} {i:Nat} {x:α} (h:l[i]? = some x):i<l.length:=(xD.1 h).1
def fi:List (Int×Int)→Int→Option (Nat×Int)
  | [],_=>none
  | (k,v)::es,x=>if x=k then some (0,v) else (fi es x).map fun r=>(r.1+1,r.2)
def sm (es:List (Int×Int)) (x:Int):Int:=((fi es x).map (·.2)).getD 0
end Go.Dn
namespace Go.Dn.F
theorem Zir {α ρ:Type} {body:(α→Option ρ)→α→Option ρ} {Q:ρ→Prop} (I:Nat→α→Prop)
    (step : ∀(G:α→Option ρ) m x,I m x→(∀m' y,m'<m→I m' y→∃r,G y=some r∧Q r)→∃r,body G x=some r∧Q r) :
    ∀k m x,I m x→m<k→∃r,loopN body k x=some r∧Q r
  | 0,_,_,_,h=>absurd h (rH _)
  | k+1,m,x,hI,h=>step (loopN body k) m x hI fun m' y hm hy=>Zir I step k m' y hy (by omega)
theorem Zbz {α ρ:Type} {body:(α→Option ρ)→α→Option ρ} {o:Option ρ} (I:Nat→α→Prop)
    (step : ∀(G:α→Option ρ) m x,I m x→(∀m' y,m'<m→I m' y→G y=o)→body G x=o) :
    ∀k m x,I m x→m<k→loopN body k x=o
  | 0,_,_,_,h=>absurd h (rH _)
  | k+1,m,x,hI,h=>step (loopN body k) m x hI fun m' y hm hy=>Zbz I step k m' y hy (by omega)
end Go.Dn.F
namespace Go.Dn
variable [Globs]
open Go.ChangeShapes Go.WideShapes Go.RowKit
inductive Ty where
  | int (k:IntKind)
  | bool
  | str
  | arr (k:IntKind) (n:Nat)
  | sl (sz:Nat) (ts:List Ty)
mutual
def LTy:Ty→L→Prop
  | .int k,l=>∃n,l = .int k n∧(Lit.int k n).wf=true
  | .bool,l=>∃b,l = .bool b
  | .str,l=>∃s,l = .str s∧s.size≤maxLen
  | .arr k n,l=>∃xs,l = .arr k n xs∧xs.length=n∧∀x∈xs,(Lit.int k x).wf=true
  | .sl sz ts,l=>∃xs,l = .sl sz xs∧xs.length≤maxLen∧∀x∈xs,Zgg ts x
def Zgg:List Ty→List L→Prop
  | [],ls=>ls = []
  | t::ts,ls=>∃l r,ls=l::r∧LTy t l∧Zgg ts r
end
theorem Zgg.append : ∀{ts us:List Ty} {ls ms:List L},Zgg ts ls→Zgg us ms→Zgg (ts++us) (ls++ms)
  | [],us,ls,ms,h,k=>by rw [Zgg] at h;subst h;exact k
  | t::ts,us,ls,ms,h,k=>by
    rw [Zgg] at h
    obtain ⟨l,r,rfl,h1,h2⟩:=h
    rw [List.cons_append,Zgg]
    exact ⟨l,r++ms,rfl,h1,Zgg.append h2 k⟩
def ZiR (P:Program):Nat→List Field→Nat→Bool
  | off,[],tot=>off==tot
  | off,f::fs,tot=>f.offset==off&&ZiR P (off+P.cellsOf f.type) fs tot
def lay (P:Program):Nat→TypeId→Option (List Ty)
  | 0,_=>none
  | n+1,t=>match P.underlying t with
    | some (.int k)=>some [.int k]
    | some .bool=>some [.bool]
    | some .string=>some [.str]
    | some (.array m e)=>match P.underlying e with
      | some (.int k)=>if P.cellsOf e=1∧P.cellsOf t=m then some [.arr k m] else none
      | _=>none
    | some (.slice e)=>if 0<P.cellsOf e then (lay P n e).map fun ts=>[.sl (P.cellsOf e) ts] else none
    | some (.struct fs)=>if ZiR P 0 fs.toList (P.cellsOf t) then (fs.toList.mapM fun f=>lay P n f.type).map List.flatten else none
    | _=>none
theorem ER_of {g:G} {w:World} {b sz:Nat} {Q:List L→Prop} : ∀(m off:Nat),(∀i,i<m→∃vs x,vs.length=sz∧(∀j v,vs[j]? = some v→w.cell? (ad b (off+i*sz+j))=some v)∧CR g w none vs x∧Q x) →
    ∃xs,xs.length=m∧ER g w b off sz xs∧∀x∈xs,Q x
  | 0,off,_=>⟨[],rfl,.nil _ _ _,fun x h=>by cases h⟩
  | m+1,off,h=>by
    obtain ⟨vs,x,h1,h2,h3,h4⟩:=h 0 (by omega)
    obtain ⟨xs,k1,k2,k3⟩:=ER_of m (off+sz) fun i hi=>by
      obtain ⟨vs,x,h1,h2,h3,h4⟩:=h (i+1) (by omega)
      refine ⟨vs,x,h1,fun j v hj=>?_,h3,h4⟩
      have:=h2 j v hj
      rwa [xO,Nat.one_mul,show off+(i*sz+sz)+j=off+sz+i*sz+j by omega] at this
    refine ⟨x::xs,by simp [k1],.cons b off sz vs x xs h1 (fun j v hj=>?_) h3 k2,fun y hy=>?_⟩
    · have:=h2 j v hj
      rwa [Nat.zero_mul,Nat.add_zero] at this
    · rcases wD.1 hy with rfl | hy
      · exact h4
      · exact k3 y hy
section
variable {H:Type} {enc:TypeId×Value→H} {P:Program} {w:World} {held:Bool}
theorem ZkA {n:Nat} {cs:List Value} (ih : ∀(t:TypeId) (tys:List Ty) (fuel:Nat) (cs:List Value) (x:DataW H×List MemPlace),lay P n t=some tys→DataW.trod enc P w 0 (fun _=>true) held fuel t cs=some x→∃ls,CR (ZjU w) w none cs ls∧Zgg tys ls)
    {fuel:Nat} : ∀(fs:List Field) (off:Nat) (tyss:List (List Ty)),ZiR P off fs cs.length=true→off≤cs.length→fs.mapM (fun f=>lay P n f.type)=some tyss →
    (∀f∈fs,∃x,DataW.trod enc P w 0 (fun _=>true) held fuel f.type ((cs.drop f.offset).take (P.cellsOf f.type))=some x)→∃ls,CR (ZjU w) w none (cs.drop off) ls∧Zgg tyss.flatten ls
  | [],off,tyss,hc,ho,hm,_=>by
    simp only [ZiR,beq_iff_eq] at hc
    simp only [List.mapM_nil] at hm
    cases hm
    refine ⟨[],?_,by rw [List.flatten_nil,Zgg]⟩
    rw [List.drop_eq_nil_of_le (by omega)]
    exact .nil _
  | f::fs,off,tyss,hc,ho,hm,hx=>by
    simp only [ZiR,zQ,beq_iff_eq] at hc
    obtain ⟨hc1,hc2⟩:=hc
    rw [List.mapM_cons] at hm
    obtain ⟨ty,h1,hm⟩:=zW.1 hm
    obtain ⟨tys,h2,hm⟩:=zW.1 hm
    cases hm
    obtain ⟨x,hx1⟩:=hx f (by simp)
    obtain ⟨ls,k1,k2⟩:=ih f.type ty fuel _ x h1 hx1
    have hle:off+P.cellsOf f.type≤cs.length:=by
      clear hx h2 ih
      have : ∀(fs:List Field) (o:Nat),ZiR P o fs cs.length=true→o≤cs.length:=by
        intro fs
        induction fs with
        | nil=>intro o h;simp only [ZiR,beq_iff_eq] at h;omega
        | cons f fs ihf=>intro o h;simp only [ZiR,zQ,beq_iff_eq] at h;have:=ihf _ h.2;omega
      exact this _ _ hc2
    obtain ⟨ms,k3,k4⟩:=ZkA ih fs (off+P.cellsOf f.type) tys hc2 hle h2 (fun f' hf'=>hx f' (List.mem_cons_of_mem _ hf'))
    refine ⟨ls++ms,?_,by rw [List.flatten_cons];exact k2.append k4⟩
    rw [hc1] at k1
    have:=CR.append k1 (vs:=cs.drop (off+P.cellsOf f.type)) (ys:=ms) k3
    rwa [←List.drop_drop,List.take_append_drop] at this
theorem Zjf : ∀(n:Nat) (t:TypeId) (tys:List Ty) (fuel:Nat) (cs:List Value) (x:DataW H×List MemPlace),lay P n t=some tys→DataW.trod enc P w 0 (fun _=>true) held fuel t cs=some x→∃ls,CR (ZjU w) w none cs ls∧Zgg tys ls
  | 0,_,_,_,_,_,h,_=>by simp [lay] at h
  | n+1,t,tys,fuel,cs,x,h,hd=>by
    have one : ∀{ty:Ty} {l:L},LTy ty l→Zgg [ty] [l]:=fun {ty l} h=>by rw [Zgg];exact ⟨l,[],rfl,h,by rw [Zgg]⟩
    simp only [lay] at h
    split at h
    · rename_i k ht
      cases h
      obtain ⟨z,rfl,_,hw⟩:=DataW.trod_int ht hd
      exact ⟨[.int k z],.one _ _ _ _ _ (.int _ _ _) rfl (.nil _),one (by rw [LTy];exact ⟨z,rfl,hw⟩)⟩
    · rename_i ht
      cases h
      obtain ⟨b,rfl,_⟩:=DataW.trod_bool ht hd
      exact ⟨[.bool b],.one _ _ _ _ _ (.bool _ _) rfl (.nil _),one (by rw [LTy];exact ⟨b,rfl⟩)⟩
    · rename_i ht
      cases h
      obtain ⟨s,rfl,_,hw⟩:=DataW.trod_string ht hd
      exact ⟨[.str s],.one _ _ _ _ _ (.str _ _) rfl (.nil _),one (by rw [LTy];exact ⟨s,rfl,hw⟩)⟩
    · rename_i m e ht
      split at h<;>try (cases h;done)
      rename_i k he
      split at h<;>try (cases h;done)
      rename_i hc
      cases h
      obtain ⟨ys,fu,_,_,h3,h4,h5⟩:=DataW.trod_array ht hd
      rw [hc.1] at h5
      rw [hc.2] at h3
      have each : ∀i,i<m→∃z,cs[i]? = some (.int k z)∧(Lit.int k z).wf=true:=by
        intro i hi
        have h6:=h5 i hi
        rw [Nat.mul_one,zS (by omega)] at h6
        obtain ⟨z,h7,_,hw⟩:=DataW.trod_int he h6
        have h8:=congrArg (fun l:List Value=>l[0]?) h7
        simp only [yS,xF] at h8
        exact ⟨z,by simpa using h8,hw⟩
      have hcs:cs=(cs.map fun v=>match v with | .int _ z=>z | _=>0).map (Value.int k):=by
        apply List.ext_getElem?
        intro i
        by_cases hi:i<m
        · obtain ⟨z,hz,_⟩:=each i hi
          rw [yQ,yQ,hz];rfl
        · rw [zM (by omega),zM (by simp;omega)]
      refine ⟨[.arr k m (cs.map fun v=>match v with | .int _ z=>z | _=>0)],?_,one (by
        rw [LTy]
        refine ⟨_,rfl,by simpa using h3,fun y hy=>?_⟩
        obtain ⟨v,hv,rfl⟩:=List.mem_map.1 hy
        obtain ⟨i,hi,e⟩:=List.getElem_of_mem hv
        obtain ⟨z,hz,hw⟩:=each i (by omega)
        rw [zS hi,e] at hz
        cases hz
        exact hw)⟩
      have:=CR.arr (g:=ZjU w) (w:=w) none k m (cs.map fun v=>match v with | .int _ z=>z | _=>0) [] [] (by simpa using h3) (.nil _)
      rwa [List.append_nil,←hcs] at this
    · rename_i e ht
      split at h<;>try (cases h;done)
      rename_i hpos
      obtain ⟨ts,h1,h2⟩:=zG.1 h
      subst h2
      rcases DataW.trod_slice ht hd with ⟨rfl,_⟩ | ⟨a,len,cap,elems,rest,fu,_,rfl,_,hb,hl,hm,hlen,hel,hsp,_⟩
      · exact ⟨[.sl (P.cellsOf e) []],.one _ _ _ _ _ (.slnil _ _) rfl (.nil _),one (by rw [LTy];exact ⟨[],rfl,xE _,fun x h=>by cases h⟩)⟩
      · have el : ∀i,i<len→∃vs y,w.cells? 0 (a.add (i*P.cellsOf e)) (P.cellsOf e)=some vs∧DataW.trod enc P w 0 (fun _=>true) held fu e vs=some y:=fun i hi=>by
          have:=hel i hi
          rw [zS (by omega)] at this
          obtain ⟨vs,h3,h4⟩:=zW.1 this
          exact ⟨vs,_,h3,h4⟩
        have hlong:len≤maxLen:=by omega
        by_cases hc0:cap=0
        · subst hc0
          obtain rfl:len=0:=by omega
          exact ⟨[.sl (P.cellsOf e) []],.one _ _ _ _ _ (.slz _ _ _) rfl (.nil _),one (by rw [LTy];exact ⟨[],rfl,xE _,fun x h=>by cases h⟩)⟩
        · have first : ∃vs,w.cells? 0 (a.add (0*P.cellsOf e)) (P.cellsOf e)=some vs:=by
            by_cases hl0:0<len
            · obtain ⟨vs,_,h3,_⟩:=el 0 hl0
              exact ⟨vs,h3⟩
            · obtain ⟨k1,k2⟩:=hsp rfl
              have:=k2 0 (by omega)
              rw [zS (by omega),show len+0=0 by omega] at this
              obtain ⟨vs,h3,_⟩:=zW.1 this
              exact ⟨vs,h3⟩
          obtain ⟨vs0,hv0⟩:=first
          obtain ⟨_,c1,c2⟩:=World.cells?_some hv0
          have c3:=c2 0 hpos
          rw [zS (by omega)] at c3
          obtain ⟨b,off,spot⟩:=a
          have hspot:spot=none:=by
            have:=World.cell?_spot c3
            simpa [Addr.add] using this
          subst hspot
          have cel : ∀i,i<len→∃vs y,vs.length=P.cellsOf e∧(∀j v,vs[j]? = some v→w.cell? (ad b (off+i*P.cellsOf e+j))=some v)∧DataW.trod enc P w 0 (fun _=>true) held fu e vs=some y:=fun i hi=>by
            obtain ⟨vs,y,h3,h4⟩:=el i hi
            obtain ⟨_,d1,d2⟩:=World.cells?_some h3
            refine ⟨vs,y,d1,fun j v hj=>?_,h4⟩
            have:=d2 j (by have:=Zla hj;omega)
            rw [add_plain,add_plain,hj] at this
            exact this
          obtain ⟨xs,q1,q2,q3⟩:=ER_of (g:=ZjU w) (w:=w) (b:=b) (sz:=P.cellsOf e) (Q:=Zgg ts) len off (fun i hi=>by
            obtain ⟨vs,y,d1,d2,d3⟩:=cel i hi
            obtain ⟨ls,d4,d5⟩:=Zjf n e ts fu vs y h1 d3
            exact ⟨vs,ls,d1,d2,d4,d5⟩)
          have hZ:off+len*P.cellsOf e≤(ZjU w).Z b:=by
            by_cases hl0:0<len
            · obtain ⟨vs,y,d1,d2,_⟩:=cel (len-1) (by omega)
              have:=ZjT (d2 (P.cellsOf e-1) _ (zS (by omega)))
              have e1:len*P.cellsOf e=(len-1)*P.cellsOf e+P.cellsOf e:=by
                conv=>lhs;rw [show len=len-1+1 by omega,xO,Nat.one_mul]
              omega
            · obtain rfl:len=0:=by omega
              rw [add_plain,add_plain,Nat.zero_mul] at c3
              have:=ZjT c3
              omega
          refine ⟨[.sl (P.cellsOf e) xs],.one _ _ _ _ _ (.sl _ b off len cap _ xs q1 hl hZ q2) rfl (.nil _),one (by rw [LTy];exact ⟨xs,rfl,by omega,q3⟩)⟩
    · rename_i fs ht
      split at h<;>try (cases h;done)
      rename_i hc
      obtain ⟨tyss,h1,rfl⟩:=zG.1 h
      obtain ⟨xs,fu,_,_,hlen,hxl,hf⟩:=DataW.trod_struct ht hd
      rw [←hlen] at hc
      have:=ZkA (enc:=enc) (held:=held) (cs:=cs) (fuel:=fu) (Zjf n) fs.toList 0 tyss hc (xE _) h1 (fun f hfm=>by
        obtain ⟨i,hi,e⟩:=List.getElem_of_mem hfm
        have hi':i<fs.size:=by simpa using hi
        have hfi:fs[i]? = some f:=by rw [sN hi',←e];simp
        have:=hf i f hfi
        rw [zS (by omega)] at this
        exact ⟨_,this⟩)
      simpa using this
    · cases h
theorem law_rows {r:Reach} {b0:Nat} {t e:TypeId} {v:Value} {d:DataW H} {p:List MemPlace} (i:Nat) (n:Nat) {ts:List Ty} (ht:P.underlying t=some (.slice e)) (hl:lay P n e=some ts) (hpos:0<P.cellsOf e)
    (hval:Value.okWide P w r b0 t v) (h:DataW.Trod enc P w 0 (fun _=>true) held t v d p) :
    ∃xs,CVR (ZjU w) w i v (.one (.sl (P.cellsOf e) xs))∧(∀x∈xs,Zgg ts x)∧xs.length≤maxLen:=by
  obtain ⟨fuel,hf⟩:=h
  have hv : ∃q n c,v = .slice q n c:=by
    simp only [Value.okWide,ht,Cell.okWide,Cell.ok] at hval
    split at hval<;>simp_all
  obtain ⟨q,m,c,rfl⟩:=hv
  obtain ⟨ls,h1,h2⟩:=Zjf (n+1) t [.sl (P.cellsOf e) ts] fuel _ _ (by simp only [lay,ht,hpos,if_true,hl,yN]) hf
  rw [Zgg] at h2
  obtain ⟨l,r',rfl,h3,h4⟩:=h2
  rw [Zgg] at h4;subst h4
  rw [LTy] at h3
  obtain ⟨xs,rfl,h5,h6⟩:=h3
  have h1':CR (ZjU w) w none [.slice q m c] [.sl (P.cellsOf e) xs]:=h1
  generalize hvs : [Value.slice q m c]=vs at h1'
  cases h1' with
  | one _ _ _ _ _ hv h1 hr=>cases hvs;exact ⟨xs,⟨rfl,hv⟩,h6,h5⟩
theorem Zpp {r:Reach} {b0:Nat} {t:TypeId} {fs:Array Field} {v:Value} {d:DataW H} {p:List MemPlace} (i:Nat) (n:Nat) {tys:List Ty} (ht:P.underlying t=some (.struct fs)) (hl:lay P n t=some tys)
    (hval:Value.okWide P w r b0 t v) (h:DataW.Trod enc P w 0 (fun _=>true) held t v d p) :
    ∃ls,CVR (ZjU w) w i v (.agg ls)∧Zgg tys ls:=by
  obtain ⟨fuel,hf⟩:=h
  have hv : ∃cs,v = .agg cs:=by
    simp only [Value.okWide,ht] at hval
    obtain ⟨cs,h,_⟩:=hval
    exact ⟨cs,h⟩
  obtain ⟨cs,rfl⟩:=hv
  obtain ⟨ls,h1,h2⟩:=Zjf n t tys fuel _ _ hl hf
  exact ⟨ls,⟨cs,rfl,h1⟩,h2⟩
theorem Zgg.cons_inv {t:Ty} {ts:List Ty} {ls:List L} (h:Zgg (t::ts) ls) : ∃l r,ls=l::r∧LTy t l∧Zgg ts r:=by rwa [Zgg] at h
theorem Zgg.nil_inv {ls:List L} (h:Zgg [] ls):ls = []:=by rwa [Zgg] at h
theorem LTy.int_inv {k:IntKind} {l:L} (h:LTy (.int k) l) : ∃n,l = .int k n∧(Lit.int k n).wf=true:=by rwa [LTy] at h
theorem LTy.bool_inv {l:L} (h:LTy .bool l) : ∃b,l = .bool b:=by rwa [LTy] at h
theorem LTy.arr_inv {k:IntKind} {n:Nat} {l:L} (h:LTy (.arr k n) l) : ∃xs,l = .arr k n xs∧xs.length=n∧∀x∈xs,(Lit.int k x).wf=true:=by rwa [LTy] at h
theorem LTy.sl_inv {sz:Nat} {ts:List Ty} {l:L} (h:LTy (.sl sz ts) l) : ∃xs,l = .sl sz xs∧xs.length≤maxLen∧∀x∈xs,Zgg ts x:=by rwa [LTy] at h
end
theorem ZoF {α:Type} {e:α→List L} {good:α→Prop} : ∀{xs:List (List L)},(∀x∈xs,∃a,x=e a∧good a)→∃bs:List α,xs=bs.map e∧∀a∈bs,good a
  | [],_=>⟨[],rfl,fun a h=>by cases h⟩
  | x::xs,h=>by
    obtain ⟨a,h1,h2⟩:=h x (by simp)
    obtain ⟨bs,h3,h4⟩:=ZoF fun y hy=>h y (List.mem_cons_of_mem _ hy)
    refine ⟨a::bs,by rw [h1,h3];rfl,fun b hb=>?_⟩
    rcases wD.1 hb with rfl | hb
    · exact h2
    · exact h4 b hb
end Go.Dn
namespace Go.Dn
abbrev LL:=List (List L)
abbrev LM:=List (L×L)
abbrev w64 (n:Int):Int:=IntKind.wrap .i64 n
abbrev v64 (n:Int):Int:=IntKind.wrap .u64 n
abbrev v32 (n:Int):Int:=IntKind.wrap .u32 n
abbrev v8 (n:Int):Int:=IntKind.wrap .u8 n
abbrev len {α:Type} (l:List α):Int:=(l.length:Int)
def gs (l:List L) (i:Nat):List L:=l.set i .gone
def lsT:List L→List T
  | []=>[]
  | x::r=>.l x::lsT r
variable [Globs]
theorem aI {p q:Prop} (a:p) (b:q):p∧q:=⟨a,b⟩
section
variable {P:Program} {f:FuncId} {g:G} {w:World} {rs:List CV} {st st':LL}
theorem LR.nil_sz {p:Option (Nat×Nat)} {v:Value} {a:Nat} (b:Nat) (h:LR g w p v (.sl a [])):LR g w p v (.sl b []):=by
  cases h with
  | slnil=>exact .slnil _ _
  | slz _ _ a=>exact .slz _ _ a
  | sl _ bl off len cap _ _ hl hc hZ he=>
    cases hl
    exact .sl _ bl off 0 cap b [] rfl hc (by simpa using hZ) (.nil _ _ _)
theorem Zfk.nl {a:Nat} (b:Nat) : ∀{cs:List CV} {i:Nat} {vs:List Value},Zfk g w i vs (cs ++ [.one (.sl a [])])→Zfk g w i vs (cs ++ [.one (.sl b [])])
  | [],i,vs,h=>by
    obtain ⟨v,rest,h1,h2,h3⟩:=h
    exact ⟨v,rest,h1,⟨h2.1,h2.2.nil_sz b⟩,h3⟩
  | c::cs,i,vs,h=>by
    obtain ⟨v,rest,h1,h2,h3⟩:=h
    exact ⟨v,rest,h1,h2,Zfk.nl b h3⟩
theorem Snd.nl {cs:List CV} {a:Nat} (h:Snd P f (cs ++ [.one (.sl a [])]) st rs st'):Snd P f (cs ++ [.one (.sl 0 [])]) st rs st':=⟨h.1,fun g w vs hv hm=>h.2 g w vs (hv.nl a) hm⟩
theorem Zde.nl {cs:List CV} {a:Nat} (h:Zde P f (cs ++ [.one (.sl a [])]) rs):Zde P f (cs ++ [.one (.sl 0 [])]) rs:=fun st=>(h st).nl
end
section
variable {p q r s t u v w:Prop}
theorem aJ (a:p) (b:q) (c:r):p∧q∧r:=⟨a,b,c⟩
theorem aK (a:p) (b:q) (c:r) (d:s):p∧q∧r∧s:=⟨a,b,c,d⟩
theorem aL (a:p) (b:q) (c:r) (d:s) (e:t):p∧q∧r∧s∧t:=⟨a,b,c,d,e⟩
theorem aM (a:p) (b:q) (c:r) (d:s) (e:t) (f:u):p∧q∧r∧s∧t∧u:=⟨a,b,c,d,e,f⟩
theorem aN (a:p) (b:q) (c:r) (d:s) (e:t) (f:u) (g:v):p∧q∧r∧s∧t∧u∧v:=⟨a,b,c,d,e,f,g⟩
theorem aO (a:p) (b:q) (c:r) (d:s) (e:t) (f:u) (g:v) (h:w):p∧q∧r∧s∧t∧u∧v∧w:=⟨a,b,c,d,e,f,g,h⟩
end
abbrev sI (n:Int):TV:=.one (.l (L.int .i64 n))
abbrev sP (p:Option Nat):TV:=.one (.l (L.ptr p))
abbrev sV (n:Nat) (l:LL):TV:=.one (.l (L.sl n l))
abbrev sA (n:Nat):TV:=.one (.adr (.site n) 0)
abbrev oI (n:Int):CV:=.one (L.int .i64 n)
abbrev oB (b:Bool):CV:=.one (L.bool b)
def wF:D:={want:=false}
def yF:D:={yes:=false}
abbrev q1 (l:List CV):D:={rs:=l,m:=1}
abbrev q0 (l:List CV):D:={rs:=l,m:=10}
theorem eF:false=false:=rfl
theorem eT:true=true:=rfl
theorem oD {p:Prop} [Decidable p] (h:decide p=true):p:=of_decide_eq_true h
theorem leI (a b:Int) (h:decide (a≤b)=true:=by rfl):a≤b:=of_decide_eq_true h
theorem ltI (a b:Int) (h:decide (a<b)=true:=by rfl):a<b:=of_decide_eq_true h
theorem ix {q:Prop} (a b:Int) (c:q) (h:decide (0≤a)=true:=by rfl) (k:decide (a<b)=true:=by rfl):0≤a∧a<b∧q:=⟨of_decide_eq_true h,of_decide_eq_true k,c⟩
theorem leN (a b:Nat) (h:Nat.ble a b=true:=by rfl):a≤b:=Nat.le_of_ble_eq_true h
theorem neI (a:Int) (h:decide (a≠0)=true:=by rfl):a≠0:=of_decide_eq_true h
theorem eN (a:Nat):a=a:=rfl
theorem eB (a:Bool):a=a:=rfl
theorem z0:(0:Nat)=0:=rfl
theorem eO (a:List L):some a=some a:=rfl
section
variable {st:LL} {ls ks:List L}
theorem bN:BVs st [] []:=.nil
theorem bP {l:L} (r:BVs st ls ks) (h:l.plain=true:=by rfl):BVs st (l::ls) (l::ks):=.pl l ls ks h r
theorem bS {sz:Nat} {xs:LL} (r:BVs st ls ks):BVs st (.sl sz xs::ls) (.sl sz xs::ks):=.sl sz xs ls ks r
theorem bW {e:Bool} {sz:Nat} {xs:LL} (r:BVs st ls ks):BVs st (.own e sz xs::ls) (.sl sz xs::ks):=.own e sz xs ls ks r
theorem bM {es:LM} (r:BVs st ls ks):BVs st (.mp es::ls) (.mz es::ks):=.mp es ls ks r
theorem bO {i:Nat} (n:Nat) {c cs:List L} (h:st[i]? = some c) (hc:BVs st c cs) (hn:sizes cs=n:=by kernel_rfl) (hne:c.isEmpty=false:=by kernel_rfl):BVs st [.ptr (some i)] [.bx n cs]:=.obj i n c cs [] [] h hc hn hne .nil
end
section
variable {P:Program} {g0:G} {w0:World} {R:Exit→Act→World→Prop} {ks ks':List K} {s s':S} {A:Prop}
abbrev XK (P:Program) (R:Exit→Act→World→Prop) (ks:List K):Act→World→Prop:=exK P R ks .normal
theorem aq (hfol:P.follows .mixedOrders=true) (ds:List PS) (live sites:List Nat) (a:A) (hk:At g0 w0 s' (exK P R ks' .normal))
    (h:((ks',s')=(ks',s')∧(A→A))=ZnX (goQ (Zdn P) 400 ks s ds live sites) ks' s' A:=by kernel_rfl):At g0 w0 s (exK P R ks .normal):=At.q hfol 400 ds live sites a hk h
theorem aqd (hfol:P.follows .mixedOrders=true) (ds:List PS) (live sites:List Nat) (a:A) (hk:At g0 w0 s' (exK P R ks' .normal))
    (h:((ks',s')=(ks',s')∧(A→A))=ZnX (goQd (Zdn P) 400 ks s ds live sites) ks' s' A:=by kernel_rfl) (hc:ZhZ true (goS (Zdn P) 400 ks .n s ds)=ZhZ false (goS (Zdn P) 400 ks .n s ds):=by kernel_rfl):At g0 w0 s (exK P R ks .normal):=At.qd hfol 400 ds live sites a hk h hc
theorem an {J:Act→World→Prop} (hfol:P.follows .mixedOrders=true) (ds:List PS) (live sites:List Nat) (a:A) (hk:At g0 w0 s' J)
    (h:((some (K.h J),s')=(some (K.h J),s')∧(A→A))=ZnY (goQ (Zdn P) 400 ks s ds live sites) (.h J) s' A:=by kernel_rfl):At g0 w0 s (exK P R ks .normal):=At.n hfol 400 ds live sites a hk h
theorem ZiS {J:Act→World→Prop} (hfol:P.follows .mixedOrders=true) (ds:List PS) (live sites:List Nat) (a:A) (hk:At g0 w0 s' J)
    (h:((some (K.h J),s')=(some (K.h J),s')∧(A→A))=ZnY (goQd (Zdn P) 400 ks s ds live sites) (.h J) s' A:=by kernel_rfl) (hc:ZhZ true (goS (Zdn P) 400 ks .n s ds)=ZhZ false (goS (Zdn P) 400 ks .n s ds):=by kernel_rfl):At g0 w0 s (exK P R ks .normal):=At.nd hfol 400 ds live sites a hk h hc
theorem af {fn:Func} {rs:List CV} {st':List (List L)} (hfol:P.follows .mixedOrders=true) (hE:Zkm P fn g0 w0 rs st' R) (ds:List PS) (oc:List L) (md:Nat) (own:List Nat) (a:A)
    (h:((rs,st')=(rs,st')∧(A→A))=ZgQ (finQ P fn (Zdn P) 400 ks s ds oc md own) rs st' A:=by kernel_rfl):At g0 w0 s (exK P R ks .normal):=At.f hfol hE 400 ds oc md own a h
theorem afd {fn:Func} {rs:List CV} {st':List (List L)} (hfol:P.follows .mixedOrders=true) (hE:Zkm P fn g0 w0 rs st' R) (ds:List PS) (oc:List L) (md:Nat) (own:List Nat) (a:A)
    (h:((rs,st')=(rs,st')∧(A→A))=ZgQ (ZlK P fn (Zdn P) 400 ks s ds oc md own) rs st' A:=by kernel_rfl) (hc:ZhZ true (goS (Zdn P) 400 ks .n s ds)=ZhZ false (goS (Zdn P) 400 ks .n s ds):=by kernel_rfl):At g0 w0 s (exK P R ks .normal):=At.fd hfol hE 400 ds oc md own a h hc
theorem sO {f:FuncId} {fn:Func} (c:Code) {args:List CV} {st:List (List L)} {rs:List CV} {st':List (List L)} (hf:P.funcs[f]? = some fn)
    (h : ∀(g:G) (w:World) (R:Exit→Act→World→Prop),Zkm P fn g w rs st' R→At g w (S.enter fn.ntmps args st) (exK P R [.c c] .normal))
    (hn : (fn.name == "runtime.NumGoroutine") = false := by kernel_rfl) (hb : fn.body = some c := by kernel_rfl) (hlen : decide (args.length ≤ fn.ntmps) = true := by kernel_rfl) : Snd P f args st rs st' :=
  Snd.of hf hn hb (of_decide_eq_true hlen) h
end
section
variable {α:Type} {r:α} {A:Option α}
def Zds {κ:Type} (o:Option (List L)) (d:List L→κ→Option α) (k:κ):Option α:=Zbt o fun e=>d e k
@[simp] theorem ZaJ {κ:Type} (e:List L) (d:List L→κ→Option α) (k:κ):Zds (some e) d k=d e k:=rfl
theorem ck2 {p0 p1:Prop} [Decidable p0] [Decidable p1] (h:chk p0 (chk p1 A)=some r):p0∧p1∧A=some r:=by
  obtain ⟨a,h⟩:=ZaP h;exact ⟨a,ZaP h⟩
theorem ck3 {p0 p1 p2:Prop} [Decidable p0] [Decidable p1] [Decidable p2] (h:chk p0 (chk p1 (chk p2 A))=some r):p0∧p1∧p2∧A=some r:=by
  obtain ⟨a,h⟩:=ZaP h;exact ⟨a,ck2 h⟩
theorem ck4 {p0 p1 p2 p3:Prop} [Decidable p0] [Decidable p1] [Decidable p2] [Decidable p3] (h:chk p0 (chk p1 (chk p2 (chk p3 A)))=some r):p0∧p1∧p2∧p3∧A=some r:=by
  obtain ⟨a,h⟩:=ZaP h;exact ⟨a,ck3 h⟩
theorem ck5 {p0 p1 p2 p3 p4:Prop} [Decidable p0] [Decidable p1] [Decidable p2] [Decidable p3] [Decidable p4] (h:chk p0 (chk p1 (chk p2 (chk p3 (chk p4 A))))=some r):p0∧p1∧p2∧p3∧p4∧A=some r:=by
  obtain ⟨a,h⟩:=ZaP h;exact ⟨a,ck4 h⟩
theorem ck6 {p0 p1 p2 p3 p4 p5:Prop} [Decidable p0] [Decidable p1] [Decidable p2] [Decidable p3] [Decidable p4] [Decidable p5] (h:chk p0 (chk p1 (chk p2 (chk p3 (chk p4 (chk p5 A)))))=some r):p0∧p1∧p2∧p3∧p4∧p5∧A=some r:=by
  obtain ⟨a,h⟩:=ZaP h;exact ⟨a,ck5 h⟩
theorem ck7 {p0 p1 p2 p3 p4 p5 p6:Prop} [Decidable p0] [Decidable p1] [Decidable p2] [Decidable p3] [Decidable p4] [Decidable p5] [Decidable p6] (h:chk p0 (chk p1 (chk p2 (chk p3 (chk p4 (chk p5 (chk p6 A))))))=some r):p0∧p1∧p2∧p3∧p4∧p5∧p6∧A=some r:=by
  obtain ⟨a,h⟩:=ZaP h;exact ⟨a,ck6 h⟩
theorem ck8 {p0 p1 p2 p3 p4 p5 p6 p7:Prop} [Decidable p0] [Decidable p1] [Decidable p2] [Decidable p3] [Decidable p4] [Decidable p5] [Decidable p6] [Decidable p7] (h:chk p0 (chk p1 (chk p2 (chk p3 (chk p4 (chk p5 (chk p6 (chk p7 A)))))))=some r):p0∧p1∧p2∧p3∧p4∧p5∧p6∧p7∧A=some r:=by
  obtain ⟨a,h⟩:=ZaP h;exact ⟨a,ck7 h⟩
end
theorem xS {P:Program} {g0:G} {w0:World} {R:Exit→Act→World→Prop} {f:Func} {ρ1:Type} {q:ρ1→List CV} {u:List (List L)} {x r:ρ1} {ks:List K} {s:S} (hfol:P.follows .mixedOrders=true) (e:some x=some r) (hE:Zkm P f g0 w0 (q r) u R) (ds:List PS) {A:Prop} (a:A) (h:((q x,u)=(q x,u)∧(A→A))=ZgQ (finQ P f (Zdn P) 400 ks s ds [] 0 []) (q x) u A:=by kernel_rfl):At g0 w0 s (exK P R ks .normal):=by cases e;exact af hfol hE ds [] 0 [] a h
theorem xR {P:Program} {g0:G} {w0:World} {R:Exit→Act→World→Prop} {f:Func} {q:(List (List L))→List CV} {x r:(List (List L))} {ks:List K} {s:S} (hfol:P.follows .mixedOrders=true) (e:some x=some r) (hE:Zkm P f g0 w0 (q r) r R) (ds:List PS) {A:Prop} (a:A) (h:((q x,x)=(q x,x)∧(A→A))=ZgQ (finQ P f (Zdn P) 400 ks s ds [] 0 []) (q x) x A:=by kernel_rfl):At g0 w0 s (exK P R ks .normal):=by cases e;exact af hfol hE ds [] 0 [] a h
theorem xT {P:Program} {g0:G} {w0:World} {R:Exit→Act→World→Prop} {f:Func} {ρ1:Type} {q:(ρ1×List (List L))→List CV} {x r:(ρ1×List (List L))} {ks:List K} {s:S} (hfol:P.follows .mixedOrders=true) (e:some x=some r) (hE:Zkm P f g0 w0 (q r) r.2 R) (ds:List PS) {A:Prop} (a:A) (h:((q x,x.2)=(q x,x.2)∧(A→A))=ZgQ (finQ P f (Zdn P) 400 ks s ds [] 0 []) (q x) x.2 A:=by kernel_rfl):At g0 w0 s (exK P R ks .normal):=by cases e;exact af hfol hE ds [] 0 [] a h
theorem xU {P:Program} {g0:G} {w0:World} {R:Exit→Act→World→Prop} {f:Func} {ρ1 ρ2:Type} {q:(ρ1×ρ2×List (List L))→List CV} {x r:(ρ1×ρ2×List (List L))} {ks:List K} {s:S} (hfol:P.follows .mixedOrders=true) (e:some x=some r) (hE:Zkm P f g0 w0 (q r) r.2.2 R) (ds:List PS) {A:Prop} (a:A) (h:((q x,x.2.2)=(q x,x.2.2)∧(A→A))=ZgQ (finQ P f (Zdn P) 400 ks s ds [] 0 []) (q x) x.2.2 A:=by kernel_rfl):At g0 w0 s (exK P R ks .normal):=by cases e;exact af hfol hE ds [] 0 [] a h
theorem xV {P:Program} {g0:G} {w0:World} {R:Exit→Act→World→Prop} {f:Func} {ρ1 ρ2 ρ3:Type} {q:(ρ1×ρ2×ρ3×List (List L))→List CV} {x r:(ρ1×ρ2×ρ3×List (List L))} {ks:List K} {s:S} (hfol:P.follows .mixedOrders=true) (e:some x=some r) (hE:Zkm P f g0 w0 (q r) r.2.2.2 R) (ds:List PS) {A:Prop} (a:A) (h:((q x,x.2.2.2)=(q x,x.2.2.2)∧(A→A))=ZgQ (finQ P f (Zdn P) 400 ks s ds [] 0 []) (q x) x.2.2.2 A:=by kernel_rfl):At g0 w0 s (exK P R ks .normal):=by cases e;exact af hfol hE ds [] 0 [] a h
theorem xSd {P:Program} {g0:G} {w0:World} {R:Exit→Act→World→Prop} {f:Func} {ρ1:Type} {q:ρ1→List CV} {u:List (List L)} {x r:ρ1} {ks:List K} {s:S} (hfol:P.follows .mixedOrders=true) (e:some x=some r) (hE:Zkm P f g0 w0 (q r) u R) (ds:List PS) {A:Prop} (a:A) (h:((q x,u)=(q x,u)∧(A→A))=ZgQ (ZlK P f (Zdn P) 400 ks s ds [] 0 []) (q x) u A:=by kernel_rfl) (hc:ZhZ true (goS (Zdn P) 400 ks .n s ds)=ZhZ false (goS (Zdn P) 400 ks .n s ds):=by kernel_rfl):At g0 w0 s (exK P R ks .normal):=by cases e;exact afd hfol hE ds [] 0 [] a h hc
theorem xRd {P:Program} {g0:G} {w0:World} {R:Exit→Act→World→Prop} {f:Func} {q:(List (List L))→List CV} {x r:(List (List L))} {ks:List K} {s:S} (hfol:P.follows .mixedOrders=true) (e:some x=some r) (hE:Zkm P f g0 w0 (q r) r R) (ds:List PS) {A:Prop} (a:A) (h:((q x,x)=(q x,x)∧(A→A))=ZgQ (ZlK P f (Zdn P) 400 ks s ds [] 0 []) (q x) x A:=by kernel_rfl) (hc:ZhZ true (goS (Zdn P) 400 ks .n s ds)=ZhZ false (goS (Zdn P) 400 ks .n s ds):=by kernel_rfl):At g0 w0 s (exK P R ks .normal):=by cases e;exact afd hfol hE ds [] 0 [] a h hc
theorem xTd {P:Program} {g0:G} {w0:World} {R:Exit→Act→World→Prop} {f:Func} {ρ1:Type} {q:(ρ1×List (List L))→List CV} {x r:(ρ1×List (List L))} {ks:List K} {s:S} (hfol:P.follows .mixedOrders=true) (e:some x=some r) (hE:Zkm P f g0 w0 (q r) r.2 R) (ds:List PS) {A:Prop} (a:A) (h:((q x,x.2)=(q x,x.2)∧(A→A))=ZgQ (ZlK P f (Zdn P) 400 ks s ds [] 0 []) (q x) x.2 A:=by kernel_rfl) (hc:ZhZ true (goS (Zdn P) 400 ks .n s ds)=ZhZ false (goS (Zdn P) 400 ks .n s ds):=by kernel_rfl):At g0 w0 s (exK P R ks .normal):=by cases e;exact afd hfol hE ds [] 0 [] a h hc
theorem xUd {P:Program} {g0:G} {w0:World} {R:Exit→Act→World→Prop} {f:Func} {ρ1 ρ2:Type} {q:(ρ1×ρ2×List (List L))→List CV} {x r:(ρ1×ρ2×List (List L))} {ks:List K} {s:S} (hfol:P.follows .mixedOrders=true) (e:some x=some r) (hE:Zkm P f g0 w0 (q r) r.2.2 R) (ds:List PS) {A:Prop} (a:A) (h:((q x,x.2.2)=(q x,x.2.2)∧(A→A))=ZgQ (ZlK P f (Zdn P) 400 ks s ds [] 0 []) (q x) x.2.2 A:=by kernel_rfl) (hc:ZhZ true (goS (Zdn P) 400 ks .n s ds)=ZhZ false (goS (Zdn P) 400 ks .n s ds):=by kernel_rfl):At g0 w0 s (exK P R ks .normal):=by cases e;exact afd hfol hE ds [] 0 [] a h hc
theorem xVd {P:Program} {g0:G} {w0:World} {R:Exit→Act→World→Prop} {f:Func} {ρ1 ρ2 ρ3:Type} {q:(ρ1×ρ2×ρ3×List (List L))→List CV} {x r:(ρ1×ρ2×ρ3×List (List L))} {ks:List K} {s:S} (hfol:P.follows .mixedOrders=true) (e:some x=some r) (hE:Zkm P f g0 w0 (q r) r.2.2.2 R) (ds:List PS) {A:Prop} (a:A) (h:((q x,x.2.2.2)=(q x,x.2.2.2)∧(A→A))=ZgQ (ZlK P f (Zdn P) 400 ks s ds [] 0 []) (q x) x.2.2.2 A:=by kernel_rfl) (hc:ZhZ true (goS (Zdn P) 400 ks .n s ds)=ZhZ false (goS (Zdn P) 400 ks .n s ds):=by kernel_rfl):At g0 w0 s (exK P R ks .normal):=by cases e;exact afd hfol hE ds [] 0 [] a h hc
noncomputable abbrev rZ:PS:=.r []
noncomputable abbrev cT:PS:=.c true
noncomputable abbrev cF:PS:=.c false
noncomputable abbrev cK (b:Code) (l:List Nat):K:=.c (Zbn b l)
end Go.Dn
