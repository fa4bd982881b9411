import Derived.Test.YtlofpeadcmldhaaGreatDoorKb
import Derived.Sort.Row
import Derived.Sort.Grow
import Derived.Laws.MakeOwn
import Derived.KernelRfl
import Derived.Laws.Externs
import Derived.Lib.SliceRun
import Derived.OpenShut
import Derived.Carry
import Derived.SizedLaws
import Derived.LaidLaws
import Derived.LaidHandle
import Derived.FnData
set_option linter.all false
open Array renaming getElem?_eq_none→sZ,getElem?_append_left→wQ,getElem?_modify→uH,getElem?_eq_getElem→vQ
open Bool renaming and_eq_true→zO
open Go.Dn.L renaming int→zJ
open Int renaming eq_ofNat_of_zero_le→uS
open List renaming replicate→zC,map_cons→yP,append_nil→xZ,length_replicate→wT,getElem?_replicate→xW,getElem?_eq_none→zL,getElem?_map→yG,getElem?_take→yL,getElem?_drop→yZ,take_of_length_le→yD,all_cons→yT,getElem?_cons_zero→yA,getElem?_set_self→zQ,all_eq_true→xG,mem_cons→xC,take_append_drop→wA,ext_getElem?→wJ,getElem?_append_left→zP,length_singleton→yX,eq_nil_of_length_eq_zero→tM,getElem?_eq_getElem→zN,getElem?_eq_some_iff→zX
open Nat renaming mul_one→uL,le_refl→zI,add_mul→xE,mul_le_mul_right→xX,lt_or_ge→zT,zero_le→yU,zero_add→zZ,add_zero→wB,le_trans→xF,lt_of_lt_of_le→yQ,zero_mul→sY,not_lt_zero→rF
open Option renaming map_eq_some_iff→zD,bind_eq_some_iff→zU,isSome_iff_exists→sL,map_some→yJ,map_none→wG
open Option.some renaming injEq→zA
open Prod.mk renaming injEq→zB
namespace Go.Dn
variable [Globs]
def vT (s:S) (oc:List L) (md:Nat):T→Option (T×List Prop)
  | .h src sz lo len=>match ZfK s oc src with
    | some (false,sz',xs,ps)=>if sz=sz' then some (.l (.sl sz (win md xs lo len).1),(win md xs lo len).2++ps) else none
    | _=>none
  | t=>some (t,[])
section
variable {P:Program} {g g':G} {s:S} {w w':World}
end
def Zph (P:Program) (s:S) (o:Oper):Option TV:=
  match o.op with
  | .assign x=>if Zpu x then match P.underlying o.type with
    | some (.slice e)=>(P.info? e).map fun i=>.one (.l (.own true i.size []))
    | _=>none
    else none
  | _=>none
theorem Zcj.nil2 {P:Program} {s:S} {o:Oper} {tv:TV} (h:Zph P s o=some tv):Zcj P o [] s (s.put o.dst tv):=by
  refine .value fun g w a hs=>?_
  unfold Zph at h
  split at h<;>try (cases h;done)
  rename_i x ho
  split at h<;>try (cases h;done)
  rename_i hnil
  split at h<;>try (cases h;done)
  obtain ⟨i,h1,rfl⟩:=zD.1 h
  have hv:a.eval x = .slice none 0 0:=by
    unfold Zpu at hnil
    split at hnil
    · rfl
    · cases hnil
  exact ⟨.slice none 0 0,by simp [execOp,ho,hv],rfl,.ownnil _ _ _⟩
def ZlN (s:S) (k:IntKind):List Int→List (Nat×Operand)→Option (List Int)
  | xs,[]=>some xs
  | xs,(i,x)::r=>match (ev s x).bind Zkt with
    | some (.int k' v)=>if k'=k∧i<xs.length then ZlN s k (xs.set i v) r else none
    | _=>none
def buildA (P:Program) (s:S) (o:Oper):Option TV:=
  match o.op with
  | .build t ⟨parts⟩=>match P.underlying t,P.info? t with
    | some (.array n e),some it=>match P.info? e,it.zero with
      | some ie,some z=>match zTs [.arr (match P.underlying e with | some (.int k)=>k | _=>.i64) n (zC n 0)] z.cells.toList with
        | some [.l (.arr k m xs)]=>if ie.size=1 then (ZlN s k xs parts).map fun ys=>.agg [.l (.arr k m ys)] else none
        | _=>none
      | _,_=>none
    | _,_=>none
  | _=>none
section
variable {P:Program} {g g':G} {s:S} {w w':World}
theorem ZlM {k:IntKind} : ∀{parts:List (Nat×Operand)} {xs ys:List Int},ZlN s k xs parts=some ys→ys.length=xs.length
  | [],xs,ys,h=>by simp only [ZlN,zA] at h;subst h;rfl
  | (i,x)::r,xs,ys,h=>by
    simp only [ZlN] at h
    split at h<;>try (cases h;done)
    split at h<;>try (cases h;done)
    simpa using ZlM h
theorem Zjg {a:Act} (hs:Sat g s w a.tmps) {k:IntKind} : ∀{parts:List (Nat×Operand)} {xs ys:List Int} {cells:Array Value},ZlN s k xs parts=some ys→cells.toList=xs.map (Value.int k) →
    ∃c',Instr.fill (fun i=>some (i*1,1)) cells (parts.map fun p=>(p.1,a.eval p.2))=some c'∧c'.toList=ys.map (Value.int k)
  | [],xs,ys,cells,h,hc=>by simp only [ZlN,zA] at h;subst h;exact ⟨cells,rfl,hc⟩
  | (i,x)::r,xs,ys,cells,h,hc=>by
    simp only [ZlN] at h
    split at h<;>try (cases h;done)
    rename_i k' v hx
    split at h<;>try (cases h;done)
    rename_i hh
    obtain ⟨rfl,hi⟩:=hh
    obtain ⟨tv,h1,h2⟩:=zU.1 hx
    have hv:=Zbe hs h1
    rw [Zfp h2] at hv
    have hv:=hv.2.int_eq
    have hsz:cells.size=xs.length:=by have:=congrArg List.length hc;simpa using this
    have hnew:(cells.setIfInBounds i (.int k' v)).toList=(xs.set i v).map (Value.int k'):=by
      rw [Array.toList_setIfInBounds,hc,List.map_set]
    obtain ⟨c',h3,h4⟩:=Zjg hs h hnew
    refine ⟨c',?_,h4⟩
    simp only [yP]
    unfold Instr.fill
    simp only [hv,Value.cells,uL]
    rw [if_neg (by simp;omega)]
    simpa using h3
theorem Zcj.buildA {o:Oper} {tv:TV} (h:Dn.buildA P s o=some tv):Zcj P o [] s (s.put o.dst tv):=by
  refine .value fun g w a hs=>?_
  unfold Dn.buildA at h
  split at h<;>try (cases h;done)
  rename_i t parts ho
  split at h<;>try (cases h;done)
  rename_i n e it hu hit
  split at h<;>try (cases h;done)
  rename_i ie z hie hz
  split at h<;>try (cases h;done)
  rename_i k m xs hts
  split at h<;>try (cases h;done)
  rename_i h1
  obtain ⟨ys,h2,rfl⟩:=zD.1 h
  have hzt:=ZkZ (g:=g) (s:=s) (w:=w) hts
  rw [TsR] at hzt
  obtain ⟨hl,rest,hz2,hrest⟩:=hzt
  rw [TsR] at hrest;subst hrest
  rw [xZ] at hz2
  obtain ⟨c',h3,h4⟩:=Zjg hs h2 hz2
  have hly:ys.length=m:=by rw [ZlM h2];exact hl
  refine ⟨.agg c',?_,⟨c',rfl,?_⟩⟩
  · have hb:P.built t ((⟨parts⟩:Array (Nat×Operand)).map fun (i,x)=>(i,a.eval x)).toList=some c':=by
      have e2:((⟨parts⟩:Array (Nat×Operand)).map fun (i,x)=>(i,a.eval x)).toList=parts.map fun p=>(p.1,a.eval p.2):=by simp
      rw [e2]
      unfold Program.built
      simp only [hit,hu,hz,hie,h1];exact h3
    simp only [execOp,ho,Sem.run_bind,run_build w t _ c' hb,Result.andThen_ok,Sem.run_pure]
  · rw [TsR]
    exact ⟨hly,[],by simpa using h4,by rw [TsR]⟩
def ivs (l:List (IntKind×Int)):List Value:=l.map fun p=>.int p.1 p.2
def ExtI (P:Program) (f:FuncId) (as rs:List (IntKind×Int)):Prop:=∀w,(callFunc f (ivs as).toArray).run P w = .ok (.value (ZnO (ivs rs))) w
def Zja (s:S):List Operand→Option (List (IntKind×Int))
  | []=>some []
  | x::xs=>match (ev s x).bind Zkt,Zja s xs with
    | some (.int k n),some r=>some ((k,n)::r)
    | _,_=>none
def cvInts:List CV→Option (List (IntKind×Int))
  | []=>some []
  | .one (.int k n)::cs=>(cvInts cs).map ((k,n) :: ·)
  | _=>none
def extOp (s:S) (o:Oper) (P:Program) (d:D):Option (TV×List Prop):=
  match o.op with
  | .call { callee:=.value (.func f),args:=⟨xs⟩,.. }=>match Zja s xs,cvInts d.rs with
    | some as,some rs=>some (ZfB (rs.map fun p=>.one (.l (.int p.1 p.2))),[ExtI P f as rs])
    | _,_=>none
  | _=>none
theorem Zhj {a:Act} (hs:Sat g s w a.tmps) : ∀{xs:List Operand} {as:List (IntKind×Int)},Zja s xs=some as→xs.map a.eval=ivs as
  | [],as,h=>by simp only [Zja,zA] at h;subst h;rfl
  | x::xs,as,h=>by
    simp only [Zja] at h
    split at h<;>simp only [zA,reduceCtorEq] at h
    rename_i k n r h1 h2
    subst h
    obtain ⟨tv,h3,h4⟩:=zU.1 h1
    have hv:=Zbe hs h3
    rw [Zfp h4] at hv
    simp only [yP,ivs,hv.2.int_eq]
    rw [Zhj hs h2];rfl
theorem Zcj.ext {o:Oper} {d:D} {tv:TV} {ps:List Prop} (h:extOp s o P d=some (tv,ps)) (hp:Zbt ps):Zcj P o [] s (s.put o.dst tv):=by
  refine .value fun g w a hs=>?_
  unfold extOp at h
  split at h<;>try (cases h;done)
  rename_i f xs _ ho
  split at h<;>simp only [zA,zB,reduceCtorEq] at h
  rename_i as rs has hrs
  obtain ⟨rfl,rfl⟩:=h
  simp only [Zbt] at hp
  refine ⟨ZnO (ivs rs),?_,?_⟩
  · have:=hp w
    rw [←Zhj hs has] at this
    simp [execOp,ho,resolve,Deferred.ofValue,Act.eval,invoke,this]
  · refine ZiL ?_
    clear hp hrs ho
    induction rs with
    | nil=>rw [List.map_nil,ZdX];rfl
    | cons r rs ih=>exact ⟨_,_,rfl,⟨rfl,.int _ _ _⟩,ih⟩
end
end Go.Dn
namespace Go.Dn
variable [Globs]
def Zdo (w:World) (b:Nat):Nat:=match w.heap[b]? with
  | some (.cells a _ _)=>a.size
  | some (.map _ _)=>1
  | _=>0
def G.lift (g:G) (w:World):G:={ g with Z:=fun b=>if (g.ow b).isSome then max (g.Z b) (Zdo w b) else g.Z b}
def toCVB (s:S) (oc:List L) (md:Nat):TV→Option (CV×List Prop)
  | .one (.h src sz lo len)=>match ZfK s oc src with
    | some (_,sz',xs,ps)=>if sz=sz' then some (.one (.sl sz (win md xs lo len).1),(win md xs lo len).2++ps) else none
    | none=>none
  | .one (.asl r off n lo len)=>match Zex s oc r with
    | some (c,ps)=>match Zet c off with
      | some (.arr k m xs)=>if m=n then (if lo=0∧len=n then some (.one (.sl 1 (xs.map fun x=>[.int k x])),ps) else some (.one (.sl 1 (((xs.drop lo).take len).map fun x=>[.int k x])),ps)) else none
      | _=>none
    | none=>none
  | tv=>toCV s oc md tv
def Zld (s:S) (oc:List L) (md:Nat):List Operand→Option (List CV×List Prop)
  | []=>some ([],[])
  | x::xs=>match ev s x with
    | some tv=>match toCVB s oc md tv,Zld s oc md xs with
      | some (c,ps),some (cs,qs)=>some (c::cs,ps++qs)
      | _,_=>none
    | none=>none
def Znt:CV→Bool
  | .one x=>x.plain
  | .agg ls=>ls.all L.plain
  | .row _ _ _=>true
def ZdC (xs:List (List L)):Bool:=xs.all fun x=>x.all L.plain
def ZnM:List CV→List Prop
  | []=>[]
  | .row _ _ xs::cs=>(ZdC xs=true)::ZnM cs
  | _::cs=>ZnM cs
def callB (P:Program) (s:S) (o:Oper) (d:D):Option (List Nat×S×List Prop):=
  match o.op with
  | .call { callee:=.value (.func f),args:=⟨xs⟩,.. }=>match Zld s d.oc d.wm xs,Zgz (d.ns.headD 0) 0 d.rs with
    | some (cs,ps),some (tvs,r)=>
      if (ZiH (d.ns.headD 0) r).all (fun n=>!TV.mens n s.sl)&&d.rs.all Znt then
        some (ZiH (d.ns.headD 0) r,(s.setEnt? (d.ns.headD 0) r).put o.dst (ZfB tvs),ps++ZnM d.rs ++ [Zdh P f cs d.rs])
      else none
    | _,_=>none
  | _=>none
section
variable {P:Program} {g g':G} {s:S} {w w':World}
theorem ZcU (g:G) (w:World):Zcd g (g.lift w) w w:=
  ⟨fun _ _=>rfl,zI _,fun b=>(by show g.Z b≤if _ then _ else _;split;exact Nat.le_max_left _ _;exact zI _),fun _ _ _=>rfl,fun _ _=>rfl⟩
theorem ZlF (hm:Zde g s w):Zde ((g.lift w).out true) (.ofSt (s.seen true)) w:=by
  have h0:Zde (g.lift w) (.ofSt (s.seen true)) w:=by
    refine ⟨by simp only [S.ofSt,S.seen,if_true,wT];exact hm.stl,fun i c h hne=>?_,hm.objB,fun n ent h=>by simp [S.ofSt] at h,hm.own,fun b hb=>?_,hm.gl.keep (ZcU g w)⟩
    · simp only [S.ofSt,S.seen,if_true,xW] at h
      split at h<;>simp at h
      exact absurd h.symm (fun e=>hne (e ▸ rfl))
    · show (if _ then _ else _)=_
      rw [if_neg]
      · exact hm.z b hb
      · intro h
        obtain ⟨t,ht⟩:=sL.1 h
        have:=hm.own b t ht;omega
  have:=Zkr h0 true
  simpa [S.seen,S.ofSt] using this
theorem ZeO.slB {t:Ow} {hv v:Value} {e:Bool} {sz lo len:Nat} {xs:List (List L)} (h:ZeO g w t hv e sz xs) (hw:Win sz lo len hv v) (hl:lo+len≤xs.length) :
    LR (g.lift w) w none v (.sl sz ((xs.drop lo).take len)):=by
  rcases h with ⟨rfl,rfl⟩ | ⟨b,o,rfl,rfl⟩ | ⟨b,off,cap,a,E,rfl,h2,h3,h4,h5,h6,h7⟩
  · rcases hw with ⟨_,rfl,rfl,rfl⟩ | ⟨b,o,n,c,o',h,_⟩
    · exact .slnil _ _
    · cases h
  · rcases hw with ⟨h,_⟩ | ⟨b,o,n,c,o',h,h1,rfl,_⟩
    · cases h
    · simp only [Value.slice.injEq,zA,Addr.mk.injEq] at h
      obtain ⟨_,rfl,rfl⟩:=h
      have:len=0:=by simp at hl;omega
      subst this
      simp only [List.drop_nil,List.take_nil,Nat.zero_sub]
      exact .slz _ _ _
  · rcases hw with ⟨h,_⟩ | ⟨b',o,n,c,o',h,h1,rfl,k1,k2⟩
    · cases h
    · simp only [Value.slice.injEq,zA,Addr.mk.injEq] at h
      obtain ⟨⟨rfl,rfl,-⟩,rfl,rfl⟩:=h
      have hlen:((xs.drop lo).take len).length=len:=by simp;omega
      by_cases hc:lo<cap
      · have:=k1 hc;subst this
        refine .sl _ b _ len (cap-lo) sz _ hlen (by omega) ?_ ((ER.keep' (ZcU g w) (h7.dropN lo (by omega)) fun _ _ _=>rfl).takeN len)
        show _≤if _ then _ else _
        rw [if_pos (by rw [h3];rfl)]
        have hbs:Zdo w b=a.size:=by simp [Zdo,h4]
        rw [hbs]
        have:lo*sz+len*sz≤cap*sz:=by rw [←xE];exact xX _ (by omega)
        omega
      · have:len=0:=by omega
        subst this
        rw [show cap-lo=0 by omega,List.take_zero]
        exact .slz _ _ _
theorem ZiA (hm:Zde g s w) {oc:List L} {md:Nat} {tv:TV} {c:CV} {ps:List Prop} {v:Value} {i:Nat} (h:toCVB s oc md tv=some (c,ps)) (hp:Zbt ps) (hv:Zcl g s w v tv):CVR ((g.lift w).out true) w i v c:=by
  have K1:Zcd g ((g.lift w).out true) w w:=(ZcU g w).trans (ZdI _ true w)
  unfold toCVB at h
  split at h
  · rename_i src sz lo len
    split at h<;>try (cases h;done)
    rename_i e sz' xs ps' hr
    split at h<;>simp only [zA,zB,reduceCtorEq] at h
    rename_i hz;subst hz
    obtain ⟨rfl,rfl⟩:=h
    rw [Zbt.append] at hp
    obtain ⟨hv0,t0,k1,k2,_⟩:=Zdw hm hr hp.2
    obtain ⟨w1,w2,_⟩:=Zfi hp.1
    refine ⟨hv.1,?_⟩
    rw [w1]
    exact LR.keep (ZdI _ true w) (k2.slB (hv.2.2.2 _ k1) w2)
  · rename_i r off n lo len
    split at h<;>try (cases h;done)
    rename_i c0 ps' hc
    split at h<;>try (cases h;done)
    rename_i k m xs hseg
    split at h<;>try (cases h;done)
    rename_i hmn;subst hmn
    have main:Zbt ps'→LR ((g.lift w).out true) w none v (.sl 1 (((xs.drop lo).take len).map fun x=>[.int k x])):=by
      intro hp'
      obtain ⟨hin,hok,t,hblk⟩:=ZcF hm hc hp'
      obtain ⟨q1,o',rfl,q4⟩:=hv.2.2.2 hok
      obtain ⟨h2,h3,a,E,h4,h5⟩:=hblk
      obtain ⟨k1,k2⟩:=h5.atArr hseg
      refine LR.keep (ZdI _ true w) ?_
      have hlen:(((xs.drop lo).take len).map fun x=>[zJ k x]).length=len:=by simp;omega
      by_cases hlt:lo<m
      · have:=q4 hlt;subst this
        have hsz:off+m≤a.size:=by
          have h6:=k2 (m-1) (by omega)
          have h7:off+(m-1)<a.toList.length:=by
            rcases zT (off+(m-1)) a.toList.length with h' | h'
            · exact h'
            · rw [zL h'] at h6;cases h6
          simp at h7;omega
        refine .sl _ _ _ len (m-lo) 1 _ hlen (by omega) ?_ (ZhT k _ fun j v hj=>?_)
        · show _≤if _ then _ else _
          rw [if_pos (by rw [h2];rfl)]
          have hbs:Zdo w (g.rb r)=a.size:=by simp [Zdo,h4]
          rw [hbs];omega
        · simp only [yG,yL,yZ] at hj
          split at hj<;>simp at hj
          rename_i hjl
          obtain ⟨y,hy,rfl⟩:=hj
          have h6:=k2 (lo+j) (by omega)
          have h8:xs.getD (lo+j) 0=y:=by simp [List.getD,hy]
          rw [h8] at h6
          simp only [World.cell?,h4]
          rw [show off+lo+j=off+(lo+j) by omega]
          simpa using h6
      · have hl0:len=0:=by omega
        subst hl0
        rw [List.take_zero,List.map_nil,show m-lo=0 by omega]
        exact .slz _ _ _
    split at h<;>simp only [zA,zB] at h<;>obtain ⟨rfl,rfl⟩:=h
    · rename_i hh
      obtain ⟨rfl,rfl⟩:=hh
      have:=main hp
      refine ⟨hv.1,?_⟩
      obtain ⟨_,_,t,hblk⟩:=ZcF hm hc hp
      obtain ⟨h2,h3,a,E,h4,h5⟩:=hblk
      have hxl:=(h5.atArr hseg).1
      rwa [List.drop_zero,yD (by omega)] at this
    · exact ⟨hv.1,main hp⟩
  · have h1:=ZhC hm (pu:=true) (i:=i) h hp hv
    have K0:Zcd (g.out true) ((g.lift w).out true) w w:=⟨fun _ _=>rfl,zI _,(ZcU g w).Z,fun _ _ _=>rfl,fun _ _=>rfl⟩
    exact CVR.in K0 (ZjG h) h1
theorem ZhY {oc:List L} {md:Nat} {a:Act} (hs:Sat g s w a.tmps) : ∀{xs:List Operand} {cs:List CV} {ps:List Prop} {i:Nat},Zld s oc md xs=some (cs,ps)→Zbt ps→ZeP ((g.lift w).out true) w i (xs.map a.eval) cs
  | [],cs,ps,i,h,hp=>by simp only [Zld,zA,zB] at h;obtain ⟨rfl,rfl⟩:=h;rfl
  | x::xs,cs,ps,i,h,hp=>by
    simp only [Zld] at h
    split at h<;>try cases h
    rename_i tv hx
    split at h<;>simp only [zA,zB,reduceCtorEq] at h
    rename_i c ps1 cs1 qs1 h1 h2
    obtain ⟨rfl,rfl⟩:=h
    rw [Zbt.append] at hp
    exact ⟨_,_,rfl,ZiA hs.mem h1 hp.1 (Zbe hs hx),ZhY hs h2 hp.2⟩
theorem LR.plain {p:Option (Nat×Nat)} {v:Value} {x:L} (hob:g'.ob=g.ob) (hnob:g'.nob=g.nob) (hx:x.plain=true) (h:LR g w p v x):LR g' w' p v x:=by
  cases h<;>first | (simp [L.plain] at hx;done) | skip
  · exact .int _ _ _
  · exact .bool _ _
  · exact .str _ _
  · exact .nilp _
  · rename_i i hi
    rw [←hob];exact .ref _ i (by rw [hnob];exact hi)
theorem CR.plain (hob:g'.ob=g.ob) (hnob:g'.nob=g.nob) : ∀{p:Option (Nat×Nat)} {vs:List Value} {ls:List L},CR g w p vs ls→ls.all L.plain=true→CR g' w' p vs ls
  | _,_,_,.nil _,_=>.nil _
  | _,_,_,.one _ v vs l ls hv h1 hr,hp=>by
    simp only [yT,zO] at hp
    exact .one _ v vs l ls (LR.plain hob hnob hp.1 hv) h1 (CR.plain hob hnob hr hp.2)
  | _,_,_,.arr _ k n xs vs ls hn hr,hp=>by
    simp only [yT,zO] at hp
    exact .arr _ k n xs vs ls hn (CR.plain hob hnob hr hp.2)
  | _,_,_,.brr _ n xs vs ls hn hr,hp=>by
    simp only [yT,zO] at hp
    exact .brr _ n xs vs ls hn (CR.plain hob hnob hr hp.2)
theorem ER.plain (hob:g'.ob=g.ob) (hnob:g'.nob=g.nob) : ∀{xs:List (List L)} {b off sz:Nat},ER g w b off sz xs→ZdC xs=true→ER g' w b off sz xs
  | _,_,_,_,.nil _ _ _,_=>.nil _ _ _
  | _,_,_,_,.cons b off sz vs x xs hn hc hx hr,hp=>by
    simp only [ZdC,yT,zO] at hp
    exact .cons _ _ _ vs x xs hn hc (CR.plain hob hnob hx hp.1) (ER.plain hob hnob hr hp.2)
def G.backB (g:G) (w:World) (g':G) (p n:Nat) (hv:Value):G:=
  { g' with ow:=fun b=>if b<w.heap.size then g.ow b else Zff p n (g'.ow b),Z:=fun b=>if b<w.heap.size then g.Z b else g'.Z b,sb:=g.sb,hd:=Zez g.hd n hv}
theorem Zmu (g:G) (b:Nat):(g.out true).ow b=none∨(g.out true).ow b=some .foreign:=by
  cases h:g.ow b with
  | none=>exact .inl (Zgq.2 h)
  | some t=>
    right
    cases t<;>simp [G.out,h]
    rename_i b' o
    cases h2:g.ow b' with
    | none=>rfl
    | some t2=>cases t2<;>rfl
theorem Zft (hM:Mod ((g.lift w).out true) g' w w') {p n:Nat} {hv:Value} {b:Nat} (hb:b<w.heap.size):ZfG g (g.backB w g' p n hv) w w' b:=by
  have h1:ZfG ((g.lift w).out true) g' w w' b:=by
    rcases hM.same b hb with h1 | h1
    · exact h1
    · rcases Zmu (g.lift w) b with h2 | h2
      · exact absurd h2 h1.1
      · exact absurd h2 h1.2
  refine ⟨h1.1,?_,?_⟩
  · show (if b<w.heap.size then g.ow b else _)=_
    rw [if_pos hb]
  · show (if b<w.heap.size then g.Z b else _)=_
    rw [if_pos hb]
theorem Zjo (hm:Zde g s w) (hM:Mod ((g.lift w).out true) g' w w') {p n:Nat} {hv:Value}:Zcd g (g.backB w g' p n hv) w w':=by
  refine ⟨hM.keep.ob,hM.keep.nob,fun b=>?_,fun b o ho=>?_,fun b ho=>?_⟩
  rotate_left 2
  · have hb:b<w.heap.size:=by
      rcases zT b w.heap.size with h | h
      · exact h
      · rw [hm.z b h] at ho;omega
    simp only [ZgA]
    rw [(Zft (p:=p) (n:=n) (hv:=hv) hM hb).1]
  · show g.Z b≤if b<w.heap.size then g.Z b else g'.Z b
    split
    · exact zI _
    · rw [hm.z b (by omega)];exact yU _
  · have hb:b<w.heap.size:=by
      rcases zT b w.heap.size with h | h
      · exact h
      · rw [hm.z b h] at ho;omega
    exact Zch (Zft (p:=p) (n:=n) (hv:=hv) hM hb).1
theorem Zqd (hm:Zde g s w) (hM:Mod ((g.lift w).out true) g' w w') {p n:Nat} {hv:Value}:Mod g (g.backB w g' p n hv) w w':=by
  refine ⟨Zjo hm hM,hM.os,hM.tape,hM.output,hM.size,fun b hb=>.inl (Zft hM hb),fun b hb h1 h2=>?_,hM.newob⟩
  have e:(g.backB w g' p n hv).ow b=g.ow b:=(Zft hM hb).2.1
  rw [e] at h1 h2
  exact ⟨h1,h2⟩
theorem ZlX {s s':S} {a:Act} {dst:Option Nat} {n:Nat} {rs:List CV} {tvs:List TV} {r:Option (Nat×Ent)} {us:List Value}
    (hs:Sat g s w a.tmps) (hrs:Zgz n 0 rs=some (tvs,r)) (hX:(ZiH n r).all (fun n=>!TV.mens n s.sl)=true) (hfl:rs.all Znt=true) (hpl : ∀e sz xs,CV.row e sz xs∈rs→ZdC xs=true)
    (hM:Mod ((g.lift w).out true) g' w w') (hm':Zde g' (.ofSt (s.seen true)) w') (hus:ZeP g' w' 0 us rs)
    (esl:s'.sl=(s.put dst (ZfB tvs)).sl) (esi:s'.si=(s.setEnt? n r).si) (est:s'.st=s.st) (eep:s'.ep=s.ep) :
    ∃g'',Mod g g'' w w'∧Zbb (· ∈ ZiH n r) s s' g g'' w w'∧Sat g'' s' w' (a.put dst (ZnO us)).tmps:=by
  obtain ⟨hr1,hr2⟩:=ZiP hrs
  have hm:=hs.mem
  obtain ⟨p,hv,hrow,hnone⟩ : ∃p hv,(∀(j:Nat) (e:Bool) (sz:Nat) (xs:List (List L)),rs[j]? = some (CV.row e sz xs)→us[j]? = some hv∧p=j)∧(r=none→hv=g.hd n):=by
    cases hr:r with
    | none=>exact ⟨0,g.hd n,fun j e sz xs h=>(by have:=hr1 j e sz xs h;rw [hr] at this;cases this),fun _=>rfl⟩
    | some q=>
      obtain ⟨j,e,sz,xs,rfl,h2⟩:=hr2 q hr
      obtain ⟨v,h3,h4⟩:=hus.get h2
      refine ⟨j,v,fun j' e' sz' xs' h=>?_,fun h=>by cases h⟩
      have:=hr1 j' e' sz' xs' h
      rw [hr] at this
      simp only [zZ,zA,zB] at this
      obtain ⟨rfl,_⟩:=this
      exact ⟨h3,rfl⟩
  have K:=Zjo (p:=p) (n:=n) (hv:=hv) hm hM
  have sm : ∀{b:Nat} {t:Ow},g.ow b=some t→ZfG g (g.backB w g' p n hv) w w' b:=fun {b t} h=>Zft hM (hm.own b t h)
  have hnob:g'.nob=g.nob:=by
    have h1:=hm'.stl
    simp only [S.ofSt,S.seen,if_true,wT] at h1
    exact h1.symm.trans hm.stl
  have newrow : ∀{v:Value} {e:Bool} {sz:Nat} {xs:List (List L)},ZdC xs=true→ZeO g' w' (.rowS p) v e sz xs→ZeO (g.backB w g' p n hv) w' (.rowS n) v e sz xs:=by
    rintro v e sz xs hplain (h1 | h1 | ⟨b1,o1,cap,aa,E,rfl,k2,k3,k4,k5,k6,k7⟩)
    · exact .inl h1
    · exact .inr (.inl h1)
    · have hb : ¬ b1<w.heap.size:=by
        intro hb
        rcases hM.same b1 hb with h2 | h2
        · rcases Zmu (g.lift w) b1 with h3 | h3<;>(rw [h2.2.1,h3] at k3;cases k3)
        · rcases Zmu (g.lift w) b1 with h3 | h3
          · exact absurd h3 h2.1
          · exact absurd h3 h2.2
      refine .inr (.inr ⟨b1,o1,cap,aa,E,rfl,k2,?_,k4,k5,?_,ER.plain (g:=g') (g':=g.backB w g' p n hv) rfl rfl k7 hplain⟩)
      · show (if b1<w.heap.size then g.ow b1 else Zff p n (g'.ow b1))=_
        rw [if_neg hb,k3];simp [Zff]
      · show (if b1<w.heap.size then g.Z b1 else g'.Z b1)=_
        rw [if_neg hb];exact k6
  have hslots : ∀{rs:List CV} {i:Nat} {us:List Value} {tvs:List TV} {r:Option (Nat×Ent)},Zgz n i rs=some (tvs,r)→rs.all Znt=true →
      ZeP g' w' i us rs→(∀(j:Nat) (e:Bool) (sz:Nat) (xs:List (List L)),rs[j]? = some (CV.row e sz xs)→us[j]? = some hv)→ZdX (g.backB w g' p n hv) s' w' us tvs:=by
    intro rs
    induction rs with
    | nil=>
      intro i us tvs r h _ hu _
      simp only [Zgz,zA,zB] at h;obtain ⟨rfl,rfl⟩:=h
      exact hu
    | cons c cs ih=>
      intro i us tvs r h hfl hu hr
      simp only [yT,zO] at hfl
      obtain ⟨v,rest,rfl,hc,hu⟩:=hu
      simp only [Zgz] at h
      split at h<;>try cases h
      rename_i tvs1 r1 h1
      have ih:=ih h1 hfl.2 hu fun j e sz xs hj=>by simpa using hr (j+1) e sz xs (by simpa using hj)
      split at h
      · simp only [zA,zB] at h;obtain ⟨rfl,rfl⟩:=h
        exact ⟨v,rest,rfl,⟨hc.1,LR.plain (g:=g') rfl rfl hfl.1 hc.2⟩,ih⟩
      · simp only [zA,zB] at h;obtain ⟨rfl,rfl⟩:=h
        obtain ⟨vs,rfl,h3⟩:=hc
        exact ⟨_,rest,rfl,⟨vs,rfl,CR.toTs (CR.plain (g:=g') (g':=g.backB w g' p n hv) (w':=w') rfl rfl h3 hfl.1)⟩,ih⟩
      · rename_i e sz xs
        split at h<;>simp only [zA,zB,reduceCtorEq] at h
        obtain ⟨rfl,rfl⟩:=h
        have hveq:=hr 0 e sz xs rfl
        simp only [yA,zA] at hveq
        subst hveq
        refine ⟨v,rest,rfl,?_,ih⟩
        simp only [CVR] at hc
        rcases hc with ⟨rfl,rfl⟩ | ⟨b1,o1,rfl,rfl⟩ | ⟨b1,o1,cap,aa,E,rfl,k2,k3,k4,k5,k6,k7⟩
        · refine ⟨rfl,⟨_,_,rfl,.inl rfl⟩,fun _ _ _ _ _=>yU _,?_⟩
          rintro hv' ⟨_,rfl⟩
          left
          exact ⟨ZaZ _ _ _,rfl,rfl,rfl⟩
        · refine ⟨rfl,⟨_,_,rfl,.inl rfl⟩,fun _ _ _ _ _=>yU _,?_⟩
          rintro hv' ⟨_,rfl⟩
          right
          exact ⟨b1,o1,0,0,o1,ZaZ _ _ _,⟨by simp,zI _⟩,by simp,fun h=>by omega,fun _=>rfl⟩
        · refine ⟨rfl,⟨_,_,rfl,.inr rfl⟩,fun _ _ _ _ _=>yU _,?_⟩
          rintro hv' ⟨_,rfl⟩
          right
          exact ⟨b1,o1,xs.length,cap,o1,ZaZ _ _ _,⟨by omega,k2⟩,by simp,fun _=>by simp,fun _=>rfl⟩
  have hXn : ∀m,m∉ZiH n r→s'.si[m]? = s.si[m]? ∧ (g.backB w g' p n hv).hd m=g.hd m:=by
    intro m hm
    rw [esi]
    cases hr:r with
    | none=>
      refine ⟨rfl,?_⟩
      by_cases e:m=n
      · subst e;exact (ZaZ _ _ _).trans (hnone hr)
      · exact ZbW _ _ e
    | some q=>
      rw [hr] at hm
      have e:m≠n:=fun e=>hm (by simp [ZiH,e])
      exact ⟨List.getElem?_set_ne (fun e'=>e e'.symm),ZbW _ _ e⟩
  have oldE : ∀m ent,s.si[m]? = some (some ent)→(g.backB w g' p n hv).hd m=g.hd m→ZeB (g.backB w g' p n hv) w' m ent:=by
    intro m ent h hhd
    have h1:=hm.site m ent h
    cases ent with
    | cells c=>exact ZkW.keep K h1 (sm h1.1) (fun b' o hb=>sm hb)
    | row ver e sz xs=>
      simp only [ZeB] at h1 ⊢
      rw [hhd]
      exact h1.keep K (fun b hb=>sm hb)
    | mp es=>
      simp only [ZeB] at h1 ⊢
      rw [hhd]
      exact h1.keep K (fun b hb=>sm hb)
  have hmS:Zde (g.backB w g' p n hv) s' w':=by
    refine ⟨by rw [est];exact hm.stl.trans hnob.symm,fun i c h hne=>?_,fun i hi=>?_,fun m ent h=>?_,fun b t h=>?_,fun b hb=>?_,hm.gl.keep K⟩
    · rw [est] at h
      have h1:=hm.obj i c h hne
      have hi:i<g.nob:=by
        rw [←hm.stl]
        rcases zT i s.st.length with h' | h'
        · exact h'
        · rw [zL h'] at h;cases h
      show ZkW (g.backB w g' p n hv) w' (g'.ob i) (.obj i) c
      rw [show g'.ob i=g.ob i from hM.keep.ob i hi]
      exact h1.keep K (sm h1.1) (fun b' o hb=>sm hb)
    · have hi':i<g.nob:=by rw [←hnob];exact hi
      show (g.backB w g' p n hv).ow (g'.ob i)=_∨(g.backB w g' p n hv).ow (g'.ob i)=_
      rw [show g'.ob i=g.ob i from hM.keep.ob i hi']
      rcases hm.objB i hi' with h1 | h1
      · exact .inl ((sm h1).2.1.trans h1)
      · exact .inr ((sm h1).2.1.trans h1)
    · by_cases hmX:m∈ZiH n r
      · obtain ⟨q,hq⟩ : ∃q,r=some q:=by
          cases hr:r with
          | none=>rw [hr] at hmX;simp [ZiH] at hmX
          | some q=>exact ⟨q,rfl⟩
        rw [hq] at hmX
        simp [ZiH] at hmX;subst hmX
        rw [esi,hq] at h
        simp only [S.setEnt?,S.setEnt] at h
        have hd:m<s.si.length:=by
          rcases zT m s.si.length with h' | h'
          · exact h'
          · rw [zL (by simpa using h')] at h;cases h
        rw [zQ hd] at h
        simp only [zA] at h
        obtain ⟨j,e,sz,xs,rfl,h2⟩:=hr2 q hq
        simp only at h;subst h
        obtain ⟨h3,rfl⟩:=hrow j e sz xs h2
        obtain ⟨v,h4,h5⟩:=hus.get h2
        rw [h3] at h4;cases h4
        simp only [ZeB]
        rw [show (g.backB w g' p m hv).hd m=hv from ZaZ _ _ _]
        simp only [CVR,zZ] at h5
        exact newrow (hpl e sz xs (List.mem_of_getElem? h2)) h5
      · obtain ⟨h1,h2⟩:=hXn m hmX
        rw [h1] at h
        exact oldE m ent h h2
    · by_cases hb:b<w.heap.size
      · have:=hM.size;omega
      · have e:(g.backB w g' p n hv).ow b=Zff p n (g'.ow b):=by
          show (if _ then _ else _)=_
          rw [if_neg hb]
        rw [e] at h
        cases hb:g'.ow b with
        | none=>rw [hb] at h;cases h
        | some t'=>exact hm'.own b t' hb
    · show (if b<w.heap.size then _ else _)=_
      have:=hM.size
      rw [if_neg (by omega)];exact hm'.z b hb
  have k:Zbb (· ∈ ZiH n r) s s' g (g.backB w g' p n hv) w w':=by
    refine ⟨K,fun m hm' h=>?_,fun m ver hm' h=>?_,fun m hm' h=>?_,fun h rt hg hi hok _ _ off hv' hc=>?_,by rw [eep];exact zI _⟩
    · obtain ⟨c,h⟩:=h
      rw [(hXn m hm').1] at h
      exact ⟨⟨c,h⟩,rfl⟩
    · obtain ⟨e,sz,xs,h⟩:=h
      rw [(hXn m hm').1] at h
      exact .inl ⟨⟨e,sz,xs,h⟩,(hXn m hm').2⟩
    · obtain ⟨es,h⟩:=h
      rw [(hXn m hm').1] at h
      exact ⟨⟨es,h⟩,(hXn m hm').2⟩
    · left
      have hsm:ZfG g (g.backB w g' p n hv) w w' (g.rb rt):=by
        cases rt with
        | site m=>
          obtain ⟨c,hok⟩:=hok
          exact sm (hm.site m _ hok).1
        | obj i=>
          rcases hm.objB i hi with h | h<;>exact sm h
        | glob j=>exact absurd rfl (hg j)
      rwa [Zch hsm.1] at hc
  have hfin:=hs.next k (fun m hm=>by
    have:=xG.1 hX m hm
    simpa using this) hmS (by rw [esi];cases r<;>simp [S.setEnt?,S.setEnt]) (dst:=dst) (tv:=ZfB tvs) (v:=ZnO us) esl (fun _=>ZiL (hslots hrs hfl hus fun j e sz xs h=>(hrow j e sz xs h).1))
  exact ⟨_,Zqd hm hM,k,hfin⟩
theorem ZfV : ∀{rs:List CV},Zbt (ZnM rs)→∀e sz xs,CV.row e sz xs∈rs→ZdC xs=true
  | [],_,_,_,_,h=>by cases h
  | c::cs,hp,e,sz,xs,h=>by
    cases c with
    | one x=>
      rcases xC.1 h with h | h
      · cases h
      · exact ZfV (rs:=cs) hp e sz xs h
    | agg x=>
      rcases xC.1 h with h | h
      · cases h
      · exact ZfV (rs:=cs) hp e sz xs h
    | row e' sz' xs'=>
      simp only [ZnM] at hp
      rw [Zbt.cons] at hp
      rcases xC.1 h with h | h
      · cases h;exact hp.1
      · exact ZfV hp.2 e sz xs h
theorem Zcj.callB {s s':S} {o:Oper} {d:D} {X:List Nat} {ps:List Prop} (h:Dn.callB P s o d=some (X,s',ps)) (hp:Zbt ps):Zcj P o X s s'∧(∃tv,s'.sl=(s.put o.dst tv).sl)∧X.all (fun n=>!TV.mens n s.sl)=true:=by
  unfold Dn.callB at h
  split at h<;>try (cases h;done)
  rename_i f xs _ ho
  split at h<;>try (cases h;done)
  rename_i cs ps1 tvs r hcs hrs
  split at h<;>simp only [zA,zB,reduceCtorEq] at h
  rename_i hX
  simp only [zO] at hX
  obtain ⟨hX,hfl⟩:=hX
  obtain ⟨rfl,rfl,rfl⟩:=h
  rw [Zbt.append,Zbt.append] at hp
  obtain ⟨⟨hp1,hp2⟩,hp3⟩:=hp
  simp only [Zbt] at hp3
  refine ⟨?_,⟨ZfB tvs,by cases o.dst<;>cases r<;>rfl⟩,hX⟩
  intro g w a hs K Q hK
  obtain ⟨hent,hp4⟩:=hp3 (s.seen true)
  unfold Oper.wp
  have hrun:(execOp a.eval o).run P w = .ok (.enter f (xs.map a.eval).toArray) w:=by
    have:=ZeW hent (xs.map a.eval).toArray w
    simp [execOp,ho,resolve,Deferred.ofValue,Act.eval,invoke,this]
  rw [hrun]
  show Calls P f _ w _
  refine (hp4 ((g.lift w).out true) w _ (ZhY hs hcs hp1) (ZlF hs.mem)).mono ?_
  rintro e w' ⟨g',us,rfl,hM,hm',hus⟩
  obtain ⟨g'',k1,k2,k3⟩:=ZlX hs hrs hX hfl (ZfV hp2) hM hm' hus (dst:=o.dst) (s':=(s.setEnt? (d.ns.headD 0) r).put o.dst (ZfB tvs)) (by cases o.dst<;>cases r<;>rfl) (by cases o.dst<;>rfl) (by cases o.dst<;>cases r<;>rfl) (by cases o.dst<;>cases r<;>rfl)
  exact hK _ _ _ k1 k2 k3
end
end Go.Dn
namespace Go.Dn
variable [Globs]
def stepY (P:Program):Zhy:=fun s o d=>
  match o.op with
  | .assign _=>if d.m=2 then (Zph P s o).map fun r=>([],s.put o.dst r,[]) else ZoG P s o d
  | .build _ _=>if d.m=3 then (buildA P s o).map fun r=>([],s.put o.dst r,[]) else ZoG P s o d
  | .call { callee:=.value (.func _),.. }=>if d.m=2 then callB P s o d else if d.m=4 then (extOp s o P d).map fun r=>([],s.put o.dst r.1,r.2) else ZoG P s o d
  | _=>ZoG P s o d
theorem stepY_ok (P:Program):ZeA P (stepY P):=by
  intro s o d X s' ps h hp
  have F:=stepF_ok P s o d X s' ps
  have put : ∀{α:Type} {x:Option α} {f:α→TV} {g:α→List Prop},(∀r,x=some r→Zbt (g r)→Zcj P o [] s (s.put o.dst (f r)))→x.map (fun r=>(([]:List Nat),s.put o.dst (f r),g r))=some (X,s',ps) →
      Zcj P o X s s'∧(∃tv,s'.sl=(s.put o.dst tv).sl)∧X.all (fun n=>!TV.mens n s.sl)=true:=by
    intro α x f g hok hx
    obtain ⟨r,h1,h2⟩:=zD.1 hx;simp only [zB] at h2;obtain ⟨rfl,rfl,rfl⟩:=h2
    exact ⟨hok r h1 hp,⟨_,rfl⟩,rfl⟩
  unfold stepY at h
  split at h
  · split at h
    · exact put (f:=id) (g:=fun _=>[]) (fun r hr _=>.nil2 hr) h
    · exact F h hp
  · split at h
    · exact put (f:=id) (g:=fun _=>[]) (fun r hr _=>.buildA hr) h
    · exact F h hp
  · split at h
    · exact Zcj.callB h hp
    · split at h
      · exact put (f:=Prod.fst) (g:=Prod.snd) (fun r hr hq=>.ext hr hq) h
      · exact F h hp
  · exact F h hp
def Zkd (P:Program):Zhy:=stepY P
theorem stepX_ok (P:Program):ZeA P (Zkd P):=stepY_ok P
def ZpT (s:S):List Operand→Option (List L)
  | []=>some []
  | x::xs=>match ev s x,ZpT s xs with
    | some (.one (.l y)),some ls=>if y.single then some (y::ls) else none
    | some (.one (.adr (.obj i) 0)),some ls=>some (.ptr (some i)::ls)
    | _,_=>none
def Zpk (s:S) (o:Oper):Option TV:=
  match o.op with
  | .makeFunc (.func f) ⟨bs⟩ ⟨caps⟩=>(ZpT s (bs++caps)).map fun ls=>.one (.l (.fn f bs.length ls))
  | _=>none
section
variable {P:Program} {g g':G} {s:S} {w w':World}
theorem ZgQ {a:Act} (hs:Sat g s w a.tmps) : ∀{xs:List Operand} {ls:List L},ZpT s xs=some ls→CR g w none (xs.map a.eval) ls
  | [],ls,h=>by simp only [ZpT,zA] at h;subst h;exact .nil _
  | x::xs,ls,h=>by
    simp only [ZpT] at h
    split at h<;>try (cases h;done)
    · rename_i y ls' hx hxs
      split at h<;>simp only [zA,reduceCtorEq] at h
      subst h
      have hv:=Zbe hs hx
      exact .one _ _ _ _ _ hv.2 hv.1 (ZgQ hs hxs)
    · rename_i i ls' hx hxs
      simp only [zA] at h;subst h
      have hv:=Zbe hs hx
      obtain ⟨h1,_,h2,h3⟩:=hv
      have:=h3 trivial
      rw [yP,this]
      exact .one _ _ _ _ _ (.ref _ _ h2) rfl (ZgQ hs hxs)
theorem Zcj.mkFn {o:Oper} {tv:TV} (h:Zpk s o=some tv):Zcj P o [] s (s.put o.dst tv):=by
  refine .value fun g w a hs=>?_
  unfold Zpk at h
  split at h<;>try (cases h;done)
  rename_i f bs caps ho
  obtain ⟨ls,h1,rfl⟩:=zD.1 h
  have hc:=LR.fn (none:Option (Nat×Nat)) f bs.length _ _ (ZgQ hs h1)
  have hl:bs.length=(bs.map a.eval).length:=by simp
  rw [List.map_append,hl,List.take_left,List.drop_left] at hc
  refine ⟨.func (.func f) (bs.map a.eval).toArray (caps.map a.eval).toArray,?_,rfl,by rw [hl];exact hc⟩
  simp [execOp,ho,Instr.makeFunc]
def ZmE (s:S):Operand→Option (FuncId×List CV×List CV)
  | .func f=>some (f,[],[])
  | x=>match ev s x with
    | some (.one (.l (.fn f n cs)))=>if cs.all L.single then some (f,(cs.take n).map .one,(cs.drop n).map .one) else none
    | _=>none
theorem ZeP.append {i:Nat} : ∀{cs ks:List CV} {j:Nat} {us vs:List Value},ZeP g w j us cs→ZeP g w (j+cs.length) vs ks→ZeP g w j (us++vs) (cs++ks)
  | [],ks,j,us,vs,h,h'=>by rw [ZeP] at h;subst h;simpa using h'
  | c::cs,ks,j,us,vs,h,h'=>by
    obtain ⟨v,r,rfl,h1,h2⟩:=h
    exact ⟨v,r++vs,rfl,h1,ZeP.append (i:=i) h2 (by rw [show j+1+cs.length=j+(c::cs).length by simp;omega];exact h')⟩
theorem ZeP.ones : ∀{ls:List L} {vs:List Value} {j:Nat},CR g w none vs ls→ls.all L.single=true→ZeP g w j vs (ls.map .one)
  | [],vs,j,h,_=>by cases h;rfl
  | l::ls,vs,j,h,hs=>by
    simp only [yT,zO] at hs
    cases h with
    | one _ v vs _ _ hv h1 hr=>exact ⟨v,vs,rfl,⟨h1,hv⟩,ZeP.ones (by simpa [bump] using hr) hs.2⟩
    | arr=>simp [L.single] at hs
    | brr=>simp [L.single] at hs
theorem CR.split : ∀{n:Nat} {vs:List Value} {ls:List L},CR g w none vs ls→ls.all L.single=true→CR g w none (vs.take n) (ls.take n)∧CR g w none (vs.drop n) (ls.drop n)
  | 0,vs,ls,h,_=>by simpa using ⟨CR.nil none,h⟩
  | n+1,vs,[],h,_=>by cases h;simpa using CR.nil none
  | n+1,vs,l::ls,h,hs=>by
    simp only [yT,zO] at hs
    cases h with
    | one _ v vs _ _ hv h1 hr=>
      obtain ⟨k1,k2⟩:=CR.split (n:=n) (by simpa [bump] using hr) hs.2
      exact ⟨.one _ _ _ _ _ hv h1 k1,k2⟩
    | arr=>simp [L.single] at hs
    | brr=>simp [L.single] at hs
theorem ZkP {a:Act} (hs:Sat g s w a.tmps) {x:Operand} {f:FuncId} {bs ks:List CV} (h:ZmE s x=some (f,bs,ks)) :
    ∃bu us:List Value,(∀args,Deferred.ofValue (a.eval x) args=pure { target:=.fn (.func f) us.toArray,args:=bu.toArray++args})∧∀g',Zcd g g' w w→∀j,ZeP g' w j bu bs∧ZeP g' w j us ks:=by
  unfold ZmE at h
  split at h
  · simp only [zA,zB] at h;obtain ⟨rfl,rfl,rfl⟩:=h
    exact ⟨[],[],fun args=>by simp [Act.eval,Deferred.ofValue],fun _ _ _=>⟨rfl,rfl⟩⟩
  · split at h<;>try (cases h;done)
    rename_i f' n cs hx
    split at h<;>simp only [zA,zB,reduceCtorEq] at h
    rename_i hsg
    obtain ⟨rfl,rfl,rfl⟩:=h
    have hv:=(Zbe hs hx).2
    simp only [TR] at hv
    generalize a.eval x=v at hv
    cases hv with
    | fn _ _ _ vs _ hc=>
      have ha:(cs.take n).all L.single=true∧(cs.drop n).all L.single=true:=by
        rw [←wA n cs,List.all_append,zO] at hsg;exact hsg
      exact ⟨vs.take n,vs.drop n,fun args=>by simp [Deferred.ofValue],fun g' K j=>⟨ZeP.ones (CR.keep K (CR.split hc hsg).1) ha.1,ZeP.ones (CR.keep K (CR.split hc hsg).2) ha.2⟩⟩
def callC (P:Program) (s:S) (o:Oper) (d:D):Option (List Nat×S×List Prop):=
  match o.op with
  | .call { callee:=.value x,args:=⟨xs⟩,.. }=>match ZmE s x,ZnJ s d.oc d.wm xs,Zgz (d.ns.headD 0) 0 d.rs with
    | some (f,bs,ks),some (cs,ps),some (tvs,r)=>
      if (ZiH (d.ns.headD 0) r).all (fun n=>!TV.mens n s.sl) then
        some (ZiH (d.ns.headD 0) r,{ (s.setEnt? (d.ns.headD 0) r).put o.dst (ZfB tvs) with st:=d.st,ep:=s.ep+1},ps ++ [Snd P f (bs++(cs++ks)) s.st d.rs d.st])
      else none
    | _,_,_=>none
  | _=>none
theorem Zcj.callC {s s':S} {o:Oper} {d:D} {X:List Nat} {ps:List Prop} (h:Dn.callC P s o d=some (X,s',ps)) (hp:Zbt ps):Zcj P o X s s'∧(∃tv,s'.sl=(s.put o.dst tv).sl)∧X.all (fun n=>!TV.mens n s.sl)=true:=by
  unfold Dn.callC at h
  split at h<;>try (cases h;done)
  rename_i x xs _ ho
  split at h<;>try (cases h;done)
  rename_i f bs ks cs ps1 tvs r hcal hcs hrs
  split at h<;>simp only [zA,zB,reduceCtorEq] at h
  rename_i hX
  obtain ⟨rfl,rfl,rfl⟩:=h
  rw [Zbt.append] at hp
  obtain ⟨hp1,hp2⟩:=hp
  simp only [Zbt] at hp2
  refine ⟨?_,⟨ZfB tvs,by cases o.dst<;>cases r<;>rfl⟩,hX⟩
  obtain ⟨hent,hp3⟩:=hp2
  intro g w a hs K Q hK
  obtain ⟨bu,us0,hdef,hcap⟩:=ZkP hs hcal
  unfold Oper.wp
  have hrun:(execOp a.eval o).run P w = .ok (.enter f (bu++(xs.map a.eval++us0)).toArray) w:=by
    have:=ZeW hent (bu++(xs.map a.eval++us0)).toArray w
    simp [execOp,ho,resolve,hdef,invoke,this]
  rw [hrun]
  show Calls P f _ w _
  have hargs:ZeP (g.out false) w 0 (bu++(xs.map a.eval++us0)) (bs++(cs++ks)):=ZeP.append (i:=0) (hcap _ (ZdI g false w) 0).1 (ZeP.append (i:=0) (ZgI hs hcs hp1) (hcap _ (ZdI g false w) _).2)
  refine (hp3 (g.out false) w _ hargs (Zkr hs.mem false)).mono ?_
  rintro e w' ⟨g',us,rfl,hM,hm',hus⟩
  obtain ⟨g'',k1,k2,k3⟩:=Znz (pu:=false) (st':=d.st) (s':={ (s.setEnt? (d.ns.headD 0) r).put o.dst (ZfB tvs) with st:=d.st,ep:=s.ep+1}) hs hrs hX hM hm' hus (fun h=>by cases h) (dst:=o.dst)
    (by cases o.dst<;>cases r<;>rfl) (by cases o.dst<;>rfl) rfl rfl
  exact hK _ _ _ k1 k2 k3
section
variable {n i:Nat}
end
end
end Go.Dn
namespace Go.Dn
variable [Globs]
section
variable {P:Program} {g g':G} {s:S} {w w':World}
theorem Zhx {d:D} {dd sz:Nat} {x:Operand} {s1:S} {n ver':Nat} {e:Bool} {xs:List (List L)} {X:List Nat} {ps:List Prop} (hb:appBase' s d dd sz x=some (s1,n,ver',e,xs,X,ps)) (hp1:Zbt ps)
    {a:Act} (hs:Sat g s w a.tmps) : ∃g1,Mod g g1 w w∧Zde g1 s1 w∧Zbb (· ∈ X) s s1 g g1 w w∧ZeO g1 w (.rowS n) (a.eval x) e sz xs∧(n∈X∨∃ver e1 sz xs1,s1.si[n]? = some (some (.row ver e1 sz xs1))∧ver<ver')∧s1.sl=s.sl∧s1.si.length=s.si.length:=by
  unfold appBase' at hb
  split at hb
  · rename_i hnil
    split at hb<;>simp only [zA,zB,reduceCtorEq] at hb
    obtain ⟨rfl,rfl,rfl,rfl,rfl,rfl,rfl⟩:=hb
    have hv:a.eval x = .slice none 0 0:=by
      unfold Zpu at hnil
      split at hnil
      · rfl
      · cases hnil
    exact ⟨g,.refl g w,hs.mem,.refl rfl rfl,.inl ⟨hv,rfl⟩,.inl (by simp),rfl,rfl⟩
  obtain ⟨bx,hx1,hx2⟩:=zU.1 hb
  have hbx:=Zbe hs hx1
  unfold Zjp at hx2
  split at hx2
  · rename_i n' ver sz' lo len
    split at hx2<;>try (cases hx2;done)
    rename_i e0 sz0 xs0 qs0 hre
    split at hx2<;>simp only [zA,zB,reduceCtorEq] at hx2
    rename_i hh
    obtain ⟨rfl,rfl,he⟩:=hh
    obtain ⟨rfl,rfl,rfl,rfl,rfl,rfl,rfl⟩:=hx2
    rw [Zbt.append] at hp1
    obtain ⟨hv0,t0,q1,q2,q3⟩:=Zdw hs.mem hre hp1.2
    obtain ⟨rfl,rfl⟩:=q3 _ _ rfl
    obtain ⟨w1,w2,w3⟩:=Zfi hp1.1
    have hr:=q2.win (hbx.2.2.2 _ q1) w2 (he.imp id w3)
    rw [w1]
    refine ⟨g,.refl g w,hs.mem,.refl rfl rfl,hr,.inr ?_,rfl,rfl⟩
    simp only [ZfK] at hre
    split at hre<;>try (cases hre;done)
    rename_i h1
    split at hre<;>try (cases hre;done)
    rename_i hv1
    exact ⟨_,_,_,_,h1,by omega⟩
  · rename_i r off ep sz' lo len
    split at hx2<;>try (cases hx2;done)
    rename_i hh0
    obtain ⟨rfl,hmen,hrd⟩:=hh0
    split at hx2<;>try (cases hx2;done)
    rename_i c qs0 hc
    split at hx2<;>try (cases hx2;done)
    rename_i e0 sz0 xs0 c' hgo
    split at hx2<;>simp only [zA,zB,reduceCtorEq] at hx2
    rename_i hh
    obtain ⟨rfl,rfl,he⟩:=hh
    obtain ⟨rfl,rfl,rfl,rfl,rfl,rfl,rfl⟩:=hx2
    rw [Zbt.append] at hp1
    obtain ⟨w1,w2,w3⟩:=Zfi hp1.1
    obtain ⟨v,q1,q2,q3,q4,q5⟩:=Zle hs.mem hc hp1.2 hgo hrd
    have hr:=q5.win (hbx.2.2.2 _ q1) w2 (he.imp id w3)
    rw [w1]
    refine ⟨_,q2,q3,q4,hr,.inl (by simp),(Zcn _ _ _).1,?_⟩
    simp only [S.setEnt,List.length_set];exact (Zcn _ _ _).2
  · split at hx2<;>simp only [zA,zB,reduceCtorEq] at hx2
    obtain ⟨rfl,rfl,rfl,rfl,rfl,rfl,rfl⟩:=hx2
    refine ⟨g,.refl g w,hs.mem,.refl rfl rfl,?_,.inl (by simp),rfl,rfl⟩
    have hl:=hbx.2
    simp only [TR] at hl
    generalize a.eval x=v at hl
    cases hl with
    | ownnil=>exact .inl ⟨rfl,rfl⟩
    | ownz _ _ _ b o=>exact .inr (.inl ⟨b,o,rfl,rfl⟩)
  · cases hx2
theorem ZlZ {d:D} {dd sz:Nat} {x:Operand} {s1:S} {n ver':Nat} {e:Bool} {xs:List (List L)} {X:List Nat} {ps:List Prop} (hb:appBase' s d dd sz x=some (s1,n,ver',e,xs,X,ps)) :
    s1.sl=s.sl∧X.all (fun n=>!TV.mens n s.sl)=true:=by
  unfold appBase' at hb
  split at hb
  · split at hb<;>simp only [zA,zB,reduceCtorEq] at hb
    rename_i hm
    obtain ⟨rfl,_,_,_,_,rfl,_⟩:=hb
    exact ⟨rfl,by simpa using hm⟩
  obtain ⟨tv,h1,h2⟩:=zU.1 hb
  unfold Zjp at h2
  split at h2
  · split at h2<;>try (cases h2;done)
    split at h2<;>simp only [zA,zB,reduceCtorEq] at h2
    obtain ⟨rfl,_,_,_,_,rfl,_⟩:=h2
    exact ⟨rfl,rfl⟩
  · split at h2<;>try (cases h2;done)
    rename_i hh
    split at h2<;>try (cases h2;done)
    split at h2<;>try (cases h2;done)
    split at h2<;>simp only [zA,zB,reduceCtorEq] at h2
    obtain ⟨rfl,_,_,_,_,rfl,_⟩:=h2
    exact ⟨(Zcn _ _ _).1,by simp [hh.2.1]⟩
  · split at h2<;>simp only [zA,zB,reduceCtorEq] at h2
    rename_i hh
    obtain ⟨rfl,_,_,_,_,rfl,_⟩:=h2
    exact ⟨rfl,by simp [hh.2]⟩
  · cases h2
def callM (P:Program) (s:S) (o:Oper) (d:D):Option (List Nat×S×List Prop):=none
theorem Zcj.callM {s s':S} {o:Oper} {d:D} {X:List Nat} {ps:List Prop} (h:Dn.callM P s o d=some (X,s',ps)) (hp:Zbt ps):Zcj P o X s s'∧(∃tv,s'.sl=(s.put o.dst tv).sl)∧X.all (fun n=>!TV.mens n s.sl)=true:=by unfold Dn.callM at h;cases h
end
end Go.Dn
namespace Go.Dn
variable [Globs]
def isI (xs:List (List L)):Bool:=xs.all fun x=>match x with
  | [.int .i64 _]=>true
  | _=>false
def Zdp (l:List Int):List (List L):=l.map fun n=>[.int .i64 n]
def ZiB (xs:List (List L)):List (List L):=Zdp ((xs.map ZgB).mergeSort fun x y=>decide (x≤y))
def SortC (P:Program) (f:FuncId):Prop:=
  ZnG P f∧(∀p cap w,Calls P f #[.slice p 0 cap] w fun e w'=>e = .returned (.tuple #[])∧w'=w) ∧
  ∀(blk off cap:Nat) (zs:List Int) (w:World),Go.Sort.Holds (Value.int .i64) w blk off zs.toArray→blk<w.heap.size→zs.length<4611686018427387904 →
    Calls P f #[.slice (some ⟨blk,off,none⟩) zs.length cap] w fun e w'=>e = .returned (.tuple #[])∧∃n os,w'=Go.Sort.grow (Go.Sort.putRow (Value.int .i64) (Go.Sort.ahead w n) blk off (zs.mergeSort fun x y=>decide (x≤y)).toArray) os
def ZoK (P:Program) (s:S) (o:Oper):Option (S×List Prop):=
  match o.op with
  | .call { callee:=.value (.func f),args:=⟨[x]⟩,.. }=>match ev s x with
    | some (.one (.h (.row n ver) 1 lo len))=>match s.si[n]? with
      | some (some (.row ver' true 1 xs))=>if ver=ver' then
          some ({ s with si:=s.si.set n (some (.row ver true 1 (ZiB xs)))}.put o.dst (.tup []),[lo=0,len=xs.length,isI xs=true,xs.length<4611686018427387904,SortC P f]) else none
      | _=>none
    | _=>none
  | _=>none
section
variable {P:Program} {g g':G} {s:S} {w w':World}
theorem Zgt : ∀{xs:List (List L)},isI xs=true→xs=Zdp (xs.map ZgB)
  | [],_=>rfl
  | x::xs,h=>by
    simp only [isI,yT,zO] at h
    have h1:=Zgt (xs:=xs) h.2
    have h2:=h.1
    split at h2<;>simp at h2
    rename_i n
    simp only [Zdp,yP,ZgB] at h1 ⊢
    rw [←h1]
theorem ER.cellsI : ∀{l:List Int} {b o:Nat},ER g w b o 1 (Zdp l)→∀j v,(l.map (Value.int .i64))[j]? = some v→w.cell? (ad b (o+j))=some v
  | [],b,o,h,j,v,hj=>by simp at hj
  | y::ys,b,o,h,j,v,hj=>by
    simp only [Zdp,yP] at h
    cases h with
    | cons _ _ _ vs _ _ hn hc hx hr=>
      cases j with
      | zero=>
        simp only [yP,yA,zA] at hj
        cases hx with
        | one _ u us _ _ hv h1 hr'=>
          cases hr'
          have:=hv.int_eq;subst this
          subst hj
          exact hc 0 _ rfl
      | succ j=>
        simp only [yP,List.getElem?_cons_succ] at hj
        have:=ER.cellsI (l:=ys) hr j v hj
        rwa [show o+(j+1)=o+1+j by omega]
theorem Zmk {blk off n:Nat} {d:Array Int} {os:Array Obj} {cur:Array Value} {E:TypeId} (h:w.heap[blk]? = some (.cells cur E (0,0))) :
    (Go.Sort.grow (Go.Sort.putRow (Value.int .i64) (Go.Sort.ahead w n) blk off d) os).heap[blk]? = some (.cells (Go.Sort.putCells (Value.int .i64) off d cur) E (0,0)) ∧
    (∀b,b<w.heap.size→b≠blk→(Go.Sort.grow (Go.Sort.putRow (Value.int .i64) (Go.Sort.ahead w n) blk off d) os).heap[b]? = w.heap[b]?) ∧
    w.heap.size≤(Go.Sort.grow (Go.Sort.putRow (Value.int .i64) (Go.Sort.ahead w n) blk off d) os).heap.size:=by
  have hlt:blk<w.heap.size:=by
    rcases zT blk w.heap.size with h' | h'
    · exact h'
    · rw [sZ h'] at h;cases h
  have hs:(Go.Sort.putRow (Value.int .i64) (Go.Sort.ahead w n) blk off d).heap.size=w.heap.size:=by simp [Go.Sort.putRow,Go.Sort.mapBlock,Go.Sort.ahead]
  refine ⟨?_,fun b hb hne=>?_,?_⟩
  · simp only [Go.Sort.grow]
    rw [wQ (by rw [hs];exact hlt)]
    simp only [Go.Sort.putRow,Go.Sort.mapBlock,Go.Sort.ahead,uH,if_true,h,yJ,Go.Sort.onCells]
  · simp only [Go.Sort.grow]
    rw [wQ (by rw [hs];exact hb)]
    simp only [Go.Sort.putRow,Go.Sort.mapBlock,Go.Sort.ahead,uH]
    rw [if_neg (fun e=>hne e.symm)]
  · simp only [Go.Sort.grow,Array.size_append,hs];omega
theorem Zcj.sort {o:Oper} {s':S} {ps:List Prop} (h:ZoK P s o=some (s',ps)) (hp:Zbt ps):Zcj P o [] s s'∧∃tv,s'.sl=(s.put o.dst tv).sl:=by
  unfold ZoK at h
  split at h<;>try (cases h;done)
  rename_i f x _ ho
  split at h<;>try (cases h;done)
  rename_i n ver lo len hx
  split at h<;>try (cases h;done)
  rename_i ver' xs hsi
  split at h<;>simp only [zA,zB,reduceCtorEq] at h
  rename_i hver;subst hver
  obtain ⟨rfl,rfl⟩:=h
  simp only [Zbt] at hp
  obtain ⟨rfl,rfl,hI,hlen,hC⟩:=hp
  refine ⟨fun g w a hs K Q hK=>?_,⟨.tup [],by cases o.dst<;>rfl⟩⟩
  obtain ⟨hent,hC0,hC1⟩:=hC
  have hxs:=Zgt hI
  obtain ⟨zs,hzs⟩ : ∃zs,zs=xs.map ZgB:=⟨_,rfl⟩
  rw [←hzs] at hxs
  have hzl:zs.length=xs.length:=by rw [hzs];simp
  have hrow:=hs.mem.site n _ hsi
  simp only [ZeB] at hrow
  have hnlt:n<s.si.length:=by
    rcases zT n s.si.length with h' | h'
    · exact h'
    · rw [zL h'] at hsi;cases hsi
  have hxv:=Zbe hs hx
  have hwin:=hxv.2.2.2 (g.hd n) ⟨⟨_,_,_,hsi⟩,rfl⟩
  have hrun:(execOp a.eval o).run P w = .ok (.enter f #[a.eval x]) w:=by
    have:=ZeW hent #[a.eval x] w
    have hfun:a.eval (.func f) = .func (.func f) #[] #[]:=rfl
    simp [execOp,ho,resolve,Deferred.ofValue,hfun,invoke,this]
  unfold Oper.wp
  rw [hrun]
  show Calls P f _ w _
  have fin : ∀w',w.heap.size≤w'.heap.size→(w'.os=w.os∧w'.tape=w.tape∧w'.output=w.output)→(∀b,b<w.heap.size→g.ow b≠some (.rowS n)→w'.heap[b]? = w.heap[b]?) →
      (∀b o',o'<g.Z b→w'.cell? (ad b o')=w.cell? (ad b o'))→(∀b,0<g.Z b→ZgA w' b=ZgA w b)→ZeO g w' (.rowS n) (g.hd n) true 1 (ZiB xs)→K (a.put o.dst (.tuple #[])) w':=by
    intro w' h1 h2 h3 h4 h4' h5
    have Kp:Zcd g g w w':=⟨fun _ _=>rfl,zI _,fun _=>zI _,h4,h4'⟩
    obtain ⟨j1,j2,j3⟩:=Zha (g':=g) (s':={ s with si:=s.si.set n (some (.row ver true 1 (ZiB xs)))}.put o.dst (.tup [])) hs.mem (X:=[]) (n:=n) (ver':=ver) (.inr ⟨_,_,_,_,hsi,.inr ⟨rfl,rfl⟩⟩) ⟨rfl,rfl,rfl⟩ (fun _ _=>rfl) Kp h2 h1
      (fun b hb hne=>⟨h3 b hb hne,rfl,rfl⟩) (fun b t hb=>by have:=hs.mem.own b t hb;omega) (fun b hb=>hs.mem.z b (by omega)) h5 (by cases o.dst<;>rfl) (by cases o.dst<;>rfl) (by cases o.dst<;>rfl)
    refine hK g w' (.tuple #[]) j1 j3 (hs.next j3 (fun _ h=>by cases h) j2 (by cases o.dst<;>simp [S.put]) (dst:=o.dst) (tv:=.tup []) (by cases o.dst<;>rfl) (fun _=>?_))
    exact ⟨#[],rfl,by rw [ZdX]⟩
  rcases hrow with ⟨h0,h1⟩ | ⟨b,o1,h0,h1⟩ | ⟨b,off,cap,cur,E,h0,h2,h3,h4,h5,h6,h7⟩
  · have hv:a.eval x = .slice none 0 0:=by
      rcases hwin with ⟨_,_,_,h⟩ | ⟨b,o,n',c,o',h,_⟩
      · exact h
      · rw [h0] at h;cases h
    rw [hv]
    refine (hC0 none 0 w).mono ?_
    rintro e w' ⟨rfl,rfl⟩
    exact fin w' (zI _) ⟨rfl,rfl,rfl⟩ (fun _ _ _=>rfl) (fun _ _ _=>rfl) (fun _ _=>rfl) (.inl ⟨h0,by rw [h1];simp [ZiB,Zdp]⟩)
  · have hv : ∃p c,a.eval x = .slice p 0 c:=by
      rcases hwin with ⟨h,_⟩ | ⟨b',o,n',c,o',h,h',hv,_⟩
      · rw [h0] at h;cases h
      · rw [h0] at h;cases h
        have:xs.length=0:=by rw [h1];rfl
        rw [this] at hv
        exact ⟨_,_,hv⟩
    obtain ⟨p,c,hv⟩:=hv
    rw [hv]
    refine (hC0 p c w).mono ?_
    rintro e w' ⟨rfl,rfl⟩
    exact fin w' (zI _) ⟨rfl,rfl,rfl⟩ (fun _ _ _=>rfl) (fun _ _ _=>rfl) (fun _ _=>rfl) (.inr (.inl ⟨b,o1,h0,by rw [h1];simp [ZiB,Zdp]⟩))
  · rw [if_pos rfl] at h6
    have hv:a.eval x = .slice (some ⟨b,off,none⟩) zs.length cap:=by
      rcases hwin with ⟨h,_⟩ | ⟨b',o,n',c,o',h,h',hv,k1,k2⟩
      · rw [h0] at h;cases h
      · rw [h0] at h
        simp only [Value.slice.injEq,zA,Addr.mk.injEq] at h
        obtain ⟨⟨rfl,rfl,-⟩,rfl,rfl⟩:=h
        have:=k2 rfl;subst this
        rw [hv,hzl,Nat.sub_zero]
    have hb:b<w.heap.size:=hs.mem.own b _ h3
    have hcells:=ER.cellsI (l:=zs) (by rw [←hxs];exact h7)
    have hfit:off+zs.length≤cur.size:=by rw [hzl];omega
    have hH:Go.Sort.Holds (Value.int .i64) w b off zs.toArray:=by
      intro j hj
      have hj':j<zs.length:=by simpa using hj
      refine ⟨?_,by simp [World.frozen?,h4]⟩
      have:=hcells j (.int .i64 zs[j]) (by simp [hj'])
      rw [show (zs.toArray)[j]! = zs[j] by simp [hj']]
      exact this
    rw [hv]
    refine (hC1 b off cap zs w hH hb (by rw [hzl];exact hlen)).mono ?_
    rintro e w' ⟨rfl,nn,os,rfl⟩
    obtain ⟨q1,q2,q3⟩:=Zmk (n:=nn) (off:=off) (d:=(zs.mergeSort fun x y=>decide (x≤y)).toArray) (os:=os) h4
    have hcellb : ∀p,(Go.Sort.grow (Go.Sort.putRow (Value.int .i64) (Go.Sort.ahead w nn) b off (zs.mergeSort fun x y=>decide (x≤y)).toArray) os).cell? (ad b p)=(Go.Sort.putCells (Value.int .i64) off (zs.mergeSort fun x y=>decide (x≤y)).toArray cur)[p]? := fun p=>by simp [World.cell?,q1]
    refine fin _ q3 ⟨rfl,rfl,rfl⟩ (fun b' hb' hne=>q2 b' hb' (fun e=>hne (by rw [e];exact h3))) (fun b' o' ho'=>?_) (fun b' hb'=>?_) (.inr (.inr ⟨b,off,cap,_,E,?_,?_,h3,q1,?_,by rw [if_pos rfl];exact h6,?_⟩))
    · by_cases e:b'=b
      · subst e;omega
      · have hb':b'<w.heap.size:=by
          rcases zT b' w.heap.size with h' | h'
          · exact h'
          · have:=hs.mem.z b' h';omega
        exact Zch (q2 b' hb' e)
    · by_cases e:b'=b
      · rw [e,Zem h4,Zem q1]
      · have hb'':b'<w.heap.size:=by
          rcases zT b' w.heap.size with h' | h'
          · exact h'
          · have:=hs.mem.z b' h';omega
        exact Zdf (q2 b' hb'' e)
    · rw [h0];simp [ZiB,Zdp]
    · simpa [ZiB,Zdp] using h2
    · simpa [Go.Sort.putCells] using h5
    · unfold ZiB
      rw [←hzs]
      refine ZhT .i64 _ fun j v hj=>?_
      rw [hcellb]
      simp only [yG] at hj
      obtain ⟨y,hy,rfl⟩:=zD.1 hj
      have hjl:j<(zs.mergeSort fun x y=>decide (x≤y)).length:=by
        rcases zT j (zs.mergeSort fun x y=>decide (x≤y)).length with h' | h'
        · exact h'
        · rw [zL h'] at hy;cases hy
      have hjl':j<zs.length:=by simpa using hjl
      have hcur:off+j<cur.size:=by omega
      simp only [Go.Sort.putCells,Array.getElem?_mapIdx,vQ hcur,yJ]
      rw [if_pos ⟨by omega,by simpa using hjl'⟩]
      congr 2
      rw [show off+j-off=j by omega]
      simp [hy]
end
def clrOp (P:Program) (s:S) (o:Oper):Option (S×List Prop):=
  match o.op with
  | .call { callee:=.builtin .clear,args:=⟨[x]⟩,argTypes:=⟨[t]⟩}=>match ev s x,P.underlying t with
    | some (.one (.h (.row n ver) 1 lo len)),some (.slice e)=>match s.si[n]?,P.info? e with
      | some (some (.row ver' true 1 xs)),some ie=>match ie.zero with
        | some (.int k z)=>if ver=ver' then
          some ({ s with si:=s.si.set n (some (.row ver true 1 (xs.take lo++zC len [zJ k z])))}.put o.dst (.tup []),[lo+len=xs.length]) else none
        | _=>none
      | _,_=>none
    | _,_=>none
  | _=>none
section
variable {P:Program} {g g':G} {s:S} {w w':World}
theorem Zcj.clr {o:Oper} {s':S} {ps:List Prop} (h:clrOp P s o=some (s',ps)) (hp:Zbt ps):Zcj P o [] s s'∧∃tv,s'.sl=(s.put o.dst tv).sl:=by
  unfold clrOp at h
  split at h<;>try (cases h;done)
  rename_i x t ho
  split at h<;>try (cases h;done)
  rename_i n ver lo len e hx hu
  split at h<;>try (cases h;done)
  rename_i ver' xs ie hsi hie
  split at h<;>try (cases h;done)
  rename_i k z hz
  split at h<;>simp only [zA,zB,reduceCtorEq] at h
  rename_i hver;subst hver
  obtain ⟨rfl,rfl⟩:=h
  simp only [Zbt] at hp
  refine ⟨fun g w a hs K Q hK=>?_,⟨.tup [],by cases o.dst<;>rfl⟩⟩
  have hrow:=hs.mem.site n _ hsi
  simp only [ZeB] at hrow
  have hxv:=Zbe hs hx
  have hwin:=hxv.2.2.2 (g.hd n) ⟨⟨_,_,_,hsi⟩,rfl⟩
  have fin : ∀w',w.heap.size≤w'.heap.size→(w'.os=w.os∧w'.tape=w.tape∧w'.output=w.output)→(∀b,b<w.heap.size→g.ow b≠some (.rowS n)→w'.heap[b]? = w.heap[b]?) →
      (∀b o',o'<g.Z b→w'.cell? (ad b o')=w.cell? (ad b o'))→(∀b,0<g.Z b→ZgA w' b=ZgA w b)→ZeO g w' (.rowS n) (g.hd n) true 1 (xs.take lo++zC len [zJ k z])→(execOp a.eval o).run P w = .ok (.value (.tuple #[])) w'→o.wp P a w K Q:=by
    intro w' h1 h2 h3 h4 h4' h5 hrun
    have Kp:Zcd g g w w':=⟨fun _ _=>rfl,zI _,fun _=>zI _,h4,h4'⟩
    obtain ⟨j1,j2,j3⟩:=Zha (g':=g) (s':={ s with si:=s.si.set n (some (.row ver true 1 (xs.take lo++zC len [zJ k z])))}.put o.dst (.tup [])) hs.mem (X:=[]) (n:=n) (ver':=ver) (.inr ⟨_,_,_,_,hsi,.inr ⟨rfl,rfl⟩⟩) ⟨rfl,rfl,rfl⟩ (fun _ _=>rfl) Kp h2 h1
      (fun b hb hne=>⟨h3 b hb hne,rfl,rfl⟩) (fun b t hb=>by have:=hs.mem.own b t hb;omega) (fun b hb=>hs.mem.z b (by omega)) h5 (by cases o.dst<;>rfl) (by cases o.dst<;>rfl) (by cases o.dst<;>rfl)
    unfold Oper.wp
    rw [hrun]
    refine hK g w' (.tuple #[]) j1 j3 (hs.next j3 (fun _ h=>by cases h) j2 (by cases o.dst<;>simp [S.put]) (dst:=o.dst) (tv:=.tup []) (by cases o.dst<;>rfl) (fun _=>?_))
    exact ⟨#[],rfl,by rw [ZdX]⟩
  have hexec : ∀v r,a.eval x=v→(Builtin.clear_ #[t] o.type #[v]).run P w=r→(execOp a.eval o).run P w=r.andThen fun v w'=>.ok (.value v) w':=by
    intro v r h1 h2
    subst h1 h2
    simp [execOp,ho,resolve,invoke,builtin]
  have nothing:len=0→∀p c,a.eval x = .slice p 0 c→ZeO g w (.rowS n) (g.hd n) true 1 (xs.take lo++zC len [zJ k z])→o.wp P a w K Q:=by
    intro hl p c hv hr
    refine fin w (zI _) ⟨rfl,rfl,rfl⟩ (fun _ _ _=>rfl) (fun _ _ _=>rfl) (fun _ _=>rfl) hr ?_
    have:(Builtin.clear_ #[t] o.type #[Value.slice p 0 c]).run P w = .ok (.tuple #[]) w:=by
      cases p<;>simp [Builtin.clear_,underlying,hu]
    rw [hexec _ _ hv this];rfl
  have keep0:len=0→xs.take lo++zC len [zJ k z]=xs:=by
    intro hl;subst hl
    simp only [List.replicate_zero,xZ]
    exact yD (by omega)
  by_cases hl0:len=0
  · have hv : ∃p c,a.eval x = .slice p 0 c:=by
      rcases hwin with ⟨_,_,_,h⟩ | ⟨b,o,n',c,o',h,h',hv,_⟩
      · exact ⟨_,_,h⟩
      · rw [hl0] at hv;exact ⟨_,_,hv⟩
    obtain ⟨p,c,hv⟩:=hv
    exact nothing hl0 p c hv (by rw [keep0 hl0];exact hrow)
  rcases hrow with ⟨h0,h1⟩ | ⟨b,o1,h0,h1⟩ | ⟨b,off,cap,cur,E,h0,h2,h3,h4,h5,h6,h7⟩
  · rw [h1] at hp;simp at hp;omega
  · rw [h1] at hp;simp at hp;omega
  · rw [if_pos rfl] at h6
    rcases hwin with ⟨h,_⟩ | ⟨b',o',n',c,oo,h,h',hv,k1,k2⟩
    · rw [h0] at h;cases h
    · rw [h0] at h
      simp only [Value.slice.injEq,zA,Addr.mk.injEq] at h
      obtain ⟨⟨rfl,rfl,-⟩,rfl,rfl⟩:=h
      have hoo:=k1 (by omega);subst hoo
      have hcs:((Builtin.zeroCells (Value.int k z).cells len).toList)=zC len (Value.int k z):=by
        apply wJ
        intro i
        simp only [Builtin.zeroCells,Value.cells,Array.toList_map,yG,Array.toList_range]
        by_cases hi:i<len
        · simp [hi,xW,Nat.mod_one]
        · simp [hi,xW]
      have hrun:=run_storeCells_at P b (off+lo*1) E (zC len (Value.int k z)) 0 cur w h4 (by simp;omega) (fun u hu=>by rw [List.eq_of_mem_replicate hu];rfl)
      simp only [wB,uL,wT] at hrun
      obtain ⟨cs,hcse⟩ : ∃cs,cs=(cur.toList.take (off+lo)++zC len (Value.int k z)++cur.toList.drop (off+lo+len)):=⟨_,rfl⟩
      rw [←hcse] at hrun
      have hnew:(w.setRow b cs.toArray).heap[b]? = some (.cells cs.toArray E (0,0)):=setRow_heap w _ cur _ E _ h4
      have hi':=Zll hs.mem (cs:=cs.toArray) h4 h3 h6
      have hcsl:cs.length=cur.size:=by subst hcse;simp;omega
      refine fin (w.setRow b cs.toArray) (Nat.le_of_eq hi'.size.symm) hi'.ho (fun b' _ hne=>(hi'.same b' hne).1) hi'.K.cell hi'.K.mp ?_ ?_
      · refine .inr (.inr ⟨b,off,cap,cs.toArray,E,?_,?_,h3,hnew,by simp;omega,by rw [if_pos rfl];exact h6,?_⟩)
        · rw [h0];simp;omega
        · simp;omega
        · have hcell : ∀p,(w.setRow b cs.toArray).cell? (ad b p)=cs[p]? := fun p=>by simp [World.cell?,hnew]
          refine ER.append ?_ ?_
          ·
            have front : ∀{ys:List (List L)} {o2:Nat},ER g w b o2 1 ys→o2+ys.length≤off+lo→ER g (w.setRow b cs.toArray) b o2 1 ys:=by
              intro ys o2 hy hle
              refine hy.keep' hi'.K fun p hp1 hp2=>?_
              have hcold:w.cell? (ad b p)=cur.toList[p]? := by simp [World.cell?,h4]
              rw [hcell,hcold]
              subst hcse
              rw [List.append_assoc,zP (by simp;omega),yL,if_pos (by omega)]
            exact front (h7.takeN lo) (by simp;omega)
          ·
            have zeros : ∀(m o2:Nat),off+lo≤o2→o2+m≤off+lo+len→ER g (w.setRow b cs.toArray) b o2 1 (zC m [zJ k z]):=by
              intro m
              induction m with
              | zero=>intro o2 _ _;exact .nil _ _ _
              | succ m ih=>
                intro o2 h1 h2
                rw [List.replicate_succ]
                refine .cons _ _ _ [.int k z] _ _ rfl (fun j v hj=>?_) (.one _ _ _ _ _ (.int _ _ _) rfl (.nil _)) (ih (o2+1) (by omega) (by omega))
                cases j with
                | zero=>
                  simp only [yA,zA] at hj;subst hj
                  rw [hcell]
                  subst hcse
                  have e1:(cur.toList.take (off+lo)).length=off+lo:=by simp;omega
                  rw [List.append_assoc,List.getElem?_append_right (by omega),zP (by simp;omega),e1,xW,if_pos (by omega)]
                | succ j=>simp at hj
            have hl:(xs.take lo).length=lo:=by simp;omega
            rw [hl]
            exact zeros len (off+lo*1) (by omega) (by omega)
      · have hne:len≠0:=hl0
        have:(Builtin.clear_ #[t] o.type #[Value.slice (some ⟨b,off+lo,none⟩) len (cap-lo)]).run P w = .ok (.tuple #[]) (w.setRow b cs.toArray):=by
          simp only [Builtin.clear_]
          simp [underlying,hu,zeroValue,typeInfo,hie,hz,hcs,hrun]
        rw [uL] at hv
        rw [hexec _ _ hv this];rfl
end
end Go.Dn
namespace Go.Dn
variable [Globs]
def ZiD (s:S) (oc:List L) (md:Nat) (r:Root) (off:Nat) (tv:TV):Option (S×List Prop):=
  match tv with
  | .one (.h (.mem r' off' ep) sz lo len)=>if off'=off∧ep=s.ep then
      match Zex s oc r with
      | some (c,ps)=>match Zet c off with
        | some (.own e sz' xs)=>if sz'=sz∧(e=true∨md≤1) then match ZdU c off 1 [.own e sz (win md xs lo len).1] with
            | some c'=>some ((s.setRoot r c').bump true,(r'=r)::(ps++(win md xs lo len).2))
            | none=>none
          else none
        | _=>none
      | none=>none
    else none
  | _=>none
def ZoR (P:Program) (s:S) (d:D) (o:Oper):Option (S×List Prop):=
  match o.dst,o.op with
  | none,.store t x y=>match ev s x,ev s y,P.info? t with
    | some (.one (.adr r off)),some tv,some i=>if i.size=1 then ZiD s d.oc d.wm r off tv else none
    | some (.one (.l (.ptr (some j)))),some tv,some i=>if i.size=1 then ZiD s d.oc d.wm (.obj j) 0 tv else none
    | _,_,_=>none
  | _,_=>none
section
variable {P:Program} {g g':G} {s:S} {w w':World}
theorem ZhZ (hm:Zde g s w) {t:TypeId} {i:TypeInfo} (hi:P.info? t=some i) (h1c:i.size=1) {oc:List L} {md:Nat} {r:Root} {off:Nat} {tv:TV} {s':S} {ps:List Prop} {v:Value}
    (h:ZiD s oc md r off tv=some (s',ps)) (hp:Zbt ps) (hv:Zcl g s w v tv) :
    ∃w' g',(storeVar t (ad (g.rb r) off) v).run P w = .ok () w'∧Mod g g' w w'∧Zde g' s' w'∧Zbb (· ∈ []) s s' g g' w w':=by
  unfold ZiD at h
  split at h<;>try (cases h;done)
  rename_i r' off' ep sz lo len
  split at h<;>try (cases h;done)
  rename_i hh
  obtain ⟨rfl,rfl⟩:=hh
  split at h<;>try (cases h;done)
  rename_i c ps' hc
  split at h<;>try (cases h;done)
  rename_i e sz' xs hseg
  split at h<;>try (cases h;done)
  rename_i hh
  obtain ⟨rfl,he⟩:=hh
  split at h<;>simp only [zA,zB,reduceCtorEq] at h
  rename_i c' hrep
  obtain ⟨rfl,rfl⟩:=h
  rw [Zbt.cons,Zbt.append] at hp
  obtain ⟨rfl,hp1,hp2⟩:=hp
  obtain ⟨hri,hrok,hng,hblk⟩:=ZdF hm hc hp1
  obtain ⟨cur,E,hb,hcr⟩:=hblk.heap
  obtain ⟨u,hu1,hu2,hu3⟩:=hcr.at1 hseg rfl
  simp only [bump,zZ] at hu3
  have hcell:w.cell? (ad (g.rb r') off')=some u:=by simp [World.cell?,hb];simpa using hu1
  have hrow:=Zih.1 hu3
  have hwin:=hv.2.2.2 u ⟨rfl,hrok,hcell⟩
  obtain ⟨w1,w2,w3⟩:=Zfi hp2
  have hnew:=hrow.win hwin w2 (he.imp id w3)
  rw [←w1] at hnew
  have hone:v.oneCell'=true:=hv.1
  have hcells:v.cells.toList = [v]:=Zhe hone
  have hlt:off'<cur.size:=by
    rcases zT off' cur.toList.length with h' | h'
    · simpa using h'
    · rw [zL h'] at hu1;cases hu1
  have hrun:=run_storeCells_at P (g.rb r') off' E [v] 0 cur w hb (by simp only [yX];omega) (by simpa using hone)
  simp only [wB] at hrun
  have hst:((s.setRoot r' c').drop []).bump true=(s.setRoot r' c').bump true:=rfl
  obtain ⟨cs,hcs⟩ : ∃cs,cs=(cur.toList.take off' ++ [v]++cur.toList.drop (off' + [v].length)).toArray:=⟨_,rfl⟩
  have hcs':cs.toList=cur.toList.take off' ++ [v]++cur.toList.drop (off' + [v].length):=by rw [hcs]
  rw [←hcs] at hrun
  have key:=ZiJ hm (c':=c') (cs:=cs) (off:=off') (m:=[]) (bp:=true) hc hp1 hb (fun q hq=>by cases hq) (fun h=>by cases h) (by
    intro K hmv hrw
    have hl:LR (g.retag (g.rb r') off' []) (w.setRow (g.rb r') cs) (some (g.rb r',off')) v (.own e sz' (win md xs lo len).1):=
      LR.keepO K (fun b' h'=>hrw b' off' h') (Zih.2 hnew)
    have:=(hcr.keepO K hrw).repl hrep (us:=[v]) (by simpa [Dn.bump] using CR.one _ v [] _ [] hl hone (.nil _)) rfl
    rw [hcs']
    exact this.2)
  rw [hst] at key
  refine ⟨_,_,?_,key⟩
  unfold storeVar
  rw [Sem.run_bind,ZcE hi]
  have hne : ¬ (v.cells.size≠i.size):=by
    have:=congrArg List.length hcells
    simp only [Array.length_toList,yX] at this
    omega
  simp only [Result.andThen_ok,Sem.run_ite,if_neg hne,hcells]
  exact hrun
theorem Zcj.self {s s':S} {o:Oper} {d:D} {ps:List Prop} (h:ZoR P s d o=some (s',ps)) (hp:Zbt ps):Zcj P o [] s s'∧∃tv,s'.sl=(s.put o.dst tv).sl:=by
  unfold ZoR at h
  have hsl : ∀{r:Root} {off:Nat} {tv:TV},ZiD s d.oc d.wm r off tv=some (s',ps)→s'.sl=s.sl∧s'.si.length=s.si.length:=by
    intro r off tv h
    unfold ZiD at h
    split at h<;>try (cases h;done)
    split at h<;>try (cases h;done)
    split at h<;>try (cases h;done)
    split at h<;>try (cases h;done)
    split at h<;>try (cases h;done)
    split at h<;>simp only [zA,zB,reduceCtorEq] at h
    obtain ⟨rfl,_⟩:=h
    exact Zcn _ _ _
  split at h<;>try (cases h;done)
  rename_i t x y hd ho
  split at h<;>try (cases h;done)
  · rename_i r off tv i hx hy hi
    split at h<;>try (cases h;done)
    rename_i h1c
    obtain ⟨e1,e2⟩:=hsl h
    refine ⟨fun g w a hs K Q hK=>?_,⟨.u,by rw [hd];exact e1⟩⟩
    obtain ⟨w',g',k1,k2,k3,k4⟩:=ZhZ hs.mem hi h1c h hp (Zbe hs hy)
    have hrok:Zdu s r:=by
      unfold ZiD at h
      split at h<;>try (cases h;done)
      split at h<;>try (cases h;done)
      rename_i hh;obtain ⟨rfl,rfl⟩:=hh
      split at h<;>try (cases h;done)
      rename_i c ps' hc
      split at h<;>try (cases h;done)
      split at h<;>try (cases h;done)
      split at h<;>simp only [zA,zB,reduceCtorEq] at h
      obtain ⟨_,rfl⟩:=h
      rw [Zbt.cons,Zbt.append] at hp
      exact (ZcF hs.mem hc hp.2.1).2.1
    have hx2:=(Zbe hs hx).2.2.2 hrok
    unfold Oper.wp
    have hexec:(execOp a.eval o).run P w = .ok .skip w':=by simp [execOp,ho,hx2,Instr.storeAt,Instr.sureAddr,k1]
    rw [hexec]
    exact hK g' w' undef k2 k4 (hs.next k4 (fun _ h=>by cases h) k3 e2 (dst:=o.dst) (tv:=.u) (by rw [hd];exact e1) (by rw [hd];simp))
  · rename_i j tv i hx hy hi
    split at h<;>try (cases h;done)
    rename_i h1c
    obtain ⟨e1,e2⟩:=hsl h
    refine ⟨fun g w a hs K Q hK=>?_,⟨.u,by rw [hd];exact e1⟩⟩
    obtain ⟨w',g',k1,k2,k3,k4⟩:=ZhZ hs.mem hi h1c h hp (Zbe hs hy)
    have hx2:a.eval x = .pointer (some (ad (g.ob j) 0)):=by
      have:=(Zbe hs hx).2
      simp only [TR] at this
      generalize a.eval x=v at this
      cases this;rfl
    unfold Oper.wp
    have hexec:(execOp a.eval o).run P w = .ok .skip w':=by
      have k1':(storeVar t (ad (g.ob j) 0) (a.eval y)).run P w = .ok () w':=k1
      simp [execOp,ho,hx2,Instr.storeAt,Instr.sureAddr,k1']
    rw [hexec]
    exact hK g' w' undef k2 k4 (hs.next k4 (fun _ h=>by cases h) k3 e2 (dst:=o.dst) (tv:=.u) (by rw [hd];exact e1) (by rw [hd];simp))
end
end Go.Dn
namespace Go.Dn
variable [Globs]
def fbOp (s:S) (o:Oper):Option TV:=
  match o.op with
  | .box _ x=>match (ev s x).bind tvL with
    | some ls=>some (.one (.l (.bx (sizes ls) ls)))
    | none=>none
  | _=>none
def ldbOp (P:Program) (s:S) (o:Oper):Option TV:=
  match o.op with
  | .load t x=>match ev s x,Zdm P t,P.info? t with
    | some (.one (.l (.bx _ ls))),some ag,some i=>Zhh ag i.size ls 0 Zgb
    | _,_,_=>none
  | _=>none
section
variable {P:Program} {g g':G} {s:S} {w w':World}
theorem Zcj.fb {o:Oper} {tv:TV} (h:fbOp s o=some tv):Zcj P o [] s (s.put o.dst tv):=by
  unfold fbOp at h
  split at h<;>try (cases h;done)
  rename_i t x ho
  split at h<;>simp only [zA,reduceCtorEq] at h
  rename_i ls hls
  subst h
  obtain ⟨tv,h1,h2⟩:=zU.1 hls
  intro g w a hs K Q hK
  have hc:=Zlb (p:=none) h2 (Zbe hs h1)
  have hm:=hs.mem
  have hn:(a.eval x).cells.toList.length=sizes ls:=hc.size
  unfold Oper.wp
  have hexec:(execOp a.eval o).run P w = .ok (.value (.pointer (some ⟨w.heap.size,0,none⟩))) (w.alloc (.cells (a.eval x).cells t)):=by simp [execOp,ho,Instr.box,Go.newVar,Go.newRow]
  rw [hexec]
  obtain ⟨g',hg'⟩ : ∃g':G,g' = { g with ow:=Zez g.ow w.heap.size (some .foreign),Z:=Zez g.Z w.heap.size (sizes ls)}:=⟨_,rfl⟩
  have eow : ∀b,b<w.heap.size→g'.ow b=g.ow b:=fun b hb=>by rw [hg'];exact ZbW _ _ (by omega)
  have eZ : ∀b,b<w.heap.size→g'.Z b=g.Z b:=fun b hb=>by rw [hg'];exact ZbW _ _ (by omega)
  have eow0:g'.ow w.heap.size=some .foreign:=by rw [hg'];exact ZaZ _ _ _
  have eZ0:g'.Z w.heap.size=sizes ls:=by rw [hg'];exact ZaZ _ _ _
  have eob:g'.ob=g.ob∧g'.nob=g.nob∧g'.sb=g.sb∧g'.hd=g.hd:=by rw [hg'];exact ⟨rfl,rfl,rfl,rfl⟩
  have hsz:(w.alloc (.cells (a.eval x).cells t)).heap.size=w.heap.size+1:=Array.size_push _
  have sm : ∀b,b<w.heap.size→ZfG g g' w (w.alloc (.cells (a.eval x).cells t)) b:=fun b hb=>⟨ZcO w _ hb,eow b hb,eZ b hb⟩
  have Kp:Zcd g g' w (w.alloc (.cells (a.eval x).cells t)):=by
    refine ⟨fun i _=>by rw [eob.1],by rw [eob.2.1];exact zI _,fun b=>?_,fun b o' ho'=>?_,fun b ho'=>?_⟩
    rotate_left 2
    · have hb:b<w.heap.size:=by
        rcases zT b w.heap.size with h' | h'
        · exact h'
        · rw [hm.z b h'] at ho';omega
      exact Zdf (ZcO w _ hb)
    · by_cases hb:b<w.heap.size
      · rw [eZ b hb];exact zI _
      · rw [hm.z b (by omega)];exact yU _
    · have hb:b<w.heap.size:=by
        rcases zT b w.heap.size with h' | h'
        · exact h'
        · rw [hm.z b h'] at ho';omega
      exact Zch (ZcO w _ hb)
  have so : ∀{b:Nat} {t':Ow},g.ow b=some t'→ZfG g g' w (w.alloc (.cells (a.eval x).cells t)) b:=fun h=>sm _ (hm.own _ _ h)
  have hM:Mod g g' w (w.alloc (.cells (a.eval x).cells t)):=by
    refine ⟨Kp,rfl,rfl,rfl,by omega,fun b hb=>.inl (sm b hb),fun b hb h1 h2=>?_,fun i h1 h2=>by rw [eob.2.1] at h2;omega⟩
    rw [eow b hb] at h1 h2;exact ⟨h1,h2⟩
  have hS:Zde g' (s.put o.dst (.one (.l (.bx (sizes ls) ls)))) (w.alloc (.cells (a.eval x).cells t)):=by
    have e1:(s.put o.dst (.one (.l (.bx (sizes ls) ls)))).si=s.si∧(s.put o.dst (.one (.l (.bx (sizes ls) ls)))).st=s.st:=by cases o.dst<;>exact ⟨rfl,rfl⟩
    refine ⟨by rw [e1.2,eob.2.1];exact hm.stl,fun i c h hne=>?_,fun i hi=>?_,fun m ent h=>?_,fun b t' h=>?_,fun b hb=>?_,hm.gl.keep Kp⟩
    · rw [e1.2] at h
      rw [eob.1]
      have h3:=hm.obj i c h hne
      exact h3.keep Kp (so h3.1) (fun b' o' hb=>so hb)
    · rw [eob.1]
      rw [eob.2.1] at hi
      rcases hm.objB i hi with h | h
      · exact .inl ((so h).2.1.trans h)
      · exact .inr ((so h).2.1.trans h)
    · rw [e1.1] at h
      have h3:=hm.site m ent h
      cases ent with
      | cells c=>simp only [ZeB] at h3 ⊢;rw [eob.2.2.1];exact h3.keep Kp (so h3.1) (fun b' o' hb=>so hb)
      | row ver e sz xs=>simp only [ZeB] at h3 ⊢;rw [eob.2.2.2];exact h3.keep Kp (fun b hb=>so hb)
      | mp es=>simp only [ZeB] at h3 ⊢;rw [eob.2.2.2];exact h3.keep Kp (fun b hb=>so hb)
    · by_cases hb:b<w.heap.size
      · omega
      · rcases zT w.heap.size b with hb' | hb'
        · rw [hg'] at h
          have:(Zez g.ow w.heap.size (some Ow.foreign)) b=some t':=h
          rw [ZbW _ _ (by omega)] at this
          have:=hm.own _ _ this;omega
        · omega
    · rw [hsz] at hb
      rw [hg']
      show Zez g.Z w.heap.size (sizes ls) b=0
      rw [ZbW _ _ (by omega)];exact hm.z b (by omega)
  have hk:Zbb (· ∈ []) s (s.put o.dst (.one (.l (.bx (sizes ls) ls)))) g g' w (w.alloc (.cells (a.eval x).cells t)):=by
    have e1:(s.put o.dst (.one (.l (.bx (sizes ls) ls)))).si=s.si∧(s.put o.dst (.one (.l (.bx (sizes ls) ls)))).ep=s.ep:=by cases o.dst<;>exact ⟨rfl,rfl⟩
    refine ⟨Kp,fun m _ h=>?_,fun m ver _ h=>?_,fun m _ h=>?_,fun _ r hg hi hok _ _ off hv h=>?_,by rw [e1.2];exact zI _⟩
    · rw [e1.1] at h;exact ⟨h,by rw [eob.2.2.1]⟩
    · rw [e1.1] at h;exact .inl ⟨h,by rw [eob.2.2.2]⟩
    · rw [e1.1] at h;exact ⟨h,by rw [eob.2.2.2]⟩
    · left
      have hb:ZfG g g' w (w.alloc (.cells (a.eval x).cells t)) (g.rb r):=by
        cases r with
        | site m=>obtain ⟨c,hok⟩:=hok;exact so (hm.site m _ hok).1
        | obj i=>rcases hm.objB i hi with h | h<;>exact so h
        | glob k=>exact absurd rfl (hg k)
      rwa [Zch hb.1] at h
  refine hK g' _ _ hM hk (hs.next hk (fun _ h=>by cases h) hS (by cases o.dst<;>rfl) (dst:=o.dst) (tv:=.one (.l (.bx (sizes ls) ls))) rfl (fun _=>⟨rfl,?_⟩))
  refine .bx _ _ w.heap.size 0 ls (a.eval x).cells.toList hn (by rw [eZ0];omega) (fun j v hj=>?_) (CR.keep Kp hc)
  simp only [World.cell?,heap_alloc_new,zZ]
  simpa using hj
theorem Zcj.ldb {o:Oper} {tv:TV} (h:ldbOp P s o=some tv):Zcj P o [] s (s.put o.dst tv):=by
  refine .value fun g w a hs=>?_
  unfold ldbOp at h
  split at h<;>try (cases h;done)
  rename_i t x ho
  split at h<;>try (cases h;done)
  rename_i n ls ag i hx hag hi
  have hv:=(Zbe hs hx).2
  simp only [TR] at hv
  have key : ∃u,(Instr.loadAt t (a.eval x)).run P w = .ok u w∧Zcl g s w u tv:=by
    generalize a.eval x=v at hv
    cases hv with
    | bx _ _ b o' _ vs hn hZ hc hx'=>
      obtain ⟨u,h1,h2⟩:=Zeu (s:=s) hag hi h hx' (b:=b) (o:=o') hc (fun x tv v hx hl hone _=>ZeG hx hl hone) (fun x tv hx=>Zeq hx)
      refine ⟨u,?_,h2⟩
      rw [wB] at h1
      simp [Instr.loadAt,Instr.sureAddr,h1]
  obtain ⟨u,h1,h2⟩:=key
  exact ⟨u,by simp [execOp,ho,h1],h2⟩
end
end Go.Dn
namespace Go.Dn
variable [Globs]
def sl3Op (P:Program) (s:S) (o:Oper) (d:D):Option (TV×List Prop):=none
def slxOp (P:Program) (s:S) (o:Oper):Option (TV×List Prop):=
  match o.op with
  | .slice t x low (some hx) none=>match P.underlying t with
    | some (.slice e)=>match P.info? e,ev s x with
      | some i,some (.one (.h (.row n ver) sz lo len))=>match bnd s 0 low,bnd s 0 (some hx),s.si[n]? with
        | some (l,ps),some (h,qs),some (some (.row ver' _ _ xs))=>if i.size=sz∧ver=ver' then some (.one (.h (.row n ver) sz (lo+l) (h-l)),ps++qs ++ [l≤h,lo+h≤xs.length]) else none
        | _,_,_=>none
      | _,_=>none
    | _=>none
  | _=>none
def apiOp (P:Program) (s:S) (o:Oper):Option (S×List Prop):=none
section
variable {P:Program} {g g':G} {s:S} {w w':World}
theorem Zcj.sl3 {o:Oper} {d:D} {tv:TV} {ps:List Prop} (h:sl3Op P s o d=some (tv,ps)) (hp:Zbt ps):Zcj P o [] s (s.put o.dst tv):=by unfold Dn.sl3Op at h;cases h
theorem ZjL {a:Act} (hs:Sat g s w a.tmps) {t e:TypeId} {i:TypeInfo} (hu:P.underlying t=some (.slice e)) (hi:P.info? e=some i) {q:Option Addr} {len cap l h:Nat} {low:Option Operand} {hx:Operand} {ps qs:List Prop}
    (hl:bnd s 0 low=some (l,ps)) (hh:bnd s 0 (some hx)=some (h,qs)) (hp:Zbt ps) (hq:Zbt qs) (h1:l≤h) (h2:h≤cap) :
    (Instr.sliceAt t (.slice q len cap) (low.map a.eval) (some (a.eval hx)) none).run P w = .ok (.slice (if cap=l then q else q.map (·.add (l*i.size))) (h-l) (cap-l)) w:=by
  have hb:(Instr.sliceBounds true len cap (low.map a.eval) (some (a.eval hx)) none).run P w = .ok (l,h,cap) w:=by
    unfold Instr.sliceBounds
    rcases ZhR hs hh hq with ⟨h,_⟩ | ⟨y',k',m',e0,e1',e2',rfl⟩
    · cases h
    cases e0
    rcases ZhR hs hl hp with ⟨rfl,rfl⟩ | ⟨y,k,m,rfl,e1,e2,rfl⟩
    · simp only [yJ,wG,e1',Sem.run_bind,Sem.run_pure,Result.andThen_ok]
      rw [run_sliceBound w k' m' cap _ e2' (by omega)];rfl
    · simp only [yJ,wG,e1,e1',Sem.run_bind,Sem.run_pure,Result.andThen_ok]
      rw [run_sliceBound w k' m' cap _ e2' (by omega)]
      simp only [Result.andThen_ok]
      rw [run_sliceBound w k m _ _ e2 (by omega)];rfl
  unfold Instr.sliceAt
  rw [Sem.run_bind,run_underlying hu]
  simp only [Result.andThen_ok]
  unfold Instr.slice
  rw [Sem.run_bind,run_underlying hu]
  simp only [Result.andThen_ok,Sem.run_bind,hb,ZcE hi,Sem.run_pure]
theorem ZeO.hdlen {t:Ow} {b o n c:Nat} {e:Bool} {sz:Nat} {xs:List (List L)} (h:ZeO g w t (.slice (some (ad b o)) n c) e sz xs):xs.length=n:=by
  rcases h with ⟨h,_⟩ | ⟨_,_,h,rfl⟩ | ⟨_,_,_,_,_,h,_⟩
  · cases h
  · simp only [Value.slice.injEq] at h;simp [h.2.1]
  · simp only [Value.slice.injEq] at h;exact h.2.1.symm
theorem Zcj.slx {o:Oper} {tv:TV} {ps:List Prop} (h:slxOp P s o=some (tv,ps)) (hp:Zbt ps):Zcj P o [] s (s.put o.dst tv):=by
  refine .value fun g w a hs=>?_
  unfold slxOp at h
  split at h<;>try (cases h;done)
  rename_i t x low hx ho
  split at h<;>try (cases h;done)
  rename_i e hu
  split at h<;>try (cases h;done)
  rename_i i n ver sz lo len hi hxe
  split at h<;>try (cases h;done)
  rename_i l ps1 hh qs1 ver' e' sz' xs hl hhi hsi
  split at h<;>simp only [zA,zB,reduceCtorEq] at h
  rename_i hsz
  obtain ⟨hsz,hver⟩:=hsz
  subst hsz;subst hver
  obtain ⟨rfl,rfl⟩:=h
  rw [Zbt.append,Zbt.append] at hp
  obtain ⟨⟨hp1,hp2⟩,hp3⟩:=hp
  simp only [Zbt] at hp3
  obtain ⟨h1,h2⟩:=hp3
  have hrow:=hs.mem.site n _ hsi
  simp only [ZeB] at hrow
  obtain ⟨hone,_,hin,hwin⟩:=Zbe hs hxe
  have hH:Hd g s w (.row n ver) (g.hd n):=⟨⟨_,_,_,hsi⟩,rfl⟩
  have ex : ∀{u:Value},(Instr.sliceAt t (a.eval x) (low.map a.eval) (some (a.eval hx)) none).run P w = .ok u w→(execOp a.eval o).run P w = .ok (.value u) w:=by
    intro u h
    simp only [execOp,ho,wG,yJ,Sem.run_bind,h,Result.andThen_ok,Sem.run_pure]
  rcases hwin _ hH with ⟨hv0,rfl,rfl,hv'⟩ | ⟨b,o0,m,c,o',hv0,⟨k1,k2⟩,hv',k3,k4⟩
  · have hx0:xs = []:=by
      rcases hrow with ⟨_,h⟩ | ⟨_,_,h,_⟩ | ⟨_,_,_,_,_,h,_⟩
      · exact h
      · rw [hv0] at h;cases h
      · rw [hv0] at h;cases h
    subst hx0
    have e1:hh=0:=by simpa using h2
    have e2:l=0:=by omega
    subst e1;subst e2
    have hrun:=ZjL (P:=P) (w:=w) hs hu hi (q:=none) (len:=0) (cap:=0) hl hhi hp1 hp2 h1 (zI _)
    rw [←hv'] at hrun
    refine ⟨_,ex hrun,rfl,⟨_,_,rfl,.inl rfl⟩,hin,fun hv2 hH2=>?_⟩
    rw [Hd.inj hH2 hH]
    left;exact ⟨hv0,rfl,rfl,rfl⟩
  · have hxl:xs.length=m:=by rw [hv0] at hrow;exact hrow.hdlen
    have hrun:=ZjL (P:=P) (w:=w) hs hu hi (q:=some (ad b o')) (len:=len) (cap:=c-lo) hl hhi hp1 hp2 h1 (by omega)
    rw [←hv'] at hrun
    refine ⟨_,ex hrun,rfl,⟨_,_,rfl,.inr (by split<;>rfl)⟩,hin,fun hv2 hH2=>?_⟩
    rw [Hd.inj hH2 hH]
    right
    have eadd:(some (ad b o')).map (·.add (l*i.size))=some (ad b (o'+l*i.size)):=by
      simp only [yJ,zA];unfold Addr.add;split<;>simp_all
    by_cases hc:c-lo=l
    · rw [if_pos hc]
      exact ⟨b,o0,m,c,o',hv0,⟨by omega,k2⟩,by rw [Nat.sub_sub],fun h=>by omega,fun h=>k4 (by omega)⟩
    · rw [if_neg hc,eadd]
      refine ⟨b,o0,m,c,o'+l*i.size,hv0,⟨by omega,k2⟩,by rw [Nat.sub_sub],fun h=>?_,fun h=>?_⟩
      · rw [k3 (by omega),xE];omega
      · have e1:lo=0:=by omega
        have e2:l=0:=by omega
        rw [e2];simp [k4 e1]
theorem Zcj.api {o:Oper} {s':S} {ps:List Prop} (h:apiOp P s o=some (s',ps)) (hp:Zbt ps):Zcj P o [] s s'∧∃tv,s'.sl=(s.put o.dst tv).sl:=by unfold Dn.apiOp at h;cases h
end
end Go.Dn
namespace Go.Dn
variable [Globs]
inductive BVs (st:List (List L)):List L→List L→Prop where
  | nil:BVs st [] []
  | pl (l:L) (ls ks:List L) (h:l.plain=true) (r:BVs st ls ks):BVs st (l::ls) (l::ks)
  | sl (sz:Nat) (xs:List (List L)) (ls ks:List L) (r:BVs st ls ks):BVs st (.sl sz xs::ls) (.sl sz xs::ks)
  | own (e:Bool) (sz:Nat) (xs:List (List L)) (ls ks:List L) (r:BVs st ls ks):BVs st (.own e sz xs::ls) (.sl sz xs::ks)
  | mp (es:List (L×L)) (ls ks:List L) (r:BVs st ls ks):BVs st (.mp es::ls) (.mz es::ks)
  | bx (n:Nat) (cs:List L) (ls ks:List L) (r:BVs st ls ks):BVs st (.bx n cs::ls) (.bx n cs::ks)
  | mz (es:List (L×L)) (ls ks:List L) (r:BVs st ls ks):BVs st (.mz es::ls) (.mz es::ks)
  | obj (i n:Nat) (c cs ls ks:List L) (h:st[i]? = some c) (hc:BVs st c cs) (hn:sizes cs=n) (hne:c.isEmpty=false) (r:BVs st ls ks):BVs st (.ptr (some i)::ls) (.bx n cs::ks)
theorem BVs.sizes {st:List (List L)} : ∀{c cs:List L},BVs st c cs→sizes c=sizes cs
  | _,_,.nil=>rfl
  | _,_,.pl _ _ _ _ r=>by simp only [Dn.sizes,r.sizes]
  | _,_,.sl _ _ _ _ r=>by simp only [Dn.sizes,r.sizes]
  | _,_,.own _ _ _ _ _ r=>by simp only [Dn.sizes,r.sizes,L.size]
  | _,_,.mp _ _ _ r=>by simp only [Dn.sizes,r.sizes,L.size]
  | _,_,.bx _ _ _ _ r=>by simp only [Dn.sizes,r.sizes]
  | _,_,.mz _ _ _ r=>by simp only [Dn.sizes,r.sizes]
  | _,_,.obj _ _ _ _ _ _ _ _ _ _ r=>by simp only [Dn.sizes,r.sizes,L.size]
section
variable {P:Program} {g g':G} {s:S} {w w':World}
theorem Zng {b:Nat} (h:(g.ow b).isSome=true):Zdo w b≤(g.lift w).Z b:=by
  show _≤if _ then _ else _
  rw [if_pos h];exact Nat.le_max_right _ _
theorem BVs.cr (hm:Zde g s w) : ∀{c cs:List L},BVs s.st c cs→∀{p:Option (Nat×Nat)} {vs:List Value},CR g w p vs c→CR (g.lift w) w none vs cs
  | _,_,.nil,_,_,h=>by cases h;exact .nil _
  | _,_,.pl l ls ks hl r,p,_,h=>by
    cases h with
    | one _ v vs _ _ hv h1 hr=>
      refine .one _ _ _ _ _ ?_ h1 (BVs.cr hm r hr)
      cases hv<;>first | (simp [L.plain] at hl;done) | skip
      · exact .int _ _ _
      · exact .bool _ _
      · exact .str _ _
      · exact .nilp _
      · exact .ref _ _ (by assumption)
    | arr _ k n xs vs _ hn hr=>exact .arr _ _ _ _ _ _ hn (BVs.cr hm r hr)
    | brr _ n xs vs _ hn hr=>exact .brr _ _ _ _ _ hn (BVs.cr hm r hr)
  | _,_,.sl sz xs ls ks r,p,_,h=>by
    cases h with
    | one _ v vs _ _ hv h1 hr=>
      refine .one _ _ _ _ _ ?_ h1 (BVs.cr hm r hr)
      cases hv with
      | slnil=>exact .slnil _ _
      | slz=>exact .slz _ _ _
      | sl _ b off len cap _ _ hl hc hZ he=>exact .sl _ b off len cap _ _ hl hc (xF hZ ((ZcU g w).Z b)) (he.keep (ZcU g w) (by rw [hl];exact hZ))
  | _,_,.own e sz xs ls ks r,p,_,h=>by
    cases h with
    | one _ v vs _ _ hv h1 hr=>
      refine .one _ _ _ _ _ ?_ h1 (BVs.cr hm r hr)
      cases hv with
      | ownnil=>exact .slnil _ _
      | ownz=>exact .slz _ _ _
      | own q b off len cap _ _ _ a E hl hc ho hb hs hZ he=>
        refine .sl _ b off len cap _ _ hl hc (xF ?_ (Zng (by rw [ho];rfl))) (he.keep' (ZcU g w) fun _ _ _=>rfl)
        have:Zdo w b=a.size:=by simp [Zdo,hb]
        have h2:len*sz≤cap*sz:=xX _ hc
        omega
  | _,_,.mp es ls ks r,p,_,h=>by
    cases h with
    | one _ v vs _ _ hv h1 hr=>
      refine .one _ _ _ _ _ ?_ h1 (BVs.cr hm r hr)
      cases hv with
      | mp q b cl en _ ho hb he=>
        refine .mz _ b en _ (yQ ?_ (Zng (w:=w) (by rw [ho.1];rfl))) (by simp [ZgA,hb]) (he.keep (ZcU g w))
        simp [Zdo,hb]
  | _,_,.bx n cs ls ks r,p,_,h=>by
    cases h with
    | one _ v vs _ _ hv h1 hr=>
      refine .one _ _ _ _ _ ?_ h1 (BVs.cr hm r hr)
      cases hv with
      | bx _ _ b o _ us hn hZ hc hx=>exact .bx _ n b o cs us hn (xF hZ ((ZcU g w).Z b)) hc (hx.keep (ZcU g w))
  | _,_,.mz es ls ks r,p,_,h=>by
    cases h with
    | one _ v vs _ _ hv h1 hr=>
      refine .one _ _ _ _ _ ?_ h1 (BVs.cr hm r hr)
      cases hv with
      | mz _ b en _ hZ hb he=>exact .mz _ b en _ (yQ hZ ((ZcU g w).Z b)) hb (he.keep (ZcU g w))
  | _,_,.obj i n c cs ls ks hst hc hn hne r,p,_,h=>by
    cases h with
    | one _ v vs _ _ hv h1 hr=>
      refine .one _ _ _ _ _ ?_ h1 (BVs.cr hm r hr)
      cases hv with
      | ref _ _ hi=>
        obtain ⟨h2,h3,a,E,h4,h5⟩:=hm.obj i c hst (by intro e;subst e;simp at hne)
        have h6:=BVs.cr hm hc h5
        have hlen:a.toList.length=n:=by rw [h5.size,hc.sizes];exact hn
        refine .bx _ n _ 0 cs a.toList hlen ?_ (fun j v hj=>?_) h6
        · have hb:Zdo w (g.ob i)=a.size:=by simp [Zdo,h4]
          have:=Zng (g:=g) (w:=w) (b:=g.ob i) (by rw [h2];rfl)
          simp at hlen
          show 0+n≤(g.lift w).Z (g.ob i)
          omega
        · simp only [World.cell?,h4]
          simpa using hj
def toCVV (s:S) (oc:List L) (md:Nat) (tv:TV) (c:Option CV):Option (CV×List Prop):=
  match tv,c with
  | .one (.adr (.obj i) 0),some (.one (.bx n cs))=>some (.one (.bx n cs),[BVs s.st [.ptr (some i)] [.bx n cs]])
  | .one (.l (.ptr (some i))),some (.one (.bx n cs))=>some (.one (.bx n cs),[BVs s.st [.ptr (some i)] [.bx n cs]])
  | tv,_=>toCVB s oc md tv
def Zlc (s:S) (oc:List L) (md:Nat):List Operand→List CV→Option (List CV×List Prop)
  | [],_=>some ([],[])
  | x::xs,ks=>match ev s x with
    | some tv=>match toCVV s oc md tv ks.head?,Zlc s oc md xs ks.tail with
      | some (c,ps),some (cs,qs)=>some (c::cs,ps++qs)
      | _,_=>none
    | none=>none
def callV (P:Program) (s:S) (o:Oper) (d:D):Option (List Nat×S×List Prop):=
  match o.op with
  | .call { callee:=.value (.func f),args:=⟨xs⟩,.. }=>match Zlc s d.oc d.wm xs d.cv,Zgz (d.ns.headD 0) 0 d.rs with
    | some (cs,ps),some (tvs,r)=>
      if (ZiH (d.ns.headD 0) r).all (fun n=>!TV.mens n s.sl)&&d.rs.all Znt then
        some (ZiH (d.ns.headD 0) r,(s.setEnt? (d.ns.headD 0) r).put o.dst (ZfB tvs),ps++ZnM d.rs ++ [Zdh P f cs d.rs])
      else none
    | _,_=>none
  | _=>none
theorem BVs.val (hm:Zde g s w) {i n:Nat} {cs:List L} {v:Value} (h:BVs s.st [.ptr (some i)] [.bx n cs]) (hv:LR g w none v (.ptr (some i))) (h1:v.oneCell'=true):LR ((g.lift w).out true) w none v (.bx n cs):=by
  have h2:=BVs.cr hm h (CR.one none v [] _ [] hv h1 (.nil _))
  obtain ⟨u,h6,_,h8⟩:=h2.at1 (o:=0) (l:=.bx n cs) rfl rfl
  simp only [yA,zA] at h6
  subst h6
  exact LR.keep (ZdI _ true w) h8
theorem Zmg (hm:Zde g s w) {oc:List L} {md:Nat} {tv:TV} {k:Option CV} {c:CV} {ps:List Prop} {v:Value} {i:Nat} (h:toCVV s oc md tv k=some (c,ps)) (hp:Zbt ps) (hv:Zcl g s w v tv):CVR ((g.lift w).out true) w i v c:=by
  unfold toCVV at h
  split at h
  · simp only [zA,zB] at h;obtain ⟨rfl,rfl⟩:=h
    simp only [Zbt] at hp
    obtain ⟨h1,_,h2,h3⟩:=hv
    have:=h3 trivial;subst this
    exact ⟨h1,BVs.val hm hp (.ref _ _ h2) h1⟩
  · simp only [zA,zB] at h;obtain ⟨rfl,rfl⟩:=h
    simp only [Zbt] at hp
    exact ⟨hv.1,BVs.val hm hp hv.2 hv.1⟩
  · exact ZiA hm h hp hv
theorem ZhX {oc:List L} {md:Nat} {a:Act} (hs:Sat g s w a.tmps) : ∀{xs:List Operand} {ks cs:List CV} {ps:List Prop} {i:Nat},Zlc s oc md xs ks=some (cs,ps)→Zbt ps→ZeP ((g.lift w).out true) w i (xs.map a.eval) cs
  | [],ks,cs,ps,i,h,hp=>by simp only [Zlc,zA,zB] at h;obtain ⟨rfl,rfl⟩:=h;rfl
  | x::xs,ks,cs,ps,i,h,hp=>by
    simp only [Zlc] at h
    split at h<;>try cases h
    rename_i tv hx
    split at h<;>simp only [zA,zB,reduceCtorEq] at h
    rename_i c ps1 cs1 qs1 h1 h2
    obtain ⟨rfl,rfl⟩:=h
    rw [Zbt.append] at hp
    exact ⟨_,_,rfl,Zmg hs.mem h1 hp.1 (Zbe hs hx),ZhX hs h2 hp.2⟩
theorem Zcj.callV {s s':S} {o:Oper} {d:D} {X:List Nat} {ps:List Prop} (h:Dn.callV P s o d=some (X,s',ps)) (hp:Zbt ps):Zcj P o X s s'∧(∃tv,s'.sl=(s.put o.dst tv).sl)∧X.all (fun n=>!TV.mens n s.sl)=true:=by
  unfold Dn.callV at h
  split at h<;>try (cases h;done)
  rename_i f xs _ ho
  split at h<;>try (cases h;done)
  rename_i cs ps1 tvs r hcs hrs
  split at h<;>simp only [zA,zB,reduceCtorEq] at h
  rename_i hX
  simp only [zO] at hX
  obtain ⟨hX,hfl⟩:=hX
  obtain ⟨rfl,rfl,rfl⟩:=h
  rw [Zbt.append,Zbt.append] at hp
  obtain ⟨⟨hp1,hp2⟩,hp3⟩:=hp
  simp only [Zbt] at hp3
  refine ⟨?_,⟨ZfB tvs,by cases o.dst<;>cases r<;>rfl⟩,hX⟩
  intro g w a hs K Q hK
  obtain ⟨hent,hp4⟩:=hp3 (s.seen true)
  unfold Oper.wp
  have hrun:(execOp a.eval o).run P w = .ok (.enter f (xs.map a.eval).toArray) w:=by
    have:=ZeW hent (xs.map a.eval).toArray w
    simp [execOp,ho,resolve,Deferred.ofValue,Act.eval,invoke,this]
  rw [hrun]
  show Calls P f _ w _
  refine (hp4 ((g.lift w).out true) w _ (ZhX hs hcs hp1) (ZlF hs.mem)).mono ?_
  rintro e w' ⟨g',us,rfl,hM,hm',hus⟩
  obtain ⟨g'',k1,k2,k3⟩:=ZlX hs hrs hX hfl (ZfV hp2) hM hm' hus (dst:=o.dst) (s':=(s.setEnt? (d.ns.headD 0) r).put o.dst (ZfB tvs)) (by cases o.dst<;>cases r<;>rfl) (by cases o.dst<;>rfl) (by cases o.dst<;>cases r<;>rfl) (by cases o.dst<;>cases r<;>rfl)
  exact hK _ _ _ k1 k2 k3
end
end Go.Dn
namespace Go.Dn
variable [Globs]
def G.seat (g:G) (n d:Nat):G:=
  { g with ow:=fun b=>match g.ow b with
    | some (.rowS q)=>if q=n then some (.rowS d) else if q=d then some .foreign else some (.rowS q)
    | x=>x,hd:=Zez g.hd d (g.hd n)}
def seatOp (s:S) (o:Oper):Option (List Nat×S):=none
section
variable {P:Program} {g g':G} {s s':S} {w w':World}
theorem Zcj.seat {o:Oper} {X:List Nat} (h:seatOp s o=some (X,s')):Zcj P o X s s'∧(∃tv,s'.sl=(s.put o.dst tv).sl)∧X.all (fun n=>!TV.mens n s.sl)=true:=by unfold Dn.seatOp at h;cases h
end
end Go.Dn
namespace Go.Dn
variable [Globs]
def msOp (P:Program) (s:S) (o:Oper):Option (S×List Prop):=none
section
variable {P:Program} {g:G} {s:S} {w:World}
theorem Zcj.ms {o:Oper} {s':S} {ps:List Prop} (h:msOp P s o=some (s',ps)) (hp:Zbt ps):Zcj P o o.dst.toList s s'∧(∃tv,s'.sl=(s.put o.dst tv).sl)∧o.dst.toList.all (fun n=>!TV.mens n s.sl)=true:=by unfold Dn.msOp at h;cases h
end
end Go.Dn
namespace Go.Dn
variable [Globs]
def clr2Op (P:Program) (s:S) (d:D) (o:Oper):Option (S×List Prop):=none
section
variable {P:Program} {g g':G} {s:S} {w w':World}
theorem ZjE.refl (hm:Zde g s w) (t:Ow):ZjE g g w w t:=
  ⟨⟨rfl,rfl,rfl,rfl,rfl⟩,⟨fun _ _=>rfl,zI _,fun _=>zI _,fun _ _ _=>rfl,fun _ _=>rfl⟩,⟨rfl,rfl,rfl⟩,rfl,fun _ _=>⟨rfl,rfl,rfl⟩,hm.z,fun _ _ _ _ h=>h⟩
theorem ER.zeros {zv:List Value} {zl:List L} (hc:CR g w none zv zl) {b sz:Nat} (hl:zv.length=sz) : ∀(n o:Nat),(∀i j v,i<n→zv[j]? = some v→w.cell? (ad b (o+i*sz+j))=some v)→ER g w b o sz (zC n zl)
  | 0,o,h=>.nil _ _ _
  | n+1,o,h=>by
    rw [List.replicate_succ]
    refine .cons _ _ _ zv _ _ hl (fun j v hj=>?_) hc (ER.zeros hc hl n (o+sz) fun i j v hi hj=>?_)
    · have:=h 0 j v (by omega) hj
      rwa [sY,wB] at this
    · have:=h (i+1) j v (by omega) hj
      rwa [xE,Nat.one_mul,show o+(i*sz+sz)=o+sz+i*sz by omega] at this
theorem Zcj.clr2 {d:D} {o:Oper} {s':S} {ps:List Prop} (h:clr2Op P s d o=some (s',ps)) (hp:Zbt ps):Zcj P o [] s s'∧∃tv,s'.sl=(s.put o.dst tv).sl:=by unfold Dn.clr2Op at h;cases h
end
end Go.Dn
namespace Go.Dn
variable [Globs]
def nstOp (P:Program) (s:S) (d:D) (o:Oper):Option (S×List Prop):=none
section
variable {P:Program} {g g':G} {s:S} {w w':World}
theorem Zcj.nst {s s':S} {o:Oper} {d:D} {ps:List Prop} (h:nstOp P s d o=some (s',ps)) (hp:Zbt ps):Zcj P o [] s s'∧∃tv,s'.sl=(s.put o.dst tv).sl:=by unfold Dn.nstOp at h;cases h
end
end Go.Dn
namespace Go.Dn
variable [Globs]
def ldvOp (P:Program) (s:S) (o:Oper) (d:D):Option (List Nat×S×List Prop):=none
theorem Zcj.ldv {P:Program} {s s':S} {o:Oper} {d:D} {X:List Nat} {ps:List Prop} (h:ldvOp P s o d=some (X,s',ps)) (hp:Zbt ps):Zcj P o X s s'∧(∃tv,s'.sl=(s.put o.dst tv).sl)∧X.all (fun n=>!TV.mens n s.sl)=true:=by unfold Dn.ldvOp at h;cases h
def untOp (s:S) (o:Oper):Option TV:=none
theorem Zcj.unt {P:Program} {s:S} {o:Oper} {tv:TV} (h:untOp s o=some tv):Zcj P o [] s (s.put o.dst tv):=by unfold Dn.untOp at h;cases h
def Znn (cs:List Int) (k:Nat) (x:Int):List Int:=cs.take k++x::cs.drop k
structure InsC (P:Program) (f:FuncId):Prop where
  ent:ZnG P f
  room : ∀(w:World) (b off cap vb voff vc:Nat) (cs:List Int) (k:Nat) (x:Int) (cur va:Array Value) (E V:TypeId),k≤cs.length→(cs.length+1)*8≤140737488355328→cs.length+1≤cap→vb≠b →
    w.heap[b]? = some (.cells cur E (0,0))→off+cap≤cur.size→(∀j v,(cs.map (Value.int .i64))[j]? = some v→w.cell? (ad b (off+j))=some v) →
    w.heap[vb]? = some (.cells va V (0,0))→w.cell? (ad vb voff)=some (.int .i64 x) →
    Calls P f #[.slice (some ⟨b,off,none⟩) cs.length cap,.int .i64 k,.slice (some ⟨vb,voff,none⟩) 1 vc] w fun e w'=>
      e = .returned (.slice (some ⟨b,off,none⟩) (cs.length+1) cap)∧(w'.os=w.os∧w'.tape=w.tape∧w'.output=w.output)∧w'.heap.size=w.heap.size∧(∀b',b'≠b→w'.heap[b']? = w.heap[b']?) ∧
      ∃cur':Array Value,w'.heap[b]? = some (.cells cur' E (0,0))∧cur'.size=cur.size∧∀(j:Nat) (v:Value),((Znn cs k x).map (Value.int .i64))[j]? = some v→cur'[off+j]? = some v
  grow : ∀(w:World) (base:Option Addr) (cap vb voff vc:Nat) (cs:List Int) (k:Nat) (x:Int),k≤cs.length→(cs.length+1)*8≤140737488355328→cs.length≤cap→cap<cs.length+1→(base=none→cs = []) →
    (∀a,base=some a→∃b off,a=⟨b,off,none⟩∧∀j v,(cs.map (Value.int .i64))[j]? = some v→w.cell? (ad b (off+j))=some v)→w.cell? (ad vb voff)=some (.int .i64 x) →
    Calls P f #[.slice base cs.length cap,.int .i64 k,.slice (some ⟨vb,voff,none⟩) 1 vc] w fun e w'=>∃(cap':Nat) (cur':Array Value) (E:TypeId),
      e = .returned (.slice (some ⟨w.heap.size,0,none⟩) (cs.length+1) cap')∧(w'.os=w.os∧w'.tape=w.tape∧w'.output=w.output)∧w'.heap.size=w.heap.size+1∧(∀b',b'<w.heap.size→w'.heap[b']? = w.heap[b']?) ∧
      w'.heap[w.heap.size]? = some (.cells cur' E (0,0))∧cs.length+1≤cap'∧cap'≤cur'.size∧∀(j:Nat) (v:Value),((Znn cs k x).map (Value.int .i64))[j]? = some v→cur'[j]? = some v
def insOp (P:Program) (s:S) (o:Oper) (d:D):Option (List Nat×S×List Prop):=
  match o.dst,o.op with
  | some dd,.call { callee:=.value (.func f),args:=⟨[x,i,y]⟩,.. }=>match appBase' s { d with m:=d.wm} dd 1 x,ev s i,ev s y with
    | some (s1,n,ver',true,xs,X,ps),some (.one (.l (.int .i64 k))),some (.one (.h (.row m v) 1 lo len))=>match s.si[m]?,s1.si[m]? with
      | some (some (.row v1 _ _ _)),some (some (.row v2 true 1 [[.int .i64 z]]))=>
        if v=v1∧v=v2∧m≠n∧lo=0∧len=1∧X.contains m=false then
          some (X,{ s1 with si:=s1.si.set n (some (.row ver' true 1 (xs.take k.toNat ++ [zJ .i64 z]::xs.drop k.toNat)))}.put (some dd) (.one (.h (.row n ver') 1 0 (xs.take k.toNat ++ [zJ .i64 z]::xs.drop k.toNat).length)),
            ps ++ [0≤k,k≤(xs.length:Int),isI xs=true,(xs.length+1)*8≤140737488355328,InsC P f])
        else none
      | _,_=>none
    | _,_,_=>none
  | _,_=>none
section
variable {P:Program} {g g':G} {s:S} {w w':World}
theorem ZlJ (hown : ∀b t,g.ow b=some t→b<w.heap.size) (hz : ∀b,w.heap.size≤b→g.Z b=0) {n b off cap:Nat} {cur cur':Array Value} {E:TypeId} {xs:List (List L)} (ho:g.ow b=some (.rowS n)) (hb:w.heap[b]? = some (.cells cur E (0,0))) (hZ:g.Z b=0)
    (hfit:off+cap≤cur.size) (h1:w'.os=w.os∧w'.tape=w.tape∧w'.output=w.output) (h2:w'.heap.size=w.heap.size) (h3 : ∀b',b'≠b→w'.heap[b']? = w.heap[b']?) (h4:w'.heap[b]? = some (.cells cur' E (0,0))) (h5:cur'.size=cur.size) (hl:xs.length≤cap)
    (her : ∀g',ER g' w' b off 1 xs) : ∃g',Zig g g' w w' n (.slice (some ⟨b,off,none⟩) xs.length cap) true 1 xs:=by
  have K:Zcd g (g.room n b true 0 (.slice (some ⟨b,off,none⟩) xs.length cap)) w w':=by
    refine ⟨fun _ _=>rfl,zI _,fun _=>zI _,fun b' o h=>?_,fun b' h=>?_⟩
    · by_cases e:b'=b
      · rw [e,hZ] at h;omega
      · exact Zch (h3 b' e)
    · by_cases e:b'=b
      · rw [e,Zem hb,Zem h4]
      · exact Zdf (h3 b' e)
  exact ⟨g.room n b true 0 (.slice (some ⟨b,off,none⟩) xs.length cap),⟨rfl,rfl,rfl⟩,fun m hm=>ZbW _ _ hm,ZaZ _ _ _,K,h1,by omega,fun b' hb' hne=>⟨h3 b' (fun e=>hne (by rw [e];exact ho)),rfl,rfl⟩,fun b' t h=>by rw [h2];exact hown b' t h,fun b' h=>hz b' (by omega),
    .inr (.inr ⟨b,off,cap,cur',E,rfl,hl,ho,h4,by omega,by rw [if_pos rfl];exact hZ,her _⟩)⟩
theorem Zge (hown : ∀b t,g.ow b=some t→b<w.heap.size) (hz : ∀b,w.heap.size≤b→g.Z b=0) {n cap:Nat} {cur':Array Value} {E:TypeId} {xs:List (List L)} (h1:w'.os=w.os∧w'.tape=w.tape∧w'.output=w.output) (h2:w'.heap.size=w.heap.size+1)
    (h3 : ∀b',b'<w.heap.size→w'.heap[b']? = w.heap[b']?) (h4:w'.heap[w.heap.size]? = some (.cells cur' E (0,0))) (h5:cap≤cur'.size) (hl:xs.length≤cap) (her : ∀g',ER g' w' w.heap.size 0 1 xs) :
    ∃g',Zig g g' w w' n (.slice (some ⟨w.heap.size,0,none⟩) xs.length cap) true 1 xs:=by
  have hlt : ∀b o,o<g.Z b→b<w.heap.size:=fun b o h=>by
    rcases zT b w.heap.size with h' | h'
    · exact h'
    · rw [hz b h'] at h;omega
  have K:Zcd g (g.grow w n true 0 (.slice (some ⟨w.heap.size,0,none⟩) xs.length cap)) w w':=by
    refine ⟨fun _ _=>rfl,zI _,fun b=>?_,fun b o h=>Zch (h3 b (hlt b o h)),fun b h=>Zdf (h3 b (hlt b 0 h))⟩
    by_cases hb:b=w.heap.size
    · rw [hb,hz _ (zI _)];exact yU _
    · show _≤Zez _ _ _ _
      rw [ZbW _ _ hb];exact zI _
  refine ⟨g.grow w n true 0 (.slice (some ⟨w.heap.size,0,none⟩) xs.length cap),⟨rfl,rfl,rfl⟩,fun m hm=>ZbW _ _ hm,ZaZ _ _ _,K,h1,by omega,fun b hb hne=>⟨h3 b hb,?_,ZbW _ _ (by omega)⟩,fun b t h=>?_,fun b hb=>?_,?_⟩
  · rw [Zix _ _ _ _ _ _ (by omega),if_neg hne]
  · rw [h2]
    by_cases hb:b=w.heap.size
    · omega
    · rw [Zix _ _ _ _ _ _ hb] at h
      have h':=h
      split at h'
      · rename_i h3;have:=hown b _ h3;omega
      · have:=hown b _ h';omega
  · show Zez _ _ _ _=_
    rw [ZbW _ _ (by omega)];exact hz b (by omega)
  · refine .inr (.inr ⟨w.heap.size,0,cap,cur',E,rfl,hl,Znr _ _ _ _ _ _,h4,by omega,?_,her _⟩)
    show Zez _ _ _ _=_
    rw [ZaZ];rfl
theorem insI_row (cs:List Int) (k:Nat) (x:Int):(Zdp cs).take k ++ [.int .i64 x]::(Zdp cs).drop k=Zdp (Znn cs k x):=by
  unfold Zdp Znn
  rw [List.map_append,yP,List.map_take,List.map_drop]
theorem Zcj.ins {o:Oper} {d:D} {X:List Nat} {s':S} {ps:List Prop} (h:insOp P s o d=some (X,s',ps)) (hp:Zbt ps):Zcj P o X s s'∧(∃tv,s'.sl=(s.put o.dst tv).sl)∧X.all (fun n=>!TV.mens n s.sl)=true:=by
  unfold insOp at h
  split at h<;>try (cases h;done)
  rename_i dd f x i y _ hd ho
  split at h<;>try (cases h;done)
  rename_i s1 n ver' xs X0 ps1 k m v lo len hbase hik hyk
  split at h<;>try (cases h;done)
  rename_i v1 e1 z1 xs1 v2 z hsm hs1m
  split at h<;>simp only [zA,zB,reduceCtorEq] at h
  rename_i hh
  obtain ⟨rfl,rfl,hmn,rfl,rfl,hmX⟩:=hh
  obtain ⟨rfl,rfl,rfl⟩:=h
  rw [Zbt.append] at hp
  obtain ⟨hp1,hp2⟩:=hp
  simp only [Zbt] at hp2
  obtain ⟨hk0,hk1,hI,hbig,hC⟩:=hp2
  obtain ⟨kn,rfl⟩ : ∃kn:Nat,k=(kn:Int):=⟨k.toNat,by omega⟩
  simp only [Int.toNat_natCast] at *
  obtain ⟨hsl1,hX0⟩:=ZlZ hbase
  refine ⟨?_,⟨.one (.h (.row n ver') 1 0 (xs.take kn ++ [zJ .i64 z]::xs.drop kn).length),by rw [hd];simp only [S.put,hsl1]⟩,hX0⟩
  intro g w a hs K Q hK
  obtain ⟨g1,hM1,hm1,k1,hrow,hn,hsl,hsil⟩:=Zhx hbase hp1 hs
  have hxs:=Zgt hI
  obtain ⟨cs,hcs⟩ : ∃cs,cs=xs.map ZgB:=⟨_,rfl⟩
  rw [←hcs] at hxs
  have hcl:cs.length=xs.length:=by rw [hcs];simp
  have hres:xs.take kn ++ [zJ .i64 z]::xs.drop kn=Zdp (Znn cs kn z):=by rw [←insI_row,←hxs]
  have hrl:(Zdp (Znn cs kn z)).length=cs.length+1:=by simp [Zdp,Znn];omega
  have hvi:a.eval i = .int .i64 kn:=(Zbe hs hik).2.int_eq
  have hrv:=hm1.site m _ hs1m
  simp only [ZeB] at hrv
  have hdm:g1.hd m=g.hd m:=by
    rcases k1.row m _ (fun h=>by have:=List.contains_iff_mem.2 h;rw [hmX] at this;cases this) ⟨_,_,_,hs1m⟩ with h | ⟨ver0,_,_,_,h,hlt⟩
    · exact h.2
    · rw [hsm] at h;simp only [zA,Ent.row.injEq] at h;omega
  have hwin:=(Zbe hs hyk).2.2.2 (g.hd m) ⟨⟨_,_,_,hsm⟩,rfl⟩
  rw [hdm] at hrv
  obtain ⟨vb,voff,vcap,va,V,hv1,hv2,hv3,hv4,hv5,hv6,hv7⟩ : ∃b off cap a E,g.hd m = .slice (some (ad b off)) 1 cap∧1≤cap∧g1.ow b=some (.rowS m)∧w.heap[b]? = some (.cells a E (0,0))∧off+cap*1≤a.size∧g1.Z b=0∧ER g1 w b off 1 [[zJ .i64 z]]:=by
    rcases hrv with ⟨_,h⟩ | ⟨_,_,_,h⟩ | ⟨b,off,cap,aa,E,h1,h2,h3,h4,h5,h6,h7⟩
    · cases h
    · cases h
    · exact ⟨b,off,cap,aa,E,h1,h2,h3,h4,h5,by simpa using h6,h7⟩
  have hvy:a.eval y = .slice (some ⟨vb,voff,none⟩) 1 vcap:=by
    rcases hwin with ⟨_,_,h,_⟩ | ⟨b',o,n',c,o',h,h',hv,j1,j2⟩
    · cases h
    · rw [hv1] at h
      simp only [Value.slice.injEq,zA,Addr.mk.injEq] at h
      obtain ⟨⟨rfl,rfl,-⟩,rfl,rfl⟩:=h
      have:=j2 rfl;subst this
      rw [hv,Nat.sub_zero]
  have hvx:w.cell? (ad vb voff)=some (.int .i64 z):=ER.cellsI (l:=[z]) hv7 0 _ rfl
  have hrun:(execOp a.eval o).run P w = .ok (.enter f #[a.eval x,a.eval i,a.eval y]) w:=by
    have:=ZeW hC.ent #[a.eval x,a.eval i,a.eval y] w
    have hfun:a.eval (.func f) = .func (.func f) #[] #[]:=rfl
    simp [execOp,ho,resolve,Deferred.ofValue,hfun,invoke,this]
  unfold Oper.wp
  rw [hrun]
  show Calls P f _ w _
  rw [hvi,hvy]
  have fin : ∀hv' w' g',Zig g1 g' w w' n hv' true 1 (xs.take kn ++ [zJ .i64 z]::xs.drop kn)→K (a.put o.dst hv') w':=by
    intro hv' w' g' hN
    obtain ⟨hM,hm',k⟩:=Zha (s':={ s1 with si:=s1.si.set n (some (.row ver' true 1 (xs.take kn ++ [zJ .i64 z]::xs.drop kn)))}.put (some dd) (.one (.h (.row n ver') 1 0 (xs.take kn ++ [zJ .i64 z]::xs.drop kn).length))) hm1 (X:=X0) (n:=n) (ver':=ver')
      (hn.imp id fun ⟨v0,e1,sz1,xs1,h1,h2⟩=>⟨v0,e1,sz1,xs1,h1,.inl h2⟩) hN.hob hN.hhd hN.K hN.ho hN.hsize hN.hsame hN.hown hN.hz (by rw [hN.hdn];exact hN.hrow) rfl rfl rfl
    have kk:=k1.trans k
    refine hK g' w' hv' (hM1.trans hM) kk (hs.next kk (fun m hm=>by have:=xG.1 hX0 m hm;simpa using this) hm' (by simp [S.put,hsil]) (dst:=o.dst) (tv:=.one (.h (.row n ver') 1 0 (xs.take kn ++ [zJ .i64 z]::xs.drop kn).length)) (by rw [hd];simp only [S.put,hsl]) (fun _=>?_))
    have hin:ZjD g' (({ s1 with si:=s1.si.set n (some (.row ver' true 1 (xs.take kn ++ [zJ .i64 z]::xs.drop kn)))}:S).put (some dd) (.one (.h (.row n ver') 1 0 (xs.take kn ++ [zJ .i64 z]::xs.drop kn).length))) (.row n ver'):=by
      intro v1 e1 sz1 xs1 h
      have h2:(s1.si.set n (some (Ent.row ver' true 1 (xs.take kn ++ [zJ .i64 z]::xs.drop kn))))[n]? = some (some (.row v1 e1 sz1 xs1)):=h
      have hlt:n<s1.si.length:=by
        rcases zT n s1.si.length with h' | h'
        · exact h'
        · rw [zL (by simpa using h')] at h2;cases h2
      rw [zQ hlt] at h2
      simp only [zA,Ent.row.injEq] at h2
      omega
    rcases hN.hrow with ⟨h1,h2⟩ | ⟨b1,o1,h1,h2⟩ | ⟨b1,o1,cap,aa,E,h1,k2,_⟩
    · simp at h2
    · simp at h2
    · rw [h1]
      refine ⟨rfl,⟨_,_,rfl,.inr rfl⟩,hin,?_⟩
      rintro hv0 ⟨_,rfl⟩
      right
      exact ⟨b1,o1,(xs.take kn ++ [zJ .i64 z]::xs.drop kn).length,cap,o1,hN.hdn.trans h1,⟨by omega,k2⟩,by simp,fun _=>by simp,fun _=>rfl⟩
  have hER : ∀{w':World} {b off:Nat} {cur':Array Value} {E:TypeId},w'.heap[b]? = some (.cells cur' E (0,0))→(∀j v,((Znn cs kn z).map (Value.int .i64))[j]? = some v→cur'[off+j]? = some v)→∀g',ER g' w' b off 1 (Zdp (Znn cs kn z)):=by
    intro w' b off cur' E h1 h2 g'
    refine ZhT .i64 _ fun j v hj=>?_
    have:=h2 j v hj
    simp only [World.cell?,h1];exact this
  rcases hrow with ⟨h0,h1⟩ | ⟨b,o1,h0,h1⟩ | ⟨b,off,cap,cur,E,h0,h2,h3,h4,h5,h6,h7⟩
  · have hc0:cs = []:=tM (by rw [hcl,h1];rfl)
    rw [h0]
    have e0:(.slice none 0 0:Value) = .slice none cs.length 0:=by rw [hc0];rfl
    rw [e0]
    refine (hC.grow w none 0 vb voff vcap cs kn z (by omega) (by omega) (by rw [hc0];simp) (by omega) (fun _=>hc0) (fun a h=>by cases h) hvx).mono ?_
    rintro e w' ⟨cap',cur',E,rfl,q1,q2,q3,q4,q5,q6,q7⟩
    obtain ⟨g',hN⟩:=Zge (n:=n) hm1.own hm1.z q1 q2 q3 q4 q6 (by omega) (hER (off:=0) q4 (fun j v hj=>by rw [zZ];exact q7 j v hj))
    rw [hrl,←hres] at hN
    exact fin _ w' g' hN
  · have hc0:cs = []:=tM (by rw [hcl,h1];rfl)
    rw [h0]
    have e0:(.slice (some (ad b o1)) 0 0:Value) = .slice (some (ad b o1)) cs.length 0:=by rw [hc0];rfl
    rw [e0]
    refine (hC.grow w (some (ad b o1)) 0 vb voff vcap cs kn z (by omega) (by omega) (by rw [hc0];simp) (by omega) (fun h=>by cases h) (fun a h=>by cases h;exact ⟨b,o1,rfl,fun j v hj=>by rw [hc0] at hj;simp at hj⟩) hvx).mono ?_
    rintro e w' ⟨cap',cur',E,rfl,q1,q2,q3,q4,q5,q6,q7⟩
    obtain ⟨g',hN⟩:=Zge (n:=n) hm1.own hm1.z q1 q2 q3 q4 q6 (by omega) (hER (off:=0) q4 (fun j v hj=>by rw [zZ];exact q7 j v hj))
    rw [hrl,←hres] at hN
    exact fin _ w' g' hN
  · rw [if_pos rfl] at h6
    rw [h0,←hcl]
    have hcells:=ER.cellsI (l:=cs) (by rw [←hxs];exact h7)
    by_cases hroom:cs.length+1≤cap
    · have hne:vb≠b:=by
        rintro rfl
        rw [h3] at hv3
        simp only [zA,Ow.rowS.injEq] at hv3
        exact hmn hv3.symm
      refine (hC.room w b off cap vb voff vcap cs kn z cur va E V (by omega) (by omega) hroom hne h4 (by omega) hcells hv4 hvx).mono ?_
      rintro e w' ⟨rfl,q1,q2,q3,cur',q4,q5,q6⟩
      obtain ⟨g',hN⟩:=ZlJ (n:=n) (cap:=cap) hm1.own hm1.z h3 h4 h6 (by omega) q1 q2 q3 q4 q5 (by rw [hrl];exact hroom) (hER q4 q6)
      rw [hrl,←hres] at hN
      exact fin _ w' g' hN
    · refine (hC.grow w (some (ad b off)) cap vb voff vcap cs kn z (by omega) (by omega) (by omega) (by omega) (fun h=>by cases h) (fun a h=>by cases h;exact ⟨b,off,rfl,hcells⟩) hvx).mono ?_
      rintro e w' ⟨cap',cur',E',rfl,q1,q2,q3,q4,q5,q6,q7⟩
      obtain ⟨g',hN⟩:=Zge (n:=n) hm1.own hm1.z q1 q2 q3 q4 q6 (by omega) (hER (off:=0) q4 (fun j v hj=>by rw [zZ];exact q7 j v hj))
      rw [hrl,←hres] at hN
      exact fin _ w' g' hN
end
end Go.Dn
namespace Go.Dn
variable [Globs]
inductive BVx (st:List (List L)):List L→List L→Prop where
  | of (c cs:List L) (h:BVs st c cs):BVx st c cs
  | pl (l:L) (ls ks:List L) (h:l.plain=true) (r:BVx st ls ks):BVx st (l::ls) (l::ks)
  | gone (ls ks:List L) (r:BVx st ls ks):BVx st (.gone::ls) (.gone::ks)
  | bx (n:Nat) (c cs ls ks:List L) (hc:BVx st c cs) (r:BVx st ls ks):BVx st (.bx n c::ls) (.bx n cs::ks)
  | obj (i n:Nat) (c cs ls ks:List L) (h:st[i]? = some c) (hc:BVx st c cs) (hn:sizes cs=n) (hne:c.isEmpty=false) (r:BVx st ls ks):BVx st (.ptr (some i)::ls) (.bx n cs::ks)
theorem BVx.sizes {st:List (List L)} : ∀{c cs:List L},BVx st c cs→Dn.sizes c=Dn.sizes cs
  | _,_,.of _ _ h=>h.sizes
  | _,_,.pl _ _ _ _ r=>by simp only [Dn.sizes,r.sizes]
  | _,_,.gone _ _ r=>by simp only [Dn.sizes,r.sizes]
  | _,_,.bx _ _ _ _ _ _ r=>by simp only [Dn.sizes,r.sizes,L.size]
  | _,_,.obj _ _ _ _ _ _ _ _ _ _ r=>by simp only [Dn.sizes,r.sizes,L.size]
section
variable {P:Program} {g g' G0:G} {s:S} {w w':World}
theorem LR.plainK (K:Zcd g G0 w w) {p:Option (Nat×Nat)} {v:Value} {l:L} (hl:l.plain=true) (h:LR g w p v l):LR G0 w none v l:=by
  cases h<;>first | (simp [L.plain] at hl;done) | skip
  · exact .int _ _ _
  · exact .bool _ _
  · exact .str _ _
  · exact .nilp _
  · exact LR.keep K (.ref none _ (by assumption))
theorem BVs.crG (hm:Zde g s w) (K:Zcd g G0 w w) (hZ : ∀b t,g.ow b=some t→(∀q,t ≠ .rowS q)→Zdo w b≤G0.Z b) : ∀{c cs:List L},BVs s.st c cs→∀{p:Option (Nat×Nat)} {vs:List Value},CR g w p vs c→CR G0 w none vs cs
  | _,_,.nil,_,_,h=>by cases h;exact .nil _
  | _,_,.pl l ls ks hl r,p,_,h=>by
    cases h with
    | one _ v vs _ _ hv h1 hr=>exact .one _ _ _ _ _ (hv.plainK K hl) h1 (BVs.crG hm K hZ r hr)
    | arr _ k n xs vs _ hn hr=>exact .arr _ _ _ _ _ _ hn (BVs.crG hm K hZ r hr)
    | brr _ n xs vs _ hn hr=>exact .brr _ _ _ _ _ hn (BVs.crG hm K hZ r hr)
  | _,_,.sl sz xs ls ks r,p,_,h=>by
    cases h with
    | one _ v vs _ _ hv h1 hr=>
      refine .one _ _ _ _ _ ?_ h1 (BVs.crG hm K hZ r hr)
      cases hv with
      | slnil=>exact .slnil _ _
      | slz=>exact .slz _ _ _
      | sl _ b off len cap _ _ hl hc hZ' he=>exact .sl _ b off len cap _ _ hl hc (xF hZ' (K.Z b)) (he.keep K (by rw [hl];exact hZ'))
  | _,_,.own e sz xs ls ks r,p,_,h=>by
    cases h with
    | one _ v vs _ _ hv h1 hr=>
      refine .one _ _ _ _ _ ?_ h1 (BVs.crG hm K hZ r hr)
      cases hv with
      | ownnil=>exact .slnil _ _
      | ownz=>exact .slz _ _ _
      | own q b off len cap _ _ _ a E hl hc ho hb hs hZ' he=>
        refine .sl _ b off len cap _ _ hl hc (xF ?_ (hZ b _ ho (by simp))) (he.keep' K fun _ _ _=>rfl)
        have:Zdo w b=a.size:=by simp [Zdo,hb]
        have h2:len*sz≤cap*sz:=xX _ hc
        omega
  | _,_,.mp es ls ks r,p,_,h=>by
    cases h with
    | one _ v vs _ _ hv h1 hr=>
      refine .one _ _ _ _ _ ?_ h1 (BVs.crG hm K hZ r hr)
      cases hv with
      | mp q b cl en _ ho hb he=>
        refine .mz _ b en _ (yQ ?_ (hZ b _ ho.1 (by simp))) (by simp [ZgA,hb]) (he.keep K)
        simp [Zdo,hb]
  | _,_,.bx n cs ls ks r,p,_,h=>by
    cases h with
    | one _ v vs _ _ hv h1 hr=>
      refine .one _ _ _ _ _ ?_ h1 (BVs.crG hm K hZ r hr)
      cases hv with
      | bx _ _ b o _ us hn hZ' hc hx=>exact .bx _ n b o cs us hn (xF hZ' (K.Z b)) hc (hx.keep K)
  | _,_,.mz es ls ks r,p,_,h=>by
    cases h with
    | one _ v vs _ _ hv h1 hr=>
      refine .one _ _ _ _ _ ?_ h1 (BVs.crG hm K hZ r hr)
      cases hv with
      | mz _ b en _ hZ' hb he=>exact .mz _ b en _ (yQ hZ' (K.Z b)) hb (he.keep K)
  | _,_,.obj i n c cs ls ks hst hc hn hne r,p,_,h=>by
    cases h with
    | one _ v vs _ _ hv h1 hr=>
      refine .one _ _ _ _ _ ?_ h1 (BVs.crG hm K hZ r hr)
      cases hv with
      | ref _ _ hi=>
        obtain ⟨h2,h3,a,E,h4,h5⟩:=hm.obj i c hst (by intro e;subst e;simp at hne)
        have h6:=BVs.crG hm K hZ hc h5
        have hlen:a.toList.length=n:=by rw [h5.size,hc.sizes];exact hn
        refine .bx _ n _ 0 cs a.toList hlen ?_ (fun j v hj=>?_) h6
        · have hb:Zdo w (g.ob i)=a.size:=by simp [Zdo,h4]
          have:=hZ (g.ob i) _ h2 (by simp)
          simp at hlen
          omega
        · simp only [World.cell?,h4]
          simpa using hj
theorem BVx.crG (hm:Zde g s w) (K:Zcd g G0 w w) (hZ : ∀b t,g.ow b=some t→(∀q,t ≠ .rowS q)→Zdo w b≤G0.Z b) : ∀{c cs:List L},BVx s.st c cs→∀{p:Option (Nat×Nat)} {vs:List Value},CR g w p vs c→CR G0 w none vs cs
  | _,_,.of _ _ h,_,_,h1=>BVs.crG hm K hZ h h1
  | _,_,.pl l ls ks hl r,p,_,h=>by
    cases h with
    | one _ v vs _ _ hv h1 hr=>exact .one _ _ _ _ _ (hv.plainK K hl) h1 (BVx.crG hm K hZ r hr)
    | arr _ k n xs vs _ hn hr=>exact .arr _ _ _ _ _ _ hn (BVx.crG hm K hZ r hr)
    | brr _ n xs vs _ hn hr=>exact .brr _ _ _ _ _ hn (BVx.crG hm K hZ r hr)
  | _,_,.gone ls ks r,p,_,h=>by
    cases h with
    | one _ v vs _ _ hv h1 hr=>exact .one _ _ _ _ _ (.gone _ _) h1 (BVx.crG hm K hZ r hr)
  | _,_,.bx n c cs ls ks hc r,p,_,h=>by
    cases h with
    | one _ v vs _ _ hv h1 hr=>
      refine .one _ _ _ _ _ ?_ h1 (BVx.crG hm K hZ r hr)
      cases hv with
      | bx _ _ b o _ us hn hZ' hcl hx=>exact .bx _ n b o cs us hn (xF hZ' (K.Z b)) hcl (BVx.crG hm K hZ hc hx)
  | _,_,.obj i n c cs ls ks hst hc hn hne r,p,_,h=>by
    cases h with
    | one _ v vs _ _ hv h1 hr=>
      refine .one _ _ _ _ _ ?_ h1 (BVx.crG hm K hZ r hr)
      cases hv with
      | ref _ _ hi=>
        obtain ⟨h2,h3,a,E,h4,h5⟩:=hm.obj i c hst (by intro e;subst e;simp at hne)
        have h6:=BVx.crG hm K hZ hc h5
        have hlen:a.toList.length=n:=by rw [h5.size,hc.sizes];exact hn
        refine .bx _ n _ 0 cs a.toList hlen ?_ (fun j v hj=>?_) h6
        · have hb:Zdo w (g.ob i)=a.size:=by simp [Zdo,h4]
          have:=hZ (g.ob i) _ h2 (by simp)
          simp at hlen
          omega
        · simp only [World.cell?,h4]
          simpa using hj
def G.outD (g:G) (w:World) (bo:Option Nat):G:=
  { g with ow:=fun b=>if bo=some b then some (.rowS 0) else if (g.ow b).isSome then some .foreign else none,Z:=fun b=>if bo=some b then g.Z b else (g.lift w).Z b}
theorem ZhI (g:G) (w:World) (bo:Option Nat):Zcd g (g.outD w bo) w w:=by
  refine ⟨fun _ _=>rfl,zI _,fun b=>?_,fun _ _ _=>rfl,fun _ _=>rfl⟩
  show _≤if _ then _ else _
  split
  · exact zI _
  · exact (ZcU g w).Z b
theorem Zpd (hm:Zde g s w) {bo:Option Nat} (hbo : ∀b,bo=some b→b<w.heap.size∧∃n,g.ow b=some (.rowS n)):Zde (g.outD w bo) (.ofSt (s.seen true)) w:=by
  refine ⟨by simp only [S.ofSt,S.seen,if_true,wT];exact hm.stl,fun i c h hne=>?_,fun i hi=>?_,fun n ent h=>by simp [S.ofSt] at h,fun b t h=>?_,fun b hb=>?_,hm.gl.keep (ZhI g w bo)⟩
  · simp only [S.ofSt,S.seen,if_true,xW] at h
    split at h<;>simp at h
    exact absurd h.symm (fun e=>hne (e ▸ rfl))
  · right
    have h0:g.ow (g.ob i)=some (.obj i)∨g.ow (g.ob i)=some .foreign:=hm.objB i hi
    show (if bo=some (g.ob i) then _ else if _ then _ else _)=_
    rw [if_neg,if_pos]
    · show (g.ow (g.ob i)).isSome=true
      rcases h0 with h | h<;>(rw [h];rfl)
    · intro e
      obtain ⟨_,n,hn⟩:=hbo _ e
      rcases h0 with h | h<;>(rw [h] at hn;cases hn)
  · have h1:(if bo=some b then some (Ow.rowS 0) else if (g.ow b).isSome then some .foreign else none)=some t:=h
    split at h1
    · rename_i e;exact (hbo b e).1
    · split at h1
      · rename_i e
        obtain ⟨t',ht⟩:=sL.1 e
        exact hm.own b t' ht
      · cases h1
  · show (if bo=some b then g.Z b else if (g.ow b).isSome then _ else g.Z b)=0
    have h0:=hm.z b hb
    have h1:(g.ow b).isSome=false:=by
      cases h:g.ow b with
      | none=>rfl
      | some t=>have:=hm.own b t h;omega
    rw [h1]
    split<;>simpa using h0
theorem dlf_new (hm:Zde g s w) {n:Nat} {bo:Option Nat} (hbo : ∀b,bo=some b→b<w.heap.size∧g.ow b=some (.rowS n)∧g.Z b=0) (hM:Mod (g.outD w bo) g' w w') {st':S} (hm':Zde g' st' w') {v:Value} {ys:List (List L)} (hrow:ZeO g' w' (.rowS 0) v true 1 ys) (hI:isI ys=true) :
    ∃g2,Zig g g2 w w' n v true 1 ys:=by
  have old : ∀b,b<w.heap.size→bo≠some b→ZfG (g.outD w bo) g' w w' b:=fun b hb hne=>by
    rcases hM.same b hb with h | h
    · exact h
    · have h1:(g.outD w bo).ow b=if (g.ow b).isSome then some .foreign else none:=by show (if _ then _ else _)=_;rw [if_neg hne]
      rw [h1] at h
      split at h
      · exact absurd rfl h.2
      · exact absurd rfl h.1
  obtain ⟨g2,hg2⟩ : ∃g2:G,g2 = { g with ow:=fun b=>if b<w.heap.size∧bo≠some b then g.ow b else Zff 0 n (g'.ow b),Z:=fun b=>if b<w.heap.size∧bo≠some b then g.Z b else g'.Z b,hd:=Zez g.hd n v}:=⟨_,rfl⟩
  have how : ∀b,g2.ow b=if b<w.heap.size∧bo≠some b then g.ow b else Zff 0 n (g'.ow b):=fun b=>by rw [hg2]
  have hgZ : ∀b,g2.Z b=if b<w.heap.size∧bo≠some b then g.Z b else g'.Z b:=fun b=>by rw [hg2]
  have hzl : ∀b o,o<g.Z b→b<w.heap.size∧bo≠some b:=fun b o h=>by
    refine ⟨?_,fun e=>?_⟩
    · rcases zT b w.heap.size with h' | h'
      · exact h'
      · rw [hm.z b h'] at h;omega
    · rw [(hbo b e).2.2] at h;omega
  have K:Zcd g g2 w w':=by
    refine ⟨fun _ _=>by rw [hg2],by rw [hg2];exact zI _,fun b=>?_,fun b o h=>?_,fun b h=>?_⟩
    · rw [hgZ]
      split
      · exact zI _
      · rename_i hh
        rcases Nat.eq_zero_or_pos (g.Z b) with h0 | h0
        · rw [h0];exact yU _
        · exact absurd (hzl b 0 h0) hh
    · obtain ⟨h1,h2⟩:=hzl b o h
      exact Zch (old b h1 h2).1
    · obtain ⟨h1,h2⟩:=hzl b 0 h
      exact Zdf (old b h1 h2).1
  refine ⟨g2,by rw [hg2];exact ⟨rfl,rfl,rfl⟩,fun m hmn=>by rw [hg2];exact ZbW _ _ hmn,by rw [hg2];exact ZaZ _ _ _,K,⟨hM.os,hM.tape,hM.output⟩,hM.size,fun b hb hne=>?_,fun b t h=>?_,fun b hb=>?_,?_⟩
  · have hb2:bo≠some b:=fun e=>hne (hbo b e).2.1
    exact ⟨(old b hb hb2).1,by rw [how,if_pos ⟨hb,hb2⟩],by rw [hgZ,if_pos ⟨hb,hb2⟩]⟩
  · rw [how] at h
    split at h
    · rename_i hh;exact yQ hh.1 hM.size
    · cases h2:g'.ow b with
      | none=>rw [h2] at h;cases h
      | some t'=>exact hm'.own b t' h2
  · rw [hgZ,if_neg (by intro h;have:=hM.size;omega)];exact hm'.z b hb
  · rcases hrow with h | h | ⟨b1,o1,cap,aa,E,h1,h2,h3,h4,h5,h6,h7⟩
    · exact .inl h
    · exact .inr (.inl h)
    · have hnot : ¬ (b1<w.heap.size∧bo≠some b1):=by
        rintro ⟨hb,hne⟩
        have h8:=(old b1 hb hne).2.1
        rw [h3] at h8
        have h9:(g.outD w bo).ow b1=if (g.ow b1).isSome then some .foreign else none:=by show (if _ then _ else _)=_;rw [if_neg hne]
        rw [h9] at h8
        split at h8<;>cases h8
      refine .inr (.inr ⟨b1,o1,cap,aa,E,h1,h2,?_,h4,h5,?_,?_⟩)
      · rw [how,if_neg hnot,h3];simp [Zff]
      · rw [hgZ,if_neg hnot];exact h6
      · have hys:=Zgt hI
        rw [hys] at h7 ⊢
        refine ZhT .i64 _ fun j v hj=>ER.cellsI h7 j v hj
def dlfOp (P:Program) (s:S) (o:Oper) (d:D):Option (List Nat×S×List Prop):=
  match o.dst,o.op with
  | some dd,.call { callee:=.value (.func f),args:=⟨[x,y]⟩,.. }=>match appBase' s { d with m:=d.wm} dd 1 x,ev s y,d.cv,d.rs with
    | some (s1,n,ver',true,xs,X,ps),some (.one (.l (.fn k j cs))),[.one (.fn k' j' cs')],[.row true 1 ys]=>
      if k=k'∧j=j' then
        some (X,{ s1 with si:=s1.si.set n (some (.row ver' true 1 ys))}.put (some dd) (.one (.h (.row n ver') 1 0 ys.length)),ps ++ [BVx s1.st cs cs',isI ys=true,Zdh P f [.row true 1 xs,.one (.fn k' j' cs')] [.row true 1 ys]])
      else none
    | _,_,_,_=>none
  | _,_=>none
theorem Zcj.dlf {o:Oper} {d:D} {X:List Nat} {s':S} {ps:List Prop} (h:dlfOp P s o d=some (X,s',ps)) (hp:Zbt ps):Zcj P o X s s'∧(∃tv,s'.sl=(s.put o.dst tv).sl)∧X.all (fun n=>!TV.mens n s.sl)=true:=by
  unfold dlfOp at h
  split at h<;>try (cases h;done)
  rename_i dd f x y _ hd ho
  split at h<;>try (cases h;done)
  rename_i s1 n ver' xs X0 ps1 k j cs k' j' cs' ys hbase hyk hdc hdr
  split at h<;>simp only [zA,zB,reduceCtorEq] at h
  rename_i hh
  obtain ⟨rfl,rfl⟩:=hh
  obtain ⟨rfl,rfl,rfl⟩:=h
  rw [Zbt.append] at hp
  obtain ⟨hp1,hp2⟩:=hp
  simp only [Zbt] at hp2
  obtain ⟨hbv,hI,hC⟩:=hp2
  obtain ⟨hsl1,hX0⟩:=ZlZ hbase
  refine ⟨?_,⟨.one (.h (.row n ver') 1 0 ys.length),by rw [hd];simp only [S.put,hsl1]⟩,hX0⟩
  intro g w a hs K Q hK
  obtain ⟨g1,hM1,hm1,k1,hrow,hn,hsl,hsil⟩:=Zhx hbase hp1 hs
  obtain ⟨hent,hC⟩:=hC (s1.seen true)
  have hrun:(execOp a.eval o).run P w = .ok (.enter f #[a.eval x,a.eval y]) w:=by
    have:=ZeW hent #[a.eval x,a.eval y] w
    have hfun:a.eval (.func f) = .func (.func f) #[] #[]:=rfl
    simp [execOp,ho,resolve,Deferred.ofValue,hfun,invoke,this]
  unfold Oper.wp
  rw [hrun]
  show Calls P f _ w _
  obtain ⟨bo,hbo,hrow0⟩ : ∃bo:Option Nat,(∀b,bo=some b→b<w.heap.size∧g1.ow b=some (.rowS n)∧g1.Z b=0)∧ZeO (g1.outD w bo) w (.rowS 0) (a.eval x) true 1 xs:=by
    rcases hrow with h | h | ⟨b,off,cap,aa,E,h1,h2,h3,h4,h5,h6,h7⟩
    · exact ⟨none,(fun b e=>by cases e),.inl h⟩
    · exact ⟨none,(fun b e=>by cases e),.inr (.inl h)⟩
    · rw [if_pos rfl] at h6
      refine ⟨some b,(fun b' e=>by cases e;exact ⟨hm1.own b _ h3,h3,h6⟩),.inr (.inr ⟨b,off,cap,aa,E,h1,h2,?_,h4,h5,?_,h7.keep' (ZhI g1 w (some b)) fun _ _ _=>rfl⟩)⟩
      · show (if _ then _ else _)=_;rw [if_pos rfl]
      · show (if _ then _ else _)=_;rw [if_pos rfl,if_pos rfl];exact h6
  have hfn:CVR (g1.outD w bo) w 1 (a.eval y) (.one (.fn k j cs')):=by
    obtain ⟨h1,h2⟩:=Zbe hs hyk
    refine ⟨h1,?_⟩
    have h3:LR g w none (a.eval y) (.fn k j cs):=h2
    generalize a.eval y=v at h3
    cases h3 with
    | fn _ _ _ vs _ hc=>
      refine .fn _ k j vs cs' (BVx.crG hm1 (ZhI g1 w bo) (fun b t hb ht=>?_) hbv (CR.keep hM1.keep hc))
      show _≤if bo=some b then _ else _
      rw [if_neg]
      · exact Zng (by rw [hb];rfl)
      · intro e
        rw [(hbo b e).2.1] at hb
        simp only [zA] at hb
        exact ht n hb.symm
  refine (hC (g1.outD w bo) w [a.eval x,a.eval y] ⟨_,_,rfl,hrow0,_,_,rfl,hfn,rfl⟩ (Zpd hm1 fun b e=>⟨(hbo b e).1,n,(hbo b e).2.1⟩)).mono ?_
  rintro e w' ⟨g',us,rfl,hM,hm',hus⟩
  obtain ⟨v,rest,rfl,hv,hrest⟩:=hus
  cases hrest
  obtain ⟨g2,hN⟩:=dlf_new hm1 hbo hM hm' hv hI
  show K (a.put o.dst v) w'
  obtain ⟨hM2,hm2,k2⟩:=Zha (s':={ s1 with si:=s1.si.set n (some (.row ver' true 1 ys))}.put (some dd) (.one (.h (.row n ver') 1 0 ys.length))) hm1 (X:=X0) (n:=n) (ver':=ver')
    (hn.imp id fun ⟨v0,e1,sz1,xs1,h1,h2⟩=>⟨v0,e1,sz1,xs1,h1,.inl h2⟩) hN.hob hN.hhd hN.K hN.ho hN.hsize hN.hsame hN.hown hN.hz (by rw [hN.hdn];exact hN.hrow) rfl rfl rfl
  have kk:=k1.trans k2
  refine hK g2 w' v (hM1.trans hM2) kk (hs.next kk (fun m hm=>by have:=xG.1 hX0 m hm;simpa using this) hm2 (by simp [S.put,hsil]) (dst:=o.dst) (tv:=.one (.h (.row n ver') 1 0 ys.length)) (by rw [hd];simp only [S.put,hsl]) (fun _=>?_))
  have hin:ZjD g2 (({ s1 with si:=s1.si.set n (some (.row ver' true 1 ys))}:S).put (some dd) (.one (.h (.row n ver') 1 0 ys.length))) (.row n ver'):=by
    intro v1 e1 sz1 xs1 h
    have h2:(s1.si.set n (some (Ent.row ver' true 1 ys)))[n]? = some (some (.row v1 e1 sz1 xs1)):=h
    have hlt:n<s1.si.length:=by
      rcases zT n s1.si.length with h' | h'
      · exact h'
      · rw [zL (by simpa using h')] at h2;cases h2
    rw [zQ hlt] at h2
    simp only [zA,Ent.row.injEq] at h2
    omega
  have hdn:=hN.hdn
  rcases hN.hrow with ⟨h1,h2⟩ | ⟨b1,o1,h1,h2⟩ | ⟨b1,o1,cap,aa,E,h1,q2,_⟩
  · rw [h1]
    refine ⟨rfl,⟨none,0,by rw [h2];rfl,.inl (by rw [h2];rfl)⟩,hin,?_⟩
    rintro hv0 ⟨_,rfl⟩
    left;exact ⟨hdn.trans h1,rfl,by rw [h2];rfl,rfl⟩
  · rw [h1]
    refine ⟨rfl,⟨_,0,by rw [h2];rfl,.inl (by rw [h2];rfl)⟩,hin,?_⟩
    rintro hv0 ⟨_,rfl⟩
    right;exact ⟨b1,o1,0,0,o1,hdn.trans h1,⟨by rw [h2];simp,zI _⟩,by rw [h2];simp,fun h=>by omega,fun _=>rfl⟩
  · rw [h1]
    refine ⟨rfl,⟨_,_,rfl,.inr rfl⟩,hin,?_⟩
    rintro hv0 ⟨_,rfl⟩
    right
    exact ⟨b1,o1,ys.length,cap,o1,hdn.trans h1,⟨by omega,q2⟩,by simp,fun _=>by simp,fun _=>rfl⟩
end
end Go.Dn
namespace Go.Dn
variable [Globs]
def ZcX (P:Program):Zhy:=fun s o d=>
  match o.op with
  | .box _ _=>if d.m=2 then (fbOp s o).map fun r=>([],s.put o.dst r,[]) else Zkd P s o d
  | .load _ _=>if d.m=2 then (ldbOp P s o).map fun r=>([],s.put o.dst r,[]) else if d.m=13 then ldvOp P s o d else Zkd P s o d
  | .assign _=>if d.m=4 then seatOp s o |>.map fun r=>(r.1,r.2,[]) else if d.m=14 then (untOp s o).map fun r=>([],s.put o.dst r,[]) else Zkd P s o d
  | .makeFunc _ _ _=>(Zpk s o).map fun r=>([],s.put o.dst r,[])
  | .makeSlice _ _ _=>(msOp P s o).map fun r=>(o.dst.toList,r.1,r.2)
  | .store _ _ _=>if d.m=8 then (ZoR P s d o).map fun r=>([],r.1,r.2) else if d.m=12 then (nstOp P s d o).map fun r=>([],r.1,r.2) else Zkd P s o d
  | .slice _ _ _ _ (some _)=>(sl3Op P s o d).map fun r=>([],s.put o.dst r.1,r.2)
  | .slice _ _ _ _ none=>if d.m=9 then (slxOp P s o).map fun r=>([],s.put o.dst r.1,r.2) else Zkd P s o d
  | .call { callee:=.builtin .append,.. }=>if d.m=9 then (apiOp P s o).map fun r=>([],r.1,r.2) else Zkd P s o d
  | .call { callee:=.builtin .clear,.. }=>if d.m=11 then (clr2Op P s d o).map fun r=>([],r.1,r.2) else (clrOp P s o).map fun r=>([],r.1,r.2)
  | .call { callee:=.value _,.. }=>if d.m=5 then callC P s o d else if d.m=6 then callM P s o d else if d.m=10 then callV P s o d else if d.m=15 then insOp P s o d else if d.m=16 then dlfOp P s o d else if d.m=7 then (ZoK P s o).map fun r=>([],r.1,r.2) else Zkd P s o d
  | _=>Zkd P s o d
theorem Zfz (P:Program):ZeA P (ZcX P):=by
  intro s o d X s' ps h hp
  have F:=stepX_ok P s o d X s' ps
  have two : ∀{x:Option (S×List Prop)},(∀s' ps,x=some (s',ps)→Zbt ps→Zcj P o [] s s'∧∃tv,s'.sl=(s.put o.dst tv).sl)→x.map (fun r=>(([]:List Nat),r.1,r.2))=some (X,s',ps) →
      Zcj P o X s s'∧(∃tv,s'.sl=(s.put o.dst tv).sl)∧X.all (fun n=>!TV.mens n s.sl)=true:=by
    intro x hok hx
    obtain ⟨r,h1,h2⟩:=zD.1 hx;simp only [zB] at h2;obtain ⟨rfl,rfl,rfl⟩:=h2
    obtain ⟨k1,k2⟩:=hok _ _ h1 hp
    exact ⟨k1,k2,rfl⟩
  have one : ∀{x:Option TV},(∀r,x=some r→Zcj P o [] s (s.put o.dst r))→x.map (fun r=>(([]:List Nat),s.put o.dst r,([]:List Prop)))=some (X,s',ps)→Zcj P o X s s'∧(∃tv,s'.sl=(s.put o.dst tv).sl)∧X.all (fun n=>!TV.mens n s.sl)=true:=by
    intro x hok hx
    obtain ⟨r,h1,h2⟩:=zD.1 hx;simp only [zB] at h2;obtain ⟨rfl,rfl,rfl⟩:=h2
    exact ⟨hok r h1,⟨_,rfl⟩,rfl⟩
  have val : ∀{x:Option (TV×List Prop)},(∀r ps,x=some (r,ps)→Zbt ps→Zcj P o [] s (s.put o.dst r))→x.map (fun r=>(([]:List Nat),s.put o.dst r.1,r.2))=some (X,s',ps)→Zcj P o X s s'∧(∃tv,s'.sl=(s.put o.dst tv).sl)∧X.all (fun n=>!TV.mens n s.sl)=true:=by
    intro x hok hx
    obtain ⟨r,h1,h2⟩:=zD.1 hx;simp only [zB] at h2;obtain ⟨rfl,rfl,rfl⟩:=h2
    exact ⟨hok _ _ h1 hp,⟨_,rfl⟩,rfl⟩
  unfold ZcX at h
  split at h
  · split at h
    · exact one (fun r hr=>.fb hr) h
    · exact F h hp
  · split at h
    · exact one (fun r hr=>.ldb hr) h
    · split at h
      · exact Zcj.ldv h hp
      · exact F h hp
  · split at h
    · obtain ⟨r,h1,h2⟩:=zD.1 h;simp only [zB] at h2;obtain ⟨rfl,rfl,rfl⟩:=h2
      exact Zcj.seat h1
    · split at h
      · exact one (fun r hr=>.unt hr) h
      · exact F h hp
  · obtain ⟨r,h1,h2⟩:=zD.1 h;simp only [zB] at h2;obtain ⟨rfl,rfl,rfl⟩:=h2
    exact ⟨.mkFn h1,⟨_,rfl⟩,rfl⟩
  · obtain ⟨r,h1,h2⟩:=zD.1 h;simp only [zB] at h2;obtain ⟨rfl,rfl,rfl⟩:=h2
    exact Zcj.ms h1 hp
  · split at h
    · exact two (fun s' ps hr hq=>Zcj.self hr hq) h
    · split at h
      · exact two (fun s' ps hr hq=>Zcj.nst hr hq) h
      · exact F h hp
  · exact val (fun r ps hr hq=>Zcj.sl3 hr hq) h
  · split at h
    · exact val (fun r ps hr hq=>Zcj.slx hr hq) h
    · exact F h hp
  · split at h
    · exact two (fun s' ps hr hq=>Zcj.api hr hq) h
    · exact F h hp
  · split at h
    · exact two (fun s' ps hr hq=>Zcj.clr2 hr hq) h
    · exact two (fun s' ps hr hq=>Zcj.clr hr hq) h
  · split at h
    · exact Zcj.callC h hp
    · split at h
      · exact Zcj.callM h hp
      · split at h
        · exact Zcj.callV h hp
        · split at h
          · exact Zcj.ins h hp
          · split at h
            · exact Zcj.dlf h hp
            · split at h
              · exact two (fun s' ps hr hq=>Zcj.sort hr hq) h
              · exact F h hp
  · exact F h hp
def G.cut (g:G) (n:Nat):G:={ g with nob:=n}
def flatE:L→Bool
  | .int _ _ | .bool _ | .str _ | .arr _ _ _ | .brr _ _=>true
  | _=>false
def flatL:L→Bool
  | .sl _ xs=>xs.all fun x=>x.all flatE
  | l=>flatE l
def flatV:CV→Bool
  | .one x=>flatL x
  | .agg ls=>ls.all flatL
  | .row _ _ xs=>xs.all fun x=>x.all flatE
section
variable {g g':G} {w w':World}
theorem LR.flatE {p:Option (Nat×Nat)} {n:Nat} {v:Value} {l:L} (hl:Dn.flatE l=true) (h:LR g w p v l):LR (g.cut n) w p v l:=by
  cases h<;>first | (simp [Dn.flatE] at hl;done) | skip
  · exact .int _ _ _
  · exact .bool _ _
  · exact .str _ _
theorem CR.flatE {n:Nat} : ∀{p:Option (Nat×Nat)} {vs:List Value} {ls:List L},CR g w p vs ls→ls.all Dn.flatE=true→CR (g.cut n) w p vs ls
  | _,_,_,.nil _,_=>.nil _
  | _,_,_,.one _ v vs l ls hv h1 hr,hl=>by
    simp only [yT,zO] at hl
    exact .one _ _ _ _ _ (hv.flatE hl.1) h1 (CR.flatE hr hl.2)
  | _,_,_,.arr _ k n xs vs ls hn hr,hl=>by
    simp only [yT,zO] at hl
    exact .arr _ _ _ _ _ _ hn (CR.flatE hr hl.2)
  | _,_,_,.brr _ n xs vs ls hn hr,hl=>by
    simp only [yT,zO] at hl
    exact .brr _ _ _ _ _ hn (CR.flatE hr hl.2)
theorem ER.flatE {n:Nat} : ∀{xs:List (List L)} {b off sz:Nat},ER g w b off sz xs→(xs.all fun x=>x.all Dn.flatE)=true→ER (g.cut n) w b off sz xs
  | _,_,_,_,.nil _ _ _,_=>.nil _ _ _
  | _,_,_,_,.cons b off sz vs x xs hn hc hx hr,hl=>by
    simp only [yT,zO] at hl
    exact .cons _ _ _ vs x xs hn hc (hx.flatE hl.1) (ER.flatE hr hl.2)
theorem LR.flatL {p:Option (Nat×Nat)} {n:Nat} {v:Value} {l:L} (hl:Dn.flatL l=true) (h:LR g w p v l):LR (g.cut n) w p v l:=by
  unfold Dn.flatL at hl
  split at hl
  · cases h with
    | slnil=>exact .slnil _ _
    | slz=>exact .slz _ _ _
    | sl _ b off len cap _ _ h1 hc hZ he=>exact .sl _ b off len cap _ _ h1 hc hZ (he.flatE hl)
  · exact h.flatE hl
theorem CR.flatL {n:Nat} : ∀{p:Option (Nat×Nat)} {vs:List Value} {ls:List L},CR g w p vs ls→ls.all Dn.flatL=true→CR (g.cut n) w p vs ls
  | _,_,_,.nil _,_=>.nil _
  | _,_,_,.one _ v vs l ls hv h1 hr,hl=>by
    simp only [yT,zO] at hl
    exact .one _ _ _ _ _ (hv.flatL hl.1) h1 (CR.flatL hr hl.2)
  | _,_,_,.arr _ k n xs vs ls hn hr,hl=>by
    simp only [yT,zO] at hl
    exact .arr _ _ _ _ _ _ hn (CR.flatL hr hl.2)
  | _,_,_,.brr _ n xs vs ls hn hr,hl=>by
    simp only [yT,zO] at hl
    exact .brr _ _ _ _ _ hn (CR.flatL hr hl.2)
theorem ZeP.flatV {n:Nat} : ∀{rs:List CV} {us:List Value} {i:Nat},ZeP g w i us rs→rs.all Dn.flatV=true→ZeP (g.cut n) w i us rs
  | [],us,i,h,_=>h
  | c::cs,us,i,h,hl=>by
    simp only [yT,zO] at hl
    obtain ⟨v,rest,rfl,hc,hr⟩:=h
    refine ⟨v,rest,rfl,?_,ZeP.flatV hr hl.2⟩
    cases c with
    | one x=>exact ⟨hc.1,hc.2.flatL hl.1⟩
    | agg ls=>obtain ⟨vs,rfl,h2⟩:=hc;exact ⟨vs,rfl,h2.flatL hl.1⟩
    | row e sz xs=>
      rcases hc with h1 | h1 | ⟨b,off,cap,a,E,h1,h2,h3,h4,h5,h6,h7⟩
      · exact .inl h1
      · exact .inr (.inl h1)
      · exact .inr (.inr ⟨b,off,cap,a,E,h1,h2,h3,h4,h5,h6,h7.flatE hl.1⟩)
def ErO (g:G) (w:World) (sz:Nat) (xs:List (List L)):Prop:=xs = []∨∃b off,ER g w b off sz xs
theorem ErO.cons {sz:Nat} {x:List L} {xs:List (List L)} (h:ErO g w sz (x::xs)):(∃vs,CR g w none vs x)∧ErO g w sz xs:=by
  rcases h with h | ⟨b,off,h⟩
  · cases h
  · cases h with
    | cons _ _ _ vs _ _ hn hc hx hr=>exact ⟨⟨vs,hx⟩,.inr ⟨_,_,hr⟩⟩
theorem LR.slO {p:Option (Nat×Nat)} {v:Value} {sz:Nat} {xs:List (List L)} (h:LR g w p v (.sl sz xs)):ErO g w sz xs:=by
  cases h with
  | slnil=>exact .inl rfl
  | slz=>exact .inl rfl
  | sl _ b off len cap _ _ hl hc hZ he=>exact .inr ⟨b,off,he⟩
theorem LR.ownO {p:Option (Nat×Nat)} {v:Value} {e:Bool} {sz:Nat} {xs:List (List L)} (h:LR g w p v (.own e sz xs)):ErO g w sz xs:=by
  cases h with
  | ownnil=>exact .inl rfl
  | ownz=>exact .inl rfl
  | own _ b off len cap _ _ _ a E hl hc ho hb hs hZ he=>exact .inr ⟨b,off,he⟩
theorem CR.tail {p:Option (Nat×Nat)} {vs:List Value} {l:L} {ls:List L} (h:CR g w p vs (l::ls)) : ∃p vs,CR g w p vs ls:=by
  cases h with
  | one _ _ _ _ _ _ _ hr=>exact ⟨_,_,hr⟩
  | arr _ _ _ _ _ _ _ hr=>exact ⟨_,_,hr⟩
  | brr _ _ _ _ _ _ hr=>exact ⟨_,_,hr⟩
mutual
theorem LR.cutO : ∀{p':Option (Nat×Nat)} {v':Value} {l:L},LR g' w' p' v' l→(∃p v,LR g w p v l)→LR (g'.cut g.nob) w' p' v' l
  | _,_,_,.int _ _ _,_=>.int _ _ _
  | _,_,_,.bool _ _,_=>.bool _ _
  | _,_,_,.str _ _,_=>.str _ _
  | _,_,_,.nilp _,_=>.nilp _
  | _,_,_,.ref _ i hi',⟨_,_,h⟩=>by cases h with | ref _ _ hi=>exact .ref (g:=g'.cut g.nob) _ i hi
  | _,_,_,.slnil _ _,_=>.slnil _ _
  | _,_,_,.slz _ _ _,_=>.slz _ _ _
  | _,_,_,.sl _ b off len cap sz xs hl hc hZ he,⟨_,_,h⟩=>.sl _ b off len cap sz xs hl hc hZ (ER.cutO he h.slO)
  | _,_,_,.ownnil _ _ _,_=>.ownnil _ _ _
  | _,_,_,.ownz _ _ _ _ _,_=>.ownz _ _ _ _ _
  | _,_,_,.own _ b off len cap sz e xs a E hl hc ho hb hs hZ he,⟨_,_,h⟩=>.own _ b off len cap sz e xs a E hl hc ho hb hs hZ (ER.cutO he h.ownO)
  | _,_,_,.mp _ b cl en es ho hb he,⟨_,_,h⟩=>.mp _ b cl en es ho hb (MR.cutO he (by cases h with | mp _ _ _ _ _ _ _ he=>exact ⟨_,he⟩))
  | _,_,_,.gone _ _,_=>.gone _ _
  | _,_,_,.fn _ f n vs cs hc,⟨_,_,h⟩=>.fn _ f n vs cs (CR.cutO hc (by cases h with | fn _ _ _ _ _ hc=>exact ⟨_,_,hc⟩))
  | _,_,_,.bx _ n b o ls vs hn hZ hc hx,⟨_,_,h⟩=>.bx _ n b o ls vs hn hZ hc (CR.cutO hx (by cases h with | bx _ _ _ _ _ _ _ _ _ hx=>exact ⟨_,_,hx⟩))
  | _,_,_,.mz _ b en es hZ hb he,⟨_,_,h⟩=>.mz _ b en es hZ hb (MR.cutO he (by cases h with | mz _ _ _ _ _ _ he=>exact ⟨_,he⟩))
  | _,_,_,.yl _ l,_=>.yl _ l
theorem CR.cutO : ∀{p':Option (Nat×Nat)} {vs':List Value} {ls:List L},CR g' w' p' vs' ls→(∃p vs,CR g w p vs ls)→CR (g'.cut g.nob) w' p' vs' ls
  | _,_,_,.nil _,_=>.nil _
  | _,_,_,.one _ v vs l ls hv h1 hr,⟨_,_,h⟩=>.one _ v vs l ls (LR.cutO hv (by
      cases h with
      | one _ _ _ _ _ hv' _ _=>exact ⟨_,_,hv'⟩
      | arr=>cases hv
      | brr=>cases hv)) h1 (CR.cutO hr h.tail)
  | _,_,_,.arr _ k n xs vs ls hn hr,⟨_,_,h⟩=>.arr _ k n xs vs ls hn (CR.cutO hr h.tail)
  | _,_,_,.brr _ n xs vs ls hn hr,⟨_,_,h⟩=>.brr _ n xs vs ls hn (CR.cutO hr h.tail)
theorem ER.cutO : ∀{b off sz:Nat} {xs:List (List L)},ER g' w' b off sz xs→ErO g w sz xs→ER (g'.cut g.nob) w' b off sz xs
  | _,_,_,_,.nil _ _ _,_=>.nil _ _ _
  | _,_,_,_,.cons b off sz vs x xs hn hc hx hr,h=>.cons b off sz vs x xs hn hc (CR.cutO hx ⟨_,h.cons.1⟩) (ER.cutO hr h.cons.2)
theorem MR.cutO : ∀{en':List MapEntry} {es:List (L×L)},MR g' w' en' es→(∃en,MR g w en es)→MR (g'.cut g.nob) w' en' es
  | _,_,.nil,_=>.nil
  | _,_,.cons e ens k v es hk hv h1 hr,⟨_,h⟩=>.cons e ens k v es hk (LR.cutO hv (by cases h with | cons _ _ _ _ _ _ hv _ _=>exact ⟨_,_,hv⟩)) h1 (MR.cutO hr (by cases h with | cons _ _ _ _ _ _ _ _ hr=>exact ⟨_,hr⟩))
end
theorem Snd.drop {P:Program} {f:FuncId} {args rs:List CV} {st ex:List (List L)} (h:Snd P f args st rs (st++ex)) (hr:rs.all Dn.flatV=true):Snd P f args st rs st:=by
  refine ⟨h.1,fun g w vs ha hm=>(h.2 g w vs ha hm).mono ?_⟩
  rintro e w' ⟨g',us,rfl,hM,hm',hus⟩
  have K:Zcd g (g'.cut g.nob) w w':=⟨hM.keep.ob,zI _,hM.keep.Z,hM.keep.cell,hM.keep.mp⟩
  refine ⟨g'.cut g.nob,us,rfl,⟨K,hM.os,hM.tape,hM.output,hM.size,hM.same,hM.own,fun i h1 h2=>absurd h2 (by show ¬ i<g.nob;omega)⟩,⟨hm.stl,fun i c hc hne=>?_,fun i hi=>hm'.objB i (yQ hi hM.keep.nob),fun n ent h=>by simp [S.ofSt] at h,hm'.own,hm'.z,hm.gl.keep K⟩,hus.flatV hr⟩
  have hi:i<st.length:=by
    rcases zT i st.length with h' | h'
    · exact h'
    · simp only [S.ofSt] at hc;rw [zL h'] at hc;cases hc
  obtain ⟨h1,h2,a,E,h3,h4⟩:=hm'.obj i c (by simp only [S.ofSt] at hc ⊢;rw [zP hi];exact hc) hne
  obtain ⟨_,_,a0,_,_,h5⟩:=hm.obj i c hc hne
  exact ⟨h1,h2,a,E,h3,CR.cutO h4 ⟨_,_,h5⟩⟩
theorem Zdh.of_ext {P:Program} {f:FuncId} {args rs:List CV} (h : ∀st,∃ex,Snd P f args st rs (st++ex)) (hr:rs.all Dn.flatV=true):Zdh P f args rs:=fun st=>(h st).elim fun _ h=>h.drop hr
end
end Go.Dn
namespace Go.Dn
variable [Globs]
inductive PS where
  | r (ds:List (Nat×D))
  | d (r:DR)
  | c (b:Bool)
  | s (n:Nat)
def Znm (k:Nat):List PS→E→Bool
  | [.s n],.n=>k==n
  | _,_=>false
def goS (step:Zhy):Nat→List K→E→S→List PS→Option (List K×E×S×List Prop×List (Cmp×Cmp))
  | 0,_,_,_,_=>none
  | n+1,ks,e,s,ds=>if Znm ks.length ds e then some (ks,.n,s,[],[]) else match ks with
    | []=>match ds with
      | []=>some ([],e,s,[],[])
      | _::_=>none
    | .h J::ks=>match e with
      | .n=>match ds with
        | []=>some (.h J::ks,.n,s,[],[])
        | _::_=>none
      | .x id=>goS step n ks (.x id) s ds
      | .ret=>goS step n ks .ret s ds
    | .b id::ks=>match e with
      | .n=>goS step n ks .n s ds
      | .x id'=>if id'=id then goS step n ks .n s ds else goS step n ks (.x id') s ds
      | .ret=>goS step n ks .ret s ds
    | .c x::ks=>match e with
      | .x id=>goS step n ks (.x id) s ds
      | .ret=>goS step n ks .ret s ds
      | .n=>match x with
        | .skip=>goS step n ks .n s ds
        | .seq x y=>goS step n (.c x :: .c y::ks) .n s ds
        | .block id x=>goS step n (.c x :: .b id::ks) .n s ds
        | .exit id=>goS step n ks (.x id) s ds
        | .ret=>goS step n ks .ret s ds
        | .cond t x y=>match ds with
          | .c b::ds=>match ev s t with
            | some (.one (.l (.bool v)))=>match goS step n (.c (if b then x else y)::ks) .n s ds with
              | some (ks',e',s',ps,es)=>some (ks',e',s',(v=b)::ps,es)
              | none=>none
            | _=>none
          | _=>none
        | .region _ ops dr=>match ds with
          | .r d::ds=>if dr then none else match ZgZ step (ops.toList.map (·.dst)) ops.toList 0 s d with
            | some (s',ps)=>match goS step n ks .n s' ds with
              | some (ks',e',s'',qs,es)=>some (ks',e',s'',ps++qs,es)
              | none=>none
            | none=>none
          | .d r::ds=>if dr then match ZkI step ops.toList s r with
            | some (s',ps,es)=>match goS step n ks .n s' ds with
              | some (ks',e',s'',qs,fs)=>some (ks',e',s'',ps++qs,es++fs)
              | none=>none
            | none=>none
            else none
          | _=>none
        | .loop x=>match ds with
          | []=>some (.c (.loop x)::ks,.n,s,[],[])
          | _::_=>none
        | _=>none
theorem isStop_n {k:Nat} {ds:List PS} {e:E} (h:Znm k ds e=true):e = .n:=by
  unfold Znm at h
  split at h
  · rfl
  · cases h
theorem ZpF {P:Program} {step:Zhy} (hok:ZeA P step) (hfol:P.follows .mixedOrders=true) {R:Exit→Act→World→Prop} :
    ∀{n:Nat} {ks ks':List K} {e e':E} {s s':S} {ds:List PS} {ps:List Prop} {es:List (Cmp×Cmp)} {g:G} {a:Act} {w:World},goS step n ks e s ds=some (ks',e',s',ps,es)→Zbt ps→(∀q∈es,q.1=q.2)→Sat g s w a.tmps →
    (∀g' w' a',Mod g g' w w'→Sat g' s' w' a'.tmps→a'.defers=a.defers→exK P R ks' e'.exit a' w')→exK P R ks e.exit a w:=by
  intro n
  induction n with
  | zero=>
    intro ks ks' e e' s s' ds ps es g a w h hp he hs hQ
    simp [goS] at h
  | succ n ih=>
    intro ks ks' e e' s s' ds ps es g a w h hp he hs hQ
    have stop : ∀{ks:List K} {e:E},(ks=ks'∧e=e'∧s=s'∧[]=ps∧[]=es)→exK P R ks e.exit a w:=by
      rintro ks e ⟨rfl,rfl,rfl,rfl,rfl⟩
      exact hQ g w a (.refl _ _) hs rfl
    by_cases hst:Znm ks.length ds e=true
    · have:=isStop_n hst;subst this
      unfold goS at h
      rw [if_pos hst] at h
      simp only [zA,zB] at h;exact stop h
    unfold goS at h
    rw [if_neg hst] at h
    cases ks with
    | nil=>
      cases ds with
      | nil=>simp only [zA,zB] at h;exact stop h
      | cons d ds=>simp at h
    | cons k ks=>
      cases k with
      | h J=>
        cases e with
        | n=>cases ds with
          | nil=>simp only [zA,zB] at h;exact stop h
          | cons d ds=>simp at h
        | x id=>have:=ih h hp he hs hQ;simp only [E.exit] at this ⊢;unfold exK;exact this
        | ret=>have:=ih h hp he hs hQ;simp only [E.exit] at this ⊢;unfold exK;exact this
      | b id=>
        cases e with
        | n=>have:=ih h hp he hs hQ;simp only [E.exit] at this ⊢;unfold exK;exact this
        | x id'=>
          simp only [E.exit];unfold exK
          simp only at h
          split at h
          · rename_i hid
            rw [if_pos hid];exact ih h hp he hs hQ
          · rename_i hid
            rw [if_neg hid];exact ih h hp he hs hQ
        | ret=>have:=ih h hp he hs hQ;simp only [E.exit] at this ⊢;unfold exK;exact this
      | c x=>
        cases e with
        | x id=>have:=ih h hp he hs hQ;simp only [E.exit] at this ⊢;unfold exK;exact this
        | ret=>have:=ih h hp he hs hQ;simp only [E.exit] at this ⊢;unfold exK;exact this
        | n=>
          show exK P R _ .normal a w
          cases x with
          | skip=>have:=ih h hp he hs hQ;unfold exK;exact wp_skip this
          | seq x y=>exact ZpK (ih h hp he hs hQ)
          | block id x=>exact ZpL (ih h hp he hs hQ)
          | exit id=>have:=ih h hp he hs hQ;unfold exK;exact wp_exit this
          | ret=>have:=ih h hp he hs hQ;unfold exK;exact wp_ret this
          | cond t x y=>
            cases ds with
            | nil=>simp at h
            | cons d ds=>
              cases d with
              | r d=>simp at h
              | d d=>simp at h
              | s n=>simp at h
              | c b=>
                simp only at h
                split at h<;>try (cases h;done)
                rename_i v hev
                split at h<;>simp only [zA,zB,reduceCtorEq] at h
                rename_i k1 e1 s1 ps1 es1 h1
                obtain ⟨rfl,rfl,rfl,rfl,rfl⟩:=h
                rw [Zbt.cons] at hp
                obtain ⟨rfl,hp⟩:=hp
                have hv:=(Zbe hs hev).2.bool_eq
                have:=ih h1 hp he hs hQ
                simp only [E.exit] at this
                unfold exK at this ⊢
                exact wp_cond hv this
          | region id ops dr=>
            cases ds with
            | nil=>simp at h
            | cons d ds=>
              cases d with
              | c b=>simp at h
              | s n=>simp at h
              | r d=>
                cases dr with
                | true=>simp at h
                | false=>
                  simp only [Bool.false_eq_true,if_false] at h
                  split at h<;>try (cases h;done)
                  rename_i s1 ps1 h1
                  split at h<;>simp only [zA,zB,reduceCtorEq] at h
                  rename_i k1 e1 s2 ps2 es2 h2
                  obtain ⟨rfl,rfl,rfl,rfl,rfl⟩:=h
                  rw [Zbt.append] at hp
                  unfold exK
                  refine wp_region_list (ZfT hok h1 hp.1 hs fun g' w' a' hm hs' hd=>?_)
                  exact ih h2 hp.2 he hs' fun g'' w'' a'' hm' hs'' hd'=>hQ g'' w'' a'' (hm.trans hm') hs'' (hd'.trans hd)
              | d d=>
                cases dr with
                | false=>simp at h
                | true=>
                  simp only [if_true] at h
                  split at h<;>try (cases h;done)
                  rename_i s1 ps1 es1 h1
                  split at h<;>simp only [zA,zB,reduceCtorEq] at h
                  rename_i k1 e1 s2 ps2 es2 h2
                  obtain ⟨rfl,rfl,rfl,rfl,rfl⟩:=h
                  rw [Zbt.append] at hp
                  unfold exK
                  refine Zog hok hfol h1 hp.1 (fun q hq=>he q (List.mem_append_left _ hq)) hs fun g' w' a' hm hs' hd=>?_
                  exact ih h2 hp.2 (fun q hq=>he q (List.mem_append_right _ hq)) hs' fun g'' w'' a'' hm' hs'' hd'=>hQ g'' w'' a'' (hm.trans hm') hs'' (hd'.trans hd)
          | loop x=>
            cases ds with
            | nil=>simp only [zA,zB] at h;exact stop h
            | cons d ds=>simp at h
          | _=>simp at h
def At (g0:G) (w0:World) (s:S) (J:Act→World→Prop):Prop:=∀g w a,Mod g0 g w0 w→Sat g s w a.tmps→a.defers = []→J a w
def goQ (step:Zhy) (n:Nat) (ks:List K) (s:S) (ds:List PS) (live sites:List Nat):Option (List K×S×List Prop):=
  match goS step n ks .n s ds with
  | some (ks',.n,s',ps,[])=>some (ks',s'.norm live sites,ps)
  | _=>none
def goQd (step:Zhy) (n:Nat) (ks:List K) (s:S) (ds:List PS) (live sites:List Nat):Option (List K×S×List Prop):=
  match goS step n ks .n s ds with
  | some (ks',.n,s',ps,_)=>some (ks',s'.norm live sites,ps)
  | _=>none
def Zhs (b:Bool):Option (List K×E×S×List Prop×List (Cmp×Cmp))→List Cmp
  | some (_,_,_,_,es)=>es.map fun q=>if b then q.1 else q.2
  | none=>[]
def finQ (P:Program) (fn:Func) (step:Zhy) (n:Nat) (ks:List K) (s:S) (ds:List PS) (oc:List L) (md:Nat) (own:List Nat):Option (List CV×List (List L)×List Prop):=
  match goS step n ks .n s ds with
  | some ([],.n,s',ps,[])=>match ZfX P s' oc md own 0 fn.results.toList with
    | some (rs,_,qs)=>some (rs,s'.st,ps++qs)
    | none=>none
  | some ([],.ret,s',ps,[])=>match ZfX P s' oc md own 0 fn.results.toList with
    | some (rs,_,qs)=>some (rs,s'.st,ps++qs)
    | none=>none
  | _=>none
def ZkC (P:Program) (fn:Func) (step:Zhy) (n:Nat) (ks:List K) (s:S) (ds:List PS) (oc:List L) (md:Nat) (own:List Nat):Option (List CV×List (List L)×List Prop):=
  match goS step n ks .n s ds with
  | some ([],.n,s',ps,_)=>match ZfX P s' oc md own 0 fn.results.toList with
    | some (rs,_,qs)=>some (rs,s'.st,ps++qs)
    | none=>none
  | some ([],.ret,s',ps,_)=>match ZfX P s' oc md own 0 fn.results.toList with
    | some (rs,_,qs)=>some (rs,s'.st,ps++qs)
    | none=>none
  | _=>none
section
variable {P:Program} {step:Zhy} {g0:G} {w0:World} {R:Exit→Act→World→Prop} {n:Nat} {ks ks':List K} {s s':S} {ds:List PS} {live sites:List Nat} {ps:List Prop}
theorem ZkM {x:Option (List K×E×S×List Prop×List (Cmp×Cmp))} {ks:List K} {e:E} {s:S} {ps:List Prop} {es:List (Cmp×Cmp)} (hx:x=some (ks,e,s,ps,es)) (h:Zhs true x=Zhs false x) : ∀q∈es,q.1=q.2:=by
  subst hx
  simp only [Zhs,if_true,Bool.false_eq_true,if_false] at h
  intro q hq
  exact List.map_inj_left.1 h q hq
theorem At.goA (hok:ZeA P step) (hfol:P.follows .mixedOrders=true) {e e':E} {es:List (Cmp×Cmp)} (h:goS step n ks e s ds=some (ks',e',s',ps,es)) (hp:Zbt ps) (he : ∀q∈es,q.1=q.2)
    (hk:At g0 w0 s' (exK P R ks' e'.exit)):At g0 w0 s (exK P R ks e.exit):=fun g w a hM hs hd=>
  ZpF hok hfol h hp he hs fun g' w' a' hM' hs' hd'=>hk g' w' a' (hM.trans hM') hs' (hd'.trans hd)
theorem At.norm {J:Act→World→Prop} (h:At g0 w0 (s.norm live sites) J):At g0 w0 s J:=fun g w a hM hs hd=>h g w a hM (hs.norm live sites) hd
theorem At.go (hok:ZeA P step) (hfol:P.follows .mixedOrders=true) (h:goQ step n ks s ds live sites=some (ks',s',ps)) (hp:Zbt ps) (hk:At g0 w0 s' (exK P R ks' .normal)):At g0 w0 s (exK P R ks .normal):=by
  unfold goQ at h
  split at h<;>simp only [zA,zB,reduceCtorEq] at h
  rename_i h1
  obtain ⟨rfl,rfl,rfl⟩:=h
  exact At.goA (e:=.n) hok hfol h1 hp (fun q hq=>by cases hq) hk.norm
theorem At.goD (hok:ZeA P step) (hfol:P.follows .mixedOrders=true) (h:goQd step n ks s ds live sites=some (ks',s',ps)) (hc:Zhs true (goS step n ks .n s ds)=Zhs false (goS step n ks .n s ds)) (hp:Zbt ps)
    (hk:At g0 w0 s' (exK P R ks' .normal)):At g0 w0 s (exK P R ks .normal):=by
  unfold goQd at h
  split at h<;>simp only [zA,zB,reduceCtorEq] at h
  rename_i h1
  obtain ⟨rfl,rfl,rfl⟩:=h
  exact At.goA (e:=.n) hok hfol h1 hp (ZkM h1 hc) hk.norm
theorem At.ends {fn:Func} {rs:List CV} {e':E} {oc:List L} {md:Nat} {own:List Nat} {m:Option (Nat×Nat)} {qs:List Prop} (hE:ZjF P fn g0 w0 rs s'.st R) (he:e' = .n∨e' = .ret) (hr:ZfX P s' oc md own 0 fn.results.toList=some (rs,m,qs)) (hq:Zbt qs) :
    At g0 w0 s' (exK P R [] e'.exit):=fun g w a hM hs hd=>by
  unfold exK
  exact hE g w a s' oc md own m qs e' he hM hs hd hr hq rfl
theorem At.fin {fn:Func} {rs:List CV} {st':List (List L)} {oc:List L} {md:Nat} {own:List Nat} (hok:ZeA P step) (hfol:P.follows .mixedOrders=true) (hE:ZjF P fn g0 w0 rs st' R)
    (h:finQ P fn step n ks s ds oc md own=some (rs,st',ps)) (hp:Zbt ps):At g0 w0 s (exK P R ks .normal):=by
  unfold finQ at h
  split at h
  · rename_i h1
    split at h<;>simp only [zA,zB,reduceCtorEq] at h
    rename_i h2
    obtain ⟨rfl,rfl,rfl⟩:=h
    rw [Zbt.append] at hp
    exact At.goA (e:=.n) hok hfol h1 hp.1 (fun q hq=>by cases hq) (At.ends (e':=.n) hE (.inl rfl) h2 hp.2)
  · rename_i h1
    split at h<;>simp only [zA,zB,reduceCtorEq] at h
    rename_i h2
    obtain ⟨rfl,rfl,rfl⟩:=h
    rw [Zbt.append] at hp
    exact At.goA (e:=.n) hok hfol h1 hp.1 (fun q hq=>by cases hq) (At.ends (e':=.ret) hE (.inr rfl) h2 hp.2)
  · cases h
theorem At.finD {fn:Func} {rs:List CV} {st':List (List L)} {oc:List L} {md:Nat} {own:List Nat} (hok:ZeA P step) (hfol:P.follows .mixedOrders=true) (hE:ZjF P fn g0 w0 rs st' R)
    (h:ZkC P fn step n ks s ds oc md own=some (rs,st',ps)) (hc:Zhs true (goS step n ks .n s ds)=Zhs false (goS step n ks .n s ds)) (hp:Zbt ps):At g0 w0 s (exK P R ks .normal):=by
  unfold ZkC at h
  split at h
  · rename_i h1
    split at h<;>simp only [zA,zB,reduceCtorEq] at h
    rename_i h2
    obtain ⟨rfl,rfl,rfl⟩:=h
    rw [Zbt.append] at hp
    exact At.goA (e:=.n) hok hfol h1 hp.1 (ZkM h1 hc) (At.ends (e':=.n) hE (.inl rfl) h2 hp.2)
  · rename_i h1
    split at h<;>simp only [zA,zB,reduceCtorEq] at h
    rename_i h2
    obtain ⟨rfl,rfl,rfl⟩:=h
    rw [Zbt.append] at hp
    exact At.goA (e:=.n) hok hfol h1 hp.1 (ZkM h1 hc) (At.ends (e':=.ret) hE (.inr rfl) h2 hp.2)
  · cases h
theorem At.loop {x:Code} (m:Nat) (h:At g0 w0 s (Code.rounds P x (exK P R ks) m)):At g0 w0 s (exK P R (.c (.loop x)::ks) .normal):=fun g w a hM hs hd=>exK_loop m (h g w a hM hs hd)
theorem At.round {x:Code} {m:Nat} (h:At g0 w0 s (exK P R (.c x :: .h (Code.rounds P x (exK P R ks) m)::ks) .normal)):At g0 w0 s (Code.rounds P x (exK P R ks) (m+1)):=fun g w a hM hs hd=>Zmp (h g w a hM hs hd)
theorem At.here {J:Act→World→Prop} (h:At g0 w0 s J):At g0 w0 s (exK P R (.h J::ks) .normal):=fun g w a hM hs hd=>by unfold exK;exact h g w a hM hs hd
theorem Snd.of {f:FuncId} {fn:Func} {c:Code} {args:List CV} {st:List (List L)} {rs:List CV} {st':List (List L)} (hf:P.funcs[f]? = some fn)
    (hn : (fn.name == "runtime.NumGoroutine") = false) (hb : fn.body = some c) (hlen : args.length ≤ fn.ntmps)
    (h : ∀(g:G) (w:World) (R:Exit→Act→World→Prop),ZjF P fn g w rs st' R→At g w (S.enter fn.ntmps args st) (exK P R [.c c] .normal)):Snd P f args st rs st':=
  Snd.mk hf hn hb hlen fun g w a R hs hd hE=>h g w R hE g w a (.refl _ _) hs hd
end
section
variable {α:Type}
def chk (p:Prop) [Decidable p] (A:Option α):Option α:=if p then A else none
theorem ZaU {p:Prop} [Decidable p] {A:Option α} {r:α} (h:chk p A=some r):p∧A=some r:=by
  unfold chk at h;split at h
  · exact ⟨by assumption,h⟩
  · cases h
theorem Zbi {v:Bool} {A B:Option α} {r:α} {G:Prop} (h:(if v=true then A else B)=some r) (ht:v=true→A=some r→G) (hf:v=false→B=some r→G):G:=by
  cases v
  · exact hf rfl (by simpa using h)
  · exact ht rfl (by simpa using h)
def Zbs {β:Type} (o:Option β) (f:β→Option α):Option α:=match o with
  | some i=>f i
  | none=>none
theorem Zae {β:Type} {o:Option β} {f:β→Option α} {r:α} (h:Zbs o f=some r) : ∃i,o=some i∧f i=some r:=by
  cases o with
  | none=>cases h
  | some i=>exact ⟨i,rfl,h⟩
theorem Zab {x r:α} (h:some x=some r):x=r:=by cases h;rfl
end
def mkSl:Nat→Nat→List (Nat×TV)→List TV
  | _,0,_=>[]
  | i,n+1,[]=>.u::mkSl (i+1) n []
  | i,n+1,(j,t)::r=>if i=j then t::mkSl (i+1) n r else .u::mkSl (i+1) n ((j,t)::r)
def mkSi:Nat→Nat→List (Nat×Ent)→List (Option Ent)
  | _,0,_=>[]
  | i,n+1,[]=>none::mkSi (i+1) n []
  | i,n+1,(j,t)::r=>if i=j then some t::mkSi (i+1) n r else none::mkSi (i+1) n ((j,t)::r)
def mkS (n:Nat) (sl:List (Nat×TV)) (si:List (Nat×Ent)) (st:List (List L)):S:=⟨mkSl 0 n sl,mkSi 0 n si,st,0⟩
def Zcb:Code→List Nat→Code
  | .seq a _,0::r=>Zcb a r
  | .seq _ b,_::r=>Zcb b r
  | .cond _ a _,0::r=>Zcb a r
  | .cond _ _ b,_::r=>Zcb b r
  | .block _ b,_::r=>Zcb b r
  | .loop b,_::r=>Zcb b r
  | .scope b,_::r=>Zcb b r
  | x,_=>x
end Go.Dn
namespace Go.Dn
variable [Globs]
def ZmJ (o:Option (List K×S×List Prop)) (ks':List K) (s':S) (A:Prop):Prop:=
  match o with
  | some (k,s,ps)=>(k,s)=(ks',s')∧(A→Zbt ps)
  | none=>False
def ZmK (o:Option (List K×S×List Prop)) (k0:K) (s':S) (A:Prop):Prop:=
  match o with
  | some (k,s,ps)=>(k.head?,s)=(some k0,s')∧(A→Zbt ps)
  | none=>False
def Zgk (o:Option (List CV×List (List L)×List Prop)) (rs:List CV) (st':List (List L)) (A:Prop):Prop:=
  match o with
  | some (k,s,ps)=>(k,s)=(rs,st')∧(A→Zbt ps)
  | none=>False
section
variable {P:Program} {g0:G} {w0:World} {R:Exit→Act→World→Prop} {ks ks':List K} {s s':S} {A:Prop}
theorem goodQ {o:Option (List K×S×List Prop)} (h:((ks',s')=(ks',s')∧(A→A))=ZmJ o ks' s' A) (a:A) : ∃ps,o=some (ks',s',ps)∧Zbt ps:=by
  have h1:ZmJ o ks' s' A:=h ▸ ⟨rfl,id⟩
  unfold ZmJ at h1
  split at h1
  · rename_i k s ps
    obtain ⟨h2,h3⟩:=h1
    simp only [zB] at h2
    obtain ⟨rfl,rfl⟩:=h2
    exact ⟨ps,rfl,h3 a⟩
  · exact h1.elim
theorem goodF {o:Option (List CV×List (List L)×List Prop)} {rs:List CV} {st':List (List L)} (h:((rs,st')=(rs,st')∧(A→A))=Zgk o rs st' A) (a:A) : ∃ps,o=some (rs,st',ps)∧Zbt ps:=by
  have h1:Zgk o rs st' A:=h ▸ ⟨rfl,id⟩
  unfold Zgk at h1
  split at h1
  · rename_i k s ps
    obtain ⟨h2,h3⟩:=h1
    simp only [zB] at h2
    obtain ⟨rfl,rfl⟩:=h2
    exact ⟨ps,rfl,h3 a⟩
  · exact h1.elim
theorem goodN {o:Option (List K×S×List Prop)} {k:K} (h:((some k,s')=(some k,s')∧(A→A))=ZmK o k s' A) (a:A) : ∃ks' ps,o=some (k::ks',s',ps)∧Zbt ps:=by
  have h1:ZmK o k s' A:=h ▸ ⟨rfl,id⟩
  unfold ZmK at h1
  split at h1
  · rename_i k0 s ps
    obtain ⟨h2,h3⟩:=h1
    simp only [zB] at h2
    obtain ⟨h4,rfl⟩:=h2
    cases k0 with
    | nil=>cases h4
    | cons k0 ks0=>simp at h4;subst h4;exact ⟨_,ps,rfl,h3 a⟩
  · exact h1.elim
theorem At.q (hfol:P.follows .mixedOrders=true) (n:Nat) (ds:List PS) (live sites:List Nat) (a:A) (hk:At g0 w0 s' (exK P R ks' .normal))
    (h:((ks',s')=(ks',s')∧(A→A))=ZmJ (goQ (ZcX P) n ks s ds live sites) ks' s' A):At g0 w0 s (exK P R ks .normal):=by
  obtain ⟨ps,h1,h2⟩:=goodQ h a
  exact At.go (Zfz P) hfol h1 h2 hk
theorem At.qd (hfol:P.follows .mixedOrders=true) (n:Nat) (ds:List PS) (live sites:List Nat) (a:A) (hk:At g0 w0 s' (exK P R ks' .normal))
    (h:((ks',s')=(ks',s')∧(A→A))=ZmJ (goQd (ZcX P) n ks s ds live sites) ks' s' A) (hc:Zhs true (goS (ZcX P) n ks .n s ds)=Zhs false (goS (ZcX P) n ks .n s ds)):At g0 w0 s (exK P R ks .normal):=by
  obtain ⟨ps,h1,h2⟩:=goodQ h a
  exact At.goD (Zfz P) hfol h1 hc h2 hk
theorem At.n {J:Act→World→Prop} (hfol:P.follows .mixedOrders=true) (n:Nat) (ds:List PS) (live sites:List Nat) (a:A) (hk:At g0 w0 s' J)
    (h:((some (K.h J),s')=(some (K.h J),s')∧(A→A))=ZmK (goQ (ZcX P) n ks s ds live sites) (.h J) s' A):At g0 w0 s (exK P R ks .normal):=by
  obtain ⟨ks',ps,h1,h2⟩:=goodN h a
  exact At.go (Zfz P) hfol h1 h2 (At.here hk)
theorem At.nd {J:Act→World→Prop} (hfol:P.follows .mixedOrders=true) (n:Nat) (ds:List PS) (live sites:List Nat) (a:A) (hk:At g0 w0 s' J)
    (h:((some (K.h J),s')=(some (K.h J),s')∧(A→A))=ZmK (goQd (ZcX P) n ks s ds live sites) (.h J) s' A) (hc:Zhs true (goS (ZcX P) n ks .n s ds)=Zhs false (goS (ZcX P) n ks .n s ds)):At g0 w0 s (exK P R ks .normal):=by
  obtain ⟨ks',ps,h1,h2⟩:=goodN h a
  exact At.goD (Zfz P) hfol h1 hc h2 (At.here hk)
theorem At.f {fn:Func} {rs:List CV} {st':List (List L)} (hfol:P.follows .mixedOrders=true) (hE:ZjF P fn g0 w0 rs st' R) (n:Nat) (ds:List PS) (oc:List L) (md:Nat) (own:List Nat) (a:A)
    (h:((rs,st')=(rs,st')∧(A→A))=Zgk (finQ P fn (ZcX P) n ks s ds oc md own) rs st' A):At g0 w0 s (exK P R ks .normal):=by
  obtain ⟨ps,h1,h2⟩:=goodF h a
  exact At.fin (Zfz P) hfol hE h1 h2
theorem At.fd {fn:Func} {rs:List CV} {st':List (List L)} (hfol:P.follows .mixedOrders=true) (hE:ZjF P fn g0 w0 rs st' R) (n:Nat) (ds:List PS) (oc:List L) (md:Nat) (own:List Nat) (a:A)
    (h:((rs,st')=(rs,st')∧(A→A))=Zgk (ZkC P fn (ZcX P) n ks s ds oc md own) rs st' A) (hc:Zhs true (goS (ZcX P) n ks .n s ds)=Zhs false (goS (ZcX P) n ks .n s ds)):At g0 w0 s (exK P R ks .normal):=by
  obtain ⟨ps,h1,h2⟩:=goodF h a
  exact At.finD (Zfz P) hfol hE h1 hc h2
def loopN {α ρ:Type} (body:(α→Option ρ)→α→Option ρ):Nat→α→Option ρ
  | 0,_=>none
  | k+1,x=>body (loopN body k) x
theorem At.loopN {α ρ:Type} (St:α→S) {x:Code} {ks:List K} {body:(α→Option ρ)→α→Option ρ} {r:ρ}
    (hb : ∀(c:α→Option ρ) (J:Act→World→Prop),(∀y,c y=some r→At g0 w0 (St y) J)→∀y,body c y=some r→At g0 w0 (St y) (exK P R (.c x :: .h J::ks) .normal)) :
    ∀(k:Nat) (y:α),Dn.loopN body k y=some r→At g0 w0 (St y) (Code.rounds P x (exK P R ks) k)
  | 0,y,h=>by cases h
  | k+1,y,h=>At.round (hb (Dn.loopN body k) _ (fun y' h'=>At.loopN St hb k y' h') y h)
end
end Go.Dn
namespace Go.Dn
variable [Globs]
theorem ZaJ {st:List (List L)} {i:Nat} {c:List L} (h:st[i]? = some c) (c':List L):(st.set i c')[i]? = some c':=by
  have:i<st.length:=by
    rcases zT i st.length with h' | h'
    · exact h'
    · rw [zL h'] at h;cases h
  simp [this]
theorem st_old {st:List (List L)} {i:Nat} {c:List L} (h:st[i]? = some c) (c':List L):(st ++ [c'])[i]? = some c:=by
  have:i<st.length:=by
    rcases zT i st.length with h' | h'
    · exact h'
    · rw [zL h'] at h;cases h
  rw [zP this];exact h
theorem not_true {b:Bool} (h:b=true):(!b)=false:=by subst h;rfl
theorem not_false {b:Bool} (h:b=false):(!b)=true:=by subst h;rfl
theorem ZbG {b:Bool} (h:(!b)=true):b=false:=by cases b<;>first | rfl | cases h
theorem ZbH {b:Bool} (h:(!b)=false):b=true:=by cases b<;>first | rfl | cases h
def optM {α:Type} (o:Option (Option (Nat×L))) (f:Nat→L→Option α) (g:Option α):Option α:=match o with
  | some (some (j,v))=>f j v
  | some none=>g
  | none=>none
theorem Zks {α:Type} {o:Option (Option (Nat×L))} {f:Nat→L→Option α} {g:Option α} {r:α} (h:optM o f g=some r):(∃j v,o=some (some (j,v))∧f j v=some r)∨(o=some none∧g=some r):=by
  unfold optM at h
  split at h
  · exact .inl ⟨_,_,rfl,h⟩
  · exact .inr ⟨rfl,h⟩
  · cases h
theorem ZpJ {o:Option (Option (Nat×L))} {j:Nat} {v:L} (h:o=some (some (j,v))) : ∃j,o=some (some (j,v)):=⟨j,h⟩
theorem ex_at {o:Option (Option (Nat×L))} {j:Nat} {v:L} (h:o=some (some (j,v))) : ∃v,o=some (some (j,v)):=⟨v,h⟩
end Go.Dn
namespace Go.Dn
variable [Globs]
theorem ZhG {α:Type} {a b:α} (h : [a] = [b]):a=b:=by cases h;rfl
end Go.Dn
namespace Go.Dn.F
open Go.Dn
variable [Globs]
def ZcW (_:Nat) (x y c:Int):Option (Int×Int):=
  chk (0≤x)<|chk (0≤y)<|chk (0≤c)<|chk (c≤1)<|some ((x+y+c)%18446744073709551616,(x+y+c)/18446744073709551616)
def ZdS (_:Nat) (x y c:Int):Option (Int×Int):=
  chk (0≤x)<|chk (0≤y)<|chk (0≤c)<|chk (c≤1)<|chk (y≤18446744073709551615)<|some ((x-y-c)%18446744073709551616,if x<y+c then 1 else 0)
def Zkc:Array Value→Sem Value:=fun args=>do
  let (x, y, b) ← Extern.MathBitsCarry.three "Sub64" args
  pure (Extern.MathBitsCarry.pair ((x+Extern.MathBitsCarry.m64-y-b)%Extern.MathBitsCarry.m64) (if x<y+b then 1 else 0))
theorem run_sub {P:Program} (x y b:Nat) (hb:b≤1) (w:World) :
    (Zkc #[.int .u64 x,.int .u64 y,.int .u64 b]).run P w =
      .ok (.tuple #[.int .u64 (((x+18446744073709551616-y-b)%18446744073709551616:Nat):Int),.int .u64 ((if x<y+b then 1 else 0:Nat):Int)]) w:=by
  have:b=0∨b=1:=by omega
  rcases this with rfl | rfl<;>rfl
variable {P:Program} {f:FuncId} {fn:Func}
theorem ZjA (hf : P.funcs[f]? = some fn) (hname : (fn.name == "runtime.NumGoroutine") = false) (hb : fn.body.isNone = true) (hn : Extern.findNext fn = none) (he : Extern.find fn = some add64Entry)
    {N:Nat} {x y z:Int} {r:Int×Int} (h:ZcW N x y z=some r):ExtI P f [(.u64,x),(.u64,y),(.u64,z)] [(.u64,r.1),(.u64,r.2)]:=by
  intro w
  unfold ZcW at h
  obtain ⟨h1,h⟩:=ZaU h
  obtain ⟨h2,h⟩:=ZaU h
  obtain ⟨h3,h⟩:=ZaU h
  obtain ⟨h4,h⟩:=ZaU h
  have:=Zab h;subst this
  rw [run_callFunc_extern hf hname hb hn he]
  show (Result.andThen ((add64Entry #[.int .u64 x,.int .u64 y,.int .u64 z]).run P w) _)=_
  rw [run_add64 x y z h1 h2 h3 h4]
  rfl
theorem Zjz (hf : P.funcs[f]? = some fn) (hname : (fn.name == "runtime.NumGoroutine") = false) (hb : fn.body.isNone = true) (hn : Extern.findNext fn = none) (he : Extern.find fn = some Zkc)
    {N:Nat} {x y z:Int} {r:Int×Int} (h:ZdS N x y z=some r):ExtI P f [(.u64,x),(.u64,y),(.u64,z)] [(.u64,r.1),(.u64,r.2)]:=by
  intro w
  unfold ZdS at h
  obtain ⟨h1,h⟩:=ZaU h
  obtain ⟨h2,h⟩:=ZaU h
  obtain ⟨h3,h⟩:=ZaU h
  obtain ⟨h4,h⟩:=ZaU h
  obtain ⟨h5,h⟩:=ZaU h
  have:=Zab h;subst this
  rw [run_callFunc_extern hf hname hb hn he]
  obtain ⟨X,rfl⟩:=uS h1
  obtain ⟨Y,rfl⟩:=uS h2
  obtain ⟨Z,rfl⟩:=uS h3
  show (Result.andThen ((Zkc #[.int .u64 X,.int .u64 Y,.int .u64 Z]).run P w) _)=_
  rw [run_sub X Y Z (by omega)]
  have e1:(((X+18446744073709551616-Y-Z)%18446744073709551616:Nat):Int)=((X:Int)-Y-Z)%18446744073709551616:=by omega
  have e2:((if X<Y+Z then 1 else 0:Nat):Int)=if (X:Int)<Y+Z then 1 else 0:=by
    by_cases hh:X<Y+Z
    · rw [if_pos hh,if_pos (by omega)];rfl
    · rw [if_neg hh,if_neg (by omega)];rfl
  rw [e1,e2]
  rfl
end Go.Dn.F
namespace Go.Dn
variable [Globs]
section
variable {P:Program} {g0:G} {w0:World} {R:Exit→Act→World→Prop} {ks:List K} {s:S}
theorem Zpg {o:Oper} {d1 d2 T T2 E:Nat} {sz:Nat} {xs:List (List L)} (h:o.op = .binOp .eql T (.tmp d1) (.const (.slice none 0 0)) T2) (hu:P.underlying T=some (.slice E)) (hd:o.dst=some d2)
    (hs0:s.sl[d1]? = some (.one (.l (.sl sz xs)))) {g:G} {w:World} {a:Act} (hs:Sat g s w a.tmps) {K:Act→World→Prop} {Q:Exit→Act→World→Prop}
    (hK : ∀b g' a',(b=true→xs = [])→Mod g g' w w→Sat g' (s.put (some d2) (.one (.l (.bool b)))) w a'.tmps→a'.defers=a.defers→K a' w):o.wp P a w K Q:=by
  have hv:=hs.slot d1 _ hs0
  have ha:a.eval (.tmp d1)=a.tmps.getD d1 undef:=rfl
  rw [←ha] at hv
  obtain ⟨_,hl⟩:=hv
  simp only [TR] at hl
  obtain ⟨p,n,c,hpv,hnil⟩ : ∃p n c,a.eval (.tmp d1) = .slice p n c∧(p.isNone=true→xs = []):=by
    generalize a.eval (.tmp d1)=v at hl
    cases hl with
    | slnil=>exact ⟨none,0,0,rfl,fun _=>rfl⟩
    | slz _ _ a0=>exact ⟨_,0,0,rfl,fun h=>by cases h⟩
    | sl _ b off len cap _ _ hl hc hZ he=>exact ⟨_,_,_,rfl,fun h=>by cases h⟩
  have hc0:a.eval (.const (.slice none 0 0)) = .slice none 0 0:=rfl
  have hrun:(execOp a.eval o).run P w = .ok (.value (.bool p.isNone)) w:=by
    have h1:(binOp .eql T (.slice p n c) (.slice none 0 0)).run P w = .ok (.bool p.isNone) w:=by
      exact Lib.run_eql_slice_nil w T E p n c 0 0 hu
    have h2:(eqGuard .eql T (.tmp d1) (.const (.slice none 0 0)) (.slice p n c) (.slice none 0 0)).run P w = .ok () w:=by simp [eqGuard]
    simp only [execOp,h,hpv,hc0,Sem.run_bind,h1,h2,Result.andThen_ok,Sem.run_pure]
  unfold Oper.wp
  rw [hrun]
  have hsl:Zcl g (s.put o.dst (.one (.l (.bool p.isNone)))) w (.bool p.isNone) (.one (.l (.bool p.isNone))):=⟨rfl,.bool _ _⟩
  have hn:=hs.next (X:=fun _=>False) (s':=s.put o.dst (.one (.l (.bool p.isNone)))) (Zbb.refl (by cases o.dst<;>rfl) (by cases o.dst<;>rfl)) (fun _ h=>h.elim) (hs.mem.cast (by cases o.dst<;>rfl) (by cases o.dst<;>rfl)) (by cases o.dst<;>rfl) (dst:=o.dst) (tv:=.one (.l (.bool p.isNone))) (v:=.bool p.isNone) rfl (fun _=>hsl)
  rw [←hd] at hK
  exact hK p.isNone g _ hnil (.refl g w) hn (by cases o.dst<;>rfl)
theorem At.nilcmp (hok:ZeA P (ZcX P)) {id d0 d1 d2 T T2 E:Nat} {o1 o2:Oper} {sz:Nat} {xs:List (List L)} {rest:Code}
    (h1:o1.op = .move (.tmp d0)) (g1:o1.guard=none) (e1:o1.dst=some d1) (h2:o2.op = .binOp .eql T (.tmp d1) (.const (.slice none 0 0)) T2) (g2:o2.guard=none) (e2:o2.dst=some d2) (hu:P.underlying T=some (.slice E))
    (hs0:s.sl[d0]? = some (.one (.l (.sl sz xs)))) (hd1:d1<s.sl.length)
    (k : ∀b,(b=true→xs = [])→At g0 w0 ((s.put (some d1) (.one (.l (.sl sz xs)))).put (some d2) (.one (.l (.bool b)))) (exK P R (.c rest::ks) .normal)) :
    At g0 w0 s (exK P R (.c (.seq (.region id #[o1,o2] false) rest)::ks) .normal):=by
  intro g w a hM hs hd
  refine ZpK ?_
  unfold exK
  refine wp_region_list ?_
  unfold wpList
  rw [if_pos (by unfold Region.wanted;rw [g1])]
  left
  have hpv:Dn.pv P s o1=some (.one (.l (.sl sz xs)),[]):=by
    unfold Dn.pv
    rw [h1]
    simp only [ev,hs0,yJ]
  refine (Zcj.pv hpv trivial) g w a hs _ _ fun g' w' v hm hk hs'=>?_
  rw [e1] at hs' ⊢
  unfold wpList
  rw [if_pos (by unfold Region.wanted;rw [g2])]
  left
  refine Zpg (s:=s.put (some d1) (.one (.l (.sl sz xs)))) (sz:=sz) (xs:=xs) h2 hu e2 (by simp [S.put,hd1]) hs' fun b g'' a' hb hm' hs'' hd'=>?_
  unfold wpList
  exact k b hb g'' w' a' ((hM.trans hm).trans hm') hs'' (by rw [hd'];exact hd)
end
def opPos:Code→Nat→String
  | .seq (.region _ os _) _,i=>match os[i]? with
    | some o=>o.pos
    | none => ""
  | _, _ => ""
end Go.Dn
namespace Go.Dn
open Go.ChangeShapes Go.WideShapes Go.RowKit
def ZiX (w:World):G:=
  { ob:=fun _=>0,nob:=0,sb:=fun _=>0,hd:=fun _=>.slice none 0 0,ow:=fun _=>none
    Z:=fun b=>match w.heap[b]? with | some (.cells a _ _)=>a.size | _=>0}
theorem ZiW {w:World} {b o:Nat} {v:Value} (h:w.cell? (ad b o)=some v):o<(ZiX w).Z b:=by
  simp only [World.cell?] at h
  simp only [ZiX]
  cases hb:w.heap[b]? with
  | none=>rw [hb] at h;simp at h
  | some x=>
    rw [hb] at h
    cases x with
    | cells a E lo=>simp only at h;exact (Array.getElem?_eq_some_iff.1 h).1
    | _=>simp at h
section
variable [Globs]
theorem lawG_sat {w:World} (hg:GlR (ZiX w) w):Zde (ZiX w) (.ofSt []) w:=
  ⟨rfl,fun i c h=>by simp [S.ofSt] at h,fun i h=>absurd h (rF i),fun n e h=>by simp [S.ofSt] at h,(fun b t h=>by cases h),
   fun b hb=>by simp [ZiX,sZ hb],hg⟩
theorem law {P:Program} {f:FuncId} {args rs:List CV} {st':List (List L)} {w:World} {vs:List Value} (h:Snd P f args [] rs st') (hg:GlR (ZiX w) w) (hv:ZeP (ZiX w) w 0 vs args) :
    Calls P f vs.toArray w fun e w'=>(∃us g',e = .returned (ZnO us)∧ZeP g' w' 0 us rs)∧Below w.heap.size w w':=
  (h.2 (ZiX w) w vs hv (lawG_sat hg)).mono fun e w' ⟨g',us,he,hM,_,hu⟩=>
    ⟨⟨us,g',he,hu⟩,hM.os,hM.tape,hM.output,hM.size,fun k hk=>by
      rcases hM.same k hk with h | h
      · exact h.1
      · exact absurd rfl h.1⟩
theorem law_true {P:Program} {f:FuncId} {args:List CV} {st':List (List L)} {w:World} {vs:List Value} (h:Snd P f args [] [.one (.bool true)] st') (hg:GlR (ZiX w) w) (hv:ZeP (ZiX w) w 0 vs args) :
    Calls P f vs.toArray w fun e w'=>e = .returned (.bool true)∧Below w.heap.size w w':=
  (law h hg hv).mono fun e w' ⟨⟨us,g',he,v,r,hu,h1,h2⟩,hb⟩=>by
    subst hu;cases h2;cases h1.2
    exact ⟨he,hb⟩
theorem law_nil {g:G} {w:World} {i:Nat}:ZeP g w i [] []:=rfl
theorem Ziw {g:G} {w:World} {i:Nat} {v:Value} {vs:List Value} {c:CV} {cs:List CV} (h:CVR g w i v c) (hs:ZeP g w (i+1) vs cs):ZeP g w i (v::vs) (c::cs):=⟨v,vs,rfl,h,hs⟩
theorem law_int {g:G} {w:World} {i:Nat} {k:IntKind} {n:Int}:CVR g w i (.int k n) (.one (.int k n)):=⟨rfl,.int _ _ _⟩
theorem Zqe {P:Program} {w:World} {base:Nat} {sp:Nat→Bool} {held:Bool} {H:Type} {enc:TypeId×Value→H} {fuel t e n:Nat} {k:IntKind} {cs:List Value} {xs:List Int} {p:List MemPlace}
    (hu:P.underlying t=some (.array n e)) (he:P.underlying e=some (.int k)) (hc:P.cellsOf e=1) (hct:P.cellsOf t=n)
    (h:DataW.trod enc P w base sp held fuel t cs=some (.agg (xs.map fun x=>.lit (.int k x)),p)):cs=xs.map (Value.int k)∧xs.length=n:=by
  obtain ⟨ys,m,_,h1,h2,h3,h4⟩:=DataW.trod_array hu h
  simp only [zB,DataW.agg.injEq] at h1
  have hl:xs.length=n:=by
    have:=congrArg List.length h1.1
    simp at this
    omega
  refine ⟨?_,hl⟩
  apply wJ
  intro i
  rw [hc] at h4
  by_cases hi:i<n
  · have h5:=h4 i hi
    rw [uL,zN (by omega)] at h5
    obtain ⟨z,h6,h7,_⟩:=DataW.trod_int he h5
    have h8:(ys.map (·.1))[i]? = some (.lit (.int k z)):=by
      rw [yG,zN (by omega),h7];rfl
    rw [←h1.1,yG] at h8
    have h9:xs[i]? = some z:=by
      rw [zN (by omega)] at h8 ⊢
      simp only [yJ,zA,DataW.lit.injEq,Lit.int.injEq,true_and] at h8
      rw [h8]
    rw [yG,h9]
    have h10:=congrArg (fun l:List Value=>l[0]?) h6
    simp only [yL,yZ] at h10
    simpa using h10
  · rw [zL (by omega),zL (by simp;omega)]
theorem ZlI {P:Program} {w:World} {name:String} {d:DataW Unit} {r:List (String×DataW Unit)} {ps:List MemPlace} (h:DataW.LaidVars P w ((name,d)::r) ps) {g t e n:Nat} {k:IntKind} (xs:List Int)
    (hg:P.globalNamed name=some g) (ht:(P.globals[g]?).map (·.type)=some t) (hu:P.underlying t=some (.array n e)) (he:P.underlying e=some (.int k)) (hc:P.cellsOf e=1) (hct:P.cellsOf t=n)
    (hd:d = .agg (xs.map fun x=>.lit (.int k x))) (h0:0<n):(∃sz,ER (ZiX w) w g 0 sz [[.arr k n xs]]∧sz≤(ZiX w).Z g)∧∃q,DataW.LaidVars P w r q:=by
  obtain ⟨g',t',cs,fuel,p,q,h1,h2,h3,h4,h5,_⟩:=h
  obtain rfl:=Option.some.inj (h1.symm.trans hg)
  obtain rfl:=Option.some.inj (h2.symm.trans ht)
  subst hd
  obtain ⟨hcs,hl⟩:=Zqe hu he hc hct h4
  have hcell : ∀j v,(xs.map (Value.int k))[j]? = some v→w.cell? (ad g' (0+j))=some v:=fun j v hj=>by
    have:=World.var?_cell hg h3 j
    rw [zZ,show ad g' j=⟨g',j,none⟩ from rfl,this,←Array.getElem?_toList,hcs,hj]
  refine ⟨⟨n,.cons g' 0 n (xs.map (Value.int k)) [.arr k n xs] [] (by simp [hl]) hcell ?_ (.nil _ _ _),?_⟩,q,h5⟩
  · have:=CR.arr (g:=ZiX w) (w:=w) none k n xs [] [] hl (.nil _)
    simpa using this
  · have:(xs.map (Value.int k))[n-1]? = some (Value.int k (xs.getD (n-1) 0)):=by
      rw [yG,zN (by omega)]
      simp [List.getD,zN (show n-1<xs.length by omega)]
    have:=ZiW (hcell _ _ this)
    omega
end
end Go.Dn
namespace Go.Dn
theorem Zan {α:Type} {p:Prop} [Decidable p] {A:Option α} (h:p):chk p A=A:=if_pos h
@[simp] theorem Zac {α β:Type} (x:β) (f:β→Option α):Zbs (some x) f=f x:=rfl
@[simp] theorem optM_hit {α:Type} (j:Nat) (v:L) (f:Nat→L→Option α) (g:Option α):optM (some (some (j,v))) f g=f j v:=rfl
@[simp] theorem optM_miss {α:Type} (f:Nat→L→Option α) (g:Option α):optM (some none) f g=g:=rfl
theorem Zat {α ρ:Type} (body:(α→Option ρ)→α→Option ρ) (k:Nat) (x:α):loopN body (k+1) x=body (loopN body k) x:=rfl
@[simp] theorem ZfA (l:List Int):(Zdp l).length=l.length:=by simp [Zdp]
theorem Zlq (n:Nat) (l:List Int):(Zdp l).take n=Zdp (l.take n):=by simp [Zdp]
theorem Zmm (l m:List Int):Zdp l++Zdp m=Zdp (l++m):=by simp [Zdp]
theorem rowI_one (n:Int) : [[zJ .i64 n]]=Zdp [n]:=rfl
theorem Zkj {l:List Int} {i:Nat} (h:i<l.length):(Zdp l)[i]? = some [zJ .i64 l[i]]:=by simp [Zdp,h]
theorem ZoX {zs:List Int} {j:Nat} {x:Int} (h:zs[j]? = some x):(Zdp zs)[Int.toNat (j:Int)]? = some [zJ .i64 x]:=by
  rw [Int.toNat_natCast];simp [Zdp,h]
theorem ZnN (l:List Int):ZdC (Zdp l)=true:=by simp [ZdC,Zdp,L.plain]
theorem ZoP {α:Type} {l:List α} {i:Nat} {x:α} (h:l[i]? = some x):l.set i x=l:=by
  obtain ⟨hi,rfl⟩:=zX.1 h
  exact List.set_getElem_self hi
theorem Zno {α:Type} {l:List α} {i:Nat} {x:α} (h:l[i]? = some x):i<l.length:=(zX.1 h).1
def fi:List (Int×Int)→Int→Option (Nat×Int)
  | [],_=>none
  | (k,v)::es,x=>if x=k then some (0,v) else (fi es x).map fun r=>(r.1+1,r.2)
def sm (es:List (Int×Int)) (x:Int):Int:=((fi es x).map (·.2)).getD 0
end Go.Dn
namespace Go.Dn.F
theorem ZeK {α ρ:Type} {body:(α→Option ρ)→α→Option ρ} {Q:ρ→Prop} (I:Nat→α→Prop)
    (step : ∀(G:α→Option ρ) m x,I m x→(∀m' y,m'<m→I m' y→∃r,G y=some r∧Q r)→∃r,body G x=some r∧Q r) :
    ∀k m x,I m x→m<k→∃r,loopN body k x=some r∧Q r
  | 0,_,_,_,h=>absurd h (rF _)
  | k+1,m,x,hI,h=>step (loopN body k) m x hI fun m' y hm hy=>ZeK I step k m' y hy (by omega)
theorem ZcB {α ρ:Type} {body:(α→Option ρ)→α→Option ρ} {o:Option ρ} (I:Nat→α→Prop)
    (step : ∀(G:α→Option ρ) m x,I m x→(∀m' y,m'<m→I m' y→G y=o)→body G x=o) :
    ∀k m x,I m x→m<k→loopN body k x=o
  | 0,_,_,_,h=>absurd h (rF _)
  | k+1,m,x,hI,h=>step (loopN body k) m x hI fun m' y hm hy=>ZcB I step k m' y hy (by omega)
end Go.Dn.F
namespace Go.Dn
variable [Globs]
open Go.ChangeShapes Go.WideShapes Go.RowKit
inductive Ty where
  | int (k:IntKind)
  | bool
  | str
  | arr (k:IntKind) (n:Nat)
  | sl (sz:Nat) (ts:List Ty)
mutual
def LTy:Ty→L→Prop
  | .int k,l=>∃n,l = .int k n∧(Lit.int k n).wf=true
  | .bool,l=>∃b,l = .bool b
  | .str,l=>∃s,l = .str s∧s.size≤maxLen
  | .arr k n,l=>∃xs,l = .arr k n xs∧xs.length=n∧∀x∈xs,(Lit.int k x).wf=true
  | .sl sz ts,l=>∃xs,l = .sl sz xs∧xs.length≤maxLen∧∀x∈xs,Zfw ts x
def Zfw:List Ty→List L→Prop
  | [],ls=>ls = []
  | t::ts,ls=>∃l r,ls=l::r∧LTy t l∧Zfw ts r
end
theorem Zfw.append : ∀{ts us:List Ty} {ls ms:List L},Zfw ts ls→Zfw us ms→Zfw (ts++us) (ls++ms)
  | [],us,ls,ms,h,k=>by rw [Zfw] at h;subst h;exact k
  | t::ts,us,ls,ms,h,k=>by
    rw [Zfw] at h
    obtain ⟨l,r,rfl,h1,h2⟩:=h
    rw [List.cons_append,Zfw]
    exact ⟨l,r++ms,rfl,h1,Zfw.append h2 k⟩
def Zif (P:Program):Nat→List Field→Nat→Bool
  | off,[],tot=>off==tot
  | off,f::fs,tot=>f.offset==off&&Zif P (off+P.cellsOf f.type) fs tot
def lay (P:Program):Nat→TypeId→Option (List Ty)
  | 0,_=>none
  | n+1,t=>match P.underlying t with
    | some (.int k)=>some [.int k]
    | some .bool=>some [.bool]
    | some .string=>some [.str]
    | some (.array m e)=>match P.underlying e with
      | some (.int k)=>if P.cellsOf e=1∧P.cellsOf t=m then some [.arr k m] else none
      | _=>none
    | some (.slice e)=>if 0<P.cellsOf e then (lay P n e).map fun ts=>[.sl (P.cellsOf e) ts] else none
    | some (.struct fs)=>if Zif P 0 fs.toList (P.cellsOf t) then (fs.toList.mapM fun f=>lay P n f.type).map List.flatten else none
    | _=>none
theorem ER_of {g:G} {w:World} {b sz:Nat} {Q:List L→Prop} : ∀(m off:Nat),(∀i,i<m→∃vs x,vs.length=sz∧(∀j v,vs[j]? = some v→w.cell? (ad b (off+i*sz+j))=some v)∧CR g w none vs x∧Q x) →
    ∃xs,xs.length=m∧ER g w b off sz xs∧∀x∈xs,Q x
  | 0,off,_=>⟨[],rfl,.nil _ _ _,fun x h=>by cases h⟩
  | m+1,off,h=>by
    obtain ⟨vs,x,h1,h2,h3,h4⟩:=h 0 (by omega)
    obtain ⟨xs,k1,k2,k3⟩:=ER_of m (off+sz) fun i hi=>by
      obtain ⟨vs,x,h1,h2,h3,h4⟩:=h (i+1) (by omega)
      refine ⟨vs,x,h1,fun j v hj=>?_,h3,h4⟩
      have:=h2 j v hj
      rwa [xE,Nat.one_mul,show off+(i*sz+sz)+j=off+sz+i*sz+j by omega] at this
    refine ⟨x::xs,by simp [k1],.cons b off sz vs x xs h1 (fun j v hj=>?_) h3 k2,fun y hy=>?_⟩
    · have:=h2 j v hj
      rwa [sY,wB] at this
    · rcases xC.1 hy with rfl | hy
      · exact h4
      · exact k3 y hy
section
variable {H:Type} {enc:TypeId×Value→H} {P:Program} {w:World} {held:Bool}
theorem ZjH {n:Nat} {cs:List Value} (ih : ∀(t:TypeId) (tys:List Ty) (fuel:Nat) (cs:List Value) (x:DataW H×List MemPlace),lay P n t=some tys→DataW.trod enc P w 0 (fun _=>true) held fuel t cs=some x→∃ls,CR (ZiX w) w none cs ls∧Zfw tys ls)
    {fuel:Nat} : ∀(fs:List Field) (off:Nat) (tyss:List (List Ty)),Zif P off fs cs.length=true→off≤cs.length→fs.mapM (fun f=>lay P n f.type)=some tyss →
    (∀f∈fs,∃x,DataW.trod enc P w 0 (fun _=>true) held fuel f.type ((cs.drop f.offset).take (P.cellsOf f.type))=some x)→∃ls,CR (ZiX w) w none (cs.drop off) ls∧Zfw tyss.flatten ls
  | [],off,tyss,hc,ho,hm,_=>by
    simp only [Zif,beq_iff_eq] at hc
    simp only [List.mapM_nil] at hm
    cases hm
    refine ⟨[],?_,by rw [List.flatten_nil,Zfw]⟩
    rw [List.drop_eq_nil_of_le (by omega)]
    exact .nil _
  | f::fs,off,tyss,hc,ho,hm,hx=>by
    simp only [Zif,zO,beq_iff_eq] at hc
    obtain ⟨hc1,hc2⟩:=hc
    rw [List.mapM_cons] at hm
    obtain ⟨ty,h1,hm⟩:=zU.1 hm
    obtain ⟨tys,h2,hm⟩:=zU.1 hm
    cases hm
    obtain ⟨x,hx1⟩:=hx f (by simp)
    obtain ⟨ls,k1,k2⟩:=ih f.type ty fuel _ x h1 hx1
    have hle:off+P.cellsOf f.type≤cs.length:=by
      clear hx h2 ih
      have : ∀(fs:List Field) (o:Nat),Zif P o fs cs.length=true→o≤cs.length:=by
        intro fs
        induction fs with
        | nil=>intro o h;simp only [Zif,beq_iff_eq] at h;omega
        | cons f fs ihf=>intro o h;simp only [Zif,zO,beq_iff_eq] at h;have:=ihf _ h.2;omega
      exact this _ _ hc2
    obtain ⟨ms,k3,k4⟩:=ZjH ih fs (off+P.cellsOf f.type) tys hc2 hle h2 (fun f' hf'=>hx f' (List.mem_cons_of_mem _ hf'))
    refine ⟨ls++ms,?_,by rw [List.flatten_cons];exact k2.append k4⟩
    rw [hc1] at k1
    have:=CR.append k1 (vs:=cs.drop (off+P.cellsOf f.type)) (ys:=ms) k3
    rwa [←List.drop_drop,wA] at this
theorem Zit : ∀(n:Nat) (t:TypeId) (tys:List Ty) (fuel:Nat) (cs:List Value) (x:DataW H×List MemPlace),lay P n t=some tys→DataW.trod enc P w 0 (fun _=>true) held fuel t cs=some x→∃ls,CR (ZiX w) w none cs ls∧Zfw tys ls
  | 0,_,_,_,_,_,h,_=>by simp [lay] at h
  | n+1,t,tys,fuel,cs,x,h,hd=>by
    have one : ∀{ty:Ty} {l:L},LTy ty l→Zfw [ty] [l]:=fun {ty l} h=>by rw [Zfw];exact ⟨l,[],rfl,h,by rw [Zfw]⟩
    simp only [lay] at h
    split at h
    · rename_i k ht
      cases h
      obtain ⟨z,rfl,_,hw⟩:=DataW.trod_int ht hd
      exact ⟨[.int k z],.one _ _ _ _ _ (.int _ _ _) rfl (.nil _),one (by rw [LTy];exact ⟨z,rfl,hw⟩)⟩
    · rename_i ht
      cases h
      obtain ⟨b,rfl,_⟩:=DataW.trod_bool ht hd
      exact ⟨[.bool b],.one _ _ _ _ _ (.bool _ _) rfl (.nil _),one (by rw [LTy];exact ⟨b,rfl⟩)⟩
    · rename_i ht
      cases h
      obtain ⟨s,rfl,_,hw⟩:=DataW.trod_string ht hd
      exact ⟨[.str s],.one _ _ _ _ _ (.str _ _) rfl (.nil _),one (by rw [LTy];exact ⟨s,rfl,hw⟩)⟩
    · rename_i m e ht
      split at h<;>try (cases h;done)
      rename_i k he
      split at h<;>try (cases h;done)
      rename_i hc
      cases h
      obtain ⟨ys,fu,_,_,h3,h4,h5⟩:=DataW.trod_array ht hd
      rw [hc.1] at h5
      rw [hc.2] at h3
      have each : ∀i,i<m→∃z,cs[i]? = some (.int k z)∧(Lit.int k z).wf=true:=by
        intro i hi
        have h6:=h5 i hi
        rw [uL,zN (by omega)] at h6
        obtain ⟨z,h7,_,hw⟩:=DataW.trod_int he h6
        have h8:=congrArg (fun l:List Value=>l[0]?) h7
        simp only [yL,yZ] at h8
        exact ⟨z,by simpa using h8,hw⟩
      have hcs:cs=(cs.map fun v=>match v with | .int _ z=>z | _=>0).map (Value.int k):=by
        apply wJ
        intro i
        by_cases hi:i<m
        · obtain ⟨z,hz,_⟩:=each i hi
          rw [yG,yG,hz];rfl
        · rw [zL (by omega),zL (by simp;omega)]
      refine ⟨[.arr k m (cs.map fun v=>match v with | .int _ z=>z | _=>0)],?_,one (by
        rw [LTy]
        refine ⟨_,rfl,by simpa using h3,fun y hy=>?_⟩
        obtain ⟨v,hv,rfl⟩:=List.mem_map.1 hy
        obtain ⟨i,hi,e⟩:=List.getElem_of_mem hv
        obtain ⟨z,hz,hw⟩:=each i (by omega)
        rw [zN hi,e] at hz
        cases hz
        exact hw)⟩
      have:=CR.arr (g:=ZiX w) (w:=w) none k m (cs.map fun v=>match v with | .int _ z=>z | _=>0) [] [] (by simpa using h3) (.nil _)
      rwa [xZ,←hcs] at this
    · rename_i e ht
      split at h<;>try (cases h;done)
      rename_i hpos
      obtain ⟨ts,h1,h2⟩:=zD.1 h
      subst h2
      rcases DataW.trod_slice ht hd with ⟨rfl,_⟩ | ⟨a,len,cap,elems,rest,fu,_,rfl,_,hb,hl,hm,hlen,hel,hsp,_⟩
      · exact ⟨[.sl (P.cellsOf e) []],.one _ _ _ _ _ (.slnil _ _) rfl (.nil _),one (by rw [LTy];exact ⟨[],rfl,yU _,fun x h=>by cases h⟩)⟩
      · have el : ∀i,i<len→∃vs y,w.cells? 0 (a.add (i*P.cellsOf e)) (P.cellsOf e)=some vs∧DataW.trod enc P w 0 (fun _=>true) held fu e vs=some y:=fun i hi=>by
          have:=hel i hi
          rw [zN (by omega)] at this
          obtain ⟨vs,h3,h4⟩:=zU.1 this
          exact ⟨vs,_,h3,h4⟩
        have hlong:len≤maxLen:=by omega
        by_cases hc0:cap=0
        · subst hc0
          obtain rfl:len=0:=by omega
          exact ⟨[.sl (P.cellsOf e) []],.one _ _ _ _ _ (.slz _ _ _) rfl (.nil _),one (by rw [LTy];exact ⟨[],rfl,yU _,fun x h=>by cases h⟩)⟩
        · have first : ∃vs,w.cells? 0 (a.add (0*P.cellsOf e)) (P.cellsOf e)=some vs:=by
            by_cases hl0:0<len
            · obtain ⟨vs,_,h3,_⟩:=el 0 hl0
              exact ⟨vs,h3⟩
            · obtain ⟨k1,k2⟩:=hsp rfl
              have:=k2 0 (by omega)
              rw [zN (by omega),show len+0=0 by omega] at this
              obtain ⟨vs,h3,_⟩:=zU.1 this
              exact ⟨vs,h3⟩
          obtain ⟨vs0,hv0⟩:=first
          obtain ⟨_,c1,c2⟩:=World.cells?_some hv0
          have c3:=c2 0 hpos
          rw [zN (by omega)] at c3
          obtain ⟨b,off,spot⟩:=a
          have hspot:spot=none:=by
            have:=World.cell?_spot c3
            simpa [Addr.add] using this
          subst hspot
          have cel : ∀i,i<len→∃vs y,vs.length=P.cellsOf e∧(∀j v,vs[j]? = some v→w.cell? (ad b (off+i*P.cellsOf e+j))=some v)∧DataW.trod enc P w 0 (fun _=>true) held fu e vs=some y:=fun i hi=>by
            obtain ⟨vs,y,h3,h4⟩:=el i hi
            obtain ⟨_,d1,d2⟩:=World.cells?_some h3
            refine ⟨vs,y,d1,fun j v hj=>?_,h4⟩
            have:=d2 j (by have:=Zpw hj;omega)
            rw [add_plain,add_plain,hj] at this
            exact this
          obtain ⟨xs,q1,q2,q3⟩:=ER_of (g:=ZiX w) (w:=w) (b:=b) (sz:=P.cellsOf e) (Q:=Zfw ts) len off (fun i hi=>by
            obtain ⟨vs,y,d1,d2,d3⟩:=cel i hi
            obtain ⟨ls,d4,d5⟩:=Zit n e ts fu vs y h1 d3
            exact ⟨vs,ls,d1,d2,d4,d5⟩)
          have hZ:off+len*P.cellsOf e≤(ZiX w).Z b:=by
            by_cases hl0:0<len
            · obtain ⟨vs,y,d1,d2,_⟩:=cel (len-1) (by omega)
              have:=ZiW (d2 (P.cellsOf e-1) _ (zN (by omega)))
              have e1:len*P.cellsOf e=(len-1)*P.cellsOf e+P.cellsOf e:=by
                conv=>lhs;rw [show len=len-1+1 by omega,xE,Nat.one_mul]
              omega
            · obtain rfl:len=0:=by omega
              rw [add_plain,add_plain,sY] at c3
              have:=ZiW c3
              omega
          refine ⟨[.sl (P.cellsOf e) xs],.one _ _ _ _ _ (.sl _ b off len cap _ xs q1 hl hZ q2) rfl (.nil _),one (by rw [LTy];exact ⟨xs,rfl,by omega,q3⟩)⟩
    · rename_i fs ht
      split at h<;>try (cases h;done)
      rename_i hc
      obtain ⟨tyss,h1,rfl⟩:=zD.1 h
      obtain ⟨xs,fu,_,_,hlen,hxl,hf⟩:=DataW.trod_struct ht hd
      rw [←hlen] at hc
      have:=ZjH (enc:=enc) (held:=held) (cs:=cs) (fuel:=fu) (Zit n) fs.toList 0 tyss hc (yU _) h1 (fun f hfm=>by
        obtain ⟨i,hi,e⟩:=List.getElem_of_mem hfm
        have hi':i<fs.size:=by simpa using hi
        have hfi:fs[i]? = some f:=by rw [vQ hi',←e];simp
        have:=hf i f hfi
        rw [zN (by omega)] at this
        exact ⟨_,this⟩)
      simpa using this
    · cases h
theorem Znk {r:Reach} {b0:Nat} {t e:TypeId} {v:Value} {d:DataW H} {p:List MemPlace} (i:Nat) (n:Nat) {ts:List Ty} (ht:P.underlying t=some (.slice e)) (hl:lay P n e=some ts) (hpos:0<P.cellsOf e)
    (hval:Value.okWide P w r b0 t v) (h:DataW.Trod enc P w 0 (fun _=>true) held t v d p) :
    ∃xs,CVR (ZiX w) w i v (.one (.sl (P.cellsOf e) xs))∧(∀x∈xs,Zfw ts x)∧xs.length≤maxLen:=by
  obtain ⟨fuel,hf⟩:=h
  have hv : ∃q n c,v = .slice q n c:=by
    simp only [Value.okWide,ht,Cell.okWide,Cell.ok] at hval
    split at hval<;>simp_all
  obtain ⟨q,m,c,rfl⟩:=hv
  obtain ⟨ls,h1,h2⟩:=Zit (n+1) t [.sl (P.cellsOf e) ts] fuel _ _ (by simp only [lay,ht,hpos,if_true,hl,yJ]) hf
  rw [Zfw] at h2
  obtain ⟨l,r',rfl,h3,h4⟩:=h2
  rw [Zfw] at h4;subst h4
  rw [LTy] at h3
  obtain ⟨xs,rfl,h5,h6⟩:=h3
  have h1':CR (ZiX w) w none [.slice q m c] [.sl (P.cellsOf e) xs]:=h1
  generalize hvs : [Value.slice q m c]=vs at h1'
  cases h1' with
  | one _ _ _ _ _ hv h1 hr=>cases hvs;exact ⟨xs,⟨rfl,hv⟩,h6,h5⟩
theorem Zob {r:Reach} {b0:Nat} {t:TypeId} {fs:Array Field} {v:Value} {d:DataW H} {p:List MemPlace} (i:Nat) (n:Nat) {tys:List Ty} (ht:P.underlying t=some (.struct fs)) (hl:lay P n t=some tys)
    (hval:Value.okWide P w r b0 t v) (h:DataW.Trod enc P w 0 (fun _=>true) held t v d p) :
    ∃ls,CVR (ZiX w) w i v (.agg ls)∧Zfw tys ls:=by
  obtain ⟨fuel,hf⟩:=h
  have hv : ∃cs,v = .agg cs:=by
    simp only [Value.okWide,ht] at hval
    obtain ⟨cs,h,_⟩:=hval
    exact ⟨cs,h⟩
  obtain ⟨cs,rfl⟩:=hv
  obtain ⟨ls,h1,h2⟩:=Zit n t tys fuel _ _ hl hf
  exact ⟨ls,⟨cs,rfl,h1⟩,h2⟩
theorem Zfw.cons_inv {t:Ty} {ts:List Ty} {ls:List L} (h:Zfw (t::ts) ls) : ∃l r,ls=l::r∧LTy t l∧Zfw ts r:=by rwa [Zfw] at h
theorem Zfw.nil_inv {ls:List L} (h:Zfw [] ls):ls = []:=by rwa [Zfw] at h
theorem LTy.int_inv {k:IntKind} {l:L} (h:LTy (.int k) l) : ∃n,l = .int k n∧(Lit.int k n).wf=true:=by rwa [LTy] at h
theorem LTy.bool_inv {l:L} (h:LTy .bool l) : ∃b,l = .bool b:=by rwa [LTy] at h
theorem LTy.arr_inv {k:IntKind} {n:Nat} {l:L} (h:LTy (.arr k n) l) : ∃xs,l = .arr k n xs∧xs.length=n∧∀x∈xs,(Lit.int k x).wf=true:=by rwa [LTy] at h
theorem LTy.sl_inv {sz:Nat} {ts:List Ty} {l:L} (h:LTy (.sl sz ts) l) : ∃xs,l = .sl sz xs∧xs.length≤maxLen∧∀x∈xs,Zfw ts x:=by rwa [LTy] at h
end
theorem ZlS {α:Type} {e:α→List L} {good:α→Prop} : ∀{xs:List (List L)},(∀x∈xs,∃a,x=e a∧good a)→∃bs:List α,xs=bs.map e∧∀a∈bs,good a
  | [],_=>⟨[],rfl,fun a h=>by cases h⟩
  | x::xs,h=>by
    obtain ⟨a,h1,h2⟩:=h x (by simp)
    obtain ⟨bs,h3,h4⟩:=ZlS fun y hy=>h y (List.mem_cons_of_mem _ hy)
    refine ⟨a::bs,by rw [h1,h3];rfl,fun b hb=>?_⟩
    rcases xC.1 hb with rfl | hb
    · exact h2
    · exact h4 b hb
theorem ZmD {k:IntKind} {xs:List (List L)} (h : ∀x∈xs,Zfw [.int k] x) : ∃bs:List Int,xs=bs.map (fun n=>[zJ k n])∧∀n∈bs,(Lit.int k n).wf=true:=
  ZlS fun x hx=>by
    obtain ⟨l,r,rfl,h1,h2⟩:=(h x hx).cons_inv
    cases h2.nil_inv
    obtain ⟨n,rfl,hw⟩:=h1.int_inv
    exact ⟨n,rfl,hw⟩
end Go.Dn
