import Derived.Test.YthiibbfaabjpgaaGreatDoorKc
import Derived.OpenShut
import Derived.Carry
import Derived.SizedLaws
import Derived.LaidLaws
import Derived.LaidHandle
import Derived.FnData
set_option linter.all false
open List renaming getElem?_eq_getElem->zQ,getElem?_map->yR,getElem?_eq_none->zM,getElem?_eq_some_iff->zZ
open Nat renaming not_lt_zero->qR
open Option renaming bind_eq_some_iff->yD,map_eq_some_iff->zI
namespace Go.Dn
open Go.ChangeShapes Go.WideShapes Go.RowKit
def Zmz (w:World):G:=
  { ob:=fun _=>0,nob:=0,sb:=fun _=>0,hd:=fun _=>.slice none 0 0,ow:=fun _=>none
    Z:=fun b=>match w.heap[b]? with | some (.cells a _ _)=>a.size | _=>0}
def Zmy {w:World} {b o:Nat} {v:Value} (h:w.cell? (ad b o)=some v):o<(Zmz w).Z b:=by
  simp only [World.cell?] at h;simp only [Zmz];cases hb:w.heap[b]? with
  | none=>rw [hb] at h;simp at h
  | some x=>
    rw [hb] at h;cases x with
    | cells a E lo=>simp only at h;exact (Array.getElem?_eq_some_iff.1 h).1
    | _=>simp at h
section
variable [Globs]
def lawG_sat {w:World} (hg:GlR (Zmz w) w):ZdK (Zmz w) (.ofSt []) w:=
  ⟨rfl,fun i c h=>by simp [S.ofSt] at h,fun i h=>absurd h (qR i),fun n e h=>by simp [S.ofSt] at h,(fun b t h=>by cases h),
   fun b hb=>by simp [Zmz,Array.getElem?_eq_none hb],hg⟩
def law {P:Program} {f:FuncId} {args rs:List CV} {st':List (List L)} {w:World} {vs:List Value} (h:Snd P f args [] rs st') (hg:GlR (Zmz w) w) (hv:Zgg (Zmz w) w 0 vs args) :
    Calls P f vs.toArray w fun e w'=>(∃us g',e = .returned (ZqC us)/\Zgg g' w' 0 us rs)/\Below w.heap.size w w':=
  (h.2 (Zmz w) w vs hv (lawG_sat hg)).mono fun e w' ⟨g',us,he,hM,_,hu⟩=>
    ⟨⟨us,g',he,hu⟩,hM.os,hM.tape,hM.output,hM.size,fun k hk=>by
      rcases hM.same k hk with h | h
      · exact h.1
      exact absurd rfl h.1⟩
def law_true {P:Program} {f:FuncId} {args:List CV} {st':List (List L)} {w:World} {vs:List Value} (h:Snd P f args [] [.one (.bool true)] st') (hg:GlR (Zmz w) w) (hv:Zgg (Zmz w) w 0 vs args) :
    Calls P f vs.toArray w fun e w'=>e = .returned (.bool true)/\Below w.heap.size w w':=
  (law h hg hv).mono fun e w' ⟨⟨us,g',he,v,r,hu,h1,h2⟩,hb⟩=>by
    subst hu;cases h2;cases h1.2;exact ⟨he,hb⟩
def law_nil {g:G} {w:World} {i:Nat}:Zgg g w i [] []:=rfl
def ZrY {g:G} {w:World} {i:Nat} {v:Value} {vs:List Value} {c:CV} {cs:List CV} (h:CVR g w i v c) (hs:Zgg g w (i+1) vs cs):Zgg g w i (v::vs) (c::cs):=⟨v,vs,rfl,h,hs⟩
def Zvh {P:Program} {w:World} {base:Nat} {sp:Nat->Bool} {held:Bool} {H:Type} {enc:TypeId×Value->H} {fuel t e n:Nat} {k:IntKind} {cs:List Value} {xs:List Int} {p:List MemPlace}
    (hu:P.underlying t=some (.array n e)) (he:P.underlying e=some (.int k)) (hc:P.cellsOf e=1) (hct:P.cellsOf t=n)
    (h:DataW.trod enc P w base sp held fuel t cs=some (.agg (xs.map fun x=>.lit (.int k x)),p)):cs=xs.map (Value.int k)/\xs.length=n:=by
  obtain ⟨ys,m,_,h1,h2,h3,h4⟩:=DataW.trod_array hu h;simp only [Prod.mk.injEq,DataW.agg.injEq] at h1;have hl:xs.length=n:=by
    have:=congrArg List.length h1.1;simp at this;omega
  refine ⟨?_,hl⟩;apply List.ext_getElem?;intro i;rw [hc] at h4;by_cases hi:i<n
  · have h5:=h4 i hi
    rw [Nat.mul_one,zQ aF] at h5;obtain ⟨z,h6,h7,_⟩:=DataW.trod_int he h5;have h8:(ys.map (·.1))[i]? = some (.lit (.int k z)):=by
      rw [yR,zQ aF,h7];rfl
    rw [<-h1.1,yR] at h8;have h9:xs[i]? = some z:=by
      rw [zQ aF] at h8 |-;simp only [Option.map_some,Option.some.injEq,DataW.lit.injEq,Lit.int.injEq,true_and] at h8;rw [h8]
    rw [yR,h9];have h10:=congrArg (fun l:List Value=>l[0]?) h6;simp only [List.getElem?_take,List.getElem?_drop] at h10;simpa using h10
  rw [zM aF,zM aH]
def ZpZ {P:Program} {w:World} {name:String} {d:DataW Unit} {r:List (String×DataW Unit)} {ps:List MemPlace} (h:DataW.LaidVars P w ((name,d)::r) ps) {g t e n:Nat} {k:IntKind} (xs:List Int)
    (hg:P.globalNamed name=some g) (ht:(P.globals[g]?).map (·.type)=some t) (hu:P.underlying t=some (.array n e)) (he:P.underlying e=some (.int k)) (hc:P.cellsOf e=1) (hct:P.cellsOf t=n)
    (hd:d = .agg (xs.map fun x=>.lit (.int k x))) (h0:0<n):(∃sz,ER (Zmz w) w g 0 sz [[.arr k n xs]]/\sz<=(Zmz w).Z g)/\∃q,DataW.LaidVars P w r q:=by
  obtain ⟨g',t',cs,fuel,p,q,h1,h2,h3,h4,h5,_⟩:=h;obtain rfl:=Option.some.inj (h1.symm.trans hg);obtain rfl:=Option.some.inj (h2.symm.trans ht);subst hd;obtain ⟨hcs,hl⟩:=Zvh hu he hc hct h4;have hcell : ∀j v,(xs.map (Value.int k))[j]? = some v->w.cell? (ad g' (0+j))=some v:=fun j v hj=>by
    have:=World.var?_cell hg h3 j;rw [Nat.zero_add,show ad g' j=⟨g',j,none⟩ from rfl,this,<-Array.getElem?_toList,hcs,hj]
  refine ⟨⟨n,.cons g' 0 n (xs.map (Value.int k)) [.arr k n xs] [] (by simp [hl]) hcell ?_ (.nil _ _ _),?_⟩,q,h5⟩
  · have:=CR.arr (g:=Zmz w) (w:=w) none k n xs [] [] hl (.nil _)
    simpa using this
  have:(xs.map (Value.int k))[n-1]? = some (Value.int k (xs.getD (n-1) 0)):=by
    rw [yR,zQ aF];simp [List.getD,zQ (aF:n-1<xs.length)]
  have:=Zmy (hcell _ _ this);omega
end
end Go.Dn
namespace Go.Dn
def Zag {α:Type} {p:Prop} [Decidable p] {A:Option α} (h:p):chk p A=A:=aD h
@[simp] def Zaa {α β:Type} (x:β) (f:β->Option α):Zbb (some x) f=f x:=rfl
@[simp] def optM_hit {α:Type} (j:Nat) (v:L) (f:Nat->L->Option α) (g:Option α):optM (some (some (j,v))) f g=f j v:=rfl
@[simp] def optM_miss {α:Type} (f:Nat->L->Option α) (g:Option α):optM (some none) f g=g:=rfl
def Zaz {α ρ:Type} (body:(α->Option ρ)->α->Option ρ) (k:Nat) (x:α):loopN body (k+1) x=body (loopN body k) x:=rfl
@[simp] def Zef (l:List Int):(Zec l).length=l.length:=by simp [Zec]
def ZpD (n:Nat) (l:List Int):(Zec l).take n=Zec (l.take n):=by simp [Zec]
def Zig (l m:List Int):Zec l++Zec m=Zec (l++m):=by simp [Zec]
def ZlD (n:Int) : [[L.int .i64 n]]=Zec [n]:=rfl
def Zif {l:List Int} {i:Nat} (h:i<l.length):(Zec l)[i]? = some [L.int .i64 l[i]]:=by simp [Zec,h]
def ZjA {zs:List Int} {j:Nat} {x:Int} (h:zs[j]? = some x):(Zec zs)[Int.toNat (j:Int)]? = some [L.int .i64 x]:=by
  rw [Int.toNat_natCast];simp [Zec,h]
def ZnA (l:List Int):Zes (Zec l)=true:=by simp [Zes,Zec,L.plain]
def Ztv {α:Type} {l:List α} {i:Nat} {x:α} (h:l[i]? = some x):l.set i x=l:=by
  obtain ⟨hi,rfl⟩:=zZ.1 h;exact List.set_getElem_self hi
def Zsc {α:Type} {l:List α} {i:Nat} {x:α} (h:l[i]? = some x):i<l.length:=(zZ.1 h).1
def fi:List (Int×Int)->Int->Option (Nat×Int)
  | [],_=>none
  | (k,v)::es,x=>if x=k then some (0,v) else (fi es x).map fun r=>(r.1+1,r.2)
def sm (es:List (Int×Int)) (x:Int):Int:=((fi es x).map (·.2)).getD 0
end Go.Dn
namespace Go.Dn.F
def ZfO {α ρ:Type} {body:(α->Option ρ)->α->Option ρ} {Q:ρ->Prop} (I:Nat->α->Prop)
    (step : ∀(G:α->Option ρ) m x,I m x->(∀m' y,m'<m->I m' y->∃r,G y=some r/\Q r)->∃r,body G x=some r/\Q r) :
    ∀k m x,I m x->m<k->∃r,loopN body k x=some r/\Q r
  | 0,_,_,_,h=>absurd h (qR _)
  | k+1,m,x,hI,h=>step (loopN body k) m x hI fun m' y hm hy=>ZfO I step k m' y hy aF
def Zck {α ρ:Type} {body:(α->Option ρ)->α->Option ρ} {o:Option ρ} (I:Nat->α->Prop)
    (step : ∀(G:α->Option ρ) m x,I m x->(∀m' y,m'<m->I m' y->G y=o)->body G x=o) :
    ∀k m x,I m x->m<k->loopN body k x=o
  | 0,_,_,_,h=>absurd h (qR _)
  | k+1,m,x,hI,h=>step (loopN body k) m x hI fun m' y hm hy=>Zck I step k m' y hy aF
end Go.Dn.F
namespace Go.Dn
variable [Globs]
open Go.ChangeShapes Go.WideShapes Go.RowKit
inductive Ty where
  | int (k:IntKind)
  | bool
  | str
  | arr (k:IntKind) (n:Nat)
  | sl (sz:Nat) (ts:List Ty)
mutual
def LTy:Ty->L->Prop
  | .int k,l=>∃n,l = .int k n/\(Lit.int k n).wf=true
  | .bool,l=>∃b,l = .bool b
  | .str,l=>∃s,l = .str s/\s.size<=maxLen
  | .arr k n,l=>∃xs,l = .arr k n xs/\xs.length=n/\∀x∈xs,(Lit.int k x).wf=true
  | .sl sz ts,l=>∃xs,l = .sl sz xs/\xs.length<=maxLen/\∀x∈xs,Ziq ts x
def Ziq:List Ty->List L->Prop
  | [],ls=>ls = []
  | t::ts,ls=>∃l r,ls=l::r/\LTy t l/\Ziq ts r
end
def Ziq.append : ∀{ts us:List Ty} {ls ms:List L},Ziq ts ls->Ziq us ms->Ziq (ts++us) (ls++ms)
  | [],us,ls,ms,h,k=>by rw [Ziq] at h;subst h;exact k
  | t::ts,us,ls,ms,h,k=>by
    rw [Ziq] at h;obtain ⟨l,r,rfl,h1,h2⟩:=h;rw [List.cons_append,Ziq];exact ⟨l,r++ms,rfl,h1,Ziq.append h2 k⟩
def Zlt (P:Program):Nat->List Field->Nat->Bool
  | off,[],tot=>off==tot
  | off,f::fs,tot=>f.offset==off&&Zlt P (off+P.cellsOf f.type) fs tot
def lay (P:Program):Nat->TypeId->Option (List Ty)
  | 0,_=>none
  | n+1,t=>match P.underlying t with
    | some (.int k)=>some [.int k]
    | some .bool=>some [.bool]
    | some .string=>some [.str]
    | some (.array m e)=>match P.underlying e with
      | some (.int k)=>if P.cellsOf e=1/\P.cellsOf t=m then some [.arr k m] else none
      | _=>none
    | some (.slice e)=>if 0<P.cellsOf e then (lay P n e).map fun ts=>[.sl (P.cellsOf e) ts] else none
    | some (.struct fs)=>if Zlt P 0 fs.toList (P.cellsOf t) then (fs.toList.mapM fun f=>lay P n f.type).map List.flatten else none
    | _=>none
def ER_of {g:G} {w:World} {b sz:Nat} {Q:List L->Prop} : ∀(m off:Nat),(∀i,i<m->∃vs x,vs.length=sz/\(∀j v,vs[j]? = some v->w.cell? (ad b (off+i*sz+j))=some v)/\CR g w none vs x/\Q x) ->
    ∃xs,xs.length=m/\ER g w b off sz xs/\∀x∈xs,Q x
  | 0,off,_=>⟨[],rfl,.nil _ _ _,fun x h=>by cases h⟩
  | m+1,off,h=>by
    obtain ⟨vs,x,h1,h2,h3,h4⟩:=h 0 aF;obtain ⟨xs,k1,k2,k3⟩:=ER_of m (off+sz) fun i hi=>by
      obtain ⟨vs,x,h1,h2,h3,h4⟩:=h (i+1) aF;refine ⟨vs,x,h1,fun j v hj=>?_,h3,h4⟩;have:=h2 j v hj;rwa [Nat.add_mul,Nat.one_mul,(aF:off+(i*sz+sz)+j=off+sz+i*sz+j)] at this
    refine ⟨x::xs,by simp [k1],.cons b off sz vs x xs h1 (fun j v hj=>?_) h3 k2,fun y hy=>?_⟩
    · have:=h2 j v hj
      rwa [Nat.zero_mul,Nat.add_zero] at this
    rcases List.mem_cons.1 hy with rfl | hy
    · exact h4
    exact k3 y hy
section
variable {H:Type} {enc:TypeId×Value->H} {P:Program} {w:World} {held:Bool}
def Znr {n:Nat} {cs:List Value} (ih : ∀(t:TypeId) (tys:List Ty) (fuel:Nat) (cs:List Value) (x:DataW H×List MemPlace),lay P n t=some tys->DataW.trod enc P w 0 (fun _=>true) held fuel t cs=some x->∃ls,CR (Zmz w) w none cs ls/\Ziq tys ls)
    {fuel:Nat} : ∀(fs:List Field) (off:Nat) (tyss:List (List Ty)),Zlt P off fs cs.length=true->off<=cs.length->fs.mapM (fun f=>lay P n f.type)=some tyss ->
    (∀f∈fs,∃x,DataW.trod enc P w 0 (fun _=>true) held fuel f.type ((cs.drop f.offset).take (P.cellsOf f.type))=some x)->∃ls,CR (Zmz w) w none (cs.drop off) ls/\Ziq tyss.flatten ls
  | [],off,tyss,hc,ho,hm,_=>by
    simp only [Zlt,beq_iff_eq] at hc;simp only [List.mapM_nil] at hm;cases hm;refine ⟨[],?_,by rw [List.flatten_nil,Ziq]⟩;rw [List.drop_eq_nil_of_le aF];exact .nil _
  | f::fs,off,tyss,hc,ho,hm,hx=>by
    simp only [Zlt,Bool.and_eq_true,beq_iff_eq] at hc;obtain ⟨hc1,hc2⟩:=hc;rw [List.mapM_cons] at hm;obtain ⟨ty,h1,hm⟩:=yD.1 hm;obtain ⟨tys,h2,hm⟩:=yD.1 hm;cases hm;obtain ⟨x,hx1⟩:=hx f aG;obtain ⟨ls,k1,k2⟩:=ih f.type ty fuel _ x h1 hx1;have hle:off+P.cellsOf f.type<=cs.length:=by
      clear hx h2 ih;have : ∀(fs:List Field) (o:Nat),Zlt P o fs cs.length=true->o<=cs.length:=by
        intro fs
        induction fs with
        | nil=>intro o h;simp only [Zlt,beq_iff_eq] at h;omega
        | cons f fs ihf=>intro o h;simp only [Zlt,Bool.and_eq_true,beq_iff_eq] at h;have:=ihf _ h.2;omega
      exact this _ _ hc2
    obtain ⟨ms,k3,k4⟩:=Znr ih fs (off+P.cellsOf f.type) tys hc2 hle h2 (fun f' hf'=>hx f' (List.mem_cons_of_mem _ hf'));refine ⟨ls++ms,?_,by rw [List.flatten_cons];exact k2.append k4⟩;rw [hc1] at k1;have:=CR.append k1 (vs:=cs.drop (off+P.cellsOf f.type)) (ys:=ms) k3;rwa [<-List.drop_drop,List.take_append_drop] at this
def ZlG : ∀(n:Nat) (t:TypeId) (tys:List Ty) (fuel:Nat) (cs:List Value) (x:DataW H×List MemPlace),lay P n t=some tys->DataW.trod enc P w 0 (fun _=>true) held fuel t cs=some x->∃ls,CR (Zmz w) w none cs ls/\Ziq tys ls
  | 0,_,_,_,_,_,h,_=>by simp [lay] at h
  | n+1,t,tys,fuel,cs,x,h,hd=>by
    have one : ∀{ty:Ty} {l:L},LTy ty l->Ziq [ty] [l]:=fun {ty l} h=>by rw [Ziq];exact ⟨l,[],rfl,h,by rw [Ziq]⟩
    simp only [lay] at h;split at h
    · rename_i k ht
      cases h;obtain ⟨z,rfl,_,hw⟩:=DataW.trod_int ht hd;exact ⟨[.int k z],.one _ _ _ _ _ (.int _ _ _) rfl (.nil _),one (by rw [LTy];exact ⟨z,rfl,hw⟩)⟩
    · rename_i ht
      cases h;obtain ⟨b,rfl,_⟩:=DataW.trod_bool ht hd;exact ⟨[.bool b],.one _ _ _ _ _ (.bool _ _) rfl (.nil _),one (by rw [LTy];exact ⟨b,rfl⟩)⟩
    · rename_i ht
      cases h;obtain ⟨s,rfl,_,hw⟩:=DataW.trod_string ht hd;exact ⟨[.str s],.one _ _ _ _ _ (.str _ _) rfl (.nil _),one (by rw [LTy];exact ⟨s,rfl,hw⟩)⟩
    · rename_i m e ht
      split at h<;>try (cases h;done)
      rename_i k he;split at h<;>try (cases h;done)
      rename_i hc;cases h;obtain ⟨ys,fu,_,_,h3,h4,h5⟩:=DataW.trod_array ht hd;rw [hc.1] at h5;rw [hc.2] at h3;have each : ∀i,i<m->∃z,cs[i]? = some (.int k z)/\(Lit.int k z).wf=true:=by
        intro i hi;have h6:=h5 i hi;rw [Nat.mul_one,zQ aF] at h6;obtain ⟨z,h7,_,hw⟩:=DataW.trod_int he h6;have h8:=congrArg (fun l:List Value=>l[0]?) h7;simp only [List.getElem?_take,List.getElem?_drop] at h8;exact ⟨z,by simpa using h8,hw⟩
      have hcs:cs=(cs.map fun v=>match v with | .int _ z=>z | _=>0).map (Value.int k):=by
        apply List.ext_getElem?;intro i;by_cases hi:i<m
        · obtain ⟨z,hz,_⟩:=each i hi
          rw [yR,yR,hz];rfl
        rw [zM aF,zM aH]
      refine ⟨[.arr k m (cs.map fun v=>match v with | .int _ z=>z | _=>0)],?_,one (by
        rw [LTy];refine ⟨_,rfl,by simpa using h3,fun y hy=>?_⟩;obtain ⟨v,hv,rfl⟩:=List.mem_map.1 hy;obtain ⟨i,hi,e⟩:=List.getElem_of_mem hv;obtain ⟨z,hz,hw⟩:=each i aF;rw [zQ hi,e] at hz;cases hz;exact hw)⟩
      have:=CR.arr (g:=Zmz w) (w:=w) none k m (cs.map fun v=>match v with | .int _ z=>z | _=>0) [] [] (aR h3) (.nil _);rwa [List.append_nil,<-hcs] at this
    · rename_i e ht
      split at h<;>try (cases h;done)
      rename_i hpos;obtain ⟨ts,h1,h2⟩:=zI.1 h;subst h2;rcases DataW.trod_slice ht hd with ⟨rfl,_⟩ | ⟨a,len,cap,elems,rest,fu,_,rfl,_,hb,hl,hm,hlen,hel,hsp,_⟩
      · exact ⟨[.sl (P.cellsOf e) []],.one _ _ _ _ _ (.slnil _ _) rfl (.nil _),one (by rw [LTy];exact ⟨[],rfl,Nat.zero_le _,fun x h=>by cases h⟩)⟩
      have el : ∀i,i<len->∃vs y,w.cells? 0 (a.add (i*P.cellsOf e)) (P.cellsOf e)=some vs/\DataW.trod enc P w 0 (fun _=>true) held fu e vs=some y:=fun i hi=>by
        have:=hel i hi;rw [zQ aF] at this;obtain ⟨vs,h3,h4⟩:=yD.1 this;exact ⟨vs,_,h3,h4⟩
      have hlong:len<=maxLen:=aF
      by_cases hc0:cap=0
      · subst hc0
        obtain rfl:len=0:=aF
        exact ⟨[.sl (P.cellsOf e) []],.one _ _ _ _ _ (.slz _ _ _) rfl (.nil _),one (by rw [LTy];exact ⟨[],rfl,Nat.zero_le _,fun x h=>by cases h⟩)⟩
      have first : ∃vs,w.cells? 0 (a.add (0*P.cellsOf e)) (P.cellsOf e)=some vs:=by
        by_cases hl0:0<len
        · obtain ⟨vs,_,h3,_⟩:=el 0 hl0
          exact ⟨vs,h3⟩
        obtain ⟨k1,k2⟩:=hsp rfl;have:=k2 0 aF;rw [zQ aF,(aF:len+0=0)] at this;obtain ⟨vs,h3,_⟩:=yD.1 this;exact ⟨vs,h3⟩
      obtain ⟨vs0,hv0⟩:=first
      obtain ⟨_,c1,c2⟩:=World.cells?_some hv0;have c3:=c2 0 hpos;rw [zQ aF] at c3;obtain ⟨b,off,spot⟩:=a;have hspot:spot=none:=by
        have:=World.cell?_spot c3;simpa [Addr.add] using this
      subst hspot;have cel : ∀i,i<len->∃vs y,vs.length=P.cellsOf e/\(∀j v,vs[j]? = some v->w.cell? (ad b (off+i*P.cellsOf e+j))=some v)/\DataW.trod enc P w 0 (fun _=>true) held fu e vs=some y:=fun i hi=>by
        obtain ⟨vs,y,h3,h4⟩:=el i hi;obtain ⟨_,d1,d2⟩:=World.cells?_some h3;refine ⟨vs,y,d1,fun j v hj=>?_,h4⟩;have:=d2 j (by have:=ZmE hj;omega);rw [add_plain,add_plain,hj] at this;exact this
      obtain ⟨xs,q1,q2,q3⟩:=ER_of (g:=Zmz w) (w:=w) (b:=b) (sz:=P.cellsOf e) (Q:=Ziq ts) len off (fun i hi=>by
        obtain ⟨vs,y,d1,d2,d3⟩:=cel i hi;obtain ⟨ls,d4,d5⟩:=ZlG n e ts fu vs y h1 d3;exact ⟨vs,ls,d1,d2,d4,d5⟩)
      have hZ:off+len*P.cellsOf e<=(Zmz w).Z b:=by
        by_cases hl0:0<len
        · obtain ⟨vs,y,d1,d2,_⟩:=cel (len-1) aF
          have:=Zmy (d2 (P.cellsOf e-1) _ (zQ aF));have e1:len*P.cellsOf e=(len-1)*P.cellsOf e+P.cellsOf e:=by
            conv=>lhs;rw [(aF:len=len-1+1),Nat.add_mul,Nat.one_mul]
          omega
        obtain rfl:len=0:=aF
        rw [add_plain,add_plain,Nat.zero_mul] at c3;have:=Zmy c3;omega
      refine ⟨[.sl (P.cellsOf e) xs],.one _ _ _ _ _ (.sl _ b off len cap _ xs q1 hl hZ q2) rfl (.nil _),one (by rw [LTy];exact ⟨xs,rfl,aF,q3⟩)⟩
    · rename_i fs ht
      split at h<;>try (cases h;done)
      rename_i hc;obtain ⟨tyss,h1,rfl⟩:=zI.1 h;obtain ⟨xs,fu,_,_,hlen,hxl,hf⟩:=DataW.trod_struct ht hd;rw [<-hlen] at hc;have:=Znr (enc:=enc) (held:=held) (cs:=cs) (fuel:=fu) (ZlG n) fs.toList 0 tyss hc (Nat.zero_le _) h1 (fun f hfm=>by
        obtain ⟨i,hi,e⟩:=List.getElem_of_mem hfm;have hi':i<fs.size:=by simpa using hi
        have hfi:fs[i]? = some f:=by rw [Array.getElem?_eq_getElem hi',<-e];simp
        have:=hf i f hfi;rw [zQ aF] at this;exact ⟨_,this⟩)
      simpa using this
    cases h
def law_rows {r:Reach} {b0:Nat} {t e:TypeId} {v:Value} {d:DataW H} {p:List MemPlace} (i:Nat) (n:Nat) {ts:List Ty} (ht:P.underlying t=some (.slice e)) (hl:lay P n e=some ts) (hpos:0<P.cellsOf e)
    (hval:Value.okWide P w r b0 t v) (h:DataW.Trod enc P w 0 (fun _=>true) held t v d p) :
    ∃xs,CVR (Zmz w) w i v (.one (.sl (P.cellsOf e) xs))/\(∀x∈xs,Ziq ts x)/\xs.length<=maxLen:=by
  obtain ⟨fuel,hf⟩:=h;have hv : ∃q n c,v = .slice q n c:=by
    simp only [Value.okWide,ht,Cell.okWide,Cell.ok] at hval;split at hval<;>simp_all
  obtain ⟨q,m,c,rfl⟩:=hv;obtain ⟨ls,h1,h2⟩:=ZlG (n+1) t [.sl (P.cellsOf e) ts] fuel _ _ (by simp only [lay,ht,hpos,if_true,hl,Option.map_some]) hf;rw [Ziq] at h2;obtain ⟨l,r',rfl,h3,h4⟩:=h2;rw [Ziq] at h4;subst h4;rw [LTy] at h3;obtain ⟨xs,rfl,h5,h6⟩:=h3;have h1':CR (Zmz w) w none [.slice q m c] [.sl (P.cellsOf e) xs]:=h1;generalize hvs : [Value.slice q m c]=vs at h1';cases h1' with
  | one _ _ _ _ _ hv h1 hr=>cases hvs;exact ⟨xs,⟨rfl,hv⟩,h6,h5⟩
def ZsT {r:Reach} {b0:Nat} {t:TypeId} {fs:Array Field} {v:Value} {d:DataW H} {p:List MemPlace} (i:Nat) (n:Nat) {tys:List Ty} (ht:P.underlying t=some (.struct fs)) (hl:lay P n t=some tys)
    (hval:Value.okWide P w r b0 t v) (h:DataW.Trod enc P w 0 (fun _=>true) held t v d p) :
    ∃ls,CVR (Zmz w) w i v (.agg ls)/\Ziq tys ls:=by
  obtain ⟨fuel,hf⟩:=h;have hv : ∃cs,v = .agg cs:=by
    simp only [Value.okWide,ht] at hval;obtain ⟨cs,h,_⟩:=hval;exact ⟨cs,h⟩
  obtain ⟨cs,rfl⟩:=hv;obtain ⟨ls,h1,h2⟩:=ZlG n t tys fuel _ _ hl hf;exact ⟨ls,⟨cs,rfl,h1⟩,h2⟩
def Ziq.cons_inv {t:Ty} {ts:List Ty} {ls:List L} (h:Ziq (t::ts) ls) : ∃l r,ls=l::r/\LTy t l/\Ziq ts r:=by rwa [Ziq] at h
def Ziq.nil_inv {ls:List L} (h:Ziq [] ls):ls = []:=by rwa [Ziq] at h
def LTy.int_inv {k:IntKind} {l:L} (h:LTy (.int k) l) : ∃n,l = .int k n/\(Lit.int k n).wf=true:=by rwa [LTy] at h
def LTy.bool_inv {l:L} (h:LTy .bool l) : ∃b,l = .bool b:=by rwa [LTy] at h
def LTy.arr_inv {k:IntKind} {n:Nat} {l:L} (h:LTy (.arr k n) l) : ∃xs,l = .arr k n xs/\xs.length=n/\∀x∈xs,(Lit.int k x).wf=true:=by rwa [LTy] at h
def LTy.sl_inv {sz:Nat} {ts:List Ty} {l:L} (h:LTy (.sl sz ts) l) : ∃xs,l = .sl sz xs/\xs.length<=maxLen/\∀x∈xs,Ziq ts x:=by rwa [LTy] at h
end
def Zsl {α:Type} {e:α->List L} {good:α->Prop} : ∀{xs:List (List L)},(∀x∈xs,∃a,x=e a/\good a)->∃bs:List α,xs=bs.map e/\∀a∈bs,good a
  | [],_=>⟨[],rfl,fun a h=>by cases h⟩
  | x::xs,h=>by
    obtain ⟨a,h1,h2⟩:=h x aG;obtain ⟨bs,h3,h4⟩:=Zsl fun y hy=>h y (List.mem_cons_of_mem _ hy);refine ⟨a::bs,by rw [h1,h3];rfl,fun b hb=>?_⟩;rcases List.mem_cons.1 hb with rfl | hb
    · exact h2
    exact h4 b hb
end Go.Dn
namespace Go.Dn
abbrev LL:=List (List L)
abbrev LM:=List (L×L)
abbrev w64 (n:Int):Int:=IntKind.wrap .i64 n
abbrev v64 (n:Int):Int:=IntKind.wrap .u64 n
abbrev v32 (n:Int):Int:=IntKind.wrap .u32 n
abbrev v8 (n:Int):Int:=IntKind.wrap .u8 n
abbrev len {α:Type} (l:List α):Int:=(l.length:Int)
def gs (l:List L) (i:Nat):List L:=l.set i .gone
variable [Globs]
def aI {p q:Prop} (a:p) (b:q):p/\q:=⟨a,b⟩
section
variable {P:Program} {f:FuncId} {g:G} {w:World} {rs:List CV} {st st':LL}
def LR.nil_sz {p:Option (Nat×Nat)} {v:Value} {a:Nat} (b:Nat) (h:LR g w p v (.sl a [])):LR g w p v (.sl b []):=by
  cases h with
  | slnil=>exact .slnil _ _
  | slz _ _ a=>exact .slz _ _ a
  | sl _ bl off len cap _ _ hl hc hZ he=>
    cases hl;exact .sl _ bl off 0 cap b [] rfl hc (aR hZ) (.nil _ _ _)
def Zgg.nl {a:Nat} (b:Nat) : ∀{cs:List CV} {i:Nat} {vs:List Value},Zgg g w i vs (cs ++ [.one (.sl a [])])->Zgg g w i vs (cs ++ [.one (.sl b [])])
  | [],i,vs,h=>by
    obtain ⟨v,rest,h1,h2,h3⟩:=h;exact ⟨v,rest,h1,⟨h2.1,h2.2.nil_sz b⟩,h3⟩
  | c::cs,i,vs,h=>by
    obtain ⟨v,rest,h1,h2,h3⟩:=h;exact ⟨v,rest,h1,h2,Zgg.nl b h3⟩
def Snd.nl {cs:List CV} {a:Nat} (h:Snd P f (cs ++ [.one (.sl a [])]) st rs st'):Snd P f (cs ++ [.one (.sl 0 [])]) st rs st':=⟨h.1,fun g w vs hv hm=>h.2 g w vs (hv.nl a) hm⟩
def ZdW.nl {cs:List CV} {a:Nat} (h:ZdW P f (cs ++ [.one (.sl a [])]) rs):ZdW P f (cs ++ [.one (.sl 0 [])]) rs:=fun st=>(h st).nl
end
section
variable {p q r s t u v w:Prop}
def aJ (a:p) (b:q) (c:r):p/\q/\r:=⟨a,b,c⟩
def aK (a:p) (b:q) (c:r) (d:s):p/\q/\r/\s:=⟨a,b,c,d⟩
def aL (a:p) (b:q) (c:r) (d:s) (e:t):p/\q/\r/\s/\t:=⟨a,b,c,d,e⟩
def aM (a:p) (b:q) (c:r) (d:s) (e:t) (f:u):p/\q/\r/\s/\t/\u:=⟨a,b,c,d,e,f⟩
def aN (a:p) (b:q) (c:r) (d:s) (e:t) (f:u) (g:v):p/\q/\r/\s/\t/\u/\v:=⟨a,b,c,d,e,f,g⟩
def aO (a:p) (b:q) (c:r) (d:s) (e:t) (f:u) (g:v) (h:w):p/\q/\r/\s/\t/\u/\v/\w:=⟨a,b,c,d,e,f,g,h⟩
end
abbrev sI (n:Int):TV:=.one (.l (L.int .i64 n))
abbrev sP (p:Option Nat):TV:=.one (.l (L.ptr p))
abbrev sV (n:Nat) (l:LL):TV:=.one (.l (L.sl n l))
abbrev sA (n:Nat):TV:=.one (.adr (.site n) 0)
abbrev oI (n:Int):CV:=.one (L.int .i64 n)
abbrev oB (b:Bool):CV:=.one (L.bool b)
def wF:D:={want:=false}
def yF:D:={yes:=false}
abbrev q1 (l:List CV):D:={rs:=l,m:=1}
abbrev q0 (l:List CV):D:={rs:=l,m:=10}
def eF:false=false:=rfl
def eT:true=true:=rfl
def oD {p:Prop} [Decidable p] (h:decide p=true):p:=of_decide_eq_true h
def leI (a b:Int) (h:decide (a<=b)=true:=by rfl):a<=b:=of_decide_eq_true h
def ltI (a b:Int) (h:decide (a<b)=true:=by rfl):a<b:=of_decide_eq_true h
def ix {q:Prop} (a b:Int) (c:q) (h:decide (0<=a)=true:=by rfl) (k:decide (a<b)=true:=by rfl):0<=a/\a<b/\q:=⟨of_decide_eq_true h,of_decide_eq_true k,c⟩
def leN (a b:Nat) (h:Nat.ble a b=true:=by rfl):a<=b:=Nat.le_of_ble_eq_true h
def neI (a:Int) (h:decide (a≠0)=true:=by rfl):a≠0:=of_decide_eq_true h
def eN (a:Nat):a=a:=rfl
def eB (a:Bool):a=a:=rfl
def z0:(0:Nat)=0:=rfl
def eO (a:List L):some a=some a:=rfl
section
variable {st:LL} {ls ks:List L}
def bN:BVs st [] []:=.nil
def bP {l:L} (r:BVs st ls ks) (h:l.plain=true:=by rfl):BVs st (l::ls) (l::ks):=.pl l ls ks h r
def bS {sz:Nat} {xs:LL} (r:BVs st ls ks):BVs st (.sl sz xs::ls) (.sl sz xs::ks):=.sl sz xs ls ks r
def bW {e:Bool} {sz:Nat} {xs:LL} (r:BVs st ls ks):BVs st (.own e sz xs::ls) (.sl sz xs::ks):=.own e sz xs ls ks r
def bM {es:LM} (r:BVs st ls ks):BVs st (.mp es::ls) (.mz es::ks):=.mp es ls ks r
def bC {i:Nat} (n:Nat) {c cs:List L} (h:st[i]? = some c) (hc:BVs st c cs) (r:BVs st ls ks) (hn:sizes cs=n:=by kernel_rfl) (hne:c.isEmpty=false:=by kernel_rfl):BVs st (.ptr (some i)::ls) (.bx n cs::ks):=.obj i n c cs ls ks h hc hn hne r
def bO {i:Nat} (n:Nat) {c cs:List L} (h:st[i]? = some c) (hc:BVs st c cs) (hn:sizes cs=n:=by kernel_rfl) (hne:c.isEmpty=false:=by kernel_rfl):BVs st [.ptr (some i)] [.bx n cs]:=.obj i n c cs [] [] h hc hn hne .nil
end
section
variable {P:Program} {g0:G} {w0:World} {R:Exit->Act->World->Prop} {ks ks':List K} {s s':S} {A:Prop}
abbrev XK (P:Program) (R:Exit->Act->World->Prop) (ks:List K):Act->World->Prop:=exK P R ks .normal
class FaS (P:Program):Prop where
  h:P.follows .mixedOrders=true
def aU:Nat->List TV->List Nat
  | _,[]=>[]
  | i,.u::r=>aU (i+1) r
  | i,_::r=>i::aU (i+1) r
def aV:Nat->List (Option Ent)->List Nat
  | _,[]=>[]
  | i,none::r=>aV (i+1) r
  | i,some _::r=>i::aV (i+1) r
def aq [FaS P] (ds:List PS) (a:A) (hk:At g0 w0 s' (exK P R ks' .normal))
    (h:((ks',s')=(ks',s')/\(A->A))=Zrr (goQ (Zel P) 400 ks s ds (aU 0 s'.sl) (aV 0 s'.si)) ks' s' A:=by kernel_rfl):At g0 w0 s (exK P R ks .normal):=At.q FaS.h 400 ds _ _ a hk h
def aqd [FaS P] (ds:List PS) (a:A) (hk:At g0 w0 s' (exK P R ks' .normal))
    (h:((ks',s')=(ks',s')/\(A->A))=Zrr (goQd (Zel P) 400 ks s ds (aU 0 s'.sl) (aV 0 s'.si)) ks' s' A:=by kernel_rfl) (hc:Zkt true (goS (Zel P) 400 ks .n s ds)=Zkt false (goS (Zel P) 400 ks .n s ds):=by kernel_rfl):At g0 w0 s (exK P R ks .normal):=At.qd FaS.h 400 ds _ _ a hk h hc
def an {J:Act->World->Prop} [FaS P] (ds:List PS) (a:A) (hk:At g0 w0 s' J)
    (h:((some (K.h J),s')=(some (K.h J),s')/\(A->A))=Zrs (goQ (Zel P) 400 ks s ds (aU 0 s'.sl) (aV 0 s'.si)) (.h J) s' A:=by kernel_rfl):At g0 w0 s (exK P R ks .normal):=At.n FaS.h 400 ds _ _ a hk h
def Zlu {J:Act->World->Prop} (hfol:P.follows .mixedOrders=true) (ds:List PS) (live sites:List Nat) (a:A) (hk:At g0 w0 s' J)
    (h:((some (K.h J),s')=(some (K.h J),s')/\(A->A))=Zrs (goQd (Zel P) 400 ks s ds live sites) (.h J) s' A:=by kernel_rfl) (hc:Zkt true (goS (Zel P) 400 ks .n s ds)=Zkt false (goS (Zel P) 400 ks .n s ds):=by kernel_rfl):At g0 w0 s (exK P R ks .normal):=At.nd hfol 400 ds live sites a hk h hc
def af {fn:Func} {rs:List CV} {st':List (List L)} [FaS P] (hE:Znp P fn g0 w0 rs st' R) (ds:List PS) (oc:List L) (md:Nat) (own:List Nat) (a:A)
    (h:((rs,st')=(rs,st')/\(A->A))=Zjh (finQ P fn (Zel P) 400 ks s ds oc md own) rs st' A:=by kernel_rfl):At g0 w0 s (exK P R ks .normal):=At.f FaS.h hE 400 ds oc md own a h
def afd {fn:Func} {rs:List CV} {st':List (List L)} [FaS P] (hE:Znp P fn g0 w0 rs st' R) (ds:List PS) (oc:List L) (md:Nat) (own:List Nat) (a:A)
    (h:((rs,st')=(rs,st')/\(A->A))=Zjh (ZoL P fn (Zel P) 400 ks s ds oc md own) rs st' A:=by kernel_rfl) (hc:Zkt true (goS (Zel P) 400 ks .n s ds)=Zkt false (goS (Zel P) 400 ks .n s ds):=by kernel_rfl):At g0 w0 s (exK P R ks .normal):=At.fd FaS.h hE 400 ds oc md own a h hc
def sO {f:FuncId} {fn:Func} (c:Code) {args:List CV} {st:List (List L)} {rs:List CV} {st':List (List L)} (hf:P.funcs[f]? = some fn)
    (h : ∀(g:G) (w:World) (R:Exit->Act->World->Prop),Znp P fn g w rs st' R->At g w (S.enter fn.ntmps args st) (exK P R [.c c] .normal))
    (hn : (fn.name == "runtime.NumGoroutine") = false := by kernel_rfl) (hb : fn.body = some c := by kernel_rfl) (hlen : decide (args.length <= fn.ntmps) = true := by kernel_rfl) : Snd P f args st rs st' :=
  Snd.of hf hn hb (of_decide_eq_true hlen) h
end
section
variable {α:Type} {r:α} {A:Option α}
def ZcO {κ:Type} (o:Option (List L)) (d:List L->κ->Option α) (k:κ):Option α:=Zbb o fun e=>d e k
@[simp] def Zan {κ:Type} (e:List L) (d:List L->κ->Option α) (k:κ):ZcO (some e) d k=d e k:=rfl
def ck2 {p0 p1:Prop} [Decidable p0] [Decidable p1] (h:chk p0 (chk p1 A)=some r):p0/\p1/\A=some r:=by
  obtain ⟨a,h⟩:=Zba h;exact ⟨a,Zba h⟩
def ck3 {p0 p1 p2:Prop} [Decidable p0] [Decidable p1] [Decidable p2] (h:chk p0 (chk p1 (chk p2 A))=some r):p0/\p1/\p2/\A=some r:=by
  obtain ⟨a,h⟩:=Zba h;exact ⟨a,ck2 h⟩
def ck4 {p0 p1 p2 p3:Prop} [Decidable p0] [Decidable p1] [Decidable p2] [Decidable p3] (h:chk p0 (chk p1 (chk p2 (chk p3 A)))=some r):p0/\p1/\p2/\p3/\A=some r:=by
  obtain ⟨a,h⟩:=Zba h;exact ⟨a,ck3 h⟩
def ck5 {p0 p1 p2 p3 p4:Prop} [Decidable p0] [Decidable p1] [Decidable p2] [Decidable p3] [Decidable p4] (h:chk p0 (chk p1 (chk p2 (chk p3 (chk p4 A))))=some r):p0/\p1/\p2/\p3/\p4/\A=some r:=by
  obtain ⟨a,h⟩:=Zba h;exact ⟨a,ck4 h⟩
def ck6 {p0 p1 p2 p3 p4 p5:Prop} [Decidable p0] [Decidable p1] [Decidable p2] [Decidable p3] [Decidable p4] [Decidable p5] (h:chk p0 (chk p1 (chk p2 (chk p3 (chk p4 (chk p5 A)))))=some r):p0/\p1/\p2/\p3/\p4/\p5/\A=some r:=by
  obtain ⟨a,h⟩:=Zba h;exact ⟨a,ck5 h⟩
def ck7 {p0 p1 p2 p3 p4 p5 p6:Prop} [Decidable p0] [Decidable p1] [Decidable p2] [Decidable p3] [Decidable p4] [Decidable p5] [Decidable p6] (h:chk p0 (chk p1 (chk p2 (chk p3 (chk p4 (chk p5 (chk p6 A))))))=some r):p0/\p1/\p2/\p3/\p4/\p5/\p6/\A=some r:=by
  obtain ⟨a,h⟩:=Zba h;exact ⟨a,ck6 h⟩
def ck8 {p0 p1 p2 p3 p4 p5 p6 p7:Prop} [Decidable p0] [Decidable p1] [Decidable p2] [Decidable p3] [Decidable p4] [Decidable p5] [Decidable p6] [Decidable p7] (h:chk p0 (chk p1 (chk p2 (chk p3 (chk p4 (chk p5 (chk p6 (chk p7 A)))))))=some r):p0/\p1/\p2/\p3/\p4/\p5/\p6/\p7/\A=some r:=by
  obtain ⟨a,h⟩:=Zba h;exact ⟨a,ck7 h⟩
end
noncomputable def eqO (a b:Option (List L)):Bool:=@decide (a=b) (Classical.propDecidable _)
def ZoQ {a b:Option (List L)} (h:eqO a b=true):a=b:=of_decide_eq_true (inst:=Classical.propDecidable _) h
def ZuF {a b:Option (List L)} (h:a=b):eqO a b=true:=decide_eq_true (inst:=Classical.propDecidable _) h
def xS {P:Program} {g0:G} {w0:World} {R:Exit->Act->World->Prop} {f:Func} {ρ1:Type} {q:ρ1->List CV} {u:List (List L)} {x r:ρ1} {ks:List K} {s:S} [FaS P] (e:some x=some r) (hE:Znp P f g0 w0 (q r) u R) (ds:List PS) {A:Prop} (a:A) (h:((q x,u)=(q x,u)/\(A->A))=Zjh (finQ P f (Zel P) 400 ks s ds [] 0 []) (q x) u A:=by kernel_rfl):At g0 w0 s (exK P R ks .normal):=by cases e;exact af hE ds [] 0 [] a h
def xR {P:Program} {g0:G} {w0:World} {R:Exit->Act->World->Prop} {f:Func} {q:(List (List L))->List CV} {x r:(List (List L))} {ks:List K} {s:S} [FaS P] (e:some x=some r) (hE:Znp P f g0 w0 (q r) r R) (ds:List PS) {A:Prop} (a:A) (h:((q x,x)=(q x,x)/\(A->A))=Zjh (finQ P f (Zel P) 400 ks s ds [] 0 []) (q x) x A:=by kernel_rfl):At g0 w0 s (exK P R ks .normal):=by cases e;exact af hE ds [] 0 [] a h
def xT {P:Program} {g0:G} {w0:World} {R:Exit->Act->World->Prop} {f:Func} {ρ1:Type} {q:(ρ1×List (List L))->List CV} {x r:(ρ1×List (List L))} {ks:List K} {s:S} [FaS P] (e:some x=some r) (hE:Znp P f g0 w0 (q r) r.2 R) (ds:List PS) {A:Prop} (a:A) (h:((q x,x.2)=(q x,x.2)/\(A->A))=Zjh (finQ P f (Zel P) 400 ks s ds [] 0 []) (q x) x.2 A:=by kernel_rfl):At g0 w0 s (exK P R ks .normal):=by cases e;exact af hE ds [] 0 [] a h
def xU {P:Program} {g0:G} {w0:World} {R:Exit->Act->World->Prop} {f:Func} {ρ1 ρ2:Type} {q:(ρ1×ρ2×List (List L))->List CV} {x r:(ρ1×ρ2×List (List L))} {ks:List K} {s:S} [FaS P] (e:some x=some r) (hE:Znp P f g0 w0 (q r) r.2.2 R) (ds:List PS) {A:Prop} (a:A) (h:((q x,x.2.2)=(q x,x.2.2)/\(A->A))=Zjh (finQ P f (Zel P) 400 ks s ds [] 0 []) (q x) x.2.2 A:=by kernel_rfl):At g0 w0 s (exK P R ks .normal):=by cases e;exact af hE ds [] 0 [] a h
def xV {P:Program} {g0:G} {w0:World} {R:Exit->Act->World->Prop} {f:Func} {ρ1 ρ2 ρ3:Type} {q:(ρ1×ρ2×ρ3×List (List L))->List CV} {x r:(ρ1×ρ2×ρ3×List (List L))} {ks:List K} {s:S} [FaS P] (e:some x=some r) (hE:Znp P f g0 w0 (q r) r.2.2.2 R) (ds:List PS) {A:Prop} (a:A) (h:((q x,x.2.2.2)=(q x,x.2.2.2)/\(A->A))=Zjh (finQ P f (Zel P) 400 ks s ds [] 0 []) (q x) x.2.2.2 A:=by kernel_rfl):At g0 w0 s (exK P R ks .normal):=by cases e;exact af hE ds [] 0 [] a h
def xSd {P:Program} {g0:G} {w0:World} {R:Exit->Act->World->Prop} {f:Func} {ρ1:Type} {q:ρ1->List CV} {u:List (List L)} {x r:ρ1} {ks:List K} {s:S} [FaS P] (e:some x=some r) (hE:Znp P f g0 w0 (q r) u R) (ds:List PS) {A:Prop} (a:A) (h:((q x,u)=(q x,u)/\(A->A))=Zjh (ZoL P f (Zel P) 400 ks s ds [] 0 []) (q x) u A:=by kernel_rfl) (hc:Zkt true (goS (Zel P) 400 ks .n s ds)=Zkt false (goS (Zel P) 400 ks .n s ds):=by kernel_rfl):At g0 w0 s (exK P R ks .normal):=by cases e;exact afd hE ds [] 0 [] a h hc
def xRd {P:Program} {g0:G} {w0:World} {R:Exit->Act->World->Prop} {f:Func} {q:(List (List L))->List CV} {x r:(List (List L))} {ks:List K} {s:S} [FaS P] (e:some x=some r) (hE:Znp P f g0 w0 (q r) r R) (ds:List PS) {A:Prop} (a:A) (h:((q x,x)=(q x,x)/\(A->A))=Zjh (ZoL P f (Zel P) 400 ks s ds [] 0 []) (q x) x A:=by kernel_rfl) (hc:Zkt true (goS (Zel P) 400 ks .n s ds)=Zkt false (goS (Zel P) 400 ks .n s ds):=by kernel_rfl):At g0 w0 s (exK P R ks .normal):=by cases e;exact afd hE ds [] 0 [] a h hc
def xTd {P:Program} {g0:G} {w0:World} {R:Exit->Act->World->Prop} {f:Func} {ρ1:Type} {q:(ρ1×List (List L))->List CV} {x r:(ρ1×List (List L))} {ks:List K} {s:S} [FaS P] (e:some x=some r) (hE:Znp P f g0 w0 (q r) r.2 R) (ds:List PS) {A:Prop} (a:A) (h:((q x,x.2)=(q x,x.2)/\(A->A))=Zjh (ZoL P f (Zel P) 400 ks s ds [] 0 []) (q x) x.2 A:=by kernel_rfl) (hc:Zkt true (goS (Zel P) 400 ks .n s ds)=Zkt false (goS (Zel P) 400 ks .n s ds):=by kernel_rfl):At g0 w0 s (exK P R ks .normal):=by cases e;exact afd hE ds [] 0 [] a h hc
def xUd {P:Program} {g0:G} {w0:World} {R:Exit->Act->World->Prop} {f:Func} {ρ1 ρ2:Type} {q:(ρ1×ρ2×List (List L))->List CV} {x r:(ρ1×ρ2×List (List L))} {ks:List K} {s:S} [FaS P] (e:some x=some r) (hE:Znp P f g0 w0 (q r) r.2.2 R) (ds:List PS) {A:Prop} (a:A) (h:((q x,x.2.2)=(q x,x.2.2)/\(A->A))=Zjh (ZoL P f (Zel P) 400 ks s ds [] 0 []) (q x) x.2.2 A:=by kernel_rfl) (hc:Zkt true (goS (Zel P) 400 ks .n s ds)=Zkt false (goS (Zel P) 400 ks .n s ds):=by kernel_rfl):At g0 w0 s (exK P R ks .normal):=by cases e;exact afd hE ds [] 0 [] a h hc
def xVd {P:Program} {g0:G} {w0:World} {R:Exit->Act->World->Prop} {f:Func} {ρ1 ρ2 ρ3:Type} {q:(ρ1×ρ2×ρ3×List (List L))->List CV} {x r:(ρ1×ρ2×ρ3×List (List L))} {ks:List K} {s:S} [FaS P] (e:some x=some r) (hE:Znp P f g0 w0 (q r) r.2.2.2 R) (ds:List PS) {A:Prop} (a:A) (h:((q x,x.2.2.2)=(q x,x.2.2.2)/\(A->A))=Zjh (ZoL P f (Zel P) 400 ks s ds [] 0 []) (q x) x.2.2.2 A:=by kernel_rfl) (hc:Zkt true (goS (Zel P) 400 ks .n s ds)=Zkt false (goS (Zel P) 400 ks .n s ds):=by kernel_rfl):At g0 w0 s (exK P R ks .normal):=by cases e;exact afd hE ds [] 0 [] a h hc
noncomputable abbrev rZ:PS:=.r []
noncomputable abbrev cT:PS:=.c true
noncomputable abbrev cF:PS:=.c false
noncomputable abbrev cK (b:Code) (l:List Nat):K:=.c (ZbK b l)
end Go.Dn
