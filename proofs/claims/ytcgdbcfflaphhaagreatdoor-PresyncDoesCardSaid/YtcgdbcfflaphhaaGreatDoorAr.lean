/- A tree of headers, as a row of nodes, each with its whole chain; the program's arena of such a tree. -/
import Derived.Test.YtcgdbcfflaphhaaGreatDoorNum
import Derived.Test.YtcgdbcfflaphhaaGreatDoorRul
open Bool renaming true_and→wZ,and_eq_true→zS
open Go.Dn.L renaming int→zC,arr→zH
open Int renaming toNat_natCast→zJ,tdiv→zP,tdiv_eq_ediv_of_nonneg→xB,tmod→zR,toNat→zF,tmod_eq_emod_of_nonneg→yI,natCast_add→wW
open List renaming replicate→zB,getElem?_set_self→zN,getElem?_set_ne→zU,getElem_mem→yQ,getElem_append_left→uD,getElem_append_right→uV,map_cons→xA,mem_singleton→vW,getElem?_eq_getElem→zQ,getElem?_append_left→zV,getElem?_append_right→zT,getD→zE,set→zO,set_set→yJ,length_cons→yU,length_take→yT,getD_eq_getElem?_getD→yE,getElem?_eq_none→zM,append_nil→xX,length_append→zL,length_singleton→zZ,drop_zero→wV,drop_eq_getElem_cons→yN,drop_eq_nil_of_le→xT,length_drop→wA,nil_append→xH,take_of_length_le→zX
open Nat renaming sub_self→uQ,strongRecOn→uX,le_refl→zK,le_trans→xP,zero_add→yG
set_option linter.unusedSimpArgs false
set_option linter.unusedVariables false
set_option maxRecDepth 40000
namespace Go.Dn.F
open Go.Dn Go.Proofs
variable {N:Nat}
structure Nd where
 ch:List Zaa
 ah:Int
 wk:Int
def h0:Zaa:=⟨0,zB 32 0,zB 32 0,0,0,0⟩
def Nd.hd (n:Nd):Zaa:=n.ch.getLast?.getD h0
def Nd.id (n:Nd):List Int:=hid n.hd
noncomputable def rowS (p:Zak) (ns:List Nd):LL:=ns.map fun n=>(spotA p n.ch).ls
def ids (ns:List Nd):List (List Int):=ns.map Nd.id
def place:Nat→List (List Int)→List Int→Option Nat
 | _,[],_=>none
 | i,y::l,x=>if x=y then some i else place (i+1) l x
theorem Zjc : ∀{l:List (List Int)} {i:Nat} {x:List Int},place i l x=none→x∉l
 | [],_,_,_=>by simp
 | y::l,i,x,h=>by
  unfold place at h
  split at h
  ·cases h
  ·rename_i e;simp [e,Zjc h]
@[simp] theorem len_rowS (p:Zak) (ns:List Nd):len (rowS p ns)=(ns.length:Int):=by simp [len,rowS]
structure Tree (ns:List Nd):Prop where
 small:ns.length≤512
 ch : ∀n∈ns,n.ch ≠ []∧n.ch.length≤ns.length
 wf : ∀n∈ns,∀x∈n.ch,WfH x
 wk : ∀n∈ns,isN n.wk
 ah : ∀(i:Nat) (h:i<ns.length),(i=0∧ns[i].ah = -1∧ns[i].ch.length=1)∨∃(k:Nat) (hk:k<i),ns[i].ah=(k:Int)∧ns[i].ch=ns[k].ch ++ [ns[i].hd]
 one:(ids ns).Nodup
theorem Nd.hd_snoc {n:Nd} {c:List Zaa} {h:Zaa} (e:n.ch=c ++ [h]):n.hd=h:=by unfold Nd.hd;rw [e];simp
def chAt (ns:List Nd) (k:Nat):List Zaa:=(ns[k]?.map Nd.ch).getD []
def wkAt (ns:List Nd) (k:Nat):Int:=(ns[k]?.map Nd.wk).getD 0
theorem chAt_eq {ns:List Nd} {k:Nat} (h:k<ns.length):chAt ns k=ns[k].ch:=by simp [chAt,h]
theorem wkAt_eq {ns:List Nd} {k:Nat} (h:k<ns.length):wkAt ns k=ns[k].wk:=by simp [wkAt,h]
def nodeOn (ns:List Nd) (k:Nat) (h:Zaa):Nd:=⟨chAt ns k ++ [h],(k:Int),wkAdd (wkAt ns k) (wkBits h.Bits)⟩
theorem Zga {st:LL} {i:Nat} {x:List L} (h:st[i]? = some x):st.set i x=st:=by
 apply List.ext_getElem?
 intro j
 by_cases e:i=j
 ·subst e
  obtain ⟨hi,e⟩:=List.getElem?_eq_some_iff.1 h
  rw [zN hi,h]
 ·rw [zU e]
theorem ZmQ (p:Zak) (c:List Zaa):wfS (spotA p c)=true:=by
 have h : ∀l:List Zaa,∃ts:List Int,(spotA p l).Times=rowI ts∧ts.length≤11:=by
  refine Zjx ⟨[],rfl,by simp⟩ (fun l h ih=>?_)
  unfold spotA at *
  rw [List.foldl_append]
  exact ⟨_,rfl,by simp;omega⟩
 obtain ⟨ts,h1,h2⟩:=h c
 simp only [wfS,h1,Znq,wZ,decide_eq_true_eq,Zdx]
 omega
@[simp] theorem ZdJ (l:List Zaa):len (rowH l)=(l.length:Int):=by simp [len]
theorem Tree.grow {ns:List Nd} (ht:Tree ns) {k:Nat} (hk:k<ns.length) {h:Zaa} (hh:WfH h) (hs:ns.length<512) (hid':place 0 (ids ns) (hid h)=none):Tree (ns ++ [nodeOn ns k h]):=by
 have hm:=yQ hk
 have cl:=ht.ch _ hm
 have hc:(nodeOn ns k h).ch=ns[k].ch ++ [h]:=by unfold nodeOn;rw [chAt_eq hk]
 have hd:=(nodeOn ns k h).hd_snoc rfl
 refine ⟨by simp;omega,?_,?_,?_,?_,?_⟩
 ·intro n hn
  rcases List.mem_append.1 hn with hn | hn
  ·have:=ht.ch n hn;exact ⟨this.1,by simp;omega⟩
  ·cases List.mem_singleton.1 hn
   rw [hc];exact ⟨by simp,by simp;omega⟩
 ·intro n hn x hx
  rcases List.mem_append.1 hn with hn | hn
  ·exact ht.wf n hn x hx
  ·cases List.mem_singleton.1 hn
   rw [hc] at hx
   rcases List.mem_append.1 hx with hx | hx
   ·exact ht.wf _ hm x hx
   ·cases List.mem_singleton.1 hx;exact hh
 ·intro n hn
  rcases List.mem_append.1 hn with hn | hn
  ·exact ht.wk n hn
  ·cases List.mem_singleton.1 hn
   unfold nodeOn;rw [wkAt_eq hk]
   exact ZjZ (ht.wk _ hm) (Zeu _)
 ·intro i hi
  by_cases hlt:i<ns.length
  ·rw [uD hlt]
   rcases ht.ah i hlt with a | ⟨q,hq,a,b⟩
   ·exact .inl a
   ·exact .inr ⟨q,hq,a,by rw [uD (by omega)];exact b⟩
  ·have:i=ns.length:=by simp at hi;omega
   subst this
   refine .inr ⟨k,hk,?_,?_⟩
   ·rw [uV (by omega)];simp [nodeOn]
   ·rw [uV (by omega),uD hk]
    simp only [uQ,List.getElem_singleton]
    rw [hc,hd]
 ·have np:=Zjc hid'
  unfold ids at *
  rw [List.map_append,List.nodup_append]
  refine ⟨ht.one,by simp,?_⟩
  intro a ha b hb
  simp only [xA,List.map_nil,vW] at hb
  subst hb
  intro e
  unfold Nd.id at e
  rw [hd] at e
  exact np (by rw [←e];exact ha)
end Go.Dn.F
set_option maxRecDepth 100000
namespace Go.Dn.F
open Go.Dn Go.Proofs
variable {N:Nat}
end Go.Dn.F
set_option maxRecDepth 40000
namespace Go.Dn.F
open Go.Dn Go.Proofs
variable {N:Nat}
def rowF (ns:List Nd):Nat→Nat→List Nat
 | 0,k=>[k]
 | f+1,k=>match ns[k]? with
  | some n=>if n.ah<0 then [k] else rowF ns f n.ah.toNat ++ [k]
  | none=>[k]
def rowP (ns:List Nd) (k:Nat):List Nat:=rowF ns k k
theorem Znc {ns:List Nd} (ht:Tree ns) : ∀(k f g:Nat),k<ns.length→k≤f→k≤g→rowF ns f k=rowF ns g k:=by
 intro k
 induction k using uX with
 | ind k ih=>
  intro f g hk hf hg
  rcases ht.ah k hk with ⟨z,a,c⟩ | ⟨q,hq,a,c⟩
  ·have e : ∀f,rowF ns f k = [k]:=fun f=>by
    cases f with
    | zero=>rfl
    | succ f=>unfold rowF;rw [zQ hk];dsimp only;rw [a,if_pos (by omega)]
   rw [e,e]
  ·obtain ⟨f,rfl⟩ : ∃x,f=x+1:=⟨f-1,by omega⟩
   obtain ⟨g,rfl⟩ : ∃x,g=x+1:=⟨g-1,by omega⟩
   unfold rowF
   rw [zQ hk]
   dsimp only
   rw [a,if_neg (by omega),if_neg (by omega),zJ,ih q hq f g (by omega) (by omega) (by omega)]
theorem ZmZ {ns:List Nd} {k:Nat} (hk:k<ns.length) (a:ns[k].ah = -1):rowP ns k = [k]:=by
 unfold rowP
 cases k with
 | zero=>rfl
 | succ f=>unfold rowF;rw [zQ hk];dsimp only;rw [a,if_pos (by omega)]
theorem Zkm {ns:List Nd} (ht:Tree ns) {k q:Nat} (hk:k<ns.length) (hq:q<k) (a:ns[k].ah=(q:Int)):rowP ns k=rowP ns q ++ [k]:=by
 obtain ⟨f,rfl⟩ : ∃x,k=x+1:=⟨k-1,by omega⟩
 unfold rowP
 rw [rowF,zQ hk]
 dsimp only
 rw [a,if_neg (by omega),zJ,Znc ht q f q (by omega) (by omega) (by omega)]
theorem Zmp {ns:List Nd} (ht:Tree ns) {k:Nat} (hk:k<ns.length) :
  (k=0∧ns[k].ah = -1∧rowP ns k = [k]∧ns[k].ch.length=1)∨∃q,q<k∧ns[k].ah=(q:Int)∧rowP ns k=rowP ns q ++ [k]∧∃hq:q<ns.length,ns[k].ch=ns[q].ch ++ [ns[k].hd]:=by
 rcases ht.ah k hk with ⟨z,a,c⟩ | ⟨q,hq,a,c⟩
 ·exact .inl ⟨z,a,ZmZ hk a,c⟩
 ·exact .inr ⟨q,hq,a,Zkm ht hk hq a,by omega,c⟩
theorem rowP_le {ns:List Nd} (ht:Tree ns) : ∀{k:Nat},k<ns.length→∀x∈rowP ns k,x≤k:=by
 intro k
 induction k using uX with
 | ind k ih=>
  intro hk x hx
  rcases Zmp ht hk with ⟨z,a,e,c⟩ | ⟨q,hq,a,e,hq',c⟩
  ·rw [e] at hx;simp at hx;omega
  ·rw [e] at hx
   rcases List.mem_append.1 hx with hx | hx
   ·have:=ih q hq hq' x hx;omega
   ·simp at hx;omega
theorem Znb (ns:List Nd) (nd:Nd) (ht:Tree ns) : ∀(k f:Nat),k<ns.length→rowF (ns ++ [nd]) f k=rowF ns f k:=by
 intro k
 induction k using uX with
 | ind k ih=>
  intro f hk
  cases f with
  | zero=>rfl
  | succ f=>
   unfold rowF
   rw [zV hk,zQ hk]
   dsimp only
   rcases ht.ah k hk with ⟨z,a,c⟩ | ⟨q,hq,a,c⟩
   ·rw [a,if_pos (by omega),if_pos (by omega)]
   ·rw [a,if_neg (by omega),if_neg (by omega),zJ,ih q hq f (by omega)]
theorem Zif {ns:List Nd} (nd:Nd) (ht:Tree ns) {k:Nat} (hk:k<ns.length):rowP (ns ++ [nd]) k=rowP ns k:=Znb ns nd ht k k hk
structure Leaps (ns:List Nd) (lp:List Int):Prop where
 len:lp.length≤ns.length
 ok : ∀(i:Nat) (v:Int),lp[i]? = some v→v = -1∨∃x:Nat,v=(x:Int)∧x≠i∧x∈rowP ns i
def hZ (ns:List Nd) (k:Int):Int:=if 0≤k∧k<(ns.length:Int) then ((ns[k.toNat]?.map Nd.ch).getD []).length-1 else -1
def ancZ (ns:List Nd) (k h:Int):Int:=if 0≤k∧k<(ns.length:Int)∧0≤h then ((rowP ns k.toNat)[h.toNat]?.map fun (x:Nat)=>(x:Int)).getD (-1) else -1
end Go.Dn.F
set_option maxRecDepth 100000
namespace Go.Dn.F
open Go.Dn Go.Proofs
variable {N:Nat}
end Go.Dn.F
set_option maxRecDepth 40000
namespace Go.Dn.F
open Go.Dn Go.Proofs
variable {N:Nat}
theorem Leaps.grow {ns:List Nd} {lp:List Int} (ht:Tree ns) (hl:Leaps ns lp) (hlen:lp.length=ns.length) {nd:Nd} (ht':Tree (ns ++ [nd])) {k:Nat} (hk:k<ns.length) (ha:nd.ah=(k:Int)) (h:Int):Leaps (ns ++ [nd]) (lp ++ [ancZ (ns ++ [nd]) (k:Int) h]) where
 len:=by simp [hlen]
 ok:=fun i v hv=>by
  by_cases hi:i<lp.length
  ·rw [zV hi] at hv
   rcases hl.ok i v hv with h1 | ⟨x,h1,h2,h3⟩
   ·exact .inl h1
   ·exact .inr ⟨x,h1,h2,by rw [Zif nd ht (by omega)];exact h3⟩
  ·have e0:i=ns.length:=by
    have:=(List.getElem?_eq_some_iff.1 hv).1
    simp at this;omega
   subst e0
   rw [zT (by omega),hlen,uQ] at hv
   cases hv
   have hn:ns.length<(ns ++ [nd]).length:=by simp
   have ea:(ns ++ [nd])[ns.length].ah=(k:Int):=by simpa using ha
   rw [Zkm ht' hn hk ea,Zif nd ht hk]
   unfold ancZ
   by_cases hc:0≤(k:Int)∧(k:Int)<((ns ++ [nd]).length:Int)∧0≤h
   ·rw [if_pos hc,zJ,Zif nd ht hk]
    cases e:(rowP ns k)[h.toNat]? with
    | none=>exact .inl rfl
    | some y=>
     have hy:=List.mem_of_getElem? e
     have:=rowP_le ht hk y hy
     exact .inr ⟨y,rfl,by omega,List.mem_append.2 (.inl hy)⟩
   ·rw [if_neg hc];exact .inl rfl
end Go.Dn.F
set_option maxRecDepth 100000
namespace Go.Dn.F
open Go.Dn Go.Proofs
variable {N:Nat}
theorem ZfV {st ex:LL} {i:Nat} {x:List L} (h:st[i]? = some x):(st++ex)[i]? = some x:=by
 rw [zV (List.getElem?_eq_some_iff.1 h).1];exact h
noncomputable def bitV (p:Zbo) (b:Bs):Bool:=bitsOf .and .u8 (zE ((sha2 (([] ++ [p.Salt].flatMap (le (szOf 8))) ++ [b].flatten)).map byI) 0 0) 1==1
theorem ZnU (hN:1000≤N) (p:Zbo) {b:Bs} (hb:b.length=32) (st:LL) : ∃ex,ZbQ N p (b.map byI) st=some (bitV p b,st++ex):=by
 unfold ZbQ
 have h0:(st ++ [[L.own true 1 []]]:LL)[st.length]? = some (penO []):=by simp [penO,rowB]
 have h1:=ZnS (N:=N) (by omega) h0 8 [p.Salt] (by simp;omega) (by simp) (by simp)
 have e1:([[zC .i64 p.Salt]]:LL)=rowI [p.Salt]:=rfl
 rw [e1,h1,Zad]
 generalize hd:([] ++ [p.Salt].flatMap (le (szOf 8)):Bs)=d
 have ld:d.length=8:=by rw [←hd];simp [Zff];rfl
 have h2:((st ++ [[L.own true 1 []]]).set st.length (penO d))[st.length]? = some (penO d):=by simp
 have h3:=Zmj (N:=N) (by omega) h2 [b] (by simp;omega) (by simp) (by omega) (by simp;omega)
 have e2:([[zH .u8 32 (b.map byI)]]:LL) = [b].map fun x=>[zH .u8 32 (x.map byI)]:=rfl
 rw [e2,h3,Zad]
 have e3:(((st ++ [[L.own true 1 []]]).set st.length (penO d)).set st.length (penO (d ++ [b].flatten)):LL)=st ++ [penO (d ++ [b].flatten)]:=by simp
 rw [e3]
 have h4:(st ++ [penO (d ++ [b].flatten)]:LL)[st.length]? = some (penO (d ++ [b].flatten)):=by simp
 obtain ⟨ex,h5⟩:=Zla N [d ++ [b].flatten] (st ++ [penO (d ++ [b].flatten)]) (by simp;omega) (by simp;omega) (by simp;omega) (by simp)
 simp only [xA,List.map_nil] at h5
 rw [h4,ZaC,Zfr,ZnR,Zad,h5,Zad]
 unfold bitV
 rw [hd]
 exact ⟨[penO (d ++ [b].flatten)]++ex,by simp⟩
theorem Bit_eq (hN:1000≤N) (p:Zbo) {id_:List Int} (hid_:wfB id_=true) : ∃b:Bool,∀st:LL,∃ex,ZbQ N p id_ st=some (b,st++ex):=by
 obtain ⟨b,rfl,hb⟩:=(ZhW id_).1 hid_
 exact ⟨bitV p b,fun st=>ZnU hN p hb st⟩
def planOk (p:Zbo):Prop:=1≤p.Period∧p.Period≤64∧0≤p.Offset∧p.Offset<p.Period
theorem ZhM (p:Zbo) : ∃b,ZcF N p=some b∧(b=true→planOk p)∧(planOk p→b=true):=by
 unfold ZcF planOk
 by_cases h1:p.Period≥1
 ·rw [if_pos (by simpa using h1)]
  by_cases h2:p.Period≤64
  ·rw [if_pos (by simpa using h2)]
   by_cases h3:p.Offset≥0
   ·rw [if_pos (by simpa using h3)]
    exact ⟨_,rfl,fun h=>⟨by omega,h2,by omega,by simpa using h⟩,fun h=>by simpa using h.2.2.2⟩
   ·rw [if_neg (by simpa using h3)];exact ⟨_,rfl,(fun h=>by cases h),(fun h=>by omega)⟩
  ·rw [if_neg (by simpa using h2)];exact ⟨_,rfl,(fun h=>by cases h),(fun h=>by omega)⟩
 ·rw [if_neg (by simpa using h1)];exact ⟨_,rfl,(fun h=>by cases h),(fun h=>by omega)⟩
noncomputable def rowU (l:List Int):LL:=l.map fun n=>[zC .u64 n]
@[simp] theorem rowU_length (l:List Int):(rowU l).length=l.length:=by simp [rowU]
theorem ZlK {l:List Int} {i:Nat} (h:i<l.length):(rowU l)[i]? = some [zC .u64 l[i]]:=by simp [rowU,h]
theorem rowU_set (l:List Int) (i:Nat) (x:Int):(rowU l).set i [zC .u64 x]=rowU (l.set i x):=by simp [rowU,List.map_set]
theorem ZmY (l:List Int) (x:Int):rowU l ++ [[zC .u64 x]]=rowU (l ++ [x]):=by simp [rowU]
structure BookOk (b:Zax) (n:Nat):Prop where
 pl:planOk b.Plan
 w : ∃ws,b.words=rowU ws∧ws.length=(n+63)/64
 g:b.given=(n:Int)
 m:0≤b.met∧b.met≤b.given
structure Sy where
 p:Zak
 sa:Zat
 sw:List Int
 b:Zat
 bw:List Int
 bk:Option Nat
 ph:Int
 most:Int
 size:Int
 buf:LL
noncomputable def Sy.ll (s:Sy):List L:=s.p.ls++(s.sa.ls++(zH .u64 4 s.sw::(s.b.ls++(zH .u64 4 s.bw::L.ptr s.bk::zC .i64 s.ph::zC .i64 s.most::zC .i64 s.size::L.own true 68 s.buf :: []))))
noncomputable def Sy.v (s:Sy) (b:Zax):ZaG:=⟨s.p,⟨s.sa,s.sw⟩,⟨s.b,s.bw⟩,b,s.ph,s.most,s.size,s.buf⟩
theorem on_unf {st:LL} {i:Nat} {s:Sy} (hst:st[i]? = some s.ll) (h:Zaa) (now:Int) :
  Zcn N (some i) h now st=optE (Zdq N s.p s.b h now) fun x=>if (x != 0)=true then some (false,st) else
   optE (ZcQ N s.p s.b h) fun y=>optE (Zdk N h.Bits) fun z=>optE (Zer N [[zH .u64 4 s.bw],[zH .u64 4 z]]) fun u=>some (true,st.set i ({s with b:=y,bw:=u}:Sy).ll):=by
 unfold Zcn
 rw [Zad,hst,ZaC]
 rfl
theorem fail_unf {st:LL} {i:Nat} {s:Sy} (hst:st[i]? = some s.ll) (e:Int) :
  ZbL N (some i) e st=some ([],e,st.set i ({s with ph:=0,buf:=[]}:Sy).ll):=by
 unfold ZbL
 rw [Zad,hst,ZaC]
 have : ∀a b:List L,zO (zO (zO st i a) i b) i ({s with ph:=0,buf:=[]}:Sy).ll=st.set i ({s with ph:=0,buf:=[]}:Sy).ll:=fun a b=>by rw [yJ,yJ]
 exact congrArg (fun x=>some (([]:LL),e,x)) (this ({s with buf:=zB s.buf.length (Zaa.ls (Zaa.mk 0 (zB 32 0) (zB 32 0) 0 0 0))}:Sy).ll ({s with ph:=0,buf:=zB s.buf.length (Zaa.ls (Zaa.mk 0 (zB 32 0) (zB 32 0) 0 0 0))}:Sy).ll)
theorem Zly {st:LL} {i:Nat} {s:Sy} (hst:st[i]? = some s.ll) (n:Int) :
  ZaI.p1 N i n st=chk (0≤n) (chk (n.toNat≤s.buf.length) (chk (List.length ([]++s.buf.take n.toNat)*96≤140737488355328) (chk ((0+n.toNat)+(s.buf.length-n.toNat)≤s.buf.length) (chk (List.length ([]++(s.buf.drop (0+n.toNat)).take (s.buf.length-n.toNat))*96≤140737488355328)
   (some ([]++s.buf.take n.toNat,st.set i ({s with buf:=[]++(s.buf.drop (0+n.toNat)).take (s.buf.length-n.toNat)}:Sy).ll)))))):=by
 unfold ZaI.p1
 rw [hst,ZaC]
 rfl
theorem free_unf {st:LL} {i:Nat} {s:Sy} (hst:st[i]? = some s.ll) :
  ZaI N (some i) st=if (s.ph==3)=true then ZaI.p1 N i (len s.buf) st else ZaI.p1 N i (if (0:Int)>(w64 ((len s.buf)-s.size)) then 0 else (w64 ((len s.buf)-s.size))) st:=by
 unfold ZaI
 rw [Zad,hst,ZaC]
 rfl
theorem ZkS (hN:10≤N) {s:Sy} {b:Zax} {w m:Int} (hw:isN w) (hm:isN m) (e1:s.bw=nw w) (e2:s.p.MinWork=nw m):Zbv N (s.v b)=some (!decide (w<m)):=by
 unfold Zbv
 show optE (ZcB N s.bw s.p.MinWork) _=_
 rw [e1,e2,Zew hN hw hm,Zad]
theorem ZfF {α:Type} (s:Sy) (k:Int→Int→Int→Int→Bool→LL→LL→List Int→List Int→Int→List Int→List Int→Int→Int→Int→Int→Int→Int→Int→Int→List Int→LL→List Int→Int→Int→Int→Int→Int→List Int→LL→List Int→Option Nat→Int→Int→Int→LL→Option α) :
  Zbm s.ll k=k s.p.Limit s.p.Interval s.p.Spacing s.p.Future s.p.Easy s.p.Gates s.p.Checks s.p.MinWork s.p.Margin s.p.Genesis.Version s.p.Genesis.Prev s.p.Genesis.Root s.p.Genesis.Time s.p.Genesis.Bits s.p.Genesis.Nonce s.sa.Point.Height s.sa.Point.Bits s.sa.Point.Time s.sa.Point.First s.sa.Point.Hard s.sa.Prev s.sa.Times s.sw s.b.Point.Height s.b.Point.Bits s.b.Point.Time s.b.Point.First s.b.Point.Hard s.b.Prev s.b.Times s.bw s.bk s.ph s.most s.size s.buf:=rfl
structure SyB (gs:List Zck) (cs:List ZbO) (st:LL) (i j:Nat) (s:Sy) (b:Zax) (n c:Nat):Prop where
 o:st[i]? = some s.ll
 k:st[j]? = some b.lo
 bk:s.bk=some j
 ij:i≠j
 hg:s.p.Gates=rowG gs
 hc:s.p.Checks=rowC cs
 mw : ∃m,isN m∧s.p.MinWork=nw m
 wa:wfS s.sa=true
 wb:wfS s.b=true
 sw : ∃w,isN w∧s.sw=nw w
 bw : ∃w,isN w∧s.bw=nw w
 bo:BookOk b n
 nc:n≤c
 bu : ∃l:List Zaa,s.buf=rowH l∧l.length≤c
 sz:1≤s.size∧s.size≤64
def Keep (i j:Nat) (st st':LL):Prop:=st.length≤st'.length∧∀r,r≠i→r≠j→r<st.length→st'[r]? = st[r]?
theorem Keep.rfl' (i j:Nat) (st:LL):Keep i j st st:=⟨zK _,fun _ _ _ _=>rfl⟩
theorem Keep.trans {i j:Nat} {a b c:LL} (h:Keep i j a b) (k:Keep i j b c):Keep i j a c:=
 ⟨xP h.1 k.1,fun r h1 h2 h3=>by rw [k.2 r h1 h2 (Nat.lt_of_lt_of_le h3 h.1),h.2 r h1 h2 h3]⟩
theorem Keep.seti (i j:Nat) (st:LL) (x:List L):Keep i j st (st.set i x):=⟨by simp,fun r h1 _ _=>zU (Ne.symm h1)⟩
theorem Keep.setj (i j:Nat) (st:LL) (x:List L) (ex:LL):Keep i j st (st.set j x++ex):=
 ⟨by simp,fun r _ h2 h3=>by rw [zV (by simpa using h3),zU (Ne.symm h2)]⟩
theorem ZmG (p:Zak) (a:Zat) (h:Zaa):wfS (behind p a h)=true:=by
 unfold behind wfS
 simp only [Znq,wZ,decide_eq_true_eq,Zdx,yU,yT]
 omega
theorem SyB.on {gs:List Zck} {cs:List ZbO} {st:LL} {i j:Nat} {s:Sy} {b:Zax} {n c:Nat} (S:SyB gs cs st i j s b n c) (h:Zaa) {w:Int} (hw:isN w):SyB gs cs (st.set i ({s with b:=behind s.p s.b h,bw:=nw w}:Sy).ll) i j {s with b:=behind s.p s.b h,bw:=nw w} b n c where
 o:=zN (List.getElem?_eq_some_iff.1 S.o).1
 k:=by rw [zU S.ij];exact S.k
 bk:=S.bk
 ij:=S.ij
 hg:=S.hg
 hc:=S.hc
 mw:=S.mw
 wa:=S.wa
 wb:=ZmG _ _ _
 sw:=S.sw
 bw:=⟨w,hw,rfl⟩
 bo:=S.bo
 nc:=S.nc
 bu:=S.bu
 sz:=S.sz
theorem SyB.give {gs:List Zck} {cs:List ZbO} {st:LL} {i j:Nat} {s:Sy} {b b':Zax} {n n' c c':Nat} (S:SyB gs cs st i j s b n c) (ex:LL) (hb:BookOk b' n') (hn:n'≤c') (hc:c≤c'):SyB gs cs (st.set j b'.lo++ex) i j s b' n' c' where
 o:=ZfV (by rw [zU (Ne.symm S.ij)];exact S.o)
 k:=ZfV (zN (List.getElem?_eq_some_iff.1 S.k).1)
 bk:=S.bk
 ij:=S.ij
 hg:=S.hg
 hc:=S.hc
 mw:=S.mw
 wa:=S.wa
 wb:=S.wb
 sw:=S.sw
 bw:=S.bw
 bo:=hb
 nc:=hn
 bu:=by obtain ⟨l,e,hl⟩:=S.bu;exact ⟨l,e,by omega⟩
 sz:=S.sz
theorem SyB.upd {gs:List Zck} {cs:List ZbO} {st:LL} {i j:Nat} {s:Sy} {b:Zax} {n c c':Nat} (S:SyB gs cs st i j s b n c) (s':Sy) (hp:s'.p=s.p) (hbk:s'.bk=s.bk) (hsz:s'.size=s.size) (ha:s'.sa=s.sa) (hsw:s'.sw=s.sw) (hb:wfS s'.b=true) (hw : ∃w,isN w∧s'.bw=nw w) (hbu : ∃l:List Zaa,s'.buf=rowH l∧l.length≤c') (hc:c≤c'):SyB gs cs (st.set i s'.ll) i j s' b n c' where
 o:=zN (List.getElem?_eq_some_iff.1 S.o).1
 k:=by rw [zU S.ij];exact S.k
 bk:=by rw [hbk];exact S.bk
 ij:=S.ij
 hg:=by rw [hp];exact S.hg
 hc:=by rw [hp];exact S.hc
 mw:=by rw [hp];exact S.mw
 wa:=by rw [ha];exact S.wa
 wb:=hb
 sw:=by rw [hsw];exact S.sw
 bw:=hw
 bo:=S.bo
 nc:=xP S.nc hc
 bu:=hbu
 sz:=by rw [hsz];exact S.sz
theorem SyB.more {gs:List Zck} {cs:List ZbO} {st:LL} {i j:Nat} {s:Sy} {b:Zax} {n c c':Nat} (S:SyB gs cs st i j s b n c) (h:c≤c'):SyB gs cs st i j s b n c':=
 ⟨S.o,S.k,S.bk,S.ij,S.hg,S.hc,S.mw,S.wa,S.wb,S.sw,S.bw,S.bo,xP S.nc h,by obtain ⟨q,e,hq⟩:=S.bu;exact ⟨q,e,by omega⟩,S.sz⟩
structure SyOk (gs:List Zck) (cs:List ZbO) (st:LL) (i j:Nat) (s:Sy) (n c:Nat):Prop where
 ok : ∃b,SyB gs cs st i j s b n c
 ph:s.ph=0∨s.ph=1∨s.ph=2∨s.ph=3
 bits:(n:Int)≤s.most+1
 one:s.ph=1→(n:Int)≤s.most
 held:(s.buf.length:Int)≤s.size
theorem isW_of {n:Int} (h:(Lit.int .u64 n).wf=true):isW n:=by
 simp only [Lit.wf,zS,decide_eq_true_eq] at h
 have h1:0≤n∧n≤18446744073709551615:=h
 unfold isW;omega
theorem Most_eq {p:Zbo} (hp:planOk p) (sec:Int) (h0:0≤sec) : ∃m,ZcE N p sec=some m∧0≤m∧m≤51539607553:=by
 unfold ZcE
 obtain ⟨b,e,h1,h2⟩:=ZhM (N:=N) p
 obtain ⟨P1,P2,_,_⟩:=hp
 have hp:planOk p:=⟨P1,P2,by assumption,by assumption⟩
 have hq:0≤(if (8589934592:Int)<sec then 8589934592 else sec)∧(if (8589934592:Int)<sec then 8589934592 else sec)≤8589934592:=by split<;>omega
 generalize (if (8589934592:Int)<sec then 8589934592 else sec)=q at hq ⊢
 have d1:zP (6*q) p.Period=(6*q)/p.Period:=xB (by omega)
 have d2:0≤(6*q)/p.Period:=Int.ediv_nonneg (by omega) (by omega)
 have d3:(6*q)/p.Period≤6*q:=Int.ediv_le_self _ (by omega)
 rw [e,Zad,h2 hp,if_neg (by simp),if_neg (by simpa using h0),Zah (by omega),ZaE (n:=6*q) (by omega) (by omega),d1,ZaE (n:=(6*q)/p.Period) (by omega) (by omega),ZaE (by omega) (by omega)]
 exact ⟨_,rfl,by omega,by omega⟩
theorem alive19 (hN:1000≤N) : ∃st,Zda N []=some (true,st):=by
 obtain ⟨n,rfl⟩ : ∃n,N=n+1000:=⟨N-1000,by omega⟩
 have h:((Zda (n+1000) []).map (·.1))=some true:=by kernel_rfl
 cases e:Zda (n+1000) [] with
 | none=>rw [e] at h;cases h
 | some r=>rw [e] at h;exact ⟨r.2,by cases r;simp at h;subst h;rfl⟩
theorem LTys.app_inv : ∀{a b:List Ty} {ls:List L},LTys (a++b) ls→∃l r,ls=l++r∧LTys a l∧LTys b r
 | [],b,ls,h=>⟨[],ls,rfl,by rw [LTys],h⟩
 | t::a,b,ls,h=>by
  obtain ⟨x,r,rfl,h1,h2⟩:=LTys.cons_inv (t:=t) (ts:=a++b) h
  obtain ⟨l,r',rfl,h3,h4⟩:=LTys.app_inv h2
  exact ⟨x::l,r',rfl,by rw [LTys];exact ⟨x,l,rfl,h1,h3⟩,h4⟩
abbrev tysCase:List Ty:=tysP ++ [.sl 68 tysH,.int .i64,.int .i64,.int .i64,.int .i64,.int .i64]
abbrev tysMsg:List Ty:=[.sl 68 tysH,.int .i64,.bool]
structure WfCase (c:Zbc) (base:List Zaa):Prop where
 p:WfP c.P
 b:c.Base=rowH base
 w : ∀x∈base,WfH x
 l:base.length≤maxLen
theorem Zni {ls:List L} (h:LTys tysCase ls) : ∃c base,ls=Zbc.ls c∧WfCase c base:=by
 obtain ⟨l1,r,rfl,h1,hr⟩:=LTys.app_inv (a:=tysP) (b:=[.sl 68 tysH,.int .i64,.int .i64,.int .i64,.int .i64,.int .i64]) h
 clear h
 have h:=hr
 obtain ⟨p,rfl,hp⟩:=open_P h1
 obtain ⟨_,_,rfl,h2,h⟩:=h.cons_inv
 obtain ⟨_,_,rfl,h3,h⟩:=h.cons_inv
 obtain ⟨_,_,rfl,h4,h⟩:=h.cons_inv
 obtain ⟨_,_,rfl,h5,h⟩:=h.cons_inv
 obtain ⟨_,_,rfl,h6,h⟩:=h.cons_inv
 obtain ⟨_,_,rfl,h7,h⟩:=h.cons_inv
 cases h.nil_inv
 obtain ⟨xs,rfl,lx,wx⟩:=h2.sl_inv
 obtain ⟨a3,rfl,w3⟩:=h3.int_inv
 obtain ⟨a4,rfl,w4⟩:=h4.int_inv
 obtain ⟨a5,rfl,w5⟩:=h5.int_inv
 obtain ⟨a6,rfl,w6⟩:=h6.int_inv
 obtain ⟨a7,rfl,w7⟩:=h7.int_inv
 obtain ⟨base,rfl,hb⟩:=open_C wx
 exact ⟨⟨p,rowH base,⟨a3,a4,a5⟩,a6,a7⟩,base,rfl,hp,rfl,hb,by rw [ZcX] at lx;exact lx⟩
structure WfMsg (x:Zbr):Prop where
 l : ∃hs:List Zaa,x.List_=rowH hs∧(∀h∈hs,WfH h)∧hs.length≤maxLen
noncomputable def rowMs (l:List Zbr):LL:=l.map Zbr.ls
theorem Zko {l:List Zbr} {i:Nat} (h:i<l.length):(rowMs l)[i]? = some l[i].ls:=by simp [rowMs,h]
@[simp] theorem ZkG (l:List Zbr):len (rowMs l)=(l.length:Int):=by simp [len,rowMs]
@[simp] theorem Zkn (l:List Zbr):(rowMs l).length=l.length:=by simp [rowMs]
theorem open_Ms {xs:LL} (h : ∀x∈xs,LTys tysMsg x) : ∃l,xs=rowMs l∧∀x∈l,WfMsg x:=
 decode fun x hx=>by
  obtain ⟨_,_,rfl,h1,h⟩:=(h x hx).cons_inv
  obtain ⟨_,_,rfl,h2,h⟩:=h.cons_inv
  obtain ⟨_,_,rfl,h3,h⟩:=h.cons_inv
  cases h.nil_inv
  obtain ⟨ys,rfl,ly,wy⟩:=h1.sl_inv
  obtain ⟨a2,rfl,w2⟩:=h2.int_inv
  obtain ⟨a3,rfl⟩:=h3.bool_inv
  obtain ⟨hs,rfl,hb⟩:=open_C wy
  exact ⟨⟨rowH hs,a2,a3⟩,rfl,⟨hs,rfl,hb,by rw [ZcX] at ly;exact ly⟩⟩
theorem ZmA {c:Zbc} {base:List Zaa} (hc:WfCase c base) (l:List Zbr) (hl : ∀x∈l,WfMsg x) (hN:l.length+base.length+900≤N) (hb:l.length≤maxLen) :
  ∃b,Zba N c (rowMs l)=some b∧(b=false→l.length≤12∧base.length≤20∧∃gs cs,c.P.Gates=rowG gs∧c.P.Checks=rowC cs∧gs.length≤400∧cs.length≤400∧rgood c.P gs cs=true):=by
 have hm:maxLen=9223372036854775807:=rfl
 have cl:=hc.l
 unfold Zba
 refine Zeb (fun m (s:Int×Int)=>∃k:Nat,k+m=l.length∧s.2=(k:Int)) ?_ N l.length _ ⟨0,by omega,rfl⟩ (by omega)
 rintro G m ⟨n1,_⟩ ⟨k,hk,rfl⟩ hG
 unfold Zba.p1
 dsimp only
 rw [ZkG]
 by_cases hlt:k<l.length
 ·rw [if_pos (by simp<;>omega),Zah (by omega),zJ,Zko hlt,ZaC,ZdW]
  by_cases h70:len l[k].List_>70
  ·rw [if_pos (by simpa using h70)];exact ⟨true,rfl,fun h=>by cases h⟩
  ·rw [if_neg (by simpa using h70),ZaE (n:=(k:Int)+1) (by omega) (by omega)]
   exact hG (m-1) _ (by omega) ⟨k+1,by omega,by dsimp only;omega⟩
 ·rw [if_neg (by simp<;>omega)]
  refine Zeb (fun m (s:Int)=>∃k:Nat,k+m=base.length∧s=(k:Int)) ?_ N base.length _ ⟨0,by omega,rfl⟩ (by omega)
  rintro G2 m2 _ ⟨q,hq,rfl⟩ hG2
  unfold Zba.p2
  rw [hc.b,ZdJ]
  by_cases hql:q<base.length
  ·rw [if_pos (by simp<;>omega),Zah (by omega),zJ,Zee hql,ZaC,ZbU,Zgb,Zad]
   cases hgood base[q] with
   | false=>rw [if_pos (by rfl)];exact ⟨true,rfl,fun h=>by cases h⟩
   | true=>
    rw [if_neg (by simp),ZaE (by omega) (by omega)]
    exact hG2 (m2-1) _ (by omega) ⟨q+1,by omega,by omega⟩
  ·rw [if_neg (by simp<;>omega)]
   by_cases h1:len c.P.Gates>20
   ·rw [if_pos (by simpa using h1)];exact ⟨true,rfl,fun h=>by cases h⟩
   rw [if_neg (by simpa using h1)]
   by_cases h2:len c.P.Checks>20
   ·rw [if_pos (by simpa using h2)];exact ⟨true,rfl,fun h=>by cases h⟩
   rw [if_neg (by simpa using h2)]
   by_cases h3:(base.length:Int)>20
   ·rw [if_pos (by simpa using h3)];exact ⟨true,rfl,fun h=>by cases h⟩
   rw [if_neg (by simpa using h3)]
   by_cases h4:(l.length:Int)>12
   ·rw [if_pos (by simpa using h4)];exact ⟨true,rfl,fun h=>by cases h⟩
   rw [if_neg (by simpa using h4)]
   by_cases h5:n1>200
   ·rw [if_pos (by simpa using h5)];exact ⟨true,rfl,fun h=>by cases h⟩
   rw [if_neg (by simpa using h5)]
   obtain ⟨gs,eg⟩:=open_G hc.p.g
   obtain ⟨cs,ec⟩:=open_K hc.p.c
   have lg:gs.length≤400:=by simp [len,eg] at h1;omega
   have lc:cs.length≤400:=by simp [len,ec] at h2;omega
   rw [ZjE (by omega) eg lg ec lc,Zad]
   exact ⟨_,rfl,fun h=>⟨by omega,by omega,gs,cs,eg,ec,lg,lc,by simpa using h⟩⟩
theorem SyOk.app {gs:List Zck} {cs:List ZbO} {st:LL} {i j:Nat} {s:Sy} {n c:Nat} (S:SyOk gs cs st i j s n c) (x:LL):SyOk gs cs (st++x) i j s n c where
 ok:=by
  obtain ⟨b,B⟩:=S.ok
  exact ⟨b,ZfV B.o,ZfV B.k,B.bk,B.ij,B.hg,B.hc,B.mw,B.wa,B.wb,B.sw,B.bw,B.bo,B.nc,B.bu,B.sz⟩
 ph:=S.ph
 bits:=S.bits
 one:=S.one
 held:=S.held
open Classical in
noncomputable def bitI (N:Nat) (p:Zbo) (id_:List Int):Bool:=decide (∃st st',ZbQ N p id_ st=some (true,st'))
open Classical in
theorem ZnV (hN:1000≤N) (p:Zbo) {id_:List Int} (h:wfB id_=true) (st:LL) : ∃ex,ZbQ N p id_ st=some (bitI N p id_,st++ex):=by
 obtain ⟨b,hb⟩:=Bit_eq hN p h
 have e:bitI N p id_=b:=by
  unfold bitI
  cases b with
  | true=>obtain ⟨ex,e⟩:=hb st;simp only [decide_eq_true_eq];exact ⟨st,_,e⟩
  | false=>
   simp only [decide_eq_false_iff_not]
   rintro ⟨s1,s2,e1⟩
   obtain ⟨ex,e⟩:=hb s1
   rw [e] at e1;simp at e1
 rw [e];exact hb st
def dueB (p:Zbo) (h:Int):Bool:=decide (h≥0)&&(zR h p.Period==p.Offset)
theorem Due_is {p:Zbo} (hp:planOk p) (h:Int):Zct N p h=some (dueB p h):=by
 unfold Zct dueB
 obtain ⟨b,e,h1,h2⟩:=ZhM (N:=N) p
 rw [e,Zad,h2 hp,if_pos rfl]
 by_cases h0:h≥0
 ·rw [if_pos (by simpa using h0),Zah (by have:=hp.1;omega),decide_eq_true h0,wZ]
 ·rw [if_neg (by simpa using h0),decide_eq_false h0,Bool.false_and]
structure BookF (b:Zax) (bs:List Bool):Prop where
 pl:planOk b.Plan
 w : ∃ws:List Int,b.words=rowU ws∧ws.length=(bs.length+63)/64∧(∀x∈ws,isW x)∧∀i,i<64*ws.length→(ws.getD (i/64) 0).toNat.testBit (i%64)=bs.getD i false
 g:b.given=(bs.length:Int)
 m:0≤b.met∧b.met≤b.given
theorem BookF.ok {b:Zax} {bs:List Bool} (h:BookF b bs):BookOk b bs.length:=
 ⟨h.pl,by obtain ⟨ws,e,l,_⟩:=h.w;exact ⟨ws,e,l⟩,h.g,h.m⟩
theorem or_bit {x:Int} (hx:isW x) {s:Nat} (hs:s<64):isW (bitsOf .or .u64 x (shlOf .u64 1 (s:Int)))∧∀t,t<64→(bitsOf .or .u64 x (shlOf .u64 1 (s:Int))).toNat.testBit t=(x.toNat.testBit t||decide (s=t)):=by
 have p:=ZbA s
 have le:(2:Int)^s≤9223372036854775808:=Zdy (b:=63) (by omega)
 have cp:((2^s:Nat):Int)=(2:Int)^s:=by simp
 have sh:shlOf .u64 1 (s:Int)=((2^s:Nat):Int):=by rw [shl64 _ (by omega),cp];omega
 have le':2^s<2^64:=Nat.pow_lt_pow_right (by omega) (by omega)
 have w2:isW ((2^s:Nat):Int):=⟨by omega,by omega⟩
 have lx:x.toNat<2^64:=by have:=hx.1;have:=hx.2;omega
 rw [sh,or64 hx w2,zJ]
 have:=Nat.or_lt_two_pow lx le'
 refine ⟨⟨by omega,by omega⟩,fun t ht=>?_⟩
 rw [zJ,Nat.testBit_or,Nat.testBit_two_pow]
theorem at_bit {x:Int} (hx:isW x) {s:Nat} (hs:s<64):(bitsOf .and .u64 (shrOf .u64 x (s:Int)) 1==1)=x.toNat.testBit s:=by
 have p:=ZbA s
 obtain ⟨n,rfl⟩ : ∃n:Nat,x=(n:Int):=⟨x.toNat,by have:=hx.1;omega⟩
 rw [shr64 _ (by omega)]
 have e:((n:Int)/2^s)=((n/2^s:Nat):Int):=by simp
 rw [e,and64 (by have h1:=Nat.div_le_self n (2^s);have:=hx.2;generalize n/2^s=q at *;exact ⟨by omega,by omega⟩) ⟨by omega,by omega⟩,zJ,zJ,Nat.testBit_eq_decide_div_mod_eq,show (1:Int).toNat=1 from rfl,Nat.and_one_is_mod,Bool.eq_iff_iff]
 simp only [beq_iff_eq,decide_eq_true_eq]
 omega
theorem ZkM (bs:List Bool) (x:Bool) (i:Nat):(bs ++ [x]).getD i false=if i=bs.length then x else bs.getD i false:=by
 simp only [yE]
 by_cases h:i<bs.length
 ·rw [zV h,if_neg (by omega)]
 ·rw [zT (by omega)]
  by_cases e:i=bs.length
  ·subst e;simp
  ·rw [if_neg e,zM (by simp;omega),zM (by omega)]
end Go.Dn.F
namespace Go.Dn.F
open Go.Dn Go.Proofs
variable {N:Nat}
theorem Give_F (hN:1000≤N) {st:LL} {j:Nat} {b:Zax} {bs:List Bool} (hst:st[j]? = some b.lo) (hb:BookF b bs) (hn:bs.length<1000000) (h:Int) {id_:List Int} (hid_:wfB id_=true) :
  ∃(r:Int) (b':Zax) (ex:LL),Zam N (some j) h [[zH .u8 32 id_]] st=some (r,st.set j b'.lo++ex)∧BookF b' (bs++if dueB b.Plan (w64 (h+0))=true then [bitI N b.Plan id_] else [])∧b'.met=b.met∧b'.Plan=b.Plan:=by
 have hbit:=ZnV hN b.Plan hid_
 generalize bitI N b.Plan id_=bit at hbit ⊢
 obtain ⟨ws,ew,lw,ww,wb⟩:=hb.w
 obtain ⟨n,en⟩ : ∃n,n=bs.length:=⟨_,rfl⟩
 rw [←en] at lw hn
 have gm:=hb.m
 have hg:=hb.g
 rw [←en] at hg
 unfold Zam
 rw [if_neg (by simp)]
 obtain ⟨M,rfl⟩ : ∃M,N=M+2:=⟨N-2,by omega⟩
 have hend : ∀(n_:Int) (s:LL),loopN (Zam.p1 (M+2) h [[zH .u8 32 id_]]) (M+1) (some j,n_,1,s)=some (n_,s):=by
  intro n_ s
  rw [Zav]
  unfold Zam.p1
  dsimp only
  rw [if_neg (by simp [len])]
 rw [Zav]
 generalize hG:loopN (Zam.p1 (M+2) h [[zH .u8 32 id_]]) (M+1)=G at hend
 unfold Zam.p1 Zam.p2 Zam.p3 Zam.p4
 dsimp only
 rw [if_pos (by simp [len]),Zah (by omega),show ([[zH .u8 32 id_]]:LL)[zF 0]? = some [zH .u8 32 id_] from rfl,ZaC,ZhE,Zad,hst,ZaC,ZbW]
 rw [Due_is (N:=M+2) hb.pl (w64 (h+0)),Zad,show w64 (0+1)=1 from rfl]
 cases dueB b.Plan (w64 (h+0)) with
 | false=>
  rw [if_pos (by rfl),hend]
  exact ⟨0,b,[],by rw [xX];congr 2;exact (Zga hst).symm,by rw [if_neg (by simp),xX];exact hb,rfl,rfl⟩
 | true=>
  rw [if_neg (by simp),if_pos rfl]
  have step : ∀(b1:Zax) (ws:List Int) (s0:LL),s0[j]? = some b1.lo→b1.words=rowU ws→n/64<ws.length→b1.given=(n:Int)→b1.Plan=b.Plan→b1.met=b.met→ws.length=(n+1+63)/64→(∀x∈ws,isW x)→(∀i,i<64*ws.length→(ws.getD (i/64) 0).toNat.testBit (i%64)=bs.getD i false) →
    ∃(b':Zax) (ex:LL),(getE (s0[j]?) Zbn fun x24=>optE (ZbQ (M+2) x24.Plan id_ s0) fun (x25,st26)=>
     if x25=true then getE (st26[j]?) Zbn fun x27=>chk (0≤(w64 (zP x27.given 64)))<|chk ((w64 (zP x27.given 64))<(len x27.words))<|getE (x27.words[0+(zF (w64 (zP x27.given 64)))]?) Zgu fun x28=>chk (0≤(zR x27.given 64))<|
      getE ((zO st26 j (Zax.lo {x27 with words:=zO x27.words (0+(zF (w64 (zP x27.given 64)))) [zC .u64 (bitsOf .or .u64 x28 (shlOf .u64 1 (zR x27.given 64)))]}))[j]?) Zbn fun x30=>G (some j,1,1,(zO (zO st26 j (Zax.lo {x27 with words:=zO x27.words (0+(zF (w64 (zP x27.given 64)))) [zC .u64 (bitsOf .or .u64 x28 (shlOf .u64 1 (zR x27.given 64)))]})) j (Zax.lo {x30 with given:=w64 (x30.given+1)})))
     else getE (st26[j]?) Zbn fun x30=>G (some j,1,1,(zO st26 j (Zax.lo {x30 with given:=w64 (x30.given+1)}))))=some (1,s0.set j b'.lo++ex)∧BookF b' (bs ++ [bit])∧b'.met=b.met∧b'.Plan=b.Plan:=by
   intro b1 ws s0 hs0 e1 l1 e2 e3 e4 l2 ww wb
   obtain ⟨ex,hex⟩:=hbit s0
   have gd:ws.getD (n/64) 0=ws[n/64]:=by simp [zE,l1]
   have tm:zR (n:Int) 64=((n%64:Nat):Int):=by rw [yI (by omega)];omega
   have hjl:=(List.getElem?_eq_some_iff.1 hs0).1
   have ga:(s0++ex)[j]? = some b1.lo:=ZfV hs0
   have sa : ∀x:List L,(s0++ex).set j x=s0.set j x++ex:=fun x=>List.set_append_left _ _ hjl
   have td:zP (n:Int) 64=((n/64:Nat):Int):=by rw [xB (by omega)];omega
   rw [hs0,ZaC,ZbW,e3,hex,Zad]
   dsimp only
   cases bit with
   | true=>
    rw [if_pos rfl,ga,ZaC,ZbW]
    have gs:((s0++ex).set j (Zax.lo {b1 with words:=(rowU ws).set (0+n/64) [zC .u64 (bitsOf .or .u64 ws[n/64] (shlOf .u64 1 (zR (n:Int) 64)))]}))[j]? = some (Zax.lo {b1 with words:=(rowU ws).set (0+n/64) [zC .u64 (bitsOf .or .u64 ws[n/64] (shlOf .u64 1 (zR (n:Int) 64)))]}):=zN (List.getElem?_eq_some_iff.1 ga).1
    rw [e2,td,ZaE (by omega) (by omega),zJ,e1,Zah (by omega),Zah (by simp [len];omega),yG,ZlK l1,ZaC,Zjl,Zah (by rw [yI (by omega)];omega)]
    rw [yG,e2] at gs
    rw [gs,ZaC,ZbW,hend,yJ,sa]
    refine ⟨_,ex,rfl,⟨by rw [show ({b1 with words:=_,given:=_}:Zax).Plan=b1.Plan from rfl,e3];exact hb.pl,⟨ws.set (n/64) (bitsOf .or .u64 ws[n/64] (shlOf .u64 1 (zR (n:Int) 64))),by dsimp only;rw [rowU_set],by rw [List.length_set,zL,zZ];omega,?_,?_⟩,by dsimp only;rw [ZaE (by omega) (by omega),zL,zZ];omega,?_⟩,e4,e3⟩
    ·intro x hx
     rcases List.mem_or_eq_of_mem_set hx with h1 | h1
     ·exact ww x h1
     ·rw [h1,tm];exact (or_bit (ww _ (yQ l1)) (by omega)).1
    ·intro i hi
     rw [List.length_set] at hi
     rw [ZkM,tm,yE,List.getElem?_set]
     by_cases hk:n/64=i/64
     ·rw [if_pos hk,if_pos l1,Option.getD_some,(or_bit (ww _ (yQ l1)) (by omega)).2 _ (by omega),←gd,hk,wb i hi]
      by_cases hi':i=bs.length
      ·rw [if_pos hi',decide_eq_true (by omega),Bool.or_true]
      ·rw [if_neg hi',decide_eq_false (by omega),Bool.or_false]
     ·rw [if_neg hk,if_neg (by intro e;apply hk;omega),←yE,wb i hi]
    ·dsimp only
     rw [e4,ZaE (by omega) (by omega)]
     omega
   | false=>
    rw [if_neg (by simp),ga,ZaC,ZbW,hend,sa]
    refine ⟨_,ex,rfl,⟨by rw [show ({b1 with given:=_}:Zax).Plan=b1.Plan from rfl,e3];exact hb.pl,⟨ws,e1,by rw [zL,zZ];omega,ww,fun i hi=>?_⟩,by dsimp only;rw [e2,ZaE (by omega) (by omega),zL,zZ];omega,?_⟩,e4,e3⟩
    ·rw [ZkM,wb i hi]
     split
     ·rename_i hi';rw [hi',yE,zM (zK _)];rfl
     ·rfl
    dsimp only
    rw [e4,e2,ZaE (by omega) (by omega)]
    omega
  by_cases h64:n%64=0
  ·have hjl:=(List.getElem?_eq_some_iff.1 hst).1
   rw [if_pos (by rw [hg,yI (by omega)];simp;omega),Zah (by rw [ew];simp;omega),yJ]
   have hs1:(st.set j (Zax.lo {b with words:=b.words ++ [[zC .u64 0]]}))[j]? = some (Zax.lo {b with words:=b.words ++ [[zC .u64 0]]}):=zN hjl
   obtain ⟨b',ex,e,ok,em,ep⟩:=step {b with words:=b.words ++ [[zC .u64 0]]} (ws ++ [(0:Int)]) _ hs1 (by dsimp only;rw [ew,ZmY]) (by simp;omega) hg rfl rfl (by simp;omega) (fun x hx=>by
    rcases List.mem_append.1 hx with h1 | h1
    ·exact ww x h1
    ·simp only [vW] at h1;rw [h1];exact ⟨by omega,by omega⟩) (fun i hi=>by
    have hi:i<64*(ws.length+1):=by simpa using hi
    by_cases h1:i/64<ws.length
    ·rw [←wb i (by omega),yE,yE,zV h1]
    ·rw [yE,zT (by omega),show i/64-ws.length=0 by omega,yE,zM (l:=bs) (by omega)];simp)
   rw [yJ] at e
   exact ⟨1,b',ex,e,ok,em,ep⟩
  ·rw [if_neg (by rw [hg,yI (by omega)];simp;omega)]
   obtain ⟨b',ex,e,ok,em,ep⟩:=step b ws st hst ew (by omega) hg rfl rfl (by omega) ww wb
   rw [hst] at e
   exact ⟨1,b',ex,e,ok,em,ep⟩
noncomputable def spF (p:Zak) (a:Zat) (l:List Zaa):Zat:=l.foldl (behind p) a
noncomputable def wkF (w:Int) (l:List Zaa):Int:=l.foldl (fun w h=>wkAdd w (wkBits h.Bits)) w
noncomputable def btF (N:Nat) (p:Zbo):Int→List Zaa→List Bool
 | _,[]=>[]
 | k,h::t=>(if dueB p k=true then [bitI N p (hid h)] else [])++btF N p (k+1) t
theorem ZhK (p:Zak) (a:Zat) (l:List Zaa) (h:Zaa):spF p a (l ++ [h])=behind p (spF p a l) h:=by simp [spF]
theorem ZhJ (w:Int) (l:List Zaa) (h:Zaa):wkF w (l ++ [h])=wkAdd (wkF w l) (wkBits h.Bits):=by simp [wkF]
theorem ZgX (N:Nat) (p:Zbo) (h:Zaa) : ∀(l:List Zaa) (k:Int),btF N p k (l ++ [h])=btF N p k l++(if dueB p (k+l.length)=true then [bitI N p (hid h)] else [])
 | [],k=>by simp [btF]
 | x::l,k=>by
  rw [List.cons_append,btF,btF,ZgX N p h l (k+1),List.append_assoc,yU,show k+1+(l.length:Int)=k+((l.length+1:Nat):Int) by omega]
theorem Zgv (N:Nat) (p:Zbo) : ∀(l:List Zaa) (k:Int),(btF N p k l).length≤l.length
 | [],k=>by simp [btF]
 | x::l,k=>by
  have:=Zgv N p l (k+1)
  rw [btF,zL,yU]
  split
  ·rw [zZ];omega
  ·rw [List.length_nil];omega
theorem Zfi : ∀(l:List Zaa) {w:Int},isN w→isN (wkF w l)
 | [],w,hw=>hw
 | x::l,w,hw=>Zfi l (ZjZ hw (Zeu _))
theorem Zhe (p:Zak) : ∀(l:List Zaa) (a:Zat),0≤a.Point.Height→a.Point.Height+l.length≤4000000000000→(spF p a l).Point.Height=a.Point.Height+l.length
 | [],a,_,_=>by simp [spF]
 | x::l,a,h0,h1=>by
  rw [yU] at h1 ⊢
  have e:(behind p a x).Point.Height=a.Point.Height+1:=by
   show w64 (a.Point.Height+1)=_
   rw [ZaE (by omega) (by omega)]
  have:=Zhe p l (behind p a x) (by omega) (by omega)
  show (spF p (behind p a x) l).Point.Height=_
  omega
structure Lk where
 p:Zak
 gs:List Zck
 cs:List ZbO
 plan:Zbo
 a:Zat
 w:Int
 mw:Int
 most:Int
structure Ab where
 ph:Int
 seen:List Zaa
 tw:List Zaa
 told:Nat
noncomputable def Lk.bt (k:Lk) (N:Nat) (l:List Zaa):List Bool:=btF N k.plan k.a.Point.Height l
noncomputable def lookA (N:Nat) (k:Lk) (now:Int):List Zaa→List Zaa→Int×List Zaa×Bool
 | seen,[]=>(0,seen,false)
 | seen,h::t=>
  if checkS k.p k.gs k.cs (spF k.p k.a seen) h now=0 then
   if ((k.bt N (seen ++ [h])).length:Int)>k.most then (3,seen ++ [h],false)
   else if wkF k.w (seen ++ [h])<k.mw then lookA N k now (seen ++ [h]) t
   else (0,seen ++ [h],true)
  else (8,seen,false)
structure SyF (N:Nat) (k:Lk) (st:LL) (i j:Nat) (s:Sy) (b:Zax) (n c:Nat) (A:Ab):Prop where
 B:SyB k.gs k.cs st i j s b n c
 p:s.p=k.p
 mw:s.p.MinWork=nw k.mw∧isN k.mw
 a:A.ph≠0→s.sa=k.a∧s.sw=nw k.w
 w:isN k.w
 most:s.most=k.most
 ht:0≤k.a.Point.Height∧k.a.Point.Height≤1000000
 ph:s.ph=A.ph
 ls:A.seen.length≤c∧A.tw.length≤c
 bk:A.ph≠0→BookF b (k.bt N A.seen)∧b.Plan=k.plan
 one:A.ph=1→s.b=spF k.p k.a A.seen∧s.bw=nw (wkF k.w A.seen)∧s.buf = []∧b.met=0∧A.tw = []∧A.told=0
 two:A.ph=2∨A.ph=3→s.b=spF k.p k.a A.tw∧s.bw=nw (wkF k.w A.tw)∧s.buf=rowH (A.tw.drop A.told)∧A.told≤A.tw.length
 met:A.ph=2→b.met=((k.bt N A.tw).length:Int)∧k.bt N A.tw <+: k.bt N A.seen
theorem BookOk.uniq {b:Zax} {n m:Nat} (h:BookOk b n) (k:BookOk b m):n=m:=by have:=h.g;have:=k.g;omega
theorem look_F (hN:1000≤N) {k:Lk} (lg:k.gs.length≤400) (lc:k.cs.length≤400) {st:LL} {i j:Nat} {s:Sy} {b:Zax} {n c:Nat} {A:Ab} (S:SyF N k st i j s b n c A) (hph:A.ph=1) (l:List Zaa) (hl : ∀x∈l,WfH x) (h64:l.length≤64) (hc:c≤900000) (now:Int) (hnow:0≤now∧now≤9223372036854775807) :
  ∃r,ZaY N (some i) now (rowH l) st=some r∧r.1=(lookA N k now A.seen l).1∧Keep i j st r.2∧∃s' b' n',
   s'.p=s.p∧s'.most=s.most∧s'.size=s.size∧SyB k.gs k.cs r.2 i j s' b' n' (c+l.length)∧(r.1=0→SyF N k r.2 i j s' b' n' (c+l.length) ⟨if (lookA N k now A.seen l).2.2=true then 2 else 1,(lookA N k now A.seen l).2.1,[],0⟩):=by
 have T : ∀v,v≤l.length→(lookA N k now A.seen l)=(lookA N k now A.seen l):=fun _ _=>rfl
 unfold ZaY
 generalize hR:lookA N k now A.seen l=R
 refine Zeb (Q:=fun r:Int×LL=>r.1=R.1∧Keep i j st r.2∧∃s' b' n',
   s'.p=s.p∧s'.most=s.most∧s'.size=s.size∧SyB k.gs k.cs r.2 i j s' b' n' (c+l.length)∧(r.1=0→SyF N k r.2 i j s' b' n' (c+l.length) ⟨if R.2.2=true then 2 else 1,R.2.1,[],0⟩)) (fun m (x:(Option Nat)×Int×LL)=>∃(v:Nat) (st1:LL) (s1:Sy) (b1:Zax) (n1:Nat) (seen:List Zaa),x=(some i,(v:Int),st1)∧v+m=l.length∧SyF N k st1 i j s1 b1 n1 (c+v) ⟨1,seen,[],0⟩∧Keep i j st st1∧s1.p=s.p∧s1.most=s.most∧s1.size=s.size∧lookA N k now seen (l.drop v)=R) ?_ N l.length _ ⟨0,st,s,b,n,A.seen,rfl,by omega,by
    obtain ⟨ph,seen,tw,told⟩:=A
    obtain ⟨h1,h2,h3,h4,h5,h6⟩:=S.one hph
    dsimp only at hph h5 h6
    subst hph h5 h6
    exact S,Keep.rfl' _ _ _,rfl,rfl,rfl,by rw [wV];exact hR⟩ (by omega)
 clear S hph T hR
 rintro G m _ ⟨v,st1,s1,b1,n1,seen,rfl,hv,S,K,ep,em,ez,hA⟩ hG
 have SB:=S.B
 obtain ⟨e1,e2,e3,e4,_,_⟩:=S.one rfl
 obtain ⟨F,epl⟩:=S.bk (by simp)
 have hph:=S.ph
 have hgt:=S.ht
 dsimp only at e1 e2 F hph
 have lsn:seen.length≤c+v:=S.ls.1
 have hgt1:s1.b.Point.Height=k.a.Point.Height+seen.length:=by rw [e1];exact Zhe _ _ _ hgt.1 (by omega)
 unfold ZaY.p1
 dsimp only
 rw [ZdJ]
 by_cases hlt:v<l.length
 ·have wh:=hl _ (yQ hlt)
  rw [yN hlt] at hA
  unfold lookA at hA
  rw [if_pos (by simp<;>omega),Zah (by omega),zJ,Zee hlt,ZaC,ZbU,Zad,SB.o,ZaC,ZfF]
  have isT:isI s1.b.Times=true:=by have sb:=SB.wb;simp only [wfS,zS] at sb;exact sb.1
  have wkn:isN (wkF k.w seen):=Zfi _ S.w
  have eon:Zcn N (some i) l[v] now st1=if checkS k.p k.gs k.cs (spF k.p k.a seen) l[v] now=0 then some (true,st1.set i ({s1 with b:=spF k.p k.a (seen ++ [l[v]]),bw:=nw (wkF k.w (seen ++ [l[v]]))}:Sy).ll) else some (false,st1):=by
   rw [on_unf SB.o,ZgC (by omega) SB.hg SB.hc lg lc wh.w isT now (by omega),Zad,S.p,e1]
   by_cases h0:checkS k.p k.gs k.cs (spF k.p k.a seen) l[v] now=0
   ·rw [if_neg (by simp [h0]),if_pos h0,Zex (by omega) wh.w (by rw [←e1];exact SB.wb),Zad,Zgj (by omega),Zad,e2,ZhU (by omega) wkn (Zeu _),Zad,ZhK,ZhJ]
   ·rw [if_pos (by simpa using h0),if_neg h0]
  rw [eon]
  by_cases h0:checkS k.p k.gs k.cs (spF k.p k.a seen) l[v] now=0
  ·rw [if_pos h0] at hA
   have S1:=SB.on l[v] (w:=wkF k.w (seen ++ [l[v]])) (Zfi _ S.w)
   rw [show behind s1.p s1.b l[v]=spF k.p k.a (seen ++ [l[v]]) by rw [S.p,e1,ZhK]] at S1
   rw [if_pos h0,Zad]
   dsimp only
   rw [if_neg (by simp),S1.o,ZaC,ZfF]
   dsimp only
   rw [ZeC (by omega) wh.w,Zad]
   have hn1:(k.bt N seen).length<1000000:=by
    have h1:=Zgv N k.plan seen k.a.Point.Height
    show (btF N k.plan k.a.Point.Height seen).length<_
    omega
   obtain ⟨r,b2,ex,eG,F2,g3,g4⟩:=Give_F hN S1.k F hn1 s1.b.Point.Height (Zlb l[v])
   have eb2:k.bt N seen++(if dueB b1.Plan (w64 (s1.b.Point.Height+0))=true then [bitI N b1.Plan (hid l[v])] else [])=k.bt N (seen ++ [l[v]]):=by
    unfold Lk.bt
    rw [ZgX,epl,hgt1,Int.add_zero,ZaE (by omega) (by omega)]
   rw [eb2] at F2
   have hn2:(k.bt N (seen ++ [l[v]])).length≤c+(v+1):=by
    have h1:=Zgv N k.plan (seen ++ [l[v]]) k.a.Point.Height
    show (btF N k.plan k.a.Point.Height (seen ++ [l[v]])).length≤_
    rw [zL,zZ] at h1
    omega
   have S2:=S1.give ex F2.ok (c':=c+(v+1)) hn2 (by omega)
   have K2:Keep i j st (((st1.set i ({s1 with b:=spF k.p k.a (seen ++ [l[v]]),bw:=nw (wkF k.w (seen ++ [l[v]]))}:Sy).ll).set j b2.lo)++ex):=(K.trans (Keep.seti i j _ _)).trans (Keep.setj i j _ _ _)
   have eo : ∀{α:Type} (f:Nat→Option α),optE s1.bk f=f j:=fun f=>by rw [SB.bk];rfl
   rw [←SB.bk] at eG
   rw [eG,Zad]
   dsimp only
   rw [S2.o,ZaC,ZfF]
   dsimp only
   rw [eo,S2.k,ZaC,ZbW]
   unfold ZbE
   rw [Zad]
   generalize ((st1.set i ({s1 with b:=spF k.p k.a (seen ++ [l[v]]),bw:=nw (wkF k.w (seen ++ [l[v]]))}:Sy).ll).set j b2.lo)++ex=st2 at S2 K2 ⊢
   have S2':=S2.more (c':=c+l.length) (by omega)
   have gv:=F2.g
   have emost:s1.most=k.most:=S.most
   by_cases hm:b2.given>s1.most
   ·rw [if_pos (show ((k.bt N (seen ++ [l[v]])).length:Int)>k.most by omega)] at hA
    rw [if_pos (by simpa using hm)]
    exact ⟨_,rfl,by rw [←hA],K2,({s1 with b:=spF k.p k.a (seen ++ [l[v]]),bw:=nw (wkF k.w (seen ++ [l[v]]))}:Sy),b2,_,ep,em,ez,S2',fun h=>by simp at h⟩
   ·rw [if_neg (show ¬ ((k.bt N (seen ++ [l[v]])).length:Int)>k.most by omega)] at hA
    rw [if_neg (by simpa using hm)]
    show ∃r,(optE (Zbv N (Sy.v {s1 with b:=spF k.p k.a (seen ++ [l[v]]),bw:=nw (wkF k.w (seen ++ [l[v]]))} b2)) _)=some r∧_
    rw [ZkS (s:={s1 with b:=spF k.p k.a (seen ++ [l[v]]),bw:=nw (wkF k.w (seen ++ [l[v]]))}) (b:=b2) (by omega) (Zfi _ S.w) S.mw.2 rfl S.mw.1,Zad]
    have lsn2:(seen ++ [l[v]]).length≤c+(v+1):=by rw [zL,zZ];omega
    by_cases hwm:wkF k.w (seen ++ [l[v]])<k.mw
    ·rw [if_pos hwm] at hA
     rw [decide_eq_true hwm,if_neg (by simp),ZaE (by omega) (by omega)]
     exact hG (m-1) _ (by omega) ⟨v+1,st2,({s1 with b:=spF k.p k.a (seen ++ [l[v]]),bw:=nw (wkF k.w (seen ++ [l[v]]))}:Sy),b2,_,seen ++ [l[v]],by rw [wW];rfl,by omega,
      ⟨S2,S.p,S.mw,fun _=>S.a (by simp),S.w,S.most,hgt,hph,⟨lsn2,by simp⟩,fun _=>⟨F2,g4.trans epl⟩,fun _=>⟨rfl,rfl,e3,g3.trans e4,rfl,rfl⟩,fun h=>by rcases h with h | h<;>simp at h,fun h=>by simp at h⟩,K2,ep,em,ez,hA⟩
    ·rw [if_neg hwm] at hA
     rw [decide_eq_false hwm,if_pos (by rfl),yJ]
     have S3:=S2'.upd {s1 with b:=s1.sa,bw:=s1.sw,ph:=2,bk:=some j} rfl SB.bk.symm rfl rfl rfl SB.wa SB.sw S2'.bu (zK _)
     refine ⟨_,rfl,by rw [←hA],K2.trans (Keep.seti i j _ _),{s1 with b:=s1.sa,bw:=s1.sw,ph:=2,bk:=some j},b2,_,ep,em,ez,S3,fun _=>?_⟩
     rw [←hA]
     refine ⟨S3,S.p,S.mw,fun _=>S.a (by simp),S.w,S.most,hgt,rfl,⟨by dsimp only;omega,by simp⟩,fun _=>⟨F2,g4.trans epl⟩,fun h=>by simp at h,fun _=>⟨(S.a (by simp)).1,(S.a (by simp)).2,?_,by simp⟩,fun _=>⟨?_,?_⟩⟩
     ·dsimp only;rw [e3];rfl
     ·rw [g3,e4];simp [Lk.bt,btF]
     ·simp [Lk.bt,btF]
  ·rw [if_neg h0] at hA
   rw [if_neg h0,Zad]
   dsimp only
   rw [if_pos (by rfl)]
   exact ⟨_,rfl,by rw [←hA],K,s1,b1,n1,ep,em,ez,SB.more (by omega),fun h=>by simp at h⟩
 ·rw [xT (by omega)] at hA
  unfold lookA at hA
  rw [if_neg (by simp<;>omega)]
  rw [show c+v=c+l.length by omega] at S
  refine ⟨_,rfl,by rw [←hA],K,s1,b1,n1,ep,em,ez,S.B,fun _=>?_⟩
  rw [←hA]
  exact S
theorem Zil {tb bs:List Bool} (h:tb <+: bs) (x:Bool):tb ++ [x] <+: bs↔bs[tb.length]? = some x:=by
 obtain ⟨r,rfl⟩:=h
 rw [zT (zK _),uQ]
 constructor
 ·rintro ⟨q,hq⟩
  rw [List.append_assoc] at hq
  have:=List.append_cancel_left hq
  rw [←this];rfl
 ·intro h
  cases r with
  | nil=>simp at h
  | cons y r=>simp only [List.getElem?_cons_zero,Option.some.injEq] at h;subst h;exact ⟨r,by simp⟩
theorem Meet_F (hN:1000≤N) {st:LL} {j:Nat} {b:Zax} {bs tb:List Bool} (hst:st[j]? = some b.lo) (hb:BookF b bs) (hn:bs.length<1000000) (hm:b.met=(tb.length:Int)) (hpre:tb <+: bs) (h:Int) {id_:List Int} (hid_:wfB id_=true) :
  ∃(r:Bool) (b':Zax) (ex:LL),ZcA N (some j) h id_ st=some (r,st.set j b'.lo++ex)∧BookF b' bs∧b'.Plan=b.Plan ∧
   (r=true↔tb++(if dueB b.Plan h=true then [bitI N b.Plan id_] else []) <+: bs)∧(r=true→b'.met=((tb++(if dueB b.Plan h=true then [bitI N b.Plan id_] else [])).length:Int)):=by
 obtain ⟨ex0,hbit⟩:=ZnV hN b.Plan hid_ st
 generalize bitI N b.Plan id_=bit at hbit ⊢
 obtain ⟨ws,ew,lw,ww,wb⟩:=hb.w
 have gm:=hb.m
 have hg:=hb.g
 have same : ∀(r:Bool),some (r,st)=some (r,st.set j b.lo ++ []):=fun r=>by rw [xX,Zga hst]
 unfold ZcA
 rw [if_neg (by simp),Zad,hst,ZaC,ZbW,Due_is (N:=N) hb.pl h,Zad]
 cases dueB b.Plan h with
 | false=>rw [if_pos (by rfl)];exact ⟨true,b,[],same true,hb,rfl,by simpa using hpre,fun _=>by simpa using hm⟩
 | true=>
  rw [if_neg (by simp),if_pos rfl,Zil hpre]
  by_cases hm2:b.met≥b.given
  ·rw [if_pos (by simpa using hm2)]
   exact ⟨false,b,[],same false,hb,rfl,by rw [zM (by omega)];simp,fun h=>by cases h⟩
  ·rw [if_neg (by simpa using hm2)]
   generalize hq':tb.length=q at hm ⊢
   have hq:q<bs.length:=by omega
   have hqw:q/64<ws.length:=by omega
   have td:zP (q:Int) 64=((q/64:Nat):Int):=by rw [xB (by omega)];omega
   have tm:zR (q:Int) 64=((q%64:Nat):Int):=by rw [yI (by omega)];omega
   have gq:=wb q (by omega)
   rw [show ws.getD (q/64) 0=ws[q/64] by simp [zE,hqw]] at gq
   have gd:bs.getD q false=bs[q]:=by simp [zE,hq]
   unfold ZcL
   rw [hm,td,ZaE (n:=((q/64:Nat):Int)) (by omega) (by omega),Zah (by omega),ew,Zah (by simp [len];omega),zJ,ZlK hqw,ZaC,Zjl,tm,Zah (by omega),Zad,at_bit (ww _ (yQ hqw)) (by omega),gq,gd]
   have hjl:=(List.getElem?_eq_some_iff.1 hst).1
   rw [hbit,Zad,zQ hq]
   dsimp only
   by_cases hx:bs[q]=bit
   ·rw [if_neg (by simp [hx]),ZfV hst,ZaC,ZbW,List.set_append_left _ _ hjl]
    refine ⟨true,{b with met:=w64 (b.met+1)},ex0,rfl,⟨hb.pl,⟨ws,ew,lw,ww,wb⟩,hg,?_⟩,rfl,by simp [hx],fun _=>?_⟩
    ·dsimp only
     rw [hm,ZaE (by omega) (by omega)]
     omega
    ·dsimp only
     rw [hm,ZaE (by omega) (by omega),zL,zZ]
     omega
   ·rw [if_pos (by simp [hx])]
    exact ⟨false,b,ex0,by rw [Zga hst],hb,rfl,by simp [hx],fun h=>by cases h⟩
theorem on_F (hN:1000≤N) {k:Lk} (lg:k.gs.length≤400) (lc:k.cs.length≤400) {st:LL} {i j:Nat} {s:Sy} {b:Zax} {n c:Nat} {A:Ab} (S:SyF N k st i j s b n c A) {l:List Zaa} (e1:s.b=spF k.p k.a l) (e2:s.bw=nw (wkF k.w l)) {h:Zaa} (wh:WfH h) (now:Int) (hnow:0≤now∧now≤9223372036854775807) :
  Zcn N (some i) h now st=if checkS k.p k.gs k.cs (spF k.p k.a l) h now=0 then some (true,st.set i ({s with b:=spF k.p k.a (l ++ [h]),bw:=nw (wkF k.w (l ++ [h]))}:Sy).ll) else some (false,st):=by
 have SB:=S.B
 have isT:isI s.b.Times=true:=by have sb:=SB.wb;simp only [wfS,zS] at sb;exact sb.1
 have wkn:isN (wkF k.w l):=Zfi _ S.w
 rw [on_unf SB.o,ZgC (by omega) SB.hg SB.hc lg lc wh.w isT now (by omega),Zad,S.p,e1]
 by_cases h0:checkS k.p k.gs k.cs (spF k.p k.a l) h now=0
 ·rw [if_neg (by simp [h0]),if_pos h0,Zex (by omega) wh.w (by rw [←e1];exact SB.wb),Zad,Zgj (by omega),Zad,e2,ZhU (by omega) wkn (Zeu _),Zad,ZhK,ZhJ]
 ·rw [if_pos (by simpa using h0),if_neg h0]
theorem ZmH (hN:1000≤N) {k:Lk} {st:LL} {i j:Nat} {s:Sy} {b:Zax} {n c:Nat} (S:SyB k.gs k.cs st i j s b n c) {w:Int} (hw:isN w) (ew:s.bw=nw w) (hm:isN k.mw) (em:s.p.MinWork=nw k.mw) (hc:c≤900000) (h:Zaa) (now:Int) (l:LL) (v x:Int) (u:Bool) (cc:(Option Nat)×Int×LL→Option (Int×LL)) :
  Zap.p2 N cc i now l v x u h st=cc (some i,w64 (v+1),st.set i ({s with buf:=s.buf ++ [h.ls],bk:=some j,ph:=if w<k.mw then s.ph else 3}:Sy).ll):=by
 obtain ⟨q,eb,hq⟩:=S.bu
 have eo : ∀{α:Type} (f:Nat→Option α),optE s.bk f=f j:=fun f=>by rw [S.bk];rfl
 have e1:s.buf ++ [h.ls]=rowH (q ++ [h]):=by rw [eb];simp [rowH]
 unfold Zap.p2 Zap.p3
 rw [S.o,ZaC,ZfF,Zah (by rw [e1,ZcX,zL,zZ];omega),eo,yJ,zU S.ij,S.k,ZaC,ZbW]
 show (optE (Zbv N (Sy.v ({s with buf:=s.buf ++ [h.ls]}:Sy) b)) _)=_
 rw [ZkS (s:=({s with buf:=s.buf ++ [h.ls]}:Sy)) (b:=b) (by omega) hw hm ew em,Zad]
 by_cases hwm:w<k.mw
 ·rw [decide_eq_true hwm,if_neg (by simp),if_pos hwm];rfl
 ·rw [decide_eq_false hwm,if_pos (by rfl),if_neg hwm,yJ];rfl
open Classical in
noncomputable def againA (N:Nat) (k:Lk) (now:Int) (seen:List Zaa):Bool→List Zaa→List Zaa→Int×List Zaa×Bool
 | d,tw,[]=>(0,tw,d)
 | d,tw,h::t=>
  if checkS k.p k.gs k.cs (spF k.p k.a tw) h now=0∧(d=true∨k.bt N (tw ++ [h]) <+: k.bt N seen) then
   againA N k now seen (d || !decide (wkF k.w (tw ++ [h])<k.mw)) (tw ++ [h]) t
  else (8,tw,d)
def ph2 (d:Bool):Int:=if d=true then 3 else 2
theorem Zng (d:Bool):ph2 d≠0:=by cases d<;>simp [ph2]
theorem SyB.upd2 {gs:List Zck} {cs:List ZbO} {st:LL} {i j:Nat} {s:Sy} {b:Zax} {n c:Nat} (S:SyB gs cs st i j s b n c) (h:Zaa) (x:Int):SyB gs cs (st.set i ({s with buf:=s.buf ++ [h.ls],bk:=some j,ph:=x}:Sy).ll) i j {s with buf:=s.buf ++ [h.ls],bk:=some j,ph:=x} b n (c+1):=by
 obtain ⟨q,eb,hq⟩:=S.bu
 exact S.upd ({s with buf:=s.buf ++ [h.ls],bk:=some j,ph:=x}:Sy) rfl S.bk.symm rfl rfl rfl S.wb S.bw ⟨q ++ [h],by show s.buf ++ [h.ls]=_;rw [eb];simp [rowH],by rw [zL,zZ];omega⟩ (by omega)
open Classical in
theorem again_F (hN:1000≤N) {k:Lk} (lg:k.gs.length≤400) (lc:k.cs.length≤400) {st:LL} {i j:Nat} {s:Sy} {b:Zax} {n c:Nat} {A:Ab} (S:SyF N k st i j s b n c A) (hph:A.ph=2) (l:List Zaa) (hl : ∀x∈l,WfH x) (h64:l.length≤64) (hc:c≤800000) (now:Int) (hnow:0≤now∧now≤9223372036854775807) :
  ∃r,Zap N (some i) now (rowH l) st=some r∧r.1=(againA N k now A.seen false A.tw l).1∧Keep i j st r.2∧∃s' b',
   s'.p=s.p∧s'.most=s.most∧s'.size=s.size∧SyB k.gs k.cs r.2 i j s' b' n (c+l.length)∧(r.1=0→SyF N k r.2 i j s' b' n (c+l.length) ⟨ph2 (againA N k now A.seen false A.tw l).2.2,A.seen,(againA N k now A.seen false A.tw l).2.1,A.told⟩):=by
 obtain ⟨ph,seen,tw0,told⟩:=A
 dsimp only at hph ⊢
 subst hph
 unfold Zap
 generalize hR:againA N k now seen false tw0 l=R
 refine Zeb (Q:=fun r:Int×LL=>r.1=R.1∧Keep i j st r.2∧∃s' b',
   s'.p=s.p∧s'.most=s.most∧s'.size=s.size∧SyB k.gs k.cs r.2 i j s' b' n (c+l.length)∧(r.1=0→SyF N k r.2 i j s' b' n (c+l.length) ⟨ph2 R.2.2,seen,R.2.1,told⟩)) (fun m (x:(Option Nat)×Int×LL)=>∃(v:Nat) (st1:LL) (s1:Sy) (b1:Zax) (d:Bool) (tw:List Zaa),x=(some i,(v:Int),st1)∧v+m=l.length∧SyF N k st1 i j s1 b1 n (c+v) ⟨ph2 d,seen,tw,told⟩∧Keep i j st st1∧s1.p=s.p∧s1.most=s.most∧s1.size=s.size∧againA N k now seen d tw (l.drop v)=R) ?_ N l.length _ ⟨0,st,s,b,false,tw0,rfl,by omega,S,Keep.rfl' _ _ _,rfl,rfl,rfl,by rw [wV];exact hR⟩ (by omega)
 clear S hR
 rintro G m _ ⟨v,st1,s1,b1,d,tw,rfl,hv,S,K,ep,em,ez,hA⟩ hG
 have SB:=S.B
 have hd23:ph2 d=2∨ph2 d=3:=by cases d<;>simp [ph2]
 obtain ⟨e1,e2,e3,e4⟩:=S.two hd23
 have hph:=S.ph
 have hgt:=S.ht
 dsimp only at e1 e2 e3 e4 hph
 have ltw:tw.length≤c+v:=S.ls.2
 have lsn:seen.length≤c+v:=S.ls.1
 have hgt1:s1.b.Point.Height=k.a.Point.Height+tw.length:=by rw [e1];exact Zhe _ _ _ hgt.1 (by omega)
 unfold Zap.p1
 dsimp only
 rw [ZdJ]
 by_cases hlt:v<l.length
 ·have wh:=hl _ (yQ hlt)
  rw [yN hlt] at hA
  unfold againA at hA
  rw [if_pos (by simp<;>omega),Zah (by omega),zJ,Zee hlt,ZaC,ZbU,Zad,SB.o,ZaC,ZfF,on_F hN lg lc S e1 e2 wh now hnow]
  by_cases h0:checkS k.p k.gs k.cs (spF k.p k.a tw) l[v] now=0
  ·have S1:=SB.on l[v] (w:=wkF k.w (tw ++ [l[v]])) (Zfi _ S.w)
   have K1:=K.trans (Keep.seti i j st1 ({s1 with b:=spF k.p k.a (tw ++ [l[v]]),bw:=nw (wkF k.w (tw ++ [l[v]]))}:Sy).ll)
   rw [show behind s1.p s1.b l[v]=spF k.p k.a (tw ++ [l[v]]) by rw [S.p,e1,ZhK]] at S1
   rw [if_pos h0,Zad]
   dsimp only
   rw [if_neg (by simp),S1.o,ZaC,ZfF]
   dsimp only
   generalize (st1.set i ({s1 with b:=spF k.p k.a (tw ++ [l[v]]),bw:=nw (wkF k.w (tw ++ [l[v]]))}:Sy).ll)=st2 at S1 K1 ⊢
   have fin : ∀(st3:LL) (b3:Zax) (x:Int) (u:Bool),SyB k.gs k.cs st3 i j {s1 with b:=spF k.p k.a (tw ++ [l[v]]),bw:=nw (wkF k.w (tw ++ [l[v]]))} b3 n (c+v)→Keep i j st st3→againA N k now seen (d || !decide (wkF k.w (tw ++ [l[v]])<k.mw)) (tw ++ [l[v]]) (l.drop (v+1))=R →
     BookF b3 (k.bt N seen)∧b3.Plan=k.plan→(d=false→b3.met=((k.bt N (tw ++ [l[v]])).length:Int)∧k.bt N (tw ++ [l[v]]) <+: k.bt N seen) →
     ∃r,Zap.p2 N G i now (rowH l) (v:Int) x u l[v] st3=some r∧r.1=R.1∧Keep i j st r.2∧∃s' b',s'.p=s.p∧s'.most=s.most∧s'.size=s.size∧SyB k.gs k.cs r.2 i j s' b' n (c+l.length)∧(r.1=0→SyF N k r.2 i j s' b' n (c+l.length) ⟨ph2 R.2.2,seen,R.2.1,told⟩):=by
    intro st3 b3 x u S3 K3 hA3 hbk hb3
    have S4:=S3.upd2 l[v] (if wkF k.w (tw ++ [l[v]])<k.mw then s1.ph else 3)
    rw [ZmH hN S3 (Zfi _ S.w) rfl S.mw.2 S.mw.1 (by omega),ZaE (by omega) (by omega)]
    dsimp only at S4 ⊢
    refine hG (m-1) _ (by omega) ⟨v+1,_,_,b3,(d || !decide (wkF k.w (tw ++ [l[v]])<k.mw)),tw ++ [l[v]],by rw [wW];rfl,by omega,
     ⟨S4,S.p,S.mw,fun _=>S.a (Zng d),S.w,S.most,hgt,?_,⟨by dsimp only;omega,by dsimp only;rw [zL,zZ];omega⟩,?_,?_,fun _=>⟨rfl,rfl,?_,?_⟩,?_⟩,K3.trans (Keep.seti _ _ _ _),ep,em,ez,hA3⟩
    ·dsimp only
     rw [hph]
     cases d<;>by_cases hwm:wkF k.w (tw ++ [l[v]])<k.mw<;>simp [ph2,hwm]
    ·exact fun _=>hbk
    ·intro h;exfalso
     revert h
     dsimp only
     generalize (d || !decide (wkF k.w (tw ++ [l[v]])<k.mw))=q
     cases q<;>simp [ph2]
    ·dsimp only
     rw [e3,List.drop_append_of_le_length e4];simp [rowH]
    ·dsimp only;rw [zL,zZ];omega
    ·intro h
     have hd:d=false:=by
      cases d with
      | false=>rfl
      | true=>simp [ph2] at h
     exact hb3 hd
   by_cases hp2:s1.ph=2
   ·have hd:d=false:=by
     cases d with
     | false=>rfl
     | true=>rw [hp2] at hph;simp [ph2] at hph
    subst hd
    obtain ⟨F,epl⟩:=S.bk (Zng false)
    obtain ⟨e5,e6⟩:=S.met rfl
    dsimp only at F epl e5 e6
    have hn1:(k.bt N seen).length<1000000:=by
     have h1:=Zgv N k.plan seen k.a.Point.Height
     show (btF N k.plan k.a.Point.Height seen).length<_
     omega
    obtain ⟨r,b2,ex,eM,F2,epl2,hr1,hr2⟩:=Meet_F hN S1.k F hn1 e5 e6 s1.b.Point.Height (Zlb l[v])
    have eb2:k.bt N tw++(if dueB b1.Plan s1.b.Point.Height=true then [bitI N b1.Plan (hid l[v])] else [])=k.bt N (tw ++ [l[v]]):=by
     unfold Lk.bt
     rw [ZgX,epl,hgt1]
    rw [eb2] at hr1 hr2
    have S2:=S1.give ex F2.ok (c':=c+v) (by
     have h1:=Zgv N k.plan seen k.a.Point.Height
     show (btF N k.plan k.a.Point.Height seen).length≤_
     omega) (zK _)
    rw [←(SB.bo).uniq F.ok] at S2
    have K2:=K1.trans (Keep.setj i j st2 b2.lo ex)
    rw [←SB.bk] at eM
    rw [if_pos (by simpa using hp2),ZeC (by omega) wh.w,Zad,eM,Zad]
    dsimp only
    cases r with
    | false=>
     rw [if_neg (by rintro ⟨_,h | h⟩;cases h;exact absurd (hr1.2 h) (by simp))] at hA
     rw [if_pos (by rfl)]
     exact ⟨_,rfl,by rw [←hA],K2,({s1 with b:=spF k.p k.a (tw ++ [l[v]]),bw:=nw (wkF k.w (tw ++ [l[v]]))}:Sy),b2,ep,em,ez,S2.more (by omega),fun h=>by simp at h⟩
    | true=>
     rw [if_pos ⟨h0,.inr (hr1.1 rfl)⟩] at hA
     rw [if_neg (by simp)]
     exact fin _ b2 _ _ S2 K2 hA ⟨F2,epl2.trans epl⟩ fun _=>⟨hr2 rfl,hr1.1 rfl⟩
   ·have hd:d=true:=by
     cases d with
     | true=>rfl
     | false=>rw [hph] at hp2;simp [ph2] at hp2
    subst hd
    rw [if_pos ⟨h0,.inl rfl⟩] at hA
    rw [if_neg (by simpa using hp2)]
    exact fin _ b1 _ _ S1 K1 hA (S.bk (Zng true)) fun h=>by cases h
  ·rw [if_neg (fun h=>h0 h.1)] at hA
   rw [if_neg h0,Zad]
   dsimp only
   rw [if_pos (by rfl)]
   exact ⟨_,rfl,by rw [←hA],K,s1,b1,ep,em,ez,SB.more (by omega),fun h=>by simp at h⟩
 ·rw [xT (by omega)] at hA
  unfold againA at hA
  rw [if_neg (by simp<;>omega)]
  rw [show c+v=c+l.length by omega] at S
  refine ⟨_,rfl,by rw [←hA],K,s1,b1,ep,em,ez,S.B,fun _=>?_⟩
  rw [←hA]
  exact S
end Go.Dn.F
namespace Go.Dn.F
open Go.Dn Go.Proofs
variable {N:Nat}
noncomputable def tellN (size:Int) (A:Ab):Nat:=if A.ph=3 then (A.tw.drop A.told).length else (A.tw.drop A.told).length-size.toNat
noncomputable def feedA (N:Nat) (k:Lk) (size now:Int) (more:Bool) (l:List Zaa) (A:Ab):List Zaa×Int×Ab:=
 if A.ph=0∨A.ph=3 then ([],9,A)
 else if now<0∨now>4294967296∨l.length>64 then ([],1,A)
 else if A.ph=1 then
  if (lookA N k now A.seen l).1≠0 then ([],(lookA N k now A.seen l).1,{A with ph:=0})
  else if more=false∧(lookA N k now A.seen l).2.2=false then ([],5,{A with ph:=0})
  else ([],0,⟨if (lookA N k now A.seen l).2.2=true then 2 else 1,(lookA N k now A.seen l).2.1,[],0⟩)
 else
  if (againA N k now A.seen false A.tw l).1≠0 then ([],(againA N k now A.seen false A.tw l).1,{A with ph:=0})
  else if more=false∧(againA N k now A.seen false A.tw l).2.2=false then ([],5,{A with ph:=0})
  else
   let B:Ab:=⟨ph2 (againA N k now A.seen false A.tw l).2.2,A.seen,(againA N k now A.seen false A.tw l).2.1,A.told⟩
   ((B.tw.drop B.told).take (tellN size B),0,{B with told:=B.told+tellN size B})
theorem SyF.more {k:Lk} {st:LL} {i j:Nat} {s:Sy} {b:Zax} {n c c':Nat} {A:Ab} (S:SyF N k st i j s b n c A) (h:c≤c'):SyF N k st i j s b n c' A:=
 ⟨S.B.more h,S.p,S.mw,S.a,S.w,S.most,S.ht,S.ph,⟨xP S.ls.1 h,xP S.ls.2 h⟩,S.bk,S.one,S.two,S.met⟩
theorem free_F {k:Lk} {st:LL} {i j:Nat} {s:Sy} {b:Zax} {n c:Nat} {A:Ab} (S:SyF N k st i j s b n c A) (hph:A.ph=1∨A.ph=2∨A.ph=3) (hc:c≤900000) :
  ∃st' s',ZaI N (some i) st=some (rowH ((A.tw.drop A.told).take (tellN s.size A)),st')∧SyF N k st' i j s' b n c {A with told:=A.told+tellN s.size A}∧Keep i j st st'∧s'.p=s.p∧s'.most=s.most∧s'.size=s.size:=by
 have sz:=S.B.sz
 have eb:s.buf=rowH (A.tw.drop A.told):=by
  rcases hph with h | h
  ·obtain ⟨_,_,h3,_,h5,_⟩:=S.one h
   rw [h3,h5];simp [rowH]
  ·exact (S.two h).2.2.1
 have htw:=S.ls.2
 have hto:A.told≤A.tw.length:=by
  rcases hph with h | h
  ·obtain ⟨_,_,h3,_,h5,h6⟩:=S.one h
   omega
  ·exact (S.two h).2.2.2
 have lb:s.buf.length=A.tw.length-A.told:=by rw [eb,ZcX,wA]
 have main : ∀kk:Nat,kk≤A.tw.length-A.told→ZaI.p1 N i (kk:Int) st=some (rowH ((A.tw.drop A.told).take kk),st.set i ({s with buf:=rowH (A.tw.drop (A.told+kk))}:Sy).ll) ∧
   SyF N k (st.set i ({s with buf:=rowH (A.tw.drop (A.told+kk))}:Sy).ll) i j {s with buf:=rowH (A.tw.drop (A.told+kk))} b n c {A with told:=A.told+kk}:=by
  intro kk hk
  rw [Zly S.B.o,zJ,Zah (by omega),Zah (by omega),Zah (by rw [xH,yT];omega),Zah (by omega),Zah (by rw [xH,yT];omega)]
  have e2 : []++(s.buf.drop (0+kk)).take (s.buf.length-kk)=rowH (A.tw.drop (A.told+kk)):=by
   rw [xH,yG,zX (by rw [wA];omega),eb]
   simp [rowH,List.map_drop]
  have e3 : []++s.buf.take kk=rowH ((A.tw.drop A.told).take kk):=by rw [xH,eb];simp [rowH,List.map_take]
  rw [e2,e3]
  refine ⟨rfl,⟨S.B.upd ({s with buf:=rowH (A.tw.drop (A.told+kk))}:Sy) rfl rfl rfl rfl rfl S.B.wb S.B.bw ⟨_,rfl,by rw [wA];omega⟩ (zK _),S.p,S.mw,S.a,S.w,S.most,S.ht,S.ph,S.ls,S.bk,fun h=>?_,fun h=>?_,S.met⟩⟩
  ·obtain ⟨h1,h2,h3,h4,h5,h6⟩:=S.one h
   have h5':A.tw.length=0:=by rw [h5];rfl
   exact ⟨h1,h2,by dsimp only;rw [h5];simp [rowH],h4,h5,by dsimp only;omega⟩
  ·obtain ⟨h1,h2,h3,h4⟩:=S.two h
   exact ⟨h1,h2,rfl,by dsimp only;omega⟩
 have key:ZaI N (some i) st=ZaI.p1 N i ((tellN s.size A:Nat):Int) st:=by
  rw [free_unf S.B.o,show len s.buf=((A.tw.length-A.told:Nat):Int) by rw [len,lb],S.ph]
  unfold tellN
  rw [wA]
  by_cases h3:A.ph=3
  ·rw [if_pos (by simpa using h3),if_pos h3]
  ·rw [if_neg (by simpa using h3),if_neg h3,ZaE (by omega) (by omega)]
   by_cases hz:(0:Int)>((A.tw.length-A.told:Nat):Int)-s.size
   ·rw [if_pos hz,show (A.tw.length-A.told)-s.size.toNat=0 by omega];rfl
   ·rw [if_neg hz];congr 1;omega
 have hle:tellN s.size A≤A.tw.length-A.told:=by
  unfold tellN
  rw [wA]
  split<;>omega
 obtain ⟨h1,h2⟩:=main _ hle
 exact ⟨_,_,key.trans h1,h2,Keep.seti _ _ _ _,rfl,rfl,rfl⟩
theorem fail_F {k:Lk} {st:LL} {i j:Nat} {s:Sy} {b:Zax} {n c:Nat} {A:Ab} (S:SyB k.gs k.cs st i j s b n c) (hp:s.p=k.p) (mw:s.p.MinWork=nw k.mw∧isN k.mw) (w:isN k.w) (most:s.most=k.most) (ht:0≤k.a.Point.Height∧k.a.Point.Height≤1000000) (ls:A.seen.length≤c∧A.tw.length≤c) (e:Int) :
  ∃st' s',ZbL N (some i) e st=some ([],e,st')∧SyF N k st' i j s' b n c {A with ph:=0}∧Keep i j st st'∧s'.p=s.p∧s'.most=s.most∧s'.size=s.size:=by
 rw [fail_unf S.o]
 refine ⟨_,({s with ph:=0,buf:=[]}:Sy),rfl,?_,Keep.seti _ _ _ _,rfl,rfl,rfl⟩
 exact {
  B:=S.upd ({s with ph:=0,buf:=[]}:Sy) rfl rfl rfl rfl rfl S.wb S.bw ⟨[],rfl,by simp⟩ (zK _)
  p:=hp,mw:=mw,a:=fun h=>absurd rfl h,w:=w,most:=most,ht:=ht,ph:=rfl,ls:=ls
  bk:=fun h=>absurd rfl h
  one:=fun h=>by cases h
  two:=fun h=>by rcases h with h | h<;>cases h
  met:=fun h=>by cases h}
theorem Feed_F (hN:1000≤N) {k:Lk} (lg:k.gs.length≤400) (lc:k.cs.length≤400) {st:LL} {i j:Nat} {s:Sy} {b:Zax} {n c:Nat} {A:Ab} (S:SyF N k st i j s b n c A) (hph:A.ph=0∨A.ph=1∨A.ph=2∨A.ph=3) (hc:c≤700000) (l:List Zaa) (hl : ∀x∈l,WfH x) (now:Int) (more:Bool) :
  ∃st' s' b' n',ZaP N (some i) now more (rowH l) st=some (rowH (feedA N k s.size now more l A).1,(feedA N k s.size now more l A).2.1,st')∧SyF N k st' i j s' b' n' (c+64) (feedA N k s.size now more l A).2.2 ∧
   (feedA N k s.size now more l A).2.2.ph∈([0,1,2,3]:List Int)∧Keep i j st st'∧s'.p=s.p∧s'.most=s.most∧s'.size=s.size:=by
 have SB:=S.B
 have same : ∀e:Int,∃st' s' b' n',(some (([]:LL),e,st):Option (LL×Int×LL))=some (rowH [],e,st')∧SyF N k st' i j s' b' n' (c+64) A∧A.ph∈([0,1,2,3]:List Int)∧Keep i j st st'∧s'.p=s.p∧s'.most=s.most∧s'.size=s.size:=fun e=>
  ⟨_,s,b,n,rfl,S.more (by omega),by simp;omega,Keep.rfl' _ _ _,rfl,rfl,rfl⟩
 unfold ZaP feedA
 rw [if_neg (by simp),Zad,SB.o,ZaC,ZfF,S.ph]
 by_cases p0:A.ph=0
 ·rw [if_pos (by simpa using p0),if_pos (.inl p0)];exact same 9
 rw [if_neg (by simpa using p0)]
 by_cases p3:A.ph=3
 ·rw [if_pos (by simpa using p3),if_pos (.inr p3)];exact same 9
 rw [if_neg (by simpa using p3),if_neg (c:=A.ph=0∨A.ph=3) (by simp [p0,p3])]
 by_cases n0:now<0
 ·rw [if_pos (by simpa using n0),if_pos (.inl n0)];exact same 1
 rw [if_neg (by simpa using n0)]
 by_cases n1:now>4294967296
 ·rw [if_pos (by simpa using n1),if_pos (.inr (.inl n1))];exact same 1
 rw [if_neg (by simpa using n1),ZdJ]
 by_cases n2:(l.length:Int)>64
 ·rw [if_pos (by simpa using n2),if_pos (.inr (.inr (by omega)))];exact same 1
 rw [if_neg (by simpa using n2),if_neg (c:=now<0∨now>4294967296∨l.length>64) (by omega)]
 by_cases p1:A.ph=1
 ·obtain ⟨⟨e,st1⟩,e1,e2,K,s1,b1,n1',q1,q2,q3,B1,hS⟩:=look_F hN lg lc S p1 l hl (by omega) (by omega) now (by omega)
  dsimp only at e2 K B1 hS
  rw [if_pos (by simpa using p1),e1,Zad,if_pos p1]
  dsimp only
  unfold ZaP.p1
  have bad : ∀e0:Int,∃st' s' b' n',(optE (ZbL N (some i) e0 st1) fun (x:LL×Int×LL)=>some (x.1,x.2.1,x.2.2))=some (rowH [],e0,st')∧SyF N k st' i j s' b' n' (c+64) {A with ph:=0}∧(0:Int)∈([0,1,2,3]:List Int)∧Keep i j st st'∧s'.p=s.p∧s'.most=s.most∧s'.size=s.size:=by
   intro e0
   obtain ⟨st2,s2,f1,f2,f3,f4,f5,f6⟩:=fail_F (N:=N) (k:=k) (A:=A) (B1.more (c':=c+64) (by omega)) (q1.trans S.p) (by rw [q1];exact S.mw) S.w (q2.trans S.most) S.ht ⟨by have:=S.ls.1;omega,by have:=S.ls.2;omega⟩ e0
   rw [f1,Zad]
   exact ⟨_,s2,b1,_,rfl,f2,by simp,K.trans f3,f4.trans q1,f5.trans q2,f6.trans q3⟩
  rw [←e2]
  by_cases h0:e=0
  ·have S1:=(hS h0).more (c':=c+64) (by omega)
   rw [if_neg (by simp [h0]),if_neg (c:=e≠0) (by simp [h0])]
   generalize hR:lookA N k now A.seen l=R at S1 ⊢
   have good : ∃st' s' b' n',(optE (ZaI N (some i) st1) fun (x:LL×LL)=>some (x.1,(0:Int),x.2))=some (rowH [],0,st')∧SyF N k st' i j s' b' n' (c+64) ⟨if R.2.2=true then 2 else 1,R.2.1,[],0⟩∧(if R.2.2=true then (2:Int) else 1)∈([0,1,2,3]:List Int)∧Keep i j st st'∧s'.p=s.p∧s'.most=s.most∧s'.size=s.size:=by
    obtain ⟨st2,s2,f1,f2,f3,f4,f5,f6⟩:=free_F (N:=N) S1 (by dsimp only;split<;>simp) (by omega)
    rw [f1,Zad]
    exact ⟨_,s2,b1,_,by simp,by simpa [tellN] using f2,by split<;>simp,K.trans f3,f4.trans q1,f5.trans q2,f6.trans q3⟩
   cases more with
   | false=>
    rw [if_pos (by rfl),S1.B.o,ZaC,ZfF,S1.ph]
    dsimp only
    cases hb:R.2.2 with
    | false=>
     rw [if_pos (by simp [p1]),if_pos ⟨rfl,rfl⟩];exact bad 5
    | true=>
     rw [hb] at good
     rw [if_neg (by simp [p1]),if_neg (c:=false=false∧true=false) (by simp)];exact good
   | true=>rw [if_neg (by simp),if_neg (c:=true=false∧R.2.2=false) (by simp)];exact good
  ·rw [if_pos (by simpa using h0),if_pos (c:=e≠0) h0];exact bad e
 ·have p2:A.ph=2:=by rcases hph with h | h | h | h<;>first | exact h | contradiction
  obtain ⟨⟨e,st1⟩,e1,e2,K,s1,b1,q1,q2,q3,B1,hS⟩:=again_F hN lg lc S p2 l hl (by omega) (by omega) now (by omega)
  dsimp only at e2 K B1 hS
  rw [if_neg (by simpa using p1),e1,Zad,if_neg p1]
  dsimp only
  unfold ZaP.p1
  have bad : ∀e0:Int,∃st' s' b' n',(optE (ZbL N (some i) e0 st1) fun (x:LL×Int×LL)=>some (x.1,x.2.1,x.2.2))=some (rowH [],e0,st')∧SyF N k st' i j s' b' n' (c+64) {A with ph:=0}∧(0:Int)∈([0,1,2,3]:List Int)∧Keep i j st st'∧s'.p=s.p∧s'.most=s.most∧s'.size=s.size:=by
   intro e0
   obtain ⟨st2,s2,f1,f2,f3,f4,f5,f6⟩:=fail_F (N:=N) (k:=k) (A:=A) (B1.more (c':=c+64) (by omega)) (q1.trans S.p) (by rw [q1];exact S.mw) S.w (q2.trans S.most) S.ht ⟨by have:=S.ls.1;omega,by have:=S.ls.2;omega⟩ e0
   rw [f1,Zad]
   exact ⟨_,s2,b1,_,rfl,f2,by simp,K.trans f3,f4.trans q1,f5.trans q2,f6.trans q3⟩
  rw [←e2]
  by_cases h0:e=0
  ·have S1:=(hS h0).more (c':=c+64) (by omega)
   rw [if_neg (by simp [h0]),if_neg (c:=e≠0) (by simp [h0])]
   generalize hR:againA N k now A.seen false A.tw l=R at S1 ⊢
   have good : ∃st' s' b' n',(optE (ZaI N (some i) st1) fun (x:LL×LL)=>some (x.1,(0:Int),x.2))=some (rowH ((R.2.1.drop A.told).take (tellN s.size ⟨ph2 R.2.2,A.seen,R.2.1,A.told⟩)),0,st')∧SyF N k st' i j s' b' n' (c+64) ⟨ph2 R.2.2,A.seen,R.2.1,A.told+tellN s.size ⟨ph2 R.2.2,A.seen,R.2.1,A.told⟩⟩∧ph2 R.2.2∈([0,1,2,3]:List Int)∧Keep i j st st'∧s'.p=s.p∧s'.most=s.most∧s'.size=s.size:=by
    obtain ⟨st2,s2,f1,f2,f3,f4,f5,f6⟩:=free_F (N:=N) S1 (by dsimp only;cases R.2.2<;>simp [ph2]) (by omega)
    rw [q3] at f1 f2
    rw [f1,Zad]
    exact ⟨_,s2,b1,_,rfl,f2,by cases R.2.2<;>simp [ph2],K.trans f3,f4.trans q1,f5.trans q2,f6.trans q3⟩
   cases more with
   | false=>
    rw [if_pos (by rfl),S1.B.o,ZaC,ZfF,S1.ph]
    dsimp only
    cases hb:R.2.2 with
    | false=>
     rw [if_pos (by simp [p2,ph2]),if_pos ⟨rfl,rfl⟩];exact bad 5
    | true=>
     rw [hb] at good
     rw [if_neg (by simp [p2,ph2]),if_neg (c:=false=false∧true=false) (by simp)];exact good
   | true=>rw [if_neg (by simp),if_neg (c:=true=false∧R.2.2=false) (by simp)];exact good
  ·rw [if_pos (by simpa using h0),if_pos (c:=e≠0) h0];exact bad e
theorem SyB.app {gs:List Zck} {cs:List ZbO} {st:LL} {i j:Nat} {s:Sy} {b:Zax} {n c:Nat} (B:SyB gs cs st i j s b n c) (x:LL):SyB gs cs (st++x) i j s b n c:=
 ⟨ZfV B.o,ZfV B.k,B.bk,B.ij,B.hg,B.hc,B.mw,B.wa,B.wb,B.sw,B.bw,B.bo,B.nc,B.bu,B.sz⟩
theorem SyF.app {k:Lk} {st:LL} {i j:Nat} {s:Sy} {b:Zax} {n c:Nat} {A:Ab} (S:SyF N k st i j s b n c A) (x:LL):SyF N k (st++x) i j s b n c A:=
 ⟨S.B.app x,S.p,S.mw,S.a,S.w,S.most,S.ht,S.ph,S.ls,S.bk,S.one,S.two,S.met⟩
theorem Zmn (p:Zak) (l:List Zaa) (h:Zaa):spotA p (l ++ [h])=behind p (spotA p l) h:=by simp [spotA]
theorem Zkh (p:Zak) (a l:List Zaa):spF p (spotA p a) l=spotA p (a++l):=by simp [spF,spotA]
def Short (k:Lk) (L:List Zaa) (n:Nat):Prop:=∀i,i<n→i<L.length→wkF k.w (L.take (i+1))<k.mw
def First (k:Lk) (L:List Zaa) (d:Nat):Prop:=d<L.length∧Short k L d∧¬ wkF k.w (L.take (d+1))<k.mw
theorem ZlF {L:List Zaa} {a:Nat} (h:a<L.length):L.take a ++ [L[a]]=L.take (a+1):=by rw [List.take_add_one,zQ h];rfl
theorem Zku {p:Zbo} (hp:planOk p) (h:Int):ZdQ N p.Period p.Offset h=some (dueB p h):=by
 obtain ⟨h1,h2,h3,h4⟩:=hp
 unfold ZdQ dueB
 rw [if_pos (by simpa using h1),if_pos (by simpa using h2),if_pos (by simpa using h3),if_pos (by simpa using h4)]
 by_cases h0:h≥0
 ·rw [if_pos (by simpa using h0),Zah (by omega),decide_eq_true h0,wZ]
 ·rw [if_neg (by simpa using h0),decide_eq_false h0,Bool.false_and]
theorem and8 (y:UInt8):bitsOf .and .u8 (byI y) 1=zR (byI y) 2:=by
 have : ∀n:Fin 256,bitsOf .and .u8 (n.val:Int) 1=zR (n.val:Int) 2:=by decide +kernel
 exact this ⟨y.toNat,y.toNat_lt⟩
theorem bitI_val (hN:1000≤N) (p:Zbo) {b:Bs} (hb:b.length=32):bitI N p (b.map byI)=bitV p b:=by
 obtain ⟨e1,h1⟩:=ZnV (N:=N) hN p ((ZhW _).2 ⟨b,rfl,hb⟩) []
 obtain ⟨e2,h2⟩:=ZnU (N:=N) hN p hb []
 rw [h1] at h2
 simp only [Option.some.injEq,Prod.mk.injEq] at h2
 exact h2.1
theorem Zkv (hN:1000≤N) (p:Zbo) {id_:List Int} (h:wfB id_=true):ZdR N p.Salt id_=some (bitI N p id_):=by
 obtain ⟨b,rfl,hb⟩:=(ZhW id_).1 h
 have l8:(le (szOf 8) p.Salt).length=8:=by rw [Zff];rfl
 unfold ZdR
 rw [ZeP (by omega),Zad,Zhh (by omega) _ hb,Zad,ZcH,ZcH,Zah (by omega),Zdr,Zhz _ (by rw [zL];omega) (by rw [zL];omega),Zad,bitI_val hN p hb]
 unfold bitV
 have e:([] ++ [p.Salt].flatMap (le (szOf 8))) ++ [b].flatten=le (szOf 8) p.Salt++b:=by simp
 rw [e]
 congr 1
 have hl:(sha2 (le (szOf 8) p.Salt++b)).length=32:=Zju _
 cases hs:sha2 (le (szOf 8) p.Salt++b) with
 | nil=>rw [hs] at hl;simp at hl
 | cons y r=>simp only [xA,List.getD_cons_zero];rw [and8]
noncomputable def rowBo (l:List Bool):LL:=l.map fun b=>[L.bool b]
theorem Znd (l:List Bool):(rowBo l).length=l.length:=by simp [rowBo]
theorem ZgK (l:List Bool):len (rowBo l)=(l.length:Int):=by simp [len,rowBo]
theorem Zkq {l:List Bool} {i:Nat} (h:i<l.length):(rowBo l)[i]? = some [L.bool l[i]]:=by simp [rowBo,h]
theorem Zmq (l:List Bool) (b:Bool):rowBo l ++ [[L.bool b]]=rowBo (l ++ [b]):=by simp [rowBo]
theorem Zfz (l:List Bool):plainRow (rowBo l)=true:=by simp [plainRow,rowBo,L.plain]
theorem Zms (l:List Zaa):plainRow (rowH l)=true:=by simp [plainRow,rowH,Zaa.ls,L.plain]
structure RefM (k:Lk) (size:Int) (bl:Nat) (m:Zab) (sn tw:List Zaa) (told:Nat) (ph:Int):Prop where
 p:m.P=k.p
 base : ∃base:List Zaa,m.Base=rowH base∧base.length=bl∧0<bl∧bl≤30∧(∀x∈base,wfH x=true)∧k.a=spotA k.p base∧k.w=wkF 0 base
 seen:m.Seen=rowH sn
 tw:m.Twice=rowH tw
 told:m.Told=(told:Int)
 plan:m.Salt=k.plan.Salt∧m.Period=k.plan.Period∧m.Offset=k.plan.Offset∧planOk k.plan
 size:m.Size=size∧0≤size∧size≤1000
 most:m.Most=k.most
 mw:k.p.MinWork=nw k.mw∧isN k.mw
 ph:m.Phase=ph
theorem ZeU (hN:1000≤N) {k:Lk} {size:Int} {bl:Nat} {m:Zab} {sn tw:List Zaa} {told:Nat} {ph:Int} (R:RefM k size bl m sn tw told ph) (l:List Zaa) (hl:l.length≤900) (hw : ∀x∈l,wfH x=true) :
  Zaw N m (rowH l)=some (rowBo (k.bt N l)):=by
 obtain ⟨base,eb,lb,b0,b30,wb,ea,ew⟩:=R.base
 have hh:k.a.Point.Height=(bl:Int):=by rw [ea,ZeN _ _ (by omega),lb]
 unfold Zaw
 refine Zcd (fun q (x:LL×Int)=>∃v:Nat,x=(rowBo (k.bt N (l.take v)),(v:Int))∧v+q=l.length) ?_ N l.length _ ⟨0,by rw [List.take_zero];rfl,by omega⟩ (by omega)
 rintro G q _ ⟨v,rfl,hv⟩ hG
 unfold Zaw.p1 Zaw.p2
 dsimp only
 rw [ZdJ]
 by_cases hlt:v<l.length
 ·have wh:=hw _ (yQ hlt)
  have lt:(l.take v).length=v:=by rw [yT];omega
  have bb:(k.bt N (l.take (v+1))).length≤v+1:=by
   have:=Zgv N k.plan (l.take (v+1)) k.a.Point.Height
   rw [yT] at this
   show (btF N k.plan k.a.Point.Height (l.take (v+1))).length≤_
   omega
  have es:k.bt N (l.take (v+1))=k.bt N (l.take v)++(if dueB k.plan ((bl:Int)+v)=true then [bitI N k.plan (hid l[v])] else []):=by
   rw [←ZlF hlt];unfold Lk.bt;rw [ZgX,lt,hh]
  rw [if_pos (by simp only [decide_eq_true_eq];omega),Zah (by omega),zJ,Zee hlt,ZaC,ZbU,R.plan.2.1,R.plan.2.2.1,eb,ZdJ,lb,ZaE (by omega) (by omega),Zku R.plan.2.2.2,Zad,ZaE (by omega) (by omega)]
  cases hd:dueB k.plan ((bl:Int)+v) with
  | true=>
   rw [hd,if_pos rfl] at es
   rw [if_pos rfl,ZgG (by omega) _ wh,Zad,R.plan.1,Zkv hN _ (Zlb _),Zad,Zmq,←es,Zah (by rw [Znd];omega)]
   exact hG (q-1) _ (by omega) ⟨v+1,by rw [wW];rfl,by omega⟩
  | false=>
   rw [hd,if_neg (by simp),xX] at es
   rw [if_neg (by simp),←es]
   exact hG (q-1) _ (by omega) ⟨v+1,by rw [wW];rfl,by omega⟩
 ·rw [if_neg (by simp only [decide_eq_true_eq];omega),zX (by omega)]
theorem ZjB (hN:1000≤N) (l:List Zaa) (hl:l.length≤900):Zca N (rowH l)=some (nw (wkF 0 l)):=by
 unfold Zca
 refine Zcd (fun q (x:Int×List Int)=>∃v:Nat,x=((v:Int),nw (wkF 0 (l.take v)))∧v+q=l.length) ?_ N l.length _ ⟨0,rfl,by omega⟩ (by omega)
 rintro G q _ ⟨v,rfl,hv⟩ hG
 unfold Zca.p1
 dsimp only
 rw [ZdJ]
 by_cases hlt:v<l.length
 ·rw [if_pos (by simp only [decide_eq_true_eq];omega),Zah (by omega),zJ,Zee hlt,ZaC,ZbU,Zfa (by omega),Zad,ZhA (by omega) (Zfi _ ⟨by omega,by omega⟩) (Zeu _),Zad,←ZhJ,ZlF hlt,ZaE (by omega) (by omega)]
  exact hG (q-1) _ (by omega) ⟨v+1,rfl,by omega⟩
 ·rw [if_neg (by simp only [decide_eq_true_eq];omega),zX (by omega)]
theorem ZgH (a b:List Zaa) (h:a.length+b.length≤1000000):ZcP N (rowH a) (rowH b)=some (rowH (a++b)):=by
 unfold ZcP
 rw [Zah (by rw [xH,ZcX];omega),Zah (by rw [xH,zL,ZcX,ZcX];omega),xH]
 unfold rowH;rw [List.map_append]
theorem ZfM (hN:1000≤N) {k:Lk} {size:Int} {bl:Nat} {m:Zab} {sn tw:List Zaa} {told:Nat} {ph:Int} (R:RefM k size bl m sn tw told ph) (l:List Zaa) (hl:l.length≤800) :
  ZbM N m (rowH l)=some (!decide (wkF k.w l<k.mw)):=by
 obtain ⟨base,eb,lb,b0,b30,wb,ea,ew⟩:=R.base
 have e:wkF 0 (base++l)=wkF k.w l:=by rw [ew];simp [wkF]
 unfold ZbM
 rw [eb,ZgH _ _ (by omega),Zad,ZjB hN _ (by rw [zL];omega),Zad,R.p,R.mw.1,Zet (by omega) (Zfi _ ⟨by omega,by omega⟩) R.mw.2,Zad,e]
theorem Zgk (hN:1000≤N) {k:Lk} {size:Int} {bl:Nat} {m:Zab} {sn tw:List Zaa} {told:Nat} {ph:Int} (R:RefM k size bl m sn tw told ph) (hg:k.p.Gates=rowG k.gs) (lg:k.gs.length≤400) (hc:k.p.Checks=rowC k.cs) (lc:k.cs.length≤400)
  (l:List Zaa) (hl:l.length≤770) (hw : ∀x∈l,wfH x=true) {h:Zaa} (wh:wfH h=true) (now:Int) (hnow:0≤now∧now≤9223372036854775807) {α:Type} (f:Int→Option α) :
  (optE (ZcP N m.Base (rowH l)) fun x=>chk (plainRow x=true) (optE (Zaq N m.P x h now) f))=f (checkS k.p k.gs k.cs (spF k.p k.a l) h now):=by
 obtain ⟨base,eb,lb,b0,b30,wb,ea,ew⟩:=R.base
 rw [eb,ZgH _ _ (by omega),Zad,Zah (Zms _),R.p,ZiK (by omega) hg lg hc lc _ (by rw [zL];omega) (by rw [zL];omega) (fun x hx=>by
  rcases List.mem_append.1 hx with h | h
  ·exact wb x h
  ·exact hw x h) wh now hnow,Zad,ea,Zkh]
theorem Zey {st:LL} {im:Nat} {m:Zab} (hm:st[im]? = some m.lo) (e:Int):Zbs N (some im) e st=some ([],e,st.set im (Zab.lo {m with Phase:=0})):=by
 unfold Zbs
 rw [Zad,hm,ZaC,Zbg]
structure FinR (k:Lk) (size:Int) (bl:Nat) (st:LL) (im c:Nat) (X:List Zaa×Int×Ab) (r:LL×Int×LL):Prop where
 out:r.1=rowH X.1
 err:r.2.1=X.2.1
 m : ∃(m:Zab) (sn tw:List Zaa) (told:Nat),r.2.2=st.set im m.lo∧RefM k size bl m sn tw told X.2.2.ph∧sn.length≤c∧tw.length≤c∧(X.2.2.ph≠0→sn=X.2.2.seen∧tw=X.2.2.tw∧told=X.2.2.told)
section
variable {k:Lk} {size:Int} {bl:Nat} {m:Zab} {sn tw:List Zaa} {told:Nat} {ph:Int}
theorem RefM.phase (R:RefM k size bl m sn tw told ph) (p:Int):RefM k size bl {m with Phase:=p} sn tw told p:=
 ⟨R.p,R.base,R.seen,R.tw,R.told,R.plan,R.size,R.most,R.mw,rfl⟩
theorem RefM.see (R:RefM k size bl m sn tw told ph) (h:Zaa):RefM k size bl {m with Seen:=m.Seen ++ [h.ls]} (sn ++ [h]) tw told ph:=
 ⟨R.p,R.base,by dsimp only;rw [R.seen];simp [rowH],R.tw,R.told,R.plan,R.size,R.most,R.mw,R.ph⟩
theorem RefM.twice (R:RefM k size bl m sn tw told ph) (h:Zaa):RefM k size bl {m with Twice:=m.Twice ++ [h.ls]} sn (tw ++ [h]) told ph:=
 ⟨R.p,R.base,R.seen,by dsimp only;rw [R.tw];simp [rowH],R.told,R.plan,R.size,R.most,R.mw,R.ph⟩
theorem RefM.tell (R:RefM k size bl m sn tw told ph) (n:Nat) (x:Int) (e:x=(n:Int)):RefM k size bl {m with Told:=x} sn tw n ph:=
 ⟨R.p,R.base,R.seen,R.tw,e,R.plan,R.size,R.most,R.mw,R.ph⟩
theorem Zij {st0:LL} {im c:Nat} (him:im<st0.length) (R:RefM k size bl m sn tw told ph) (hto:told≤tw.length) (hc:tw.length≤100000) (lc:sn.length≤c∧tw.length≤c) :
  ∃r,Zaf.p5 N im (st0.set im m.lo)=some r∧FinR k size bl st0 im c ((tw.drop told).take (tellN size ⟨ph,sn,tw,told⟩),0,⟨ph,sn,tw,told+tellN size ⟨ph,sn,tw,told⟩⟩) r:=by
 have sz:=R.size
 have lt:m.Twice.length=tw.length:=by rw [R.tw,ZcX]
 have lt':len m.Twice=(tw.length:Int):=by rw [R.tw,ZdJ]
 have go : ∀(x:Int) (n:Nat),x=(n:Int)→told≤n→n≤tw.length→n=told+tellN size ⟨ph,sn,tw,told⟩→∃r,Zaf.p6 N im m (st0.set im (Zab.lo {m with Told:=x}))=some r∧FinR k size bl st0 im c ((tw.drop told).take (tellN size ⟨ph,sn,tw,told⟩),0,⟨ph,sn,tw,told+tellN size ⟨ph,sn,tw,told⟩⟩) r:=by
  intro x n hx h1 h2 h3
  unfold Zaf.p6
  rw [zN him,ZaC,Zbg]
  dsimp only
  rw [R.told,hx,zJ,zJ,Zah (by omega),Zah (by omega),Zah h1,lt,Zah h2,Zah (by omega),yG]
  refine ⟨_,rfl,?_,rfl,_,sn,tw,n,rfl,R.tell n _ rfl,lc.1,lc.2,fun _=>⟨rfl,rfl,h3⟩⟩
  dsimp only
  rw [R.tw,show n-told=tellN size ⟨ph,sn,tw,told⟩ by omega]
  simp [rowH,List.map_drop,List.map_take]
 unfold Zaf.p5
 simp only [R.ph,R.size.1] at go
 rw [zN him,ZaC,Zbg,lt',R.told,R.ph,R.size.1,ZaE (by omega) (by omega)]
 by_cases h3:ph=3
 ·rw [if_pos (by simpa using h3),yJ,yJ]
  exact go _ tw.length rfl hto (zK _) (by unfold tellN;rw [if_pos h3,wA];dsimp only;omega)
 ·rw [if_neg (by simpa using h3),yJ]
  by_cases hz:((tw.length:Int)-size)>(told:Int)
  ·rw [if_pos hz]
   exact go _ (tw.length-size.toNat) (by omega) (by omega) (by omega) (by unfold tellN;rw [if_neg h3,wA];dsimp only;omega)
  ·rw [if_neg hz]
   exact go _ told rfl (zK _) hto (by unfold tellN;rw [if_neg h3,wA];dsimp only;omega)
end
theorem ZjC (hN:1000≤N) {k:Lk} {size:Int} {bl:Nat} (hg:k.p.Gates=rowG k.gs) (lg:k.gs.length≤400) (hc:k.p.Checks=rowC k.cs) (lc:k.cs.length≤400) {m:Zab} {sn:List Zaa} (R:RefM k size bl m sn [] 0 1)
  {st:LL} {im:Nat} (hm:st[im]? = some m.lo) (now:Int) (hnow:0≤now∧now≤9223372036854775807) (more:Bool) (l:List Zaa) (hl : ∀x∈l,WfH x) (h64:l.length≤64) (hsn:sn.length≤704) (wsn : ∀x∈sn,wfH x=true) {c:Nat} (hcc:sn.length+64≤c) (B:Ab) :
  ∃r,loopN (Zaf.p1 N im now more m (rowH l)) N (0,st)=some r∧FinR k size bl st im c
   (if (lookA N k now sn l).1≠0 then ([],(lookA N k now sn l).1,{B with ph:=0}) else if more=false∧(lookA N k now sn l).2.2=false then ([],5,{B with ph:=0}) else ([],0,⟨if (lookA N k now sn l).2.2=true then 2 else 1,(lookA N k now sn l).2.1,[],0⟩)) r:=by
 have him:=(List.getElem?_eq_some_iff.1 hm).1
 generalize hR:lookA N k now sn l=Z
 have sz:=R.size
 refine Zeb (Q:=fun r=>FinR k size bl st im c (if Z.1≠0 then ([],Z.1,{B with ph:=0}) else if more=false∧Z.2.2=false then ([],5,{B with ph:=0}) else ([],0,⟨if Z.2.2=true then 2 else 1,Z.2.1,[],0⟩)) r)
  (fun q (x:Int×LL)=>∃(v:Nat) (mv:Zab) (sv:List Zaa) (d:Bool),x=((v:Int),st.set im mv.lo)∧v+q=l.length∧RefM k size bl mv sv [] 0 (if d=true then 2 else 1)∧(if d=true then Z=(0,sv,true) else lookA N k now sv (l.drop v)=Z)∧sv.length≤sn.length+v∧(∀x∈sv,wfH x=true)) ?_ N l.length _
  ⟨0,m,sn,false,by rw [Zga hm];rfl,by omega,R,by rw [wV];exact hR,by omega,wsn⟩ (by omega)
 rintro G q _ ⟨v,mv,sv,d,rfl,hv,Rv,hZ,lv,wv⟩ hG
 have hx:(st.set im mv.lo)[im]? = some mv.lo:=zN him
 unfold Zaf.p1
 dsimp only
 rw [ZdJ,R.ph]
 by_cases hlt:v<l.length
 ·have wh:=hl _ (yQ hlt)
  rw [if_pos (by simp only [decide_eq_true_eq];omega),Zah (by omega),zJ,Zee hlt,ZaC,ZbU,if_pos (by rfl),hx,ZaC,Zbg]
  have next : ∀(mw:Zab) (sw:List Zaa) (d':Bool),RefM k size bl mw sw [] 0 (if d'=true then 2 else 1)→(if d'=true then Z=(0,sw,true) else lookA N k now sw (l.drop (v+1))=Z)→sw.length≤sn.length+(v+1)→(∀x∈sw,wfH x=true) →
    ∃r,Zaf.p2 N G im now more m (rowH l) (v:Int) l[v] (st.set im mw.lo)=some r∧FinR k size bl st im c (if Z.1≠0 then ([],Z.1,{B with ph:=0}) else if more=false∧Z.2.2=false then ([],5,{B with ph:=0}) else ([],0,⟨if Z.2.2=true then 2 else 1,Z.2.1,[],0⟩)) r:=by
   intro mw sw d' h1 h2 h3 h4
   unfold Zaf.p2 Zaf.p4
   rw [R.ph,if_neg (by decide),ZaE (by omega) (by omega)]
   exact hG (q-1) _ (by omega) ⟨v+1,mw,sw,d',by rw [wW];rfl,by omega,h1,h2,h3,h4⟩
  cases d with
  | true=>
   rw [if_neg (by rw [Rv.ph];decide)]
   exact next mv sv true Rv hZ (by omega) wv
  | false=>
   rw [if_neg (by simp)] at hZ
   rw [if_pos (by rw [Rv.ph];rfl)]
   rw [yN hlt] at hZ
   unfold lookA at hZ
   rw [Rv.seen,Zgk hN Rv hg lg hc lc sv (by omega) wv wh.w now hnow]
   by_cases h0:checkS k.p k.gs k.cs (spF k.p k.a sv) l[v] now=0
   ·rw [if_pos h0] at hZ
    have Rs:=Rv.see l[v]
    have es:rowH sv ++ [l[v].ls]=rowH (sv ++ [l[v]]):=by simp [rowH]
    rw [Rv.seen] at Rs
    rw [es] at Rs ⊢
    have ll:(sv ++ [l[v]]).length=sv.length+1:=by rw [zL,zZ]
    have wv2 : ∀x∈sv ++ [l[v]],wfH x=true:=fun x hx=>by
     rcases List.mem_append.1 hx with h | h
     ·exact wv x h
     ·simp only [vW] at h;rw [h];exact wh.w
    rw [if_neg (by simp [h0]),Zah (by rw [ZcX];omega),ZeU hN Rs _ (by omega) wv2,Zad,Zah (Zfz _),ZgK]
    by_cases h3:((k.bt N (sv ++ [l[v]])).length:Int)>k.most
    ·rw [if_pos h3] at hZ
     rw [if_pos (by rw [Rv.most];simpa using h3),yJ,yJ,Zey (zN him),Zad,yJ]
     rw [←hZ,if_pos (by simp)]
     exact ⟨_,rfl,rfl,rfl,_,_,_,0,rfl,Rs.phase 0,by omega,by simp,fun h=>absurd rfl h⟩
    ·rw [if_neg h3] at hZ
     rw [if_neg (by rw [Rv.most];simpa using h3),ZfM hN Rs _ (by omega),Zad]
     simp only [yJ]
     by_cases hw:wkF k.w (sv ++ [l[v]])<k.mw
     ·rw [if_pos hw] at hZ
      rw [decide_eq_true hw,if_neg (by simp)]
      exact next _ _ false Rs (by rw [if_neg (by simp)];exact hZ) (by omega) wv2
     ·rw [if_neg hw] at hZ
      rw [decide_eq_false hw,if_pos (by rfl)]
      exact next _ _ true (Rs.phase 2) (by rw [if_pos rfl];exact hZ.symm) (by omega) wv2
   ·rw [if_neg h0] at hZ
    rw [if_pos (by simpa using h0),Zey hx,Zad,yJ]
    rw [←hZ,if_pos (by simp)]
    exact ⟨_,rfl,rfl,rfl,_,_,_,0,rfl,Rv.phase 0,by omega,by simp,fun h=>absurd rfl h⟩
 ·rw [if_neg (by simp only [decide_eq_true_eq];omega)]
  have hZ':Z=(0,sv,d):=by
   cases d with
   | true=>simpa using hZ
   | false=>
    rw [if_neg (by simp),xT (by omega)] at hZ
    unfold lookA at hZ;exact hZ.symm
  have good : ∃r,Zaf.p5 N im (st.set im mv.lo)=some r∧FinR k size bl st im c ([],0,⟨if d=true then 2 else 1,sv,[],0⟩) r:=by
   have:=Zij (N:=N) (c:=c) him Rv (Nat.zero_le _) (by simp) ⟨by omega,by simp⟩
   have e:tellN size ⟨if d=true then 2 else 1,sv,[],0⟩=0:=by unfold tellN;split<;>simp
   rw [e] at this
   exact this
  rw [hZ']
  dsimp only
  rw [if_neg (c:=(0:Int)≠0) (by simp)]
  cases more with
  | false=>
   rw [if_pos (c:=(!false)=true) (by rfl),hx,ZaC,Zbg]
   cases d with
   | false=>
    rw [if_pos (c:=(mv.Phase==1)=true) (by rw [Rv.ph];rfl),Zey hx,Zad,yJ,if_pos (by simp)]
    exact ⟨_,rfl,rfl,rfl,_,_,_,0,rfl,Rv.phase 0,by omega,by simp,fun h=>absurd rfl h⟩
   | true=>rw [if_neg (c:=(mv.Phase==1)=true) (by rw [Rv.ph];decide),if_neg (by simp)];exact good
  | true=>rw [if_neg (c:=(!true)=true) (by simp),if_neg (by simp)];exact good
end Go.Dn.F
namespace Go.Dn.F
open Go.Dn Go.Proofs
variable {N:Nat}
theorem last_bit {tb bs x:List Bool} (h:tb <+: bs) (hx:x = []∨∃b,x = [b]):tb++x <+: bs↔¬ ((tb++x).length>bs.length∨((tb++x).length>0∧(tb++x)[(tb++x).length-1]? ≠ bs[(tb++x).length-1]?)):=by
 have pre:tb <+: bs→¬ (tb.length>bs.length∨(tb.length>0∧tb[tb.length-1]? ≠ bs[tb.length-1]?)):=by
  rintro ⟨r,rfl⟩ (h | ⟨h1,h2⟩)
  ·rw [zL] at h;omega
  ·rw [zV (by omega)] at h2;exact h2 rfl
 rcases hx with rfl | ⟨b,rfl⟩
 ·rw [xX];exact ⟨fun h=>pre h,fun _=>h⟩
 ·have hl:=h.length_le
  rw [Zil h,zL,zZ,Nat.add_sub_cancel,zT (zK _),uQ]
  constructor
  ·intro h1 h2
   have:=(List.getElem?_eq_some_iff.1 h1).1
   rcases h2 with h2 | ⟨_,h2⟩
   ·omega
   ·exact h2 h1.symm
  ·intro h1
   by_cases e:bs[tb.length]? = some b
   ·exact e
   ·exact absurd (.inr ⟨by omega,fun h=>e h.symm⟩) h1
theorem ZiJ (hN:1000≤N) {k:Lk} {size:Int} {bl:Nat} (hg:k.p.Gates=rowG k.gs) (lg:k.gs.length≤400) (hc:k.p.Checks=rowC k.cs) (lc:k.cs.length≤400) {m:Zab} {sn tw:List Zaa} {told:Nat} (R:RefM k size bl m sn tw told 2)
  {st:LL} {im:Nat} (hm:st[im]? = some m.lo) (now:Int) (hnow:0≤now∧now≤9223372036854775807) (more:Bool) (l:List Zaa) (hl : ∀x∈l,WfH x) (h64:l.length≤64) (hsn:sn.length≤768) (wsn : ∀x∈sn,wfH x=true) (htw:tw.length≤704) (wtw : ∀x∈tw,wfH x=true) (hto:told≤tw.length) (hpre:k.bt N tw <+: k.bt N sn) {c:Nat} (hcc:sn.length≤c∧tw.length+64≤c) (B:Ab) :
  ∃r,loopN (Zaf.p1 N im now more m (rowH l)) N (0,st)=some r∧FinR k size bl st im c
   (if (againA N k now sn false tw l).1≠0 then ([],(againA N k now sn false tw l).1,{B with ph:=0}) else if more=false∧(againA N k now sn false tw l).2.2=false then ([],5,{B with ph:=0}) else
    (((againA N k now sn false tw l).2.1.drop told).take (tellN size ⟨ph2 (againA N k now sn false tw l).2.2,sn,(againA N k now sn false tw l).2.1,told⟩),0,⟨ph2 (againA N k now sn false tw l).2.2,sn,(againA N k now sn false tw l).2.1,told+tellN size ⟨ph2 (againA N k now sn false tw l).2.2,sn,(againA N k now sn false tw l).2.1,told⟩⟩)) r:=by
 have him:=(List.getElem?_eq_some_iff.1 hm).1
 generalize hR:againA N k now sn false tw l=Z
 have sz:=R.size
 let X:List Zaa×Int×Ab:=if Z.1≠0 then ([],Z.1,{B with ph:=0}) else if more=false∧Z.2.2=false then ([],5,{B with ph:=0}) else ((Z.2.1.drop told).take (tellN size ⟨ph2 Z.2.2,sn,Z.2.1,told⟩),0,⟨ph2 Z.2.2,sn,Z.2.1,told+tellN size ⟨ph2 Z.2.2,sn,Z.2.1,told⟩⟩)
 have bad : ∀(mv:Zab) (tv:List Zaa) (ph:Int),RefM k size bl mv sn tv told ph→tv.length≤c→Z.1=8→∃r,(optE (Zbs N (some im) 8 (st.set im mv.lo)) fun (x:LL×Int×LL)=>some (x.1,x.2.1,x.2.2))=some r∧FinR k size bl st im c X r:=by
  intro mv tv ph Rv h1 h2
  rw [Zey (zN him),Zad,yJ]
  refine ⟨_,rfl,?_⟩
  show FinR k size bl st im c (if Z.1≠0 then _ else _) _
  rw [if_pos (by rw [h2];decide),h2]
  exact ⟨rfl,rfl,_,_,_,told,rfl,Rv.phase 0,hcc.1,h1,fun h=>absurd rfl h⟩
 refine Zeb (Q:=fun r=>FinR k size bl st im c X r)
  (fun q (x:Int×LL)=>∃(v:Nat) (mv:Zab) (tv:List Zaa) (d:Bool),x=((v:Int),st.set im mv.lo)∧v+q=l.length∧RefM k size bl mv sn tv told (ph2 d)∧againA N k now sn d tv (l.drop v)=Z∧tv.length=tw.length+v∧(∀x∈tv,wfH x=true)∧(d=false→k.bt N tv <+: k.bt N sn)) ?_ N l.length _
  ⟨0,m,tw,false,by rw [Zga hm];rfl,by omega,R,by rw [wV];exact hR,by omega,wtw,fun _=>hpre⟩ (by omega)
 rintro G q _ ⟨v,mv,tv,d,rfl,hv,Rv,hZ,lv,wv,hpv⟩ hG
 have hx:(st.set im mv.lo)[im]? = some mv.lo:=zN him
 unfold Zaf.p1
 dsimp only
 rw [ZdJ]
 by_cases hlt:v<l.length
 ·have wh:=hl _ (yQ hlt)
  rw [yN hlt] at hZ
  unfold againA at hZ
  rw [if_pos (by simp only [decide_eq_true_eq];omega),Zah (by omega),zJ,Zee hlt,ZaC,ZbU,if_neg (by rw [R.ph];decide)]
  unfold Zaf.p2
  rw [if_pos (by rw [R.ph];rfl),hx,ZaC,Zbg]
  rw [Rv.tw,Zgk hN Rv hg lg hc lc tv (by omega) wv wh.w now hnow]
  by_cases h0:checkS k.p k.gs k.cs (spF k.p k.a tv) l[v] now=0
  ·have Rs:=Rv.twice l[v]
   have es:rowH tv ++ [l[v].ls]=rowH (tv ++ [l[v]]):=by simp [rowH]
   rw [Rv.tw] at Rs
   rw [es] at Rs ⊢
   have ll:(tv ++ [l[v]]).length=tv.length+1:=by rw [zL,zZ]
   have wv2 : ∀x∈tv ++ [l[v]],wfH x=true:=fun x hx=>by
    rcases List.mem_append.1 hx with h | h
    ·exact wv x h
    ·simp only [vW] at h;rw [h];exact wh.w
   have fin:(d=true∨k.bt N (tv ++ [l[v]]) <+: k.bt N sn)→∃r,Zaf.p3 N G im now more m (rowH l) (v:Int) (st.set im mv.lo) mv l[v]=some r∧FinR k size bl st im c X r:=by
    intro hd
    rw [if_pos ⟨h0,hd⟩] at hZ
    unfold Zaf.p3 Zaf.p4
    simp only [yJ]
    rw [Rv.tw,es,zN him,ZaC,Zbg]
    dsimp only
    rw [ZfM hN Rs _ (by omega),Zad,ZaE (by omega) (by omega)]
    have pn:(d || !decide (wkF k.w (tv ++ [l[v]])<k.mw))=false→k.bt N (tv ++ [l[v]]) <+: k.bt N sn:=by
     intro h1
     simp only [Bool.or_eq_false_iff] at h1
     rcases hd with h2 | h2
     ·rw [h2] at h1;exact absurd h1.1 (by simp)
     ·exact h2
    by_cases hw:wkF k.w (tv ++ [l[v]])<k.mw
    ·rw [decide_eq_true hw] at hZ pn ⊢
     rw [if_neg (by simp)]
     exact hG (q-1) _ (by omega) ⟨v+1,_,tv ++ [l[v]],d,by rw [wW];rfl,by omega,Rs,by simpa using hZ,by omega,wv2,by simpa using pn⟩
    ·rw [decide_eq_false hw] at hZ pn ⊢
     rw [if_pos (by rfl)]
     exact hG (q-1) _ (by omega) ⟨v+1,_,tv ++ [l[v]],true,by rw [wW];rfl,by omega,Rs.phase 3,by simpa using hZ,by omega,wv2,fun h=>by cases h⟩
   rw [if_neg (by simp [h0]),Zah (by rw [ZcX];omega)]
   cases d with
   | true=>rw [if_neg (by rw [Rv.ph];decide)];exact fin (.inl rfl)
   | false=>
    rw [if_pos (by rw [Rv.ph];rfl),ZeU hN Rs _ (by omega) wv2,Zad,Zah (Zfz _),Rv.seen]
    have eb:=ZeU hN Rs sn (by omega) wsn
    rw [Rv.seen] at eb
    rw [eb,Zad,Zah (Zfz _),ZgK,ZgK]
    have ebt:k.bt N (tv ++ [l[v]])=k.bt N tv++(if dueB k.plan (k.a.Point.Height+tv.length)=true then [bitI N k.plan (hid l[v])] else []):=by unfold Lk.bt;rw [ZgX]
    have key:=last_bit (x:=if dueB k.plan (k.a.Point.Height+tv.length)=true then [bitI N k.plan (hid l[v])] else []) (hpv rfl) (by split;exact .inr ⟨_,rfl⟩;exact .inl rfl)
    rw [←ebt] at key
    have lb1:(k.bt N (tv ++ [l[v]])).length≤900:=by
     have:=Zgv N k.plan (tv ++ [l[v]]) k.a.Point.Height
     show (btF N k.plan k.a.Point.Height (tv ++ [l[v]])).length≤_
     omega
    generalize hta:k.bt N (tv ++ [l[v]])=ta at key lb1 fin hZ ⊢
    generalize htb:k.bt N sn=tb at key fin hZ ⊢
    have ng : ¬ ta <+: tb→Z.1=8:=fun h=>by rw [if_neg (by rintro ⟨_,h1 | h1⟩;cases h1;exact h h1)] at hZ;rw [←hZ]
    simp only [yJ]
    simp only [Rv.seen] at Rs
    by_cases h1:(ta.length:Int)>(tb.length:Int)
    ·rw [if_pos (by simpa using h1)]
     exact bad _ _ _ Rs (by omega) (ng (fun h=>(key.1 h) (.inl (by omega))))
    ·rw [if_neg (by simpa using h1)]
     by_cases h2:(ta.length:Int)>0
     ·have i1:ta.length-1<ta.length:=by omega
      have i2:ta.length-1<tb.length:=by omega
      rw [if_pos (by simpa using h2),ZaE (by omega) (by omega),Zah (by omega),Zah (by omega),yG,show ((ta.length:Int)-1).toNat=ta.length-1 by omega,Zkq i1,ZaC,Zmd,Zah (by omega),Zkq i2,ZaC,Zmd]
      rw [zQ i1,zQ i2] at key
      by_cases h3:ta[ta.length-1]=tb[ta.length-1]
      ·rw [if_neg (by simp [h3])]
       exact fin (.inr (key.2 (by rintro (h4 | ⟨_,h4⟩);omega;exact h4 (by rw [h3]))))
      ·rw [if_pos (by simp [h3])]
       exact bad _ _ _ Rs (by omega) (ng (fun h=>(key.1 h) (.inr ⟨by omega,by simpa using h3⟩)))
     ·rw [if_neg (by simpa using h2)]
      exact fin (.inr (key.2 (by rintro (h4 | ⟨h4,_⟩)<;>omega)))
  ·rw [if_neg (fun h=>h0 h.1)] at hZ
   rw [if_pos (by simpa using h0)]
   exact bad mv tv _ Rv (by omega) (by rw [←hZ])
 ·rw [if_neg (by simp only [decide_eq_true_eq];omega)]
  have hZ':Z=(0,tv,d):=by
   rw [xT (by omega)] at hZ
   unfold againA at hZ;exact hZ.symm
  have good : ∃r,Zaf.p5 N im (st.set im mv.lo)=some r∧FinR k size bl st im c ((tv.drop told).take (tellN size ⟨ph2 d,sn,tv,told⟩),0,⟨ph2 d,sn,tv,told+tellN size ⟨ph2 d,sn,tv,told⟩⟩) r:=
   Zij (N:=N) (c:=c) him Rv (by omega) (by omega) ⟨hcc.1,by omega⟩
  show ∃r,_∧FinR k size bl st im c (if Z.1≠0 then _ else _) r
  rw [hZ']
  dsimp only
  rw [if_neg (c:=(0:Int)≠0) (by simp)]
  cases more with
  | false=>
   rw [if_pos (c:=(!false)=true) (by rfl),hx,ZaC,Zbg]
   cases d with
   | false=>
    rw [if_pos (c:=(mv.Phase==m.Phase)=true) (by rw [Rv.ph,R.ph];rfl),Zey hx,Zad,yJ,if_pos (by simp)]
    exact ⟨_,rfl,rfl,rfl,_,_,_,told,rfl,Rv.phase 0,hcc.1,by omega,fun h=>absurd rfl h⟩
   | true=>rw [if_neg (c:=(mv.Phase==m.Phase)=true) (by rw [Rv.ph,R.ph];decide),if_neg (by simp)];exact good
  | true=>rw [if_neg (c:=(!true)=true) (by simp),if_neg (by simp)];exact good
end Go.Dn.F
