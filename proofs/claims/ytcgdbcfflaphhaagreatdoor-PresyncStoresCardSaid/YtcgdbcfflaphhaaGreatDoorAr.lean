/- A tree of headers, as a row of nodes, each with its whole chain; the program's arena of such a tree. -/
import Derived.Test.YtcgdbcfflaphhaaGreatDoorNum
import Derived.Test.YtcgdbcfflaphhaaGreatDoorRul
set_option linter.unusedSimpArgs false
set_option linter.unusedVariables false
set_option maxRecDepth 40000
namespace Go.Dn.F
open Go.Dn Go.Proofs
variable {N:Nat}
structure Nd where
 ch:List Zaa
 ah:Int
 wk:Int
def h0:Zaa:=⟨0,List.replicate 32 0,List.replicate 32 0,0,0,0⟩
def Nd.hd (n:Nd):Zaa:=n.ch.getLast?.getD h0
def Nd.id (n:Nd):List Int:=hid n.hd
noncomputable def rowS (p:Zag) (ns:List Nd):LL:=ns.map fun n=>(spotA p n.ch).ls
def ids (ns:List Nd):List (List Int):=ns.map Nd.id
def place:Nat→List (List Int)→List Int→Option Nat
 | _,[],_=>none
 | i,y::l,x=>if x=y then some i else place (i+1) l x
theorem Ziv : ∀{l:List (List Int)} {i:Nat} {x:List Int},place i l x=none→x∉l
 | [],_,_,_=>by simp
 | y::l,i,x,h=>by
  unfold place at h
  split at h
  ·cases h
  ·rename_i e;simp [e,Ziv h]
@[simp] theorem len_rowS (p:Zag) (ns:List Nd):len (rowS p ns)=(ns.length:Int):=by simp [len,rowS]
structure Tree (ns:List Nd):Prop where
 small:ns.length≤512
 ch : ∀n∈ns,n.ch ≠ []∧n.ch.length≤ns.length
 wf : ∀n∈ns,∀x∈n.ch,WfH x
 wk : ∀n∈ns,isN n.wk
 ah : ∀(i:Nat) (h:i<ns.length),(i=0∧ns[i].ah = -1∧ns[i].ch.length=1)∨∃(k:Nat) (hk:k<i),ns[i].ah=(k:Int)∧ns[i].ch=ns[k].ch ++ [ns[i].hd]
 one:(ids ns).Nodup
theorem Nd.hd_snoc {n:Nd} {c:List Zaa} {h:Zaa} (e:n.ch=c ++ [h]):n.hd=h:=by unfold Nd.hd;rw [e];simp
def chAt (ns:List Nd) (k:Nat):List Zaa:=(ns[k]?.map Nd.ch).getD []
def wkAt (ns:List Nd) (k:Nat):Int:=(ns[k]?.map Nd.wk).getD 0
theorem chAt_eq {ns:List Nd} {k:Nat} (h:k<ns.length):chAt ns k=ns[k].ch:=by simp [chAt,h]
theorem wkAt_eq {ns:List Nd} {k:Nat} (h:k<ns.length):wkAt ns k=ns[k].wk:=by simp [wkAt,h]
def nodeOn (ns:List Nd) (k:Nat) (h:Zaa):Nd:=⟨chAt ns k ++ [h],(k:Int),wkAdd (wkAt ns k) (wkBits h.Bits)⟩
theorem ZiN {st:LL} {i:Nat} {x:List L} (h:st[i]? = some x):st.set i x=st:=by
 apply List.ext_getElem?
 intro j
 by_cases e:i=j
 ·subst e
  obtain ⟨hi,e⟩:=List.getElem?_eq_some_iff.1 h
  rw [List.getElem?_set_self hi,h]
 ·rw [List.getElem?_set_ne e]
theorem Zmd (p:Zag) (c:List Zaa):wfS (spotA p c)=true:=by
 have h : ∀l:List Zaa,∃ts:List Int,(spotA p l).Times=rowI ts∧ts.length≤11:=by
  refine ZiQ ⟨[],rfl,by simp⟩ (fun l h ih=>?_)
  unfold spotA at *
  rw [List.foldl_append]
  exact ⟨_,rfl,by simp;omega⟩
 obtain ⟨ts,h1,h2⟩:=h c
 simp only [wfS,h1,ZmA,Bool.true_and,decide_eq_true_eq,Zde]
 omega
@[simp] theorem ZeM (l:List Zaa):len (rowH l)=(l.length:Int):=by simp [len]
theorem Tree.grow {ns:List Nd} (ht:Tree ns) {k:Nat} (hk:k<ns.length) {h:Zaa} (hh:WfH h) (hs:ns.length<512) (hid':place 0 (ids ns) (hid h)=none):Tree (ns ++ [nodeOn ns k h]):=by
 have hm:=List.getElem_mem hk
 have cl:=ht.ch _ hm
 have hc:(nodeOn ns k h).ch=ns[k].ch ++ [h]:=by unfold nodeOn;rw [chAt_eq hk]
 have hd:=(nodeOn ns k h).hd_snoc rfl
 refine ⟨by simp;omega,?_,?_,?_,?_,?_⟩
 ·intro n hn
  rcases List.mem_append.1 hn with hn | hn
  ·have:=ht.ch n hn;exact ⟨this.1,by simp;omega⟩
  ·cases List.mem_singleton.1 hn
   rw [hc];exact ⟨by simp,by simp;omega⟩
 ·intro n hn x hx
  rcases List.mem_append.1 hn with hn | hn
  ·exact ht.wf n hn x hx
  ·cases List.mem_singleton.1 hn
   rw [hc] at hx
   rcases List.mem_append.1 hx with hx | hx
   ·exact ht.wf _ hm x hx
   ·cases List.mem_singleton.1 hx;exact hh
 ·intro n hn
  rcases List.mem_append.1 hn with hn | hn
  ·exact ht.wk n hn
  ·cases List.mem_singleton.1 hn
   unfold nodeOn;rw [wkAt_eq hk]
   exact Zjt (ht.wk _ hm) (ZeA _)
 ·intro i hi
  by_cases hlt:i<ns.length
  ·rw [List.getElem_append_left hlt]
   rcases ht.ah i hlt with a | ⟨q,hq,a,b⟩
   ·exact .inl a
   ·exact .inr ⟨q,hq,a,by rw [List.getElem_append_left (by omega)];exact b⟩
  ·have:i=ns.length:=by simp at hi;omega
   subst this
   refine .inr ⟨k,hk,?_,?_⟩
   ·rw [List.getElem_append_right (by omega)];simp [nodeOn]
   ·rw [List.getElem_append_right (by omega),List.getElem_append_left hk]
    simp only [Nat.sub_self,List.getElem_singleton]
    rw [hc,hd]
 ·have np:=Ziv hid'
  unfold ids at *
  rw [List.map_append,List.nodup_append]
  refine ⟨ht.one,by simp,?_⟩
  intro a ha b hb
  simp only [List.map_cons,List.map_nil,List.mem_singleton] at hb
  subst hb
  intro e
  unfold Nd.id at e
  rw [hd] at e
  exact np (by rw [←e];exact ha)
end Go.Dn.F
set_option maxRecDepth 100000
namespace Go.Dn.F
open Go.Dn Go.Proofs
variable {N:Nat}
end Go.Dn.F
set_option maxRecDepth 40000
namespace Go.Dn.F
open Go.Dn Go.Proofs
variable {N:Nat}
def rowF (ns:List Nd):Nat→Nat→List Nat
 | 0,k=>[k]
 | f+1,k=>match ns[k]? with
  | some n=>if n.ah<0 then [k] else rowF ns f n.ah.toNat ++ [k]
  | none=>[k]
def rowP (ns:List Nd) (k:Nat):List Nat:=rowF ns k k
theorem Zmo {ns:List Nd} (ht:Tree ns) : ∀(k f g:Nat),k<ns.length→k≤f→k≤g→rowF ns f k=rowF ns g k:=by
 intro k
 induction k using Nat.strongRecOn with
 | ind k ih=>
  intro f g hk hf hg
  rcases ht.ah k hk with ⟨z,a,c⟩ | ⟨q,hq,a,c⟩
  ·have e : ∀f,rowF ns f k = [k]:=fun f=>by
    cases f with
    | zero=>rfl
    | succ f=>unfold rowF;rw [List.getElem?_eq_getElem hk];dsimp only;rw [a,if_pos (by omega)]
   rw [e,e]
  ·obtain ⟨f,rfl⟩ : ∃x,f=x+1:=⟨f-1,by omega⟩
   obtain ⟨g,rfl⟩ : ∃x,g=x+1:=⟨g-1,by omega⟩
   unfold rowF
   rw [List.getElem?_eq_getElem hk]
   dsimp only
   rw [a,if_neg (by omega),if_neg (by omega),Int.toNat_natCast,ih q hq f g (by omega) (by omega) (by omega)]
theorem Zml {ns:List Nd} {k:Nat} (hk:k<ns.length) (a:ns[k].ah = -1):rowP ns k = [k]:=by
 unfold rowP
 cases k with
 | zero=>rfl
 | succ f=>unfold rowF;rw [List.getElem?_eq_getElem hk];dsimp only;rw [a,if_pos (by omega)]
theorem ZjF {ns:List Nd} (ht:Tree ns) {k q:Nat} (hk:k<ns.length) (hq:q<k) (a:ns[k].ah=(q:Int)):rowP ns k=rowP ns q ++ [k]:=by
 obtain ⟨f,rfl⟩ : ∃x,k=x+1:=⟨k-1,by omega⟩
 unfold rowP
 rw [rowF,List.getElem?_eq_getElem hk]
 dsimp only
 rw [a,if_neg (by omega),Int.toNat_natCast,Zmo ht q f q (by omega) (by omega) (by omega)]
theorem ZlE {ns:List Nd} (ht:Tree ns) {k:Nat} (hk:k<ns.length) :
  (k=0∧ns[k].ah = -1∧rowP ns k = [k]∧ns[k].ch.length=1)∨∃q,q<k∧ns[k].ah=(q:Int)∧rowP ns k=rowP ns q ++ [k]∧∃hq:q<ns.length,ns[k].ch=ns[q].ch ++ [ns[k].hd]:=by
 rcases ht.ah k hk with ⟨z,a,c⟩ | ⟨q,hq,a,c⟩
 ·exact .inl ⟨z,a,Zml hk a,c⟩
 ·exact .inr ⟨q,hq,a,ZjF ht hk hq a,by omega,c⟩
theorem rowP_le {ns:List Nd} (ht:Tree ns) : ∀{k:Nat},k<ns.length→∀x∈rowP ns k,x≤k:=by
 intro k
 induction k using Nat.strongRecOn with
 | ind k ih=>
  intro hk x hx
  rcases ZlE ht hk with ⟨z,a,e,c⟩ | ⟨q,hq,a,e,hq',c⟩
  ·rw [e] at hx;simp at hx;omega
  ·rw [e] at hx
   rcases List.mem_append.1 hx with hx | hx
   ·have:=ih q hq hq' x hx;omega
   ·simp at hx;omega
theorem Zmn (ns:List Nd) (nd:Nd) (ht:Tree ns) : ∀(k f:Nat),k<ns.length→rowF (ns ++ [nd]) f k=rowF ns f k:=by
 intro k
 induction k using Nat.strongRecOn with
 | ind k ih=>
  intro f hk
  cases f with
  | zero=>rfl
  | succ f=>
   unfold rowF
   rw [List.getElem?_append_left hk,List.getElem?_eq_getElem hk]
   dsimp only
   rcases ht.ah k hk with ⟨z,a,c⟩ | ⟨q,hq,a,c⟩
   ·rw [a,if_pos (by omega),if_pos (by omega)]
   ·rw [a,if_neg (by omega),if_neg (by omega),Int.toNat_natCast,ih q hq f (by omega)]
theorem ZhA {ns:List Nd} (nd:Nd) (ht:Tree ns) {k:Nat} (hk:k<ns.length):rowP (ns ++ [nd]) k=rowP ns k:=Zmn ns nd ht k k hk
structure Leaps (ns:List Nd) (lp:List Int):Prop where
 len:lp.length≤ns.length
 ok : ∀(i:Nat) (v:Int),lp[i]? = some v→v = -1∨∃x:Nat,v=(x:Int)∧x≠i∧x∈rowP ns i
def hZ (ns:List Nd) (k:Int):Int:=if 0≤k∧k<(ns.length:Int) then ((ns[k.toNat]?.map Nd.ch).getD []).length-1 else -1
def ancZ (ns:List Nd) (k h:Int):Int:=if 0≤k∧k<(ns.length:Int)∧0≤h then ((rowP ns k.toNat)[h.toNat]?.map fun (x:Nat)=>(x:Int)).getD (-1) else -1
end Go.Dn.F
set_option maxRecDepth 100000
namespace Go.Dn.F
open Go.Dn Go.Proofs
variable {N:Nat}
end Go.Dn.F
set_option maxRecDepth 40000
namespace Go.Dn.F
open Go.Dn Go.Proofs
variable {N:Nat}
theorem Leaps.grow {ns:List Nd} {lp:List Int} (ht:Tree ns) (hl:Leaps ns lp) (hlen:lp.length=ns.length) {nd:Nd} (ht':Tree (ns ++ [nd])) {k:Nat} (hk:k<ns.length) (ha:nd.ah=(k:Int)) (h:Int):Leaps (ns ++ [nd]) (lp ++ [ancZ (ns ++ [nd]) (k:Int) h]) where
 len:=by simp [hlen]
 ok:=fun i v hv=>by
  by_cases hi:i<lp.length
  ·rw [List.getElem?_append_left hi] at hv
   rcases hl.ok i v hv with h1 | ⟨x,h1,h2,h3⟩
   ·exact .inl h1
   ·exact .inr ⟨x,h1,h2,by rw [ZhA nd ht (by omega)];exact h3⟩
  ·have e0:i=ns.length:=by
    have:=(List.getElem?_eq_some_iff.1 hv).1
    simp at this;omega
   subst e0
   rw [List.getElem?_append_right (by omega),hlen,Nat.sub_self] at hv
   cases hv
   have hn:ns.length<(ns ++ [nd]).length:=by simp
   have ea:(ns ++ [nd])[ns.length].ah=(k:Int):=by simpa using ha
   rw [ZjF ht' hn hk ea,ZhA nd ht hk]
   unfold ancZ
   by_cases hc:0≤(k:Int)∧(k:Int)<((ns ++ [nd]).length:Int)∧0≤h
   ·rw [if_pos hc,Int.toNat_natCast,ZhA nd ht hk]
    cases e:(rowP ns k)[h.toNat]? with
    | none=>exact .inl rfl
    | some y=>
     have hy:=List.mem_of_getElem? e
     have:=rowP_le ht hk y hy
     exact .inr ⟨y,rfl,by omega,List.mem_append.2 (.inl hy)⟩
   ·rw [if_neg hc];exact .inl rfl
end Go.Dn.F
set_option maxRecDepth 100000
namespace Go.Dn.F
open Go.Dn Go.Proofs
variable {N:Nat}
theorem ZfB {st ex:LL} {i:Nat} {x:List L} (h:st[i]? = some x):(st++ex)[i]? = some x:=by
 rw [List.getElem?_append_left (List.getElem?_eq_some_iff.1 h).1];exact h
noncomputable def bitV (p:Zbj) (b:Bs):Bool:=bitsOf .and .u8 (List.getD ((sha2 (([] ++ [p.Salt].flatMap (le (szOf 8))) ++ [b].flatten)).map byI) 0 0) 1==1
theorem Bit_val (hN:1000≤N) (p:Zbj) {b:Bs} (hb:b.length=32) (st:LL) : ∃ex,ZbF N p (b.map byI) st=some (bitV p b,st++ex):=by
 unfold ZbF
 have h0:(st ++ [[L.own true 1 []]]:LL)[st.length]? = some (penO []):=by simp [penO,rowB]
 have h1:=Znc (N:=N) (by omega) h0 8 [p.Salt] (by simp;omega) (by simp) (by simp)
 have e1:([[L.int .i64 p.Salt]]:LL)=rowI [p.Salt]:=rfl
 rw [e1,h1,Zab]
 generalize hd:([] ++ [p.Salt].flatMap (le (szOf 8)):Bs)=d
 have ld:d.length=8:=by rw [←hd];simp [ZeX];rfl
 have h2:((st ++ [[L.own true 1 []]]).set st.length (penO d))[st.length]? = some (penO d):=by simp
 have h3:=Zlz (N:=N) (by omega) h2 [b] (by simp;omega) (by simp) (by omega) (by simp;omega)
 have e2:([[L.arr .u8 32 (b.map byI)]]:LL) = [b].map fun x=>[L.arr .u8 32 (x.map byI)]:=rfl
 rw [e2,h3,Zab]
 have e3:(((st ++ [[L.own true 1 []]]).set st.length (penO d)).set st.length (penO (d ++ [b].flatten)):LL)=st ++ [penO (d ++ [b].flatten)]:=by simp
 rw [e3]
 have h4:(st ++ [penO (d ++ [b].flatten)]:LL)[st.length]? = some (penO (d ++ [b].flatten)):=by simp
 obtain ⟨ex,h5⟩:=Zkq N [d ++ [b].flatten] (st ++ [penO (d ++ [b].flatten)]) (by simp;omega) (by simp;omega) (by simp;omega) (by simp)
 simp only [List.map_cons,List.map_nil] at h5
 rw [h4,ZaD,ZeY,Znb,Zab,h5,Zab]
 unfold bitV
 rw [hd]
 exact ⟨[penO (d ++ [b].flatten)]++ex,by simp⟩
theorem Bit_eq (hN:1000≤N) (p:Zbj) {id_:List Int} (hid_:wfB id_=true) : ∃b:Bool,∀st:LL,∃ex,ZbF N p id_ st=some (b,st++ex):=by
 obtain ⟨b,rfl,hb⟩:=(Zkr id_).1 hid_
 exact ⟨bitV p b,fun st=>Bit_val hN p hb st⟩
def planOk (p:Zbj):Prop:=1≤p.Period∧p.Period≤64∧0≤p.Offset∧p.Offset<p.Period
theorem Zja (p:Zbj) : ∃b,Zcy N p=some b∧(b=true→planOk p)∧(planOk p→b=true):=by
 unfold Zcy planOk
 by_cases h1:p.Period≥1
 ·rw [if_pos (by simpa using h1)]
  by_cases h2:p.Period≤64
  ·rw [if_pos (by simpa using h2)]
   by_cases h3:p.Offset≥0
   ·rw [if_pos (by simpa using h3)]
    exact ⟨_,rfl,fun h=>⟨by omega,h2,by omega,by simpa using h⟩,fun h=>by simpa using h.2.2.2⟩
   ·rw [if_neg (by simpa using h3)];exact ⟨_,rfl,(fun h=>by cases h),(fun h=>by omega)⟩
  ·rw [if_neg (by simpa using h2)];exact ⟨_,rfl,(fun h=>by cases h),(fun h=>by omega)⟩
 ·rw [if_neg (by simpa using h1)];exact ⟨_,rfl,(fun h=>by cases h),(fun h=>by omega)⟩
noncomputable def rowU (l:List Int):LL:=l.map fun n=>[L.int .u64 n]
@[simp] theorem rowU_length (l:List Int):(rowU l).length=l.length:=by simp [rowU]
theorem Zlc {l:List Int} {i:Nat} (h:i<l.length):(rowU l)[i]? = some [L.int .u64 l[i]]:=by simp [rowU,h]
theorem rowU_set (l:List Int) (i:Nat) (x:Int):(rowU l).set i [L.int .u64 x]=rowU (l.set i x):=by simp [rowU,List.map_set]
theorem Zmk (l:List Int) (x:Int):rowU l ++ [[L.int .u64 x]]=rowU (l ++ [x]):=by simp [rowU]
structure BookOk (b:Zay) (n:Nat):Prop where
 pl:planOk b.Plan
 w : ∃ws,b.words=rowU ws∧ws.length=(n+63)/64
 g:b.given=(n:Int)
 m:0≤b.met∧b.met≤b.given
structure Sy where
 p:Zag
 sa:Zax
 sw:List Int
 b:Zax
 bw:List Int
 bk:Option Nat
 ph:Int
 most:Int
 size:Int
 buf:LL
noncomputable def Sy.ll (s:Sy):List L:=s.p.ls++(s.sa.ls++(L.arr .u64 4 s.sw::(s.b.ls++(L.arr .u64 4 s.bw::L.ptr s.bk::L.int .i64 s.ph::L.int .i64 s.most::L.int .i64 s.size::L.own true 68 s.buf :: []))))
noncomputable def Sy.v (s:Sy) (b:Zay):Zbg:=⟨s.p,⟨s.sa,s.sw⟩,⟨s.b,s.bw⟩,b,s.ph,s.most,s.size,s.buf⟩
theorem on_unf {st:LL} {i:Nat} {s:Sy} (hst:st[i]? = some s.ll) (h:Zaa) (now:Int) :
  ZbZ N (some i) h now st=optE (ZcZ N s.p s.b h now) fun x=>if (x != 0)=true then some (false,st) else
   optE (Zcz N s.p s.b h) fun y=>optE (ZcT N h.Bits) fun z=>optE (ZdY N [[L.arr .u64 4 s.bw],[L.arr .u64 4 z]]) fun u=>some (true,st.set i ({s with b:=y,bw:=u}:Sy).ll):=by
 unfold ZbZ
 rw [Zab,hst,ZaD]
 rfl
theorem fail_unf {st:LL} {i:Nat} {s:Sy} (hst:st[i]? = some s.ll) (e:Int) :
  ZbA N (some i) e st=some ([],e,st.set i ({s with ph:=0,buf:=[]}:Sy).ll):=by
 unfold ZbA
 rw [Zab,hst,ZaD]
 have : ∀a b:List L,List.set (List.set (List.set st i a) i b) i ({s with ph:=0,buf:=[]}:Sy).ll=st.set i ({s with ph:=0,buf:=[]}:Sy).ll:=fun a b=>by rw [List.set_set,List.set_set]
 exact congrArg (fun x=>some (([]:LL),e,x)) (this ({s with buf:=List.replicate s.buf.length (Zaa.ls (Zaa.mk 0 (List.replicate 32 0) (List.replicate 32 0) 0 0 0))}:Sy).ll ({s with ph:=0,buf:=List.replicate s.buf.length (Zaa.ls (Zaa.mk 0 (List.replicate 32 0) (List.replicate 32 0) 0 0 0))}:Sy).ll)
theorem ZkQ {st:LL} {i:Nat} {s:Sy} (hst:st[i]? = some s.ll) (n:Int) :
  ZaC.p1 N i n st=chk (0≤n) (chk (n.toNat≤s.buf.length) (chk (List.length ([]++s.buf.take n.toNat)*96≤140737488355328) (chk ((0+n.toNat)+(s.buf.length-n.toNat)≤s.buf.length) (chk (List.length ([]++(s.buf.drop (0+n.toNat)).take (s.buf.length-n.toNat))*96≤140737488355328)
   (some ([]++s.buf.take n.toNat,st.set i ({s with buf:=[]++(s.buf.drop (0+n.toNat)).take (s.buf.length-n.toNat)}:Sy).ll)))))):=by
 unfold ZaC.p1
 rw [hst,ZaD]
 rfl
theorem free_unf {st:LL} {i:Nat} {s:Sy} (hst:st[i]? = some s.ll) :
  ZaC N (some i) st=if (s.ph==3)=true then ZaC.p1 N i (len s.buf) st else ZaC.p1 N i (if (0:Int)>(w64 ((len s.buf)-s.size)) then 0 else (w64 ((len s.buf)-s.size))) st:=by
 unfold ZaC
 rw [Zab,hst,ZaD]
 rfl
theorem Zkj (hN:10≤N) {s:Sy} {b:Zay} {w m:Int} (hw:isN w) (hm:isN m) (e1:s.bw=nw w) (e2:s.p.MinWork=nw m):Zbi N (s.v b)=some (!decide (w<m)):=by
 unfold Zbi
 show optE (Zcl N s.bw s.p.MinWork) _=_
 rw [e1,e2,Zed hN hw hm,Zab]
theorem ZfP {α:Type} (s:Sy) (k:Int→Int→Int→Int→Bool→LL→LL→List Int→List Int→Int→List Int→List Int→Int→Int→Int→Int→Int→Int→Int→Int→List Int→LL→List Int→Int→Int→Int→Int→Int→List Int→LL→List Int→Option Nat→Int→Int→Int→LL→Option α) :
  Zby s.ll k=k s.p.Limit s.p.Interval s.p.Spacing s.p.Future s.p.Easy s.p.Gates s.p.Checks s.p.MinWork s.p.Margin s.p.Genesis.Version s.p.Genesis.Prev s.p.Genesis.Root s.p.Genesis.Time s.p.Genesis.Bits s.p.Genesis.Nonce s.sa.Point.Height s.sa.Point.Bits s.sa.Point.Time s.sa.Point.First s.sa.Point.Hard s.sa.Prev s.sa.Times s.sw s.b.Point.Height s.b.Point.Bits s.b.Point.Time s.b.Point.First s.b.Point.Hard s.b.Prev s.b.Times s.bw s.bk s.ph s.most s.size s.buf:=rfl
structure SyB (gs:List ZbW) (cs:List ZbD) (st:LL) (i j:Nat) (s:Sy) (b:Zay) (n c:Nat):Prop where
 o:st[i]? = some s.ll
 k:st[j]? = some b.lo
 bk:s.bk=some j
 ij:i≠j
 hg:s.p.Gates=rowG gs
 hc:s.p.Checks=rowC cs
 mw : ∃m,isN m∧s.p.MinWork=nw m
 wa:wfS s.sa=true
 wb:wfS s.b=true
 sw : ∃w,isN w∧s.sw=nw w
 bw : ∃w,isN w∧s.bw=nw w
 bo:BookOk b n
 nc:n≤c
 bu : ∃l:List Zaa,s.buf=rowH l∧l.length≤c
 sz:1≤s.size∧s.size≤64
def Keep (i j:Nat) (st st':LL):Prop:=st.length≤st'.length∧∀r,r≠i→r≠j→r<st.length→st'[r]? = st[r]?
theorem Keep.rfl' (i j:Nat) (st:LL):Keep i j st st:=⟨Nat.le_refl _,fun _ _ _ _=>rfl⟩
theorem Keep.trans {i j:Nat} {a b c:LL} (h:Keep i j a b) (k:Keep i j b c):Keep i j a c:=
 ⟨Nat.le_trans h.1 k.1,fun r h1 h2 h3=>by rw [k.2 r h1 h2 (Nat.lt_of_lt_of_le h3 h.1),h.2 r h1 h2 h3]⟩
theorem Keep.seti (i j:Nat) (st:LL) (x:List L):Keep i j st (st.set i x):=⟨by simp,fun r h1 _ _=>List.getElem?_set_ne (Ne.symm h1)⟩
theorem Keep.setj (i j:Nat) (st:LL) (x:List L) (ex:LL):Keep i j st (st.set j x++ex):=
 ⟨by simp,fun r _ h2 h3=>by rw [List.getElem?_append_left (by simpa using h3),List.getElem?_set_ne (Ne.symm h2)]⟩
theorem ZlS (p:Zag) (a:Zax) (h:Zaa):wfS (behind p a h)=true:=by
 unfold behind wfS
 simp only [ZmA,Bool.true_and,decide_eq_true_eq,Zde,List.length_cons,List.length_take]
 omega
theorem SyB.on {gs:List ZbW} {cs:List ZbD} {st:LL} {i j:Nat} {s:Sy} {b:Zay} {n c:Nat} (S:SyB gs cs st i j s b n c) (h:Zaa) {w:Int} (hw:isN w):SyB gs cs (st.set i ({s with b:=behind s.p s.b h,bw:=nw w}:Sy).ll) i j {s with b:=behind s.p s.b h,bw:=nw w} b n c where
 o:=List.getElem?_set_self (List.getElem?_eq_some_iff.1 S.o).1
 k:=by rw [List.getElem?_set_ne S.ij];exact S.k
 bk:=S.bk
 ij:=S.ij
 hg:=S.hg
 hc:=S.hc
 mw:=S.mw
 wa:=S.wa
 wb:=ZlS _ _ _
 sw:=S.sw
 bw:=⟨w,hw,rfl⟩
 bo:=S.bo
 nc:=S.nc
 bu:=S.bu
 sz:=S.sz
theorem SyB.give {gs:List ZbW} {cs:List ZbD} {st:LL} {i j:Nat} {s:Sy} {b b':Zay} {n n' c c':Nat} (S:SyB gs cs st i j s b n c) (ex:LL) (hb:BookOk b' n') (hn:n'≤c') (hc:c≤c'):SyB gs cs (st.set j b'.lo++ex) i j s b' n' c' where
 o:=ZfB (by rw [List.getElem?_set_ne (Ne.symm S.ij)];exact S.o)
 k:=ZfB (List.getElem?_set_self (List.getElem?_eq_some_iff.1 S.k).1)
 bk:=S.bk
 ij:=S.ij
 hg:=S.hg
 hc:=S.hc
 mw:=S.mw
 wa:=S.wa
 wb:=S.wb
 sw:=S.sw
 bw:=S.bw
 bo:=hb
 nc:=hn
 bu:=by obtain ⟨l,e,hl⟩:=S.bu;exact ⟨l,e,by omega⟩
 sz:=S.sz
theorem SyB.upd {gs:List ZbW} {cs:List ZbD} {st:LL} {i j:Nat} {s:Sy} {b:Zay} {n c c':Nat} (S:SyB gs cs st i j s b n c) (s':Sy) (hp:s'.p=s.p) (hbk:s'.bk=s.bk) (hsz:s'.size=s.size) (ha:s'.sa=s.sa) (hsw:s'.sw=s.sw) (hb:wfS s'.b=true) (hw : ∃w,isN w∧s'.bw=nw w) (hbu : ∃l:List Zaa,s'.buf=rowH l∧l.length≤c') (hc:c≤c'):SyB gs cs (st.set i s'.ll) i j s' b n c' where
 o:=List.getElem?_set_self (List.getElem?_eq_some_iff.1 S.o).1
 k:=by rw [List.getElem?_set_ne S.ij];exact S.k
 bk:=by rw [hbk];exact S.bk
 ij:=S.ij
 hg:=by rw [hp];exact S.hg
 hc:=by rw [hp];exact S.hc
 mw:=by rw [hp];exact S.mw
 wa:=by rw [ha];exact S.wa
 wb:=hb
 sw:=by rw [hsw];exact S.sw
 bw:=hw
 bo:=S.bo
 nc:=Nat.le_trans S.nc hc
 bu:=hbu
 sz:=by rw [hsz];exact S.sz
theorem SyB.more {gs:List ZbW} {cs:List ZbD} {st:LL} {i j:Nat} {s:Sy} {b:Zay} {n c c':Nat} (S:SyB gs cs st i j s b n c) (h:c≤c'):SyB gs cs st i j s b n c':=
 ⟨S.o,S.k,S.bk,S.ij,S.hg,S.hc,S.mw,S.wa,S.wb,S.sw,S.bw,S.bo,Nat.le_trans S.nc h,by obtain ⟨q,e,hq⟩:=S.bu;exact ⟨q,e,by omega⟩,S.sz⟩
structure SyOk (gs:List ZbW) (cs:List ZbD) (st:LL) (i j:Nat) (s:Sy) (n c:Nat):Prop where
 ok : ∃b,SyB gs cs st i j s b n c
 ph:s.ph=0∨s.ph=1∨s.ph=2∨s.ph=3
 bits:(n:Int)≤s.most+1
 one:s.ph=1→(n:Int)≤s.most
 held:(s.buf.length:Int)≤s.size
theorem isW_of {n:Int} (h:(Lit.int .u64 n).wf=true):isW n:=by
 simp only [Lit.wf,Bool.and_eq_true,decide_eq_true_eq] at h
 have h1:0≤n∧n≤18446744073709551615:=h
 unfold isW;omega
theorem Most_eq {p:Zbj} (hp:planOk p) (sec:Int) (h0:0≤sec) : ∃m,Zcm N p sec=some m∧0≤m∧m≤51539607553:=by
 unfold Zcm
 obtain ⟨b,e,h1,h2⟩:=Zja (N:=N) p
 obtain ⟨P1,P2,_,_⟩:=hp
 have hp:planOk p:=⟨P1,P2,by assumption,by assumption⟩
 have hq:0≤(if (8589934592:Int)<sec then 8589934592 else sec)∧(if (8589934592:Int)<sec then 8589934592 else sec)≤8589934592:=by split<;>omega
 generalize (if (8589934592:Int)<sec then 8589934592 else sec)=q at hq ⊢
 have d1:Int.tdiv (6*q) p.Period=(6*q)/p.Period:=Int.tdiv_eq_ediv_of_nonneg (by omega)
 have d2:0≤(6*q)/p.Period:=Int.ediv_nonneg (by omega) (by omega)
 have d3:(6*q)/p.Period≤6*q:=Int.ediv_le_self _ (by omega)
 rw [e,Zab,h2 hp,if_neg (by simp),if_neg (by simpa using h0),Zah (by omega),ZaA (n:=6*q) (by omega) (by omega),d1,ZaA (n:=(6*q)/p.Period) (by omega) (by omega),ZaA (by omega) (by omega)]
 exact ⟨_,rfl,by omega,by omega⟩
theorem alive19 (hN:1000≤N) : ∃st,ZcJ N []=some (true,st):=by
 obtain ⟨n,rfl⟩ : ∃n,N=n+1000:=⟨N-1000,by omega⟩
 have h:((ZcJ (n+1000) []).map (·.1))=some true:=by kernel_rfl
 cases e:ZcJ (n+1000) [] with
 | none=>rw [e] at h;cases h
 | some r=>rw [e] at h;exact ⟨r.2,by cases r;simp at h;subst h;rfl⟩
theorem LTys.app_inv : ∀{a b:List Ty} {ls:List L},LTys (a++b) ls→∃l r,ls=l++r∧LTys a l∧LTys b r
 | [],b,ls,h=>⟨[],ls,rfl,by rw [LTys],h⟩
 | t::a,b,ls,h=>by
  obtain ⟨x,r,rfl,h1,h2⟩:=LTys.cons_inv (t:=t) (ts:=a++b) h
  obtain ⟨l,r',rfl,h3,h4⟩:=LTys.app_inv h2
  exact ⟨x::l,r',rfl,by rw [LTys];exact ⟨x,l,rfl,h1,h3⟩,h4⟩
abbrev tysCase:List Ty:=tysP ++ [.sl 68 tysH,.int .i64,.int .i64,.int .i64,.int .i64,.int .i64]
abbrev tysMsg:List Ty:=[.sl 68 tysH,.int .i64,.bool]
structure WfCase (c:ZaL) (base:List Zaa):Prop where
 p:WfP c.P
 b:c.Base=rowH base
 w : ∀x∈base,WfH x
 l:base.length≤maxLen
theorem Zmt {ls:List L} (h:LTys tysCase ls) : ∃c base,ls=ZaL.ls c∧WfCase c base:=by
 obtain ⟨l1,r,rfl,h1,hr⟩:=LTys.app_inv (a:=tysP) (b:=[.sl 68 tysH,.int .i64,.int .i64,.int .i64,.int .i64,.int .i64]) h
 clear h
 have h:=hr
 obtain ⟨p,rfl,hp⟩:=open_P h1
 obtain ⟨_,_,rfl,h2,h⟩:=h.cons_inv
 obtain ⟨_,_,rfl,h3,h⟩:=h.cons_inv
 obtain ⟨_,_,rfl,h4,h⟩:=h.cons_inv
 obtain ⟨_,_,rfl,h5,h⟩:=h.cons_inv
 obtain ⟨_,_,rfl,h6,h⟩:=h.cons_inv
 obtain ⟨_,_,rfl,h7,h⟩:=h.cons_inv
 cases h.nil_inv
 obtain ⟨xs,rfl,lx,wx⟩:=h2.sl_inv
 obtain ⟨a3,rfl,w3⟩:=h3.int_inv
 obtain ⟨a4,rfl,w4⟩:=h4.int_inv
 obtain ⟨a5,rfl,w5⟩:=h5.int_inv
 obtain ⟨a6,rfl,w6⟩:=h6.int_inv
 obtain ⟨a7,rfl,w7⟩:=h7.int_inv
 obtain ⟨base,rfl,hb⟩:=open_C wx
 exact ⟨⟨p,rowH base,⟨a3,a4,a5⟩,a6,a7⟩,base,rfl,hp,rfl,hb,by rw [Zea] at lx;exact lx⟩
structure WfMsg (x:Zbe):Prop where
 l : ∃hs:List Zaa,x.List_=rowH hs∧(∀h∈hs,WfH h)∧hs.length≤maxLen
noncomputable def rowMs (l:List Zbe):LL:=l.map Zbe.ls
theorem ZjH {l:List Zbe} {i:Nat} (h:i<l.length):(rowMs l)[i]? = some l[i].ls:=by simp [rowMs,h]
@[simp] theorem ZjX (l:List Zbe):len (rowMs l)=(l.length:Int):=by simp [len,rowMs]
@[simp] theorem ZjG (l:List Zbe):(rowMs l).length=l.length:=by simp [rowMs]
theorem open_Ms {xs:LL} (h : ∀x∈xs,LTys tysMsg x) : ∃l,xs=rowMs l∧∀x∈l,WfMsg x:=
 decode fun x hx=>by
  obtain ⟨_,_,rfl,h1,h⟩:=(h x hx).cons_inv
  obtain ⟨_,_,rfl,h2,h⟩:=h.cons_inv
  obtain ⟨_,_,rfl,h3,h⟩:=h.cons_inv
  cases h.nil_inv
  obtain ⟨ys,rfl,ly,wy⟩:=h1.sl_inv
  obtain ⟨a2,rfl,w2⟩:=h2.int_inv
  obtain ⟨a3,rfl⟩:=h3.bool_inv
  obtain ⟨hs,rfl,hb⟩:=open_C wy
  exact ⟨⟨rowH hs,a2,a3⟩,rfl,⟨hs,rfl,hb,by rw [Zea] at ly;exact ly⟩⟩
theorem ZlN {c:ZaL} {base:List Zaa} (hc:WfCase c base) (l:List Zbe) (hl : ∀x∈l,WfMsg x) (hN:l.length+base.length+900≤N) (hb:l.length≤maxLen) :
  ∃b,ZaS N c (rowMs l)=some b∧(b=false→l.length≤12∧base.length≤20∧∃gs cs,c.P.Gates=rowG gs∧c.P.Checks=rowC cs∧gs.length≤400∧cs.length≤400∧rgood c.P gs cs=true):=by
 have hm:maxLen=9223372036854775807:=rfl
 have cl:=hc.l
 unfold ZaS
 refine Zec (fun m (s:Int×Int)=>∃k:Nat,k+m=l.length∧s.2=(k:Int)) ?_ N l.length _ ⟨0,by omega,rfl⟩ (by omega)
 rintro G m ⟨n1,_⟩ ⟨k,hk,rfl⟩ hG
 unfold ZaS.p1
 dsimp only
 rw [ZjX]
 by_cases hlt:k<l.length
 ·rw [if_pos (by simp<;>omega),Zah (by omega),Int.toNat_natCast,ZjH hlt,ZaD,ZdE]
  by_cases h70:len l[k].List_>70
  ·rw [if_pos (by simpa using h70)];exact ⟨true,rfl,fun h=>by cases h⟩
  ·rw [if_neg (by simpa using h70),ZaA (n:=(k:Int)+1) (by omega) (by omega)]
   exact hG (m-1) _ (by omega) ⟨k+1,by omega,by dsimp only;omega⟩
 ·rw [if_neg (by simp<;>omega)]
  refine Zec (fun m (s:Int)=>∃k:Nat,k+m=base.length∧s=(k:Int)) ?_ N base.length _ ⟨0,by omega,rfl⟩ (by omega)
  rintro G2 m2 _ ⟨q,hq,rfl⟩ hG2
  unfold ZaS.p2
  rw [hc.b,ZeM]
  by_cases hql:q<base.length
  ·rw [if_pos (by simp<;>omega),Zah (by omega),Int.toNat_natCast,Zey hql,ZaD,Zcv,ZfG,Zab]
   cases hgood base[q] with
   | false=>rw [if_pos (by rfl)];exact ⟨true,rfl,fun h=>by cases h⟩
   | true=>
    rw [if_neg (by simp),ZaA (by omega) (by omega)]
    exact hG2 (m2-1) _ (by omega) ⟨q+1,by omega,by omega⟩
  ·rw [if_neg (by simp<;>omega)]
   by_cases h1:len c.P.Gates>20
   ·rw [if_pos (by simpa using h1)];exact ⟨true,rfl,fun h=>by cases h⟩
   rw [if_neg (by simpa using h1)]
   by_cases h2:len c.P.Checks>20
   ·rw [if_pos (by simpa using h2)];exact ⟨true,rfl,fun h=>by cases h⟩
   rw [if_neg (by simpa using h2)]
   by_cases h3:(base.length:Int)>20
   ·rw [if_pos (by simpa using h3)];exact ⟨true,rfl,fun h=>by cases h⟩
   rw [if_neg (by simpa using h3)]
   by_cases h4:(l.length:Int)>12
   ·rw [if_pos (by simpa using h4)];exact ⟨true,rfl,fun h=>by cases h⟩
   rw [if_neg (by simpa using h4)]
   by_cases h5:n1>200
   ·rw [if_pos (by simpa using h5)];exact ⟨true,rfl,fun h=>by cases h⟩
   rw [if_neg (by simpa using h5)]
   obtain ⟨gs,eg⟩:=open_G hc.p.g
   obtain ⟨cs,ec⟩:=open_K hc.p.c
   have lg:gs.length≤400:=by simp [len,eg] at h1;omega
   have lc:cs.length≤400:=by simp [len,ec] at h2;omega
   rw [ZiW (by omega) eg lg ec lc,Zab]
   exact ⟨_,rfl,fun h=>⟨by omega,by omega,gs,cs,eg,ec,lg,lc,by simpa using h⟩⟩
theorem SyOk.app {gs:List ZbW} {cs:List ZbD} {st:LL} {i j:Nat} {s:Sy} {n c:Nat} (S:SyOk gs cs st i j s n c) (x:LL):SyOk gs cs (st++x) i j s n c where
 ok:=by
  obtain ⟨b,B⟩:=S.ok
  exact ⟨b,ZfB B.o,ZfB B.k,B.bk,B.ij,B.hg,B.hc,B.mw,B.wa,B.wb,B.sw,B.bw,B.bo,B.nc,B.bu,B.sz⟩
 ph:=S.ph
 bits:=S.bits
 one:=S.one
 held:=S.held
open Classical in
noncomputable def bitI (N:Nat) (p:Zbj) (id_:List Int):Bool:=decide (∃st st',ZbF N p id_ st=some (true,st'))
open Classical in
theorem Bit_is (hN:1000≤N) (p:Zbj) {id_:List Int} (h:wfB id_=true) (st:LL) : ∃ex,ZbF N p id_ st=some (bitI N p id_,st++ex):=by
 obtain ⟨b,hb⟩:=Bit_eq hN p h
 have e:bitI N p id_=b:=by
  unfold bitI
  cases b with
  | true=>obtain ⟨ex,e⟩:=hb st;simp only [decide_eq_true_eq];exact ⟨st,_,e⟩
  | false=>
   simp only [decide_eq_false_iff_not]
   rintro ⟨s1,s2,e1⟩
   obtain ⟨ex,e⟩:=hb s1
   rw [e] at e1;simp at e1
 rw [e];exact hb st
def dueB (p:Zbj) (h:Int):Bool:=decide (h≥0)&&(Int.tmod h p.Period==p.Offset)
theorem Due_is {p:Zbj} (hp:planOk p) (h:Int):Zcg N p h=some (dueB p h):=by
 unfold Zcg dueB
 obtain ⟨b,e,h1,h2⟩:=Zja (N:=N) p
 rw [e,Zab,h2 hp,if_pos rfl]
 by_cases h0:h≥0
 ·rw [if_pos (by simpa using h0),Zah (by have:=hp.1;omega),decide_eq_true h0,Bool.true_and]
 ·rw [if_neg (by simpa using h0),decide_eq_false h0,Bool.false_and]
structure BookF (b:Zay) (bs:List Bool):Prop where
 pl:planOk b.Plan
 w : ∃ws:List Int,b.words=rowU ws∧ws.length=(bs.length+63)/64∧(∀x∈ws,isW x)∧∀i,i<64*ws.length→(ws.getD (i/64) 0).toNat.testBit (i%64)=bs.getD i false
 g:b.given=(bs.length:Int)
 m:0≤b.met∧b.met≤b.given
theorem BookF.ok {b:Zay} {bs:List Bool} (h:BookF b bs):BookOk b bs.length:=
 ⟨h.pl,by obtain ⟨ws,e,l,_⟩:=h.w;exact ⟨ws,e,l⟩,h.g,h.m⟩
theorem or_bit {x:Int} (hx:isW x) {s:Nat} (hs:s<64):isW (bitsOf .or .u64 x (shlOf .u64 1 (s:Int)))∧∀t,t<64→(bitsOf .or .u64 x (shlOf .u64 1 (s:Int))).toNat.testBit t=(x.toNat.testBit t||decide (s=t)):=by
 have p:=Zbn s
 have le:(2:Int)^s≤9223372036854775808:=Zdf (b:=63) (by omega)
 have cp:((2^s:Nat):Int)=(2:Int)^s:=by simp
 have sh:shlOf .u64 1 (s:Int)=((2^s:Nat):Int):=by rw [shl64 _ (by omega),cp];omega
 have le':2^s<2^64:=Nat.pow_lt_pow_right (by omega) (by omega)
 have w2:isW ((2^s:Nat):Int):=⟨by omega,by omega⟩
 have lx:x.toNat<2^64:=by have:=hx.1;have:=hx.2;omega
 rw [sh,or64 hx w2,Int.toNat_natCast]
 have:=Nat.or_lt_two_pow lx le'
 refine ⟨⟨by omega,by omega⟩,fun t ht=>?_⟩
 rw [Int.toNat_natCast,Nat.testBit_or,Nat.testBit_two_pow]
theorem at_bit {x:Int} (hx:isW x) {s:Nat} (hs:s<64):(bitsOf .and .u64 (shrOf .u64 x (s:Int)) 1==1)=x.toNat.testBit s:=by
 have p:=Zbn s
 obtain ⟨n,rfl⟩ : ∃n:Nat,x=(n:Int):=⟨x.toNat,by have:=hx.1;omega⟩
 rw [shr64 _ (by omega)]
 have e:((n:Int)/2^s)=((n/2^s:Nat):Int):=by simp
 rw [e,and64 (by have h1:=Nat.div_le_self n (2^s);have:=hx.2;generalize n/2^s=q at *;exact ⟨by omega,by omega⟩) ⟨by omega,by omega⟩,Int.toNat_natCast,Int.toNat_natCast,Nat.testBit_eq_decide_div_mod_eq,show (1:Int).toNat=1 from rfl,Nat.and_one_is_mod,Bool.eq_iff_iff]
 simp only [beq_iff_eq,decide_eq_true_eq]
 omega
theorem Zkd (bs:List Bool) (x:Bool) (i:Nat):(bs ++ [x]).getD i false=if i=bs.length then x else bs.getD i false:=by
 simp only [List.getD_eq_getElem?_getD]
 by_cases h:i<bs.length
 ·rw [List.getElem?_append_left h,if_neg (by omega)]
 ·rw [List.getElem?_append_right (by omega)]
  by_cases e:i=bs.length
  ·subst e;simp
  ·rw [if_neg e,List.getElem?_eq_none (by simp;omega),List.getElem?_eq_none (by omega)]
end Go.Dn.F
namespace Go.Dn.F
open Go.Dn Go.Proofs
variable {N:Nat}
theorem Give_F (hN:1000≤N) {st:LL} {j:Nat} {b:Zay} {bs:List Bool} (hst:st[j]? = some b.lo) (hb:BookF b bs) (hn:bs.length<1000000) (h:Int) {id_:List Int} (hid_:wfB id_=true) :
  ∃(r:Int) (b':Zay) (ex:LL),Zak N (some j) h [[L.arr .u8 32 id_]] st=some (r,st.set j b'.lo++ex)∧BookF b' (bs++if dueB b.Plan (w64 (h+0))=true then [bitI N b.Plan id_] else [])∧b'.met=b.met∧b'.Plan=b.Plan:=by
 have hbit:=Bit_is hN b.Plan hid_
 generalize bitI N b.Plan id_=bit at hbit ⊢
 obtain ⟨ws,ew,lw,ww,wb⟩:=hb.w
 obtain ⟨n,en⟩ : ∃n,n=bs.length:=⟨_,rfl⟩
 rw [←en] at lw hn
 have gm:=hb.m
 have hg:=hb.g
 rw [←en] at hg
 unfold Zak
 rw [if_neg (by simp)]
 obtain ⟨M,rfl⟩ : ∃M,N=M+2:=⟨N-2,by omega⟩
 have hend : ∀(n_:Int) (s:LL),loopN (Zak.p1 (M+2) h [[L.arr .u8 32 id_]]) (M+1) (some j,n_,1,s)=some (n_,s):=by
  intro n_ s
  rw [Zas]
  unfold Zak.p1
  dsimp only
  rw [if_neg (by simp [len])]
 rw [Zas]
 generalize hG:loopN (Zak.p1 (M+2) h [[L.arr .u8 32 id_]]) (M+1)=G at hend
 unfold Zak.p1 Zak.p2 Zak.p3 Zak.p4
 dsimp only
 rw [if_pos (by simp [len]),Zah (by omega),show ([[L.arr .u8 32 id_]]:LL)[Int.toNat 0]? = some [L.arr .u8 32 id_] from rfl,ZaD,Zhb,Zab,hst,ZaD,Zcb]
 rw [Due_is (N:=M+2) hb.pl (w64 (h+0)),Zab,show w64 (0+1)=1 from rfl]
 cases dueB b.Plan (w64 (h+0)) with
 | false=>
  rw [if_pos (by rfl),hend]
  exact ⟨0,b,[],by rw [List.append_nil];congr 2;exact (ZiN hst).symm,by rw [if_neg (by simp),List.append_nil];exact hb,rfl,rfl⟩
 | true=>
  rw [if_neg (by simp),if_pos rfl]
  have step : ∀(b1:Zay) (ws:List Int) (s0:LL),s0[j]? = some b1.lo→b1.words=rowU ws→n/64<ws.length→b1.given=(n:Int)→b1.Plan=b.Plan→b1.met=b.met→ws.length=(n+1+63)/64→(∀x∈ws,isW x)→(∀i,i<64*ws.length→(ws.getD (i/64) 0).toNat.testBit (i%64)=bs.getD i false) →
    ∃(b':Zay) (ex:LL),(getE (s0[j]?) Zbm fun x24=>optE (ZbF (M+2) x24.Plan id_ s0) fun (x25,st26)=>
     if x25=true then getE (st26[j]?) Zbm fun x27=>chk (0≤(w64 (Int.tdiv x27.given 64)))<|chk ((w64 (Int.tdiv x27.given 64))<(len x27.words))<|getE (x27.words[0+(Int.toNat (w64 (Int.tdiv x27.given 64)))]?) ZfZ fun x28=>chk (0≤(Int.tmod x27.given 64))<|
      getE ((List.set st26 j (Zay.lo {x27 with words:=List.set x27.words (0+(Int.toNat (w64 (Int.tdiv x27.given 64)))) [L.int .u64 (bitsOf .or .u64 x28 (shlOf .u64 1 (Int.tmod x27.given 64)))]}))[j]?) Zbm fun x30=>G (some j,1,1,(List.set (List.set st26 j (Zay.lo {x27 with words:=List.set x27.words (0+(Int.toNat (w64 (Int.tdiv x27.given 64)))) [L.int .u64 (bitsOf .or .u64 x28 (shlOf .u64 1 (Int.tmod x27.given 64)))]})) j (Zay.lo {x30 with given:=w64 (x30.given+1)})))
     else getE (st26[j]?) Zbm fun x30=>G (some j,1,1,(List.set st26 j (Zay.lo {x30 with given:=w64 (x30.given+1)}))))=some (1,s0.set j b'.lo++ex)∧BookF b' (bs ++ [bit])∧b'.met=b.met∧b'.Plan=b.Plan:=by
   intro b1 ws s0 hs0 e1 l1 e2 e3 e4 l2 ww wb
   obtain ⟨ex,hex⟩:=hbit s0
   have gd:ws.getD (n/64) 0=ws[n/64]:=by simp [List.getD,l1]
   have tm:Int.tmod (n:Int) 64=((n%64:Nat):Int):=by rw [Int.tmod_eq_emod_of_nonneg (by omega)];omega
   have hjl:=(List.getElem?_eq_some_iff.1 hs0).1
   have ga:(s0++ex)[j]? = some b1.lo:=ZfB hs0
   have sa : ∀x:List L,(s0++ex).set j x=s0.set j x++ex:=fun x=>List.set_append_left _ _ hjl
   have td:Int.tdiv (n:Int) 64=((n/64:Nat):Int):=by rw [Int.tdiv_eq_ediv_of_nonneg (by omega)];omega
   rw [hs0,ZaD,Zcb,e3,hex,Zab]
   dsimp only
   cases bit with
   | true=>
    rw [if_pos rfl,ga,ZaD,Zcb]
    have gs:((s0++ex).set j (Zay.lo {b1 with words:=(rowU ws).set (0+n/64) [L.int .u64 (bitsOf .or .u64 ws[n/64] (shlOf .u64 1 (Int.tmod (n:Int) 64)))]}))[j]? = some (Zay.lo {b1 with words:=(rowU ws).set (0+n/64) [L.int .u64 (bitsOf .or .u64 ws[n/64] (shlOf .u64 1 (Int.tmod (n:Int) 64)))]}):=List.getElem?_set_self (List.getElem?_eq_some_iff.1 ga).1
    rw [e2,td,ZaA (by omega) (by omega),Int.toNat_natCast,e1,Zah (by omega),Zah (by simp [len];omega),Nat.zero_add,Zlc l1,ZaD,ZiD,Zah (by rw [Int.tmod_eq_emod_of_nonneg (by omega)];omega)]
    rw [Nat.zero_add,e2] at gs
    rw [gs,ZaD,Zcb,hend,List.set_set,sa]
    refine ⟨_,ex,rfl,⟨by rw [show ({b1 with words:=_,given:=_}:Zay).Plan=b1.Plan from rfl,e3];exact hb.pl,⟨ws.set (n/64) (bitsOf .or .u64 ws[n/64] (shlOf .u64 1 (Int.tmod (n:Int) 64))),by dsimp only;rw [rowU_set],by rw [List.length_set,List.length_append,List.length_singleton];omega,?_,?_⟩,by dsimp only;rw [ZaA (by omega) (by omega),List.length_append,List.length_singleton];omega,?_⟩,e4,e3⟩
    ·intro x hx
     rcases List.mem_or_eq_of_mem_set hx with h1 | h1
     ·exact ww x h1
     ·rw [h1,tm];exact (or_bit (ww _ (List.getElem_mem l1)) (by omega)).1
    ·intro i hi
     rw [List.length_set] at hi
     rw [Zkd,tm,List.getD_eq_getElem?_getD,List.getElem?_set]
     by_cases hk:n/64=i/64
     ·rw [if_pos hk,if_pos l1,Option.getD_some,(or_bit (ww _ (List.getElem_mem l1)) (by omega)).2 _ (by omega),←gd,hk,wb i hi]
      by_cases hi':i=bs.length
      ·rw [if_pos hi',decide_eq_true (by omega),Bool.or_true]
      ·rw [if_neg hi',decide_eq_false (by omega),Bool.or_false]
     ·rw [if_neg hk,if_neg (by intro e;apply hk;omega),←List.getD_eq_getElem?_getD,wb i hi]
    ·dsimp only
     rw [e4,ZaA (by omega) (by omega)]
     omega
   | false=>
    rw [if_neg (by simp),ga,ZaD,Zcb,hend,sa]
    refine ⟨_,ex,rfl,⟨by rw [show ({b1 with given:=_}:Zay).Plan=b1.Plan from rfl,e3];exact hb.pl,⟨ws,e1,by rw [List.length_append,List.length_singleton];omega,ww,fun i hi=>?_⟩,by dsimp only;rw [e2,ZaA (by omega) (by omega),List.length_append,List.length_singleton];omega,?_⟩,e4,e3⟩
    ·rw [Zkd,wb i hi]
     split
     ·rename_i hi';rw [hi',List.getD_eq_getElem?_getD,List.getElem?_eq_none (Nat.le_refl _)];rfl
     ·rfl
    dsimp only
    rw [e4,e2,ZaA (by omega) (by omega)]
    omega
  by_cases h64:n%64=0
  ·have hjl:=(List.getElem?_eq_some_iff.1 hst).1
   rw [if_pos (by rw [hg,Int.tmod_eq_emod_of_nonneg (by omega)];simp;omega),Zah (by rw [ew];simp;omega),List.set_set]
   have hs1:(st.set j (Zay.lo {b with words:=b.words ++ [[L.int .u64 0]]}))[j]? = some (Zay.lo {b with words:=b.words ++ [[L.int .u64 0]]}):=List.getElem?_set_self hjl
   obtain ⟨b',ex,e,ok,em,ep⟩:=step {b with words:=b.words ++ [[L.int .u64 0]]} (ws ++ [(0:Int)]) _ hs1 (by dsimp only;rw [ew,Zmk]) (by simp;omega) hg rfl rfl (by simp;omega) (fun x hx=>by
    rcases List.mem_append.1 hx with h1 | h1
    ·exact ww x h1
    ·simp only [List.mem_singleton] at h1;rw [h1];exact ⟨by omega,by omega⟩) (fun i hi=>by
    have hi:i<64*(ws.length+1):=by simpa using hi
    by_cases h1:i/64<ws.length
    ·rw [←wb i (by omega),List.getD_eq_getElem?_getD,List.getD_eq_getElem?_getD,List.getElem?_append_left h1]
    ·rw [List.getD_eq_getElem?_getD,List.getElem?_append_right (by omega),show i/64-ws.length=0 by omega,List.getD_eq_getElem?_getD,List.getElem?_eq_none (l:=bs) (by omega)];simp)
   rw [List.set_set] at e
   exact ⟨1,b',ex,e,ok,em,ep⟩
  ·rw [if_neg (by rw [hg,Int.tmod_eq_emod_of_nonneg (by omega)];simp;omega)]
   obtain ⟨b',ex,e,ok,em,ep⟩:=step b ws st hst ew (by omega) hg rfl rfl (by omega) ww wb
   rw [hst] at e
   exact ⟨1,b',ex,e,ok,em,ep⟩
noncomputable def spF (p:Zag) (a:Zax) (l:List Zaa):Zax:=l.foldl (behind p) a
noncomputable def wkF (w:Int) (l:List Zaa):Int:=l.foldl (fun w h=>wkAdd w (wkBits h.Bits)) w
noncomputable def btF (N:Nat) (p:Zbj):Int→List Zaa→List Bool
 | _,[]=>[]
 | k,h::t=>(if dueB p k=true then [bitI N p (hid h)] else [])++btF N p (k+1) t
theorem Zhh (p:Zag) (a:Zax) (l:List Zaa) (h:Zaa):spF p a (l ++ [h])=behind p (spF p a l) h:=by simp [spF]
theorem ZiI (w:Int) (l:List Zaa) (h:Zaa):wkF w (l ++ [h])=wkAdd (wkF w l) (wkBits h.Bits):=by simp [wkF]
theorem Zjp (N:Nat) (p:Zbj) (h:Zaa) : ∀(l:List Zaa) (k:Int),btF N p k (l ++ [h])=btF N p k l++(if dueB p (k+l.length)=true then [bitI N p (hid h)] else [])
 | [],k=>by simp [btF]
 | x::l,k=>by
  rw [List.cons_append,btF,btF,Zjp N p h l (k+1),List.append_assoc,List.length_cons,show k+1+(l.length:Int)=k+((l.length+1:Nat):Int) by omega]
theorem ZhV (N:Nat) (p:Zbj) : ∀(l:List Zaa) (k:Int),(btF N p k l).length≤l.length
 | [],k=>by simp [btF]
 | x::l,k=>by
  have:=ZhV N p l (k+1)
  rw [btF,List.length_append,List.length_cons]
  split
  ·rw [List.length_singleton];omega
  ·rw [List.length_nil];omega
theorem Zfl : ∀(l:List Zaa) {w:Int},isN w→isN (wkF w l)
 | [],w,hw=>hw
 | x::l,w,hw=>Zfl l (Zjt hw (ZeA _))
theorem ZgE (p:Zag) : ∀(l:List Zaa) (a:Zax),0≤a.Point.Height→a.Point.Height+l.length≤4000000000000→(spF p a l).Point.Height=a.Point.Height+l.length
 | [],a,_,_=>by simp [spF]
 | x::l,a,h0,h1=>by
  rw [List.length_cons] at h1 ⊢
  have e:(behind p a x).Point.Height=a.Point.Height+1:=by
   show w64 (a.Point.Height+1)=_
   rw [ZaA (by omega) (by omega)]
  have:=ZgE p l (behind p a x) (by omega) (by omega)
  show (spF p (behind p a x) l).Point.Height=_
  omega
structure Lk where
 p:Zag
 gs:List ZbW
 cs:List ZbD
 plan:Zbj
 a:Zax
 w:Int
 mw:Int
 most:Int
structure Ab where
 ph:Int
 seen:List Zaa
 tw:List Zaa
 told:Nat
noncomputable def Lk.bt (k:Lk) (N:Nat) (l:List Zaa):List Bool:=btF N k.plan k.a.Point.Height l
noncomputable def lookA (N:Nat) (k:Lk) (now:Int):List Zaa→List Zaa→Int×List Zaa×Bool
 | seen,[]=>(0,seen,false)
 | seen,h::t=>
  if checkS k.p k.gs k.cs (spF k.p k.a seen) h now=0 then
   if ((k.bt N (seen ++ [h])).length:Int)>k.most then (3,seen ++ [h],false)
   else if wkF k.w (seen ++ [h])<k.mw then lookA N k now (seen ++ [h]) t
   else (0,seen ++ [h],true)
  else (8,seen,false)
structure SyF (N:Nat) (k:Lk) (st:LL) (i j:Nat) (s:Sy) (b:Zay) (n c:Nat) (A:Ab):Prop where
 B:SyB k.gs k.cs st i j s b n c
 p:s.p=k.p
 mw:s.p.MinWork=nw k.mw∧isN k.mw
 a:A.ph≠0→s.sa=k.a∧s.sw=nw k.w
 w:isN k.w
 most:s.most=k.most
 ht:0≤k.a.Point.Height∧k.a.Point.Height≤1000000
 ph:s.ph=A.ph
 ls:A.seen.length≤c∧A.tw.length≤c
 bk:A.ph≠0→BookF b (k.bt N A.seen)∧b.Plan=k.plan
 one:A.ph=1→s.b=spF k.p k.a A.seen∧s.bw=nw (wkF k.w A.seen)∧s.buf = []∧b.met=0∧A.tw = []∧A.told=0
 two:A.ph=2∨A.ph=3→s.b=spF k.p k.a A.tw∧s.bw=nw (wkF k.w A.tw)∧s.buf=rowH (A.tw.drop A.told)∧A.told≤A.tw.length
 met:A.ph=2→b.met=((k.bt N A.tw).length:Int)∧k.bt N A.tw <+: k.bt N A.seen
theorem BookOk.uniq {b:Zay} {n m:Nat} (h:BookOk b n) (k:BookOk b m):n=m:=by have:=h.g;have:=k.g;omega
theorem look_F (hN:1000≤N) {k:Lk} (lg:k.gs.length≤400) (lc:k.cs.length≤400) {st:LL} {i j:Nat} {s:Sy} {b:Zay} {n c:Nat} {A:Ab} (S:SyF N k st i j s b n c A) (hph:A.ph=1) (l:List Zaa) (hl : ∀x∈l,WfH x) (h64:l.length≤64) (hc:c≤900000) (now:Int) (hnow:0≤now∧now≤9223372036854775807) :
  ∃r,ZaQ N (some i) now (rowH l) st=some r∧r.1=(lookA N k now A.seen l).1∧Keep i j st r.2∧∃s' b' n',
   s'.p=s.p∧s'.most=s.most∧s'.size=s.size∧SyB k.gs k.cs r.2 i j s' b' n' (c+l.length)∧(r.1=0→SyF N k r.2 i j s' b' n' (c+l.length) ⟨if (lookA N k now A.seen l).2.2=true then 2 else 1,(lookA N k now A.seen l).2.1,[],0⟩):=by
 have T : ∀v,v≤l.length→(lookA N k now A.seen l)=(lookA N k now A.seen l):=fun _ _=>rfl
 unfold ZaQ
 generalize hR:lookA N k now A.seen l=R
 refine Zec (Q:=fun r:Int×LL=>r.1=R.1∧Keep i j st r.2∧∃s' b' n',
   s'.p=s.p∧s'.most=s.most∧s'.size=s.size∧SyB k.gs k.cs r.2 i j s' b' n' (c+l.length)∧(r.1=0→SyF N k r.2 i j s' b' n' (c+l.length) ⟨if R.2.2=true then 2 else 1,R.2.1,[],0⟩)) (fun m (x:(Option Nat)×Int×LL)=>∃(v:Nat) (st1:LL) (s1:Sy) (b1:Zay) (n1:Nat) (seen:List Zaa),x=(some i,(v:Int),st1)∧v+m=l.length∧SyF N k st1 i j s1 b1 n1 (c+v) ⟨1,seen,[],0⟩∧Keep i j st st1∧s1.p=s.p∧s1.most=s.most∧s1.size=s.size∧lookA N k now seen (l.drop v)=R) ?_ N l.length _ ⟨0,st,s,b,n,A.seen,rfl,by omega,by
    obtain ⟨ph,seen,tw,told⟩:=A
    obtain ⟨h1,h2,h3,h4,h5,h6⟩:=S.one hph
    dsimp only at hph h5 h6
    subst hph h5 h6
    exact S,Keep.rfl' _ _ _,rfl,rfl,rfl,by rw [List.drop_zero];exact hR⟩ (by omega)
 clear S hph T hR
 rintro G m _ ⟨v,st1,s1,b1,n1,seen,rfl,hv,S,K,ep,em,ez,hA⟩ hG
 have SB:=S.B
 obtain ⟨e1,e2,e3,e4,_,_⟩:=S.one rfl
 obtain ⟨F,epl⟩:=S.bk (by simp)
 have hph:=S.ph
 have hgt:=S.ht
 dsimp only at e1 e2 F hph
 have lsn:seen.length≤c+v:=S.ls.1
 have hgt1:s1.b.Point.Height=k.a.Point.Height+seen.length:=by rw [e1];exact ZgE _ _ _ hgt.1 (by omega)
 unfold ZaQ.p1
 dsimp only
 rw [ZeM]
 by_cases hlt:v<l.length
 ·have wh:=hl _ (List.getElem_mem hlt)
  rw [List.drop_eq_getElem_cons hlt] at hA
  unfold lookA at hA
  rw [if_pos (by simp<;>omega),Zah (by omega),Int.toNat_natCast,Zey hlt,ZaD,Zcv,Zab,SB.o,ZaD,ZfP]
  have isT:isI s1.b.Times=true:=by have sb:=SB.wb;simp only [wfS,Bool.and_eq_true] at sb;exact sb.1
  have wkn:isN (wkF k.w seen):=Zfl _ S.w
  have eon:ZbZ N (some i) l[v] now st1=if checkS k.p k.gs k.cs (spF k.p k.a seen) l[v] now=0 then some (true,st1.set i ({s1 with b:=spF k.p k.a (seen ++ [l[v]]),bw:=nw (wkF k.w (seen ++ [l[v]]))}:Sy).ll) else some (false,st1):=by
   rw [on_unf SB.o,Zgg (by omega) SB.hg SB.hc lg lc wh.w isT now (by omega),Zab,S.p,e1]
   by_cases h0:checkS k.p k.gs k.cs (spF k.p k.a seen) l[v] now=0
   ·rw [if_neg (by simp [h0]),if_pos h0,Zee (by omega) wh.w (by rw [←e1];exact SB.wb),Zab,ZfO (by omega),Zab,e2,Zhq (by omega) wkn (ZeA _),Zab,Zhh,ZiI]
   ·rw [if_pos (by simpa using h0),if_neg h0]
  rw [eon]
  by_cases h0:checkS k.p k.gs k.cs (spF k.p k.a seen) l[v] now=0
  ·rw [if_pos h0] at hA
   have S1:=SB.on l[v] (w:=wkF k.w (seen ++ [l[v]])) (Zfl _ S.w)
   rw [show behind s1.p s1.b l[v]=spF k.p k.a (seen ++ [l[v]]) by rw [S.p,e1,Zhh]] at S1
   rw [if_pos h0,Zab]
   dsimp only
   rw [if_neg (by simp),S1.o,ZaD,ZfP]
   dsimp only
   rw [Zei (by omega) wh.w,Zab]
   have hn1:(k.bt N seen).length<1000000:=by
    have h1:=ZhV N k.plan seen k.a.Point.Height
    show (btF N k.plan k.a.Point.Height seen).length<_
    omega
   obtain ⟨r,b2,ex,eG,F2,g3,g4⟩:=Give_F hN S1.k F hn1 s1.b.Point.Height (ZlW l[v])
   have eb2:k.bt N seen++(if dueB b1.Plan (w64 (s1.b.Point.Height+0))=true then [bitI N b1.Plan (hid l[v])] else [])=k.bt N (seen ++ [l[v]]):=by
    unfold Lk.bt
    rw [Zjp,epl,hgt1,Int.add_zero,ZaA (by omega) (by omega)]
   rw [eb2] at F2
   have hn2:(k.bt N (seen ++ [l[v]])).length≤c+(v+1):=by
    have h1:=ZhV N k.plan (seen ++ [l[v]]) k.a.Point.Height
    show (btF N k.plan k.a.Point.Height (seen ++ [l[v]])).length≤_
    rw [List.length_append,List.length_singleton] at h1
    omega
   have S2:=S1.give ex F2.ok (c':=c+(v+1)) hn2 (by omega)
   have K2:Keep i j st (((st1.set i ({s1 with b:=spF k.p k.a (seen ++ [l[v]]),bw:=nw (wkF k.w (seen ++ [l[v]]))}:Sy).ll).set j b2.lo)++ex):=(K.trans (Keep.seti i j _ _)).trans (Keep.setj i j _ _ _)
   have eo : ∀{α:Type} (f:Nat→Option α),optE s1.bk f=f j:=fun f=>by rw [SB.bk];rfl
   rw [←SB.bk] at eG
   rw [eG,Zab]
   dsimp only
   rw [S2.o,ZaD,ZfP]
   dsimp only
   rw [eo,S2.k,ZaD,Zcb]
   unfold Zcd
   rw [Zab]
   generalize ((st1.set i ({s1 with b:=spF k.p k.a (seen ++ [l[v]]),bw:=nw (wkF k.w (seen ++ [l[v]]))}:Sy).ll).set j b2.lo)++ex=st2 at S2 K2 ⊢
   have S2':=S2.more (c':=c+l.length) (by omega)
   have gv:=F2.g
   have emost:s1.most=k.most:=S.most
   by_cases hm:b2.given>s1.most
   ·rw [if_pos (show ((k.bt N (seen ++ [l[v]])).length:Int)>k.most by omega)] at hA
    rw [if_pos (by simpa using hm)]
    exact ⟨_,rfl,by rw [←hA],K2,({s1 with b:=spF k.p k.a (seen ++ [l[v]]),bw:=nw (wkF k.w (seen ++ [l[v]]))}:Sy),b2,_,ep,em,ez,S2',fun h=>by simp at h⟩
   ·rw [if_neg (show ¬ ((k.bt N (seen ++ [l[v]])).length:Int)>k.most by omega)] at hA
    rw [if_neg (by simpa using hm)]
    show ∃r,(optE (Zbi N (Sy.v {s1 with b:=spF k.p k.a (seen ++ [l[v]]),bw:=nw (wkF k.w (seen ++ [l[v]]))} b2)) _)=some r∧_
    rw [Zkj (s:={s1 with b:=spF k.p k.a (seen ++ [l[v]]),bw:=nw (wkF k.w (seen ++ [l[v]]))}) (b:=b2) (by omega) (Zfl _ S.w) S.mw.2 rfl S.mw.1,Zab]
    have lsn2:(seen ++ [l[v]]).length≤c+(v+1):=by rw [List.length_append,List.length_singleton];omega
    by_cases hwm:wkF k.w (seen ++ [l[v]])<k.mw
    ·rw [if_pos hwm] at hA
     rw [decide_eq_true hwm,if_neg (by simp),ZaA (by omega) (by omega)]
     exact hG (m-1) _ (by omega) ⟨v+1,st2,({s1 with b:=spF k.p k.a (seen ++ [l[v]]),bw:=nw (wkF k.w (seen ++ [l[v]]))}:Sy),b2,_,seen ++ [l[v]],by rw [Int.natCast_add];rfl,by omega,
      ⟨S2,S.p,S.mw,fun _=>S.a (by simp),S.w,S.most,hgt,hph,⟨lsn2,by simp⟩,fun _=>⟨F2,g4.trans epl⟩,fun _=>⟨rfl,rfl,e3,g3.trans e4,rfl,rfl⟩,fun h=>by rcases h with h | h<;>simp at h,fun h=>by simp at h⟩,K2,ep,em,ez,hA⟩
    ·rw [if_neg hwm] at hA
     rw [decide_eq_false hwm,if_pos (by rfl),List.set_set]
     have S3:=S2'.upd {s1 with b:=s1.sa,bw:=s1.sw,ph:=2,bk:=some j} rfl SB.bk.symm rfl rfl rfl SB.wa SB.sw S2'.bu (Nat.le_refl _)
     refine ⟨_,rfl,by rw [←hA],K2.trans (Keep.seti i j _ _),{s1 with b:=s1.sa,bw:=s1.sw,ph:=2,bk:=some j},b2,_,ep,em,ez,S3,fun _=>?_⟩
     rw [←hA]
     refine ⟨S3,S.p,S.mw,fun _=>S.a (by simp),S.w,S.most,hgt,rfl,⟨by dsimp only;omega,by simp⟩,fun _=>⟨F2,g4.trans epl⟩,fun h=>by simp at h,fun _=>⟨(S.a (by simp)).1,(S.a (by simp)).2,?_,by simp⟩,fun _=>⟨?_,?_⟩⟩
     ·dsimp only;rw [e3];rfl
     ·rw [g3,e4];simp [Lk.bt,btF]
     ·simp [Lk.bt,btF]
  ·rw [if_neg h0] at hA
   rw [if_neg h0,Zab]
   dsimp only
   rw [if_pos (by rfl)]
   exact ⟨_,rfl,by rw [←hA],K,s1,b1,n1,ep,em,ez,SB.more (by omega),fun h=>by simp at h⟩
 ·rw [List.drop_eq_nil_of_le (by omega)] at hA
  unfold lookA at hA
  rw [if_neg (by simp<;>omega)]
  rw [show c+v=c+l.length by omega] at S
  refine ⟨_,rfl,by rw [←hA],K,s1,b1,n1,ep,em,ez,S.B,fun _=>?_⟩
  rw [←hA]
  exact S
theorem ZkE {tb bs:List Bool} (h:tb <+: bs) (x:Bool):tb ++ [x] <+: bs↔bs[tb.length]? = some x:=by
 obtain ⟨r,rfl⟩:=h
 rw [List.getElem?_append_right (Nat.le_refl _),Nat.sub_self]
 constructor
 ·rintro ⟨q,hq⟩
  rw [List.append_assoc] at hq
  have:=List.append_cancel_left hq
  rw [←this];rfl
 ·intro h
  cases r with
  | nil=>simp at h
  | cons y r=>simp only [List.getElem?_cons_zero,Option.some.injEq] at h;subst h;exact ⟨r,by simp⟩
theorem Meet_F (hN:1000≤N) {st:LL} {j:Nat} {b:Zay} {bs tb:List Bool} (hst:st[j]? = some b.lo) (hb:BookF b bs) (hn:bs.length<1000000) (hm:b.met=(tb.length:Int)) (hpre:tb <+: bs) (h:Int) {id_:List Int} (hid_:wfB id_=true) :
  ∃(r:Bool) (b':Zay) (ex:LL),Zck N (some j) h id_ st=some (r,st.set j b'.lo++ex)∧BookF b' bs∧b'.Plan=b.Plan ∧
   (r=true↔tb++(if dueB b.Plan h=true then [bitI N b.Plan id_] else []) <+: bs)∧(r=true→b'.met=((tb++(if dueB b.Plan h=true then [bitI N b.Plan id_] else [])).length:Int)):=by
 obtain ⟨ex0,hbit⟩:=Bit_is hN b.Plan hid_ st
 generalize bitI N b.Plan id_=bit at hbit ⊢
 obtain ⟨ws,ew,lw,ww,wb⟩:=hb.w
 have gm:=hb.m
 have hg:=hb.g
 have same : ∀(r:Bool),some (r,st)=some (r,st.set j b.lo ++ []):=fun r=>by rw [List.append_nil,ZiN hst]
 unfold Zck
 rw [if_neg (by simp),Zab,hst,ZaD,Zcb,Due_is (N:=N) hb.pl h,Zab]
 cases dueB b.Plan h with
 | false=>rw [if_pos (by rfl)];exact ⟨true,b,[],same true,hb,rfl,by simpa using hpre,fun _=>by simpa using hm⟩
 | true=>
  rw [if_neg (by simp),if_pos rfl,ZkE hpre]
  by_cases hm2:b.met≥b.given
  ·rw [if_pos (by simpa using hm2)]
   exact ⟨false,b,[],same false,hb,rfl,by rw [List.getElem?_eq_none (by omega)];simp,fun h=>by cases h⟩
  ·rw [if_neg (by simpa using hm2)]
   generalize hq':tb.length=q at hm ⊢
   have hq:q<bs.length:=by omega
   have hqw:q/64<ws.length:=by omega
   have td:Int.tdiv (q:Int) 64=((q/64:Nat):Int):=by rw [Int.tdiv_eq_ediv_of_nonneg (by omega)];omega
   have tm:Int.tmod (q:Int) 64=((q%64:Nat):Int):=by rw [Int.tmod_eq_emod_of_nonneg (by omega)];omega
   have gq:=wb q (by omega)
   rw [show ws.getD (q/64) 0=ws[q/64] by simp [List.getD,hqw]] at gq
   have gd:bs.getD q false=bs[q]:=by simp [List.getD,hq]
   unfold Zcr
   rw [hm,td,ZaA (n:=((q/64:Nat):Int)) (by omega) (by omega),Zah (by omega),ew,Zah (by simp [len];omega),Int.toNat_natCast,Zlc hqw,ZaD,ZiD,tm,Zah (by omega),Zab,at_bit (ww _ (List.getElem_mem hqw)) (by omega),gq,gd]
   have hjl:=(List.getElem?_eq_some_iff.1 hst).1
   rw [hbit,Zab,List.getElem?_eq_getElem hq]
   dsimp only
   by_cases hx:bs[q]=bit
   ·rw [if_neg (by simp [hx]),ZfB hst,ZaD,Zcb,List.set_append_left _ _ hjl]
    refine ⟨true,{b with met:=w64 (b.met+1)},ex0,rfl,⟨hb.pl,⟨ws,ew,lw,ww,wb⟩,hg,?_⟩,rfl,by simp [hx],fun _=>?_⟩
    ·dsimp only
     rw [hm,ZaA (by omega) (by omega)]
     omega
    ·dsimp only
     rw [hm,ZaA (by omega) (by omega),List.length_append,List.length_singleton]
     omega
   ·rw [if_pos (by simp [hx])]
    exact ⟨false,b,ex0,by rw [ZiN hst],hb,rfl,by simp [hx],fun h=>by cases h⟩
theorem on_F (hN:1000≤N) {k:Lk} (lg:k.gs.length≤400) (lc:k.cs.length≤400) {st:LL} {i j:Nat} {s:Sy} {b:Zay} {n c:Nat} {A:Ab} (S:SyF N k st i j s b n c A) {l:List Zaa} (e1:s.b=spF k.p k.a l) (e2:s.bw=nw (wkF k.w l)) {h:Zaa} (wh:WfH h) (now:Int) (hnow:0≤now∧now≤9223372036854775807) :
  ZbZ N (some i) h now st=if checkS k.p k.gs k.cs (spF k.p k.a l) h now=0 then some (true,st.set i ({s with b:=spF k.p k.a (l ++ [h]),bw:=nw (wkF k.w (l ++ [h]))}:Sy).ll) else some (false,st):=by
 have SB:=S.B
 have isT:isI s.b.Times=true:=by have sb:=SB.wb;simp only [wfS,Bool.and_eq_true] at sb;exact sb.1
 have wkn:isN (wkF k.w l):=Zfl _ S.w
 rw [on_unf SB.o,Zgg (by omega) SB.hg SB.hc lg lc wh.w isT now (by omega),Zab,S.p,e1]
 by_cases h0:checkS k.p k.gs k.cs (spF k.p k.a l) h now=0
 ·rw [if_neg (by simp [h0]),if_pos h0,Zee (by omega) wh.w (by rw [←e1];exact SB.wb),Zab,ZfO (by omega),Zab,e2,Zhq (by omega) wkn (ZeA _),Zab,Zhh,ZiI]
 ·rw [if_pos (by simpa using h0),if_neg h0]
theorem ZlT (hN:1000≤N) {k:Lk} {st:LL} {i j:Nat} {s:Sy} {b:Zay} {n c:Nat} (S:SyB k.gs k.cs st i j s b n c) {w:Int} (hw:isN w) (ew:s.bw=nw w) (hm:isN k.mw) (em:s.p.MinWork=nw k.mw) (hc:c≤900000) (h:Zaa) (now:Int) (l:LL) (v x:Int) (u:Bool) (cc:(Option Nat)×Int×LL→Option (Int×LL)) :
  Zan.p2 N cc i now l v x u h st=cc (some i,w64 (v+1),st.set i ({s with buf:=s.buf ++ [h.ls],bk:=some j,ph:=if w<k.mw then s.ph else 3}:Sy).ll):=by
 obtain ⟨q,eb,hq⟩:=S.bu
 have eo : ∀{α:Type} (f:Nat→Option α),optE s.bk f=f j:=fun f=>by rw [S.bk];rfl
 have e1:s.buf ++ [h.ls]=rowH (q ++ [h]):=by rw [eb];simp [rowH]
 unfold Zan.p2 Zan.p3
 rw [S.o,ZaD,ZfP,Zah (by rw [e1,Zea,List.length_append,List.length_singleton];omega),eo,List.set_set,List.getElem?_set_ne S.ij,S.k,ZaD,Zcb]
 show (optE (Zbi N (Sy.v ({s with buf:=s.buf ++ [h.ls]}:Sy) b)) _)=_
 rw [Zkj (s:=({s with buf:=s.buf ++ [h.ls]}:Sy)) (b:=b) (by omega) hw hm ew em,Zab]
 by_cases hwm:w<k.mw
 ·rw [decide_eq_true hwm,if_neg (by simp),if_pos hwm];rfl
 ·rw [decide_eq_false hwm,if_pos (by rfl),if_neg hwm,List.set_set];rfl
open Classical in
noncomputable def againA (N:Nat) (k:Lk) (now:Int) (seen:List Zaa):Bool→List Zaa→List Zaa→Int×List Zaa×Bool
 | d,tw,[]=>(0,tw,d)
 | d,tw,h::t=>
  if checkS k.p k.gs k.cs (spF k.p k.a tw) h now=0∧(d=true∨k.bt N (tw ++ [h]) <+: k.bt N seen) then
   againA N k now seen (d || !decide (wkF k.w (tw ++ [h])<k.mw)) (tw ++ [h]) t
  else (8,tw,d)
def ph2 (d:Bool):Int:=if d=true then 3 else 2
theorem Zmr (d:Bool):ph2 d≠0:=by cases d<;>simp [ph2]
theorem SyB.upd2 {gs:List ZbW} {cs:List ZbD} {st:LL} {i j:Nat} {s:Sy} {b:Zay} {n c:Nat} (S:SyB gs cs st i j s b n c) (h:Zaa) (x:Int):SyB gs cs (st.set i ({s with buf:=s.buf ++ [h.ls],bk:=some j,ph:=x}:Sy).ll) i j {s with buf:=s.buf ++ [h.ls],bk:=some j,ph:=x} b n (c+1):=by
 obtain ⟨q,eb,hq⟩:=S.bu
 exact S.upd ({s with buf:=s.buf ++ [h.ls],bk:=some j,ph:=x}:Sy) rfl S.bk.symm rfl rfl rfl S.wb S.bw ⟨q ++ [h],by show s.buf ++ [h.ls]=_;rw [eb];simp [rowH],by rw [List.length_append,List.length_singleton];omega⟩ (by omega)
open Classical in
theorem again_F (hN:1000≤N) {k:Lk} (lg:k.gs.length≤400) (lc:k.cs.length≤400) {st:LL} {i j:Nat} {s:Sy} {b:Zay} {n c:Nat} {A:Ab} (S:SyF N k st i j s b n c A) (hph:A.ph=2) (l:List Zaa) (hl : ∀x∈l,WfH x) (h64:l.length≤64) (hc:c≤800000) (now:Int) (hnow:0≤now∧now≤9223372036854775807) :
  ∃r,Zan N (some i) now (rowH l) st=some r∧r.1=(againA N k now A.seen false A.tw l).1∧Keep i j st r.2∧∃s' b',
   s'.p=s.p∧s'.most=s.most∧s'.size=s.size∧SyB k.gs k.cs r.2 i j s' b' n (c+l.length)∧(r.1=0→SyF N k r.2 i j s' b' n (c+l.length) ⟨ph2 (againA N k now A.seen false A.tw l).2.2,A.seen,(againA N k now A.seen false A.tw l).2.1,A.told⟩):=by
 obtain ⟨ph,seen,tw0,told⟩:=A
 dsimp only at hph ⊢
 subst hph
 unfold Zan
 generalize hR:againA N k now seen false tw0 l=R
 refine Zec (Q:=fun r:Int×LL=>r.1=R.1∧Keep i j st r.2∧∃s' b',
   s'.p=s.p∧s'.most=s.most∧s'.size=s.size∧SyB k.gs k.cs r.2 i j s' b' n (c+l.length)∧(r.1=0→SyF N k r.2 i j s' b' n (c+l.length) ⟨ph2 R.2.2,seen,R.2.1,told⟩)) (fun m (x:(Option Nat)×Int×LL)=>∃(v:Nat) (st1:LL) (s1:Sy) (b1:Zay) (d:Bool) (tw:List Zaa),x=(some i,(v:Int),st1)∧v+m=l.length∧SyF N k st1 i j s1 b1 n (c+v) ⟨ph2 d,seen,tw,told⟩∧Keep i j st st1∧s1.p=s.p∧s1.most=s.most∧s1.size=s.size∧againA N k now seen d tw (l.drop v)=R) ?_ N l.length _ ⟨0,st,s,b,false,tw0,rfl,by omega,S,Keep.rfl' _ _ _,rfl,rfl,rfl,by rw [List.drop_zero];exact hR⟩ (by omega)
 clear S hR
 rintro G m _ ⟨v,st1,s1,b1,d,tw,rfl,hv,S,K,ep,em,ez,hA⟩ hG
 have SB:=S.B
 have hd23:ph2 d=2∨ph2 d=3:=by cases d<;>simp [ph2]
 obtain ⟨e1,e2,e3,e4⟩:=S.two hd23
 have hph:=S.ph
 have hgt:=S.ht
 dsimp only at e1 e2 e3 e4 hph
 have ltw:tw.length≤c+v:=S.ls.2
 have lsn:seen.length≤c+v:=S.ls.1
 have hgt1:s1.b.Point.Height=k.a.Point.Height+tw.length:=by rw [e1];exact ZgE _ _ _ hgt.1 (by omega)
 unfold Zan.p1
 dsimp only
 rw [ZeM]
 by_cases hlt:v<l.length
 ·have wh:=hl _ (List.getElem_mem hlt)
  rw [List.drop_eq_getElem_cons hlt] at hA
  unfold againA at hA
  rw [if_pos (by simp<;>omega),Zah (by omega),Int.toNat_natCast,Zey hlt,ZaD,Zcv,Zab,SB.o,ZaD,ZfP,on_F hN lg lc S e1 e2 wh now hnow]
  by_cases h0:checkS k.p k.gs k.cs (spF k.p k.a tw) l[v] now=0
  ·have S1:=SB.on l[v] (w:=wkF k.w (tw ++ [l[v]])) (Zfl _ S.w)
   have K1:=K.trans (Keep.seti i j st1 ({s1 with b:=spF k.p k.a (tw ++ [l[v]]),bw:=nw (wkF k.w (tw ++ [l[v]]))}:Sy).ll)
   rw [show behind s1.p s1.b l[v]=spF k.p k.a (tw ++ [l[v]]) by rw [S.p,e1,Zhh]] at S1
   rw [if_pos h0,Zab]
   dsimp only
   rw [if_neg (by simp),S1.o,ZaD,ZfP]
   dsimp only
   generalize (st1.set i ({s1 with b:=spF k.p k.a (tw ++ [l[v]]),bw:=nw (wkF k.w (tw ++ [l[v]]))}:Sy).ll)=st2 at S1 K1 ⊢
   have fin : ∀(st3:LL) (b3:Zay) (x:Int) (u:Bool),SyB k.gs k.cs st3 i j {s1 with b:=spF k.p k.a (tw ++ [l[v]]),bw:=nw (wkF k.w (tw ++ [l[v]]))} b3 n (c+v)→Keep i j st st3→againA N k now seen (d || !decide (wkF k.w (tw ++ [l[v]])<k.mw)) (tw ++ [l[v]]) (l.drop (v+1))=R →
     BookF b3 (k.bt N seen)∧b3.Plan=k.plan→(d=false→b3.met=((k.bt N (tw ++ [l[v]])).length:Int)∧k.bt N (tw ++ [l[v]]) <+: k.bt N seen) →
     ∃r,Zan.p2 N G i now (rowH l) (v:Int) x u l[v] st3=some r∧r.1=R.1∧Keep i j st r.2∧∃s' b',s'.p=s.p∧s'.most=s.most∧s'.size=s.size∧SyB k.gs k.cs r.2 i j s' b' n (c+l.length)∧(r.1=0→SyF N k r.2 i j s' b' n (c+l.length) ⟨ph2 R.2.2,seen,R.2.1,told⟩):=by
    intro st3 b3 x u S3 K3 hA3 hbk hb3
    have S4:=S3.upd2 l[v] (if wkF k.w (tw ++ [l[v]])<k.mw then s1.ph else 3)
    rw [ZlT hN S3 (Zfl _ S.w) rfl S.mw.2 S.mw.1 (by omega),ZaA (by omega) (by omega)]
    dsimp only at S4 ⊢
    refine hG (m-1) _ (by omega) ⟨v+1,_,_,b3,(d || !decide (wkF k.w (tw ++ [l[v]])<k.mw)),tw ++ [l[v]],by rw [Int.natCast_add];rfl,by omega,
     ⟨S4,S.p,S.mw,fun _=>S.a (Zmr d),S.w,S.most,hgt,?_,⟨by dsimp only;omega,by dsimp only;rw [List.length_append,List.length_singleton];omega⟩,?_,?_,fun _=>⟨rfl,rfl,?_,?_⟩,?_⟩,K3.trans (Keep.seti _ _ _ _),ep,em,ez,hA3⟩
    ·dsimp only
     rw [hph]
     cases d<;>by_cases hwm:wkF k.w (tw ++ [l[v]])<k.mw<;>simp [ph2,hwm]
    ·exact fun _=>hbk
    ·intro h;exfalso
     revert h
     dsimp only
     generalize (d || !decide (wkF k.w (tw ++ [l[v]])<k.mw))=q
     cases q<;>simp [ph2]
    ·dsimp only
     rw [e3,List.drop_append_of_le_length e4];simp [rowH]
    ·dsimp only;rw [List.length_append,List.length_singleton];omega
    ·intro h
     have hd:d=false:=by
      cases d with
      | false=>rfl
      | true=>simp [ph2] at h
     exact hb3 hd
   by_cases hp2:s1.ph=2
   ·have hd:d=false:=by
     cases d with
     | false=>rfl
     | true=>rw [hp2] at hph;simp [ph2] at hph
    subst hd
    obtain ⟨F,epl⟩:=S.bk (Zmr false)
    obtain ⟨e5,e6⟩:=S.met rfl
    dsimp only at F epl e5 e6
    have hn1:(k.bt N seen).length<1000000:=by
     have h1:=ZhV N k.plan seen k.a.Point.Height
     show (btF N k.plan k.a.Point.Height seen).length<_
     omega
    obtain ⟨r,b2,ex,eM,F2,epl2,hr1,hr2⟩:=Meet_F hN S1.k F hn1 e5 e6 s1.b.Point.Height (ZlW l[v])
    have eb2:k.bt N tw++(if dueB b1.Plan s1.b.Point.Height=true then [bitI N b1.Plan (hid l[v])] else [])=k.bt N (tw ++ [l[v]]):=by
     unfold Lk.bt
     rw [Zjp,epl,hgt1]
    rw [eb2] at hr1 hr2
    have S2:=S1.give ex F2.ok (c':=c+v) (by
     have h1:=ZhV N k.plan seen k.a.Point.Height
     show (btF N k.plan k.a.Point.Height seen).length≤_
     omega) (Nat.le_refl _)
    rw [←(SB.bo).uniq F.ok] at S2
    have K2:=K1.trans (Keep.setj i j st2 b2.lo ex)
    rw [←SB.bk] at eM
    rw [if_pos (by simpa using hp2),Zei (by omega) wh.w,Zab,eM,Zab]
    dsimp only
    cases r with
    | false=>
     rw [if_neg (by rintro ⟨_,h | h⟩;cases h;exact absurd (hr1.2 h) (by simp))] at hA
     rw [if_pos (by rfl)]
     exact ⟨_,rfl,by rw [←hA],K2,({s1 with b:=spF k.p k.a (tw ++ [l[v]]),bw:=nw (wkF k.w (tw ++ [l[v]]))}:Sy),b2,ep,em,ez,S2.more (by omega),fun h=>by simp at h⟩
    | true=>
     rw [if_pos ⟨h0,.inr (hr1.1 rfl)⟩] at hA
     rw [if_neg (by simp)]
     exact fin _ b2 _ _ S2 K2 hA ⟨F2,epl2.trans epl⟩ fun _=>⟨hr2 rfl,hr1.1 rfl⟩
   ·have hd:d=true:=by
     cases d with
     | true=>rfl
     | false=>rw [hph] at hp2;simp [ph2] at hp2
    subst hd
    rw [if_pos ⟨h0,.inl rfl⟩] at hA
    rw [if_neg (by simpa using hp2)]
    exact fin _ b1 _ _ S1 K1 hA (S.bk (Zmr true)) fun h=>by cases h
  ·rw [if_neg (fun h=>h0 h.1)] at hA
   rw [if_neg h0,Zab]
   dsimp only
   rw [if_pos (by rfl)]
   exact ⟨_,rfl,by rw [←hA],K,s1,b1,ep,em,ez,SB.more (by omega),fun h=>by simp at h⟩
 ·rw [List.drop_eq_nil_of_le (by omega)] at hA
  unfold againA at hA
  rw [if_neg (by simp<;>omega)]
  rw [show c+v=c+l.length by omega] at S
  refine ⟨_,rfl,by rw [←hA],K,s1,b1,ep,em,ez,S.B,fun _=>?_⟩
  rw [←hA]
  exact S
end Go.Dn.F
namespace Go.Dn.F
open Go.Dn Go.Proofs
variable {N:Nat}
noncomputable def tellN (size:Int) (A:Ab):Nat:=if A.ph=3 then (A.tw.drop A.told).length else (A.tw.drop A.told).length-size.toNat
noncomputable def feedA (N:Nat) (k:Lk) (size now:Int) (more:Bool) (l:List Zaa) (A:Ab):List Zaa×Int×Ab:=
 if A.ph=0∨A.ph=3 then ([],9,A)
 else if now<0∨now>4294967296∨l.length>64 then ([],1,A)
 else if A.ph=1 then
  if (lookA N k now A.seen l).1≠0 then ([],(lookA N k now A.seen l).1,{A with ph:=0})
  else if more=false∧(lookA N k now A.seen l).2.2=false then ([],5,{A with ph:=0})
  else ([],0,⟨if (lookA N k now A.seen l).2.2=true then 2 else 1,(lookA N k now A.seen l).2.1,[],0⟩)
 else
  if (againA N k now A.seen false A.tw l).1≠0 then ([],(againA N k now A.seen false A.tw l).1,{A with ph:=0})
  else if more=false∧(againA N k now A.seen false A.tw l).2.2=false then ([],5,{A with ph:=0})
  else
   let B:Ab:=⟨ph2 (againA N k now A.seen false A.tw l).2.2,A.seen,(againA N k now A.seen false A.tw l).2.1,A.told⟩
   ((B.tw.drop B.told).take (tellN size B),0,{B with told:=B.told+tellN size B})
theorem SyF.more {k:Lk} {st:LL} {i j:Nat} {s:Sy} {b:Zay} {n c c':Nat} {A:Ab} (S:SyF N k st i j s b n c A) (h:c≤c'):SyF N k st i j s b n c' A:=
 ⟨S.B.more h,S.p,S.mw,S.a,S.w,S.most,S.ht,S.ph,⟨Nat.le_trans S.ls.1 h,Nat.le_trans S.ls.2 h⟩,S.bk,S.one,S.two,S.met⟩
theorem free_F {k:Lk} {st:LL} {i j:Nat} {s:Sy} {b:Zay} {n c:Nat} {A:Ab} (S:SyF N k st i j s b n c A) (hph:A.ph=1∨A.ph=2∨A.ph=3) (hc:c≤900000) :
  ∃st' s',ZaC N (some i) st=some (rowH ((A.tw.drop A.told).take (tellN s.size A)),st')∧SyF N k st' i j s' b n c {A with told:=A.told+tellN s.size A}∧Keep i j st st'∧s'.p=s.p∧s'.most=s.most∧s'.size=s.size:=by
 have sz:=S.B.sz
 have eb:s.buf=rowH (A.tw.drop A.told):=by
  rcases hph with h | h
  ·obtain ⟨_,_,h3,_,h5,_⟩:=S.one h
   rw [h3,h5];simp [rowH]
  ·exact (S.two h).2.2.1
 have htw:=S.ls.2
 have hto:A.told≤A.tw.length:=by
  rcases hph with h | h
  ·obtain ⟨_,_,h3,_,h5,h6⟩:=S.one h
   omega
  ·exact (S.two h).2.2.2
 have lb:s.buf.length=A.tw.length-A.told:=by rw [eb,Zea,List.length_drop]
 have main : ∀kk:Nat,kk≤A.tw.length-A.told→ZaC.p1 N i (kk:Int) st=some (rowH ((A.tw.drop A.told).take kk),st.set i ({s with buf:=rowH (A.tw.drop (A.told+kk))}:Sy).ll) ∧
   SyF N k (st.set i ({s with buf:=rowH (A.tw.drop (A.told+kk))}:Sy).ll) i j {s with buf:=rowH (A.tw.drop (A.told+kk))} b n c {A with told:=A.told+kk}:=by
  intro kk hk
  rw [ZkQ S.B.o,Int.toNat_natCast,Zah (by omega),Zah (by omega),Zah (by rw [List.nil_append,List.length_take];omega),Zah (by omega),Zah (by rw [List.nil_append,List.length_take];omega)]
  have e2 : []++(s.buf.drop (0+kk)).take (s.buf.length-kk)=rowH (A.tw.drop (A.told+kk)):=by
   rw [List.nil_append,Nat.zero_add,List.take_of_length_le (by rw [List.length_drop];omega),eb]
   simp [rowH,List.map_drop]
  have e3 : []++s.buf.take kk=rowH ((A.tw.drop A.told).take kk):=by rw [List.nil_append,eb];simp [rowH,List.map_take]
  rw [e2,e3]
  refine ⟨rfl,⟨S.B.upd ({s with buf:=rowH (A.tw.drop (A.told+kk))}:Sy) rfl rfl rfl rfl rfl S.B.wb S.B.bw ⟨_,rfl,by rw [List.length_drop];omega⟩ (Nat.le_refl _),S.p,S.mw,S.a,S.w,S.most,S.ht,S.ph,S.ls,S.bk,fun h=>?_,fun h=>?_,S.met⟩⟩
  ·obtain ⟨h1,h2,h3,h4,h5,h6⟩:=S.one h
   have h5':A.tw.length=0:=by rw [h5];rfl
   exact ⟨h1,h2,by dsimp only;rw [h5];simp [rowH],h4,h5,by dsimp only;omega⟩
  ·obtain ⟨h1,h2,h3,h4⟩:=S.two h
   exact ⟨h1,h2,rfl,by dsimp only;omega⟩
 have key:ZaC N (some i) st=ZaC.p1 N i ((tellN s.size A:Nat):Int) st:=by
  rw [free_unf S.B.o,show len s.buf=((A.tw.length-A.told:Nat):Int) by rw [len,lb],S.ph]
  unfold tellN
  rw [List.length_drop]
  by_cases h3:A.ph=3
  ·rw [if_pos (by simpa using h3),if_pos h3]
  ·rw [if_neg (by simpa using h3),if_neg h3,ZaA (by omega) (by omega)]
   by_cases hz:(0:Int)>((A.tw.length-A.told:Nat):Int)-s.size
   ·rw [if_pos hz,show (A.tw.length-A.told)-s.size.toNat=0 by omega];rfl
   ·rw [if_neg hz];congr 1;omega
 have hle:tellN s.size A≤A.tw.length-A.told:=by
  unfold tellN
  rw [List.length_drop]
  split<;>omega
 obtain ⟨h1,h2⟩:=main _ hle
 exact ⟨_,_,key.trans h1,h2,Keep.seti _ _ _ _,rfl,rfl,rfl⟩
theorem fail_F {k:Lk} {st:LL} {i j:Nat} {s:Sy} {b:Zay} {n c:Nat} {A:Ab} (S:SyB k.gs k.cs st i j s b n c) (hp:s.p=k.p) (mw:s.p.MinWork=nw k.mw∧isN k.mw) (w:isN k.w) (most:s.most=k.most) (ht:0≤k.a.Point.Height∧k.a.Point.Height≤1000000) (ls:A.seen.length≤c∧A.tw.length≤c) (e:Int) :
  ∃st' s',ZbA N (some i) e st=some ([],e,st')∧SyF N k st' i j s' b n c {A with ph:=0}∧Keep i j st st'∧s'.p=s.p∧s'.most=s.most∧s'.size=s.size:=by
 rw [fail_unf S.o]
 refine ⟨_,({s with ph:=0,buf:=[]}:Sy),rfl,?_,Keep.seti _ _ _ _,rfl,rfl,rfl⟩
 exact {
  B:=S.upd ({s with ph:=0,buf:=[]}:Sy) rfl rfl rfl rfl rfl S.wb S.bw ⟨[],rfl,by simp⟩ (Nat.le_refl _)
  p:=hp,mw:=mw,a:=fun h=>absurd rfl h,w:=w,most:=most,ht:=ht,ph:=rfl,ls:=ls
  bk:=fun h=>absurd rfl h
  one:=fun h=>by cases h
  two:=fun h=>by rcases h with h | h<;>cases h
  met:=fun h=>by cases h}
theorem Feed_F (hN:1000≤N) {k:Lk} (lg:k.gs.length≤400) (lc:k.cs.length≤400) {st:LL} {i j:Nat} {s:Sy} {b:Zay} {n c:Nat} {A:Ab} (S:SyF N k st i j s b n c A) (hph:A.ph=0∨A.ph=1∨A.ph=2∨A.ph=3) (hc:c≤700000) (l:List Zaa) (hl : ∀x∈l,WfH x) (now:Int) (more:Bool) :
  ∃st' s' b' n',ZaJ N (some i) now more (rowH l) st=some (rowH (feedA N k s.size now more l A).1,(feedA N k s.size now more l A).2.1,st')∧SyF N k st' i j s' b' n' (c+64) (feedA N k s.size now more l A).2.2 ∧
   (feedA N k s.size now more l A).2.2.ph∈([0,1,2,3]:List Int)∧Keep i j st st'∧s'.p=s.p∧s'.most=s.most∧s'.size=s.size:=by
 have SB:=S.B
 have same : ∀e:Int,∃st' s' b' n',(some (([]:LL),e,st):Option (LL×Int×LL))=some (rowH [],e,st')∧SyF N k st' i j s' b' n' (c+64) A∧A.ph∈([0,1,2,3]:List Int)∧Keep i j st st'∧s'.p=s.p∧s'.most=s.most∧s'.size=s.size:=fun e=>
  ⟨_,s,b,n,rfl,S.more (by omega),by simp;omega,Keep.rfl' _ _ _,rfl,rfl,rfl⟩
 unfold ZaJ feedA
 rw [if_neg (by simp),Zab,SB.o,ZaD,ZfP,S.ph]
 by_cases p0:A.ph=0
 ·rw [if_pos (by simpa using p0),if_pos (.inl p0)];exact same 9
 rw [if_neg (by simpa using p0)]
 by_cases p3:A.ph=3
 ·rw [if_pos (by simpa using p3),if_pos (.inr p3)];exact same 9
 rw [if_neg (by simpa using p3),if_neg (c:=A.ph=0∨A.ph=3) (by simp [p0,p3])]
 by_cases n0:now<0
 ·rw [if_pos (by simpa using n0),if_pos (.inl n0)];exact same 1
 rw [if_neg (by simpa using n0)]
 by_cases n1:now>4294967296
 ·rw [if_pos (by simpa using n1),if_pos (.inr (.inl n1))];exact same 1
 rw [if_neg (by simpa using n1),ZeM]
 by_cases n2:(l.length:Int)>64
 ·rw [if_pos (by simpa using n2),if_pos (.inr (.inr (by omega)))];exact same 1
 rw [if_neg (by simpa using n2),if_neg (c:=now<0∨now>4294967296∨l.length>64) (by omega)]
 by_cases p1:A.ph=1
 ·obtain ⟨⟨e,st1⟩,e1,e2,K,s1,b1,n1',q1,q2,q3,B1,hS⟩:=look_F hN lg lc S p1 l hl (by omega) (by omega) now (by omega)
  dsimp only at e2 K B1 hS
  rw [if_pos (by simpa using p1),e1,Zab,if_pos p1]
  dsimp only
  unfold ZaJ.p1
  have bad : ∀e0:Int,∃st' s' b' n',(optE (ZbA N (some i) e0 st1) fun (x:LL×Int×LL)=>some (x.1,x.2.1,x.2.2))=some (rowH [],e0,st')∧SyF N k st' i j s' b' n' (c+64) {A with ph:=0}∧(0:Int)∈([0,1,2,3]:List Int)∧Keep i j st st'∧s'.p=s.p∧s'.most=s.most∧s'.size=s.size:=by
   intro e0
   obtain ⟨st2,s2,f1,f2,f3,f4,f5,f6⟩:=fail_F (N:=N) (k:=k) (A:=A) (B1.more (c':=c+64) (by omega)) (q1.trans S.p) (by rw [q1];exact S.mw) S.w (q2.trans S.most) S.ht ⟨by have:=S.ls.1;omega,by have:=S.ls.2;omega⟩ e0
   rw [f1,Zab]
   exact ⟨_,s2,b1,_,rfl,f2,by simp,K.trans f3,f4.trans q1,f5.trans q2,f6.trans q3⟩
  rw [←e2]
  by_cases h0:e=0
  ·have S1:=(hS h0).more (c':=c+64) (by omega)
   rw [if_neg (by simp [h0]),if_neg (c:=e≠0) (by simp [h0])]
   generalize hR:lookA N k now A.seen l=R at S1 ⊢
   have good : ∃st' s' b' n',(optE (ZaC N (some i) st1) fun (x:LL×LL)=>some (x.1,(0:Int),x.2))=some (rowH [],0,st')∧SyF N k st' i j s' b' n' (c+64) ⟨if R.2.2=true then 2 else 1,R.2.1,[],0⟩∧(if R.2.2=true then (2:Int) else 1)∈([0,1,2,3]:List Int)∧Keep i j st st'∧s'.p=s.p∧s'.most=s.most∧s'.size=s.size:=by
    obtain ⟨st2,s2,f1,f2,f3,f4,f5,f6⟩:=free_F (N:=N) S1 (by dsimp only;split<;>simp) (by omega)
    rw [f1,Zab]
    exact ⟨_,s2,b1,_,by simp,by simpa [tellN] using f2,by split<;>simp,K.trans f3,f4.trans q1,f5.trans q2,f6.trans q3⟩
   cases more with
   | false=>
    rw [if_pos (by rfl),S1.B.o,ZaD,ZfP,S1.ph]
    dsimp only
    cases hb:R.2.2 with
    | false=>
     rw [if_pos (by simp [p1]),if_pos ⟨rfl,rfl⟩];exact bad 5
    | true=>
     rw [hb] at good
     rw [if_neg (by simp [p1]),if_neg (c:=false=false∧true=false) (by simp)];exact good
   | true=>rw [if_neg (by simp),if_neg (c:=true=false∧R.2.2=false) (by simp)];exact good
  ·rw [if_pos (by simpa using h0),if_pos (c:=e≠0) h0];exact bad e
 ·have p2:A.ph=2:=by rcases hph with h | h | h | h<;>first | exact h | contradiction
  obtain ⟨⟨e,st1⟩,e1,e2,K,s1,b1,q1,q2,q3,B1,hS⟩:=again_F hN lg lc S p2 l hl (by omega) (by omega) now (by omega)
  dsimp only at e2 K B1 hS
  rw [if_neg (by simpa using p1),e1,Zab,if_neg p1]
  dsimp only
  unfold ZaJ.p1
  have bad : ∀e0:Int,∃st' s' b' n',(optE (ZbA N (some i) e0 st1) fun (x:LL×Int×LL)=>some (x.1,x.2.1,x.2.2))=some (rowH [],e0,st')∧SyF N k st' i j s' b' n' (c+64) {A with ph:=0}∧(0:Int)∈([0,1,2,3]:List Int)∧Keep i j st st'∧s'.p=s.p∧s'.most=s.most∧s'.size=s.size:=by
   intro e0
   obtain ⟨st2,s2,f1,f2,f3,f4,f5,f6⟩:=fail_F (N:=N) (k:=k) (A:=A) (B1.more (c':=c+64) (by omega)) (q1.trans S.p) (by rw [q1];exact S.mw) S.w (q2.trans S.most) S.ht ⟨by have:=S.ls.1;omega,by have:=S.ls.2;omega⟩ e0
   rw [f1,Zab]
   exact ⟨_,s2,b1,_,rfl,f2,by simp,K.trans f3,f4.trans q1,f5.trans q2,f6.trans q3⟩
  rw [←e2]
  by_cases h0:e=0
  ·have S1:=(hS h0).more (c':=c+64) (by omega)
   rw [if_neg (by simp [h0]),if_neg (c:=e≠0) (by simp [h0])]
   generalize hR:againA N k now A.seen false A.tw l=R at S1 ⊢
   have good : ∃st' s' b' n',(optE (ZaC N (some i) st1) fun (x:LL×LL)=>some (x.1,(0:Int),x.2))=some (rowH ((R.2.1.drop A.told).take (tellN s.size ⟨ph2 R.2.2,A.seen,R.2.1,A.told⟩)),0,st')∧SyF N k st' i j s' b' n' (c+64) ⟨ph2 R.2.2,A.seen,R.2.1,A.told+tellN s.size ⟨ph2 R.2.2,A.seen,R.2.1,A.told⟩⟩∧ph2 R.2.2∈([0,1,2,3]:List Int)∧Keep i j st st'∧s'.p=s.p∧s'.most=s.most∧s'.size=s.size:=by
    obtain ⟨st2,s2,f1,f2,f3,f4,f5,f6⟩:=free_F (N:=N) S1 (by dsimp only;cases R.2.2<;>simp [ph2]) (by omega)
    rw [q3] at f1 f2
    rw [f1,Zab]
    exact ⟨_,s2,b1,_,rfl,f2,by cases R.2.2<;>simp [ph2],K.trans f3,f4.trans q1,f5.trans q2,f6.trans q3⟩
   cases more with
   | false=>
    rw [if_pos (by rfl),S1.B.o,ZaD,ZfP,S1.ph]
    dsimp only
    cases hb:R.2.2 with
    | false=>
     rw [if_pos (by simp [p2,ph2]),if_pos ⟨rfl,rfl⟩];exact bad 5
    | true=>
     rw [hb] at good
     rw [if_neg (by simp [p2,ph2]),if_neg (c:=false=false∧true=false) (by simp)];exact good
   | true=>rw [if_neg (by simp),if_neg (c:=true=false∧R.2.2=false) (by simp)];exact good
  ·rw [if_pos (by simpa using h0),if_pos (c:=e≠0) h0];exact bad e
theorem SyB.app {gs:List ZbW} {cs:List ZbD} {st:LL} {i j:Nat} {s:Sy} {b:Zay} {n c:Nat} (B:SyB gs cs st i j s b n c) (x:LL):SyB gs cs (st++x) i j s b n c:=
 ⟨ZfB B.o,ZfB B.k,B.bk,B.ij,B.hg,B.hc,B.mw,B.wa,B.wb,B.sw,B.bw,B.bo,B.nc,B.bu,B.sz⟩
theorem SyF.app {k:Lk} {st:LL} {i j:Nat} {s:Sy} {b:Zay} {n c:Nat} {A:Ab} (S:SyF N k st i j s b n c A) (x:LL):SyF N k (st++x) i j s b n c A:=
 ⟨S.B.app x,S.p,S.mw,S.a,S.w,S.most,S.ht,S.ph,S.ls,S.bk,S.one,S.two,S.met⟩
theorem ZlC (p:Zag) (l:List Zaa) (h:Zaa):spotA p (l ++ [h])=behind p (spotA p l) h:=by simp [spotA]
theorem Zme (p:Zag) (a l:List Zaa):spF p (spotA p a) l=spotA p (a++l):=by simp [spF,spotA]
theorem Zmq (hN:1000≤N) {p:Zag} {gs:List ZbW} {cs:List ZbD} (hg:p.Gates=rowG gs) (hc:p.Checks=rowC cs) (lg:gs.length≤400) (lc:cs.length≤400) (hgd:rgood p gs cs=true) (hp:WfP p) {a:Zax} (ha:wfS a=true) {w:Int} (hw:isN w) (plan:Zbj) (size now:Int) (st:LL) (hh:0≤a.Point.Height∧a.Point.Height≤1000000) :
  (∃st',ZcC N p (Zdn.mk a (nw w)) plan size now st=some (none,1,st'))∨∃(zs:List Int) (m mw:Int) (s:Sy) (b:Zay) (st':LL),a.Times=rowI zs∧ZcC N p (Zdn.mk a (nw w)) plan size now st=some (some (st.length+1),0,st')∧st'.length=st.length+2∧SyF N ⟨p,gs,cs,plan,a,w,mw,m⟩ st' (st.length+1) st.length s b 0 0 ⟨1,[],[],0⟩∧s.size=size∧0≤now∧now≤4294967296 ∧
   Zcm N plan (if (0:Int)>(w64 ((w64 (now+p.Future))-M zs)) then 0 else (w64 ((w64 (now+p.Future))-M zs)))=some m∧0≤m∧m≤51539607553:=by
 unfold ZcC ZdI
 obtain ⟨b,e,h1,h2⟩:=Zja (N:=N) plan
 rw [e,Zab]
 cases b with
 | false=>exact .inl ⟨_,rfl⟩
 | true=>
  have ok:=h1 rfl
  rw [if_neg (by simp),Zab]
  dsimp only
  rw [if_neg (by simp)]
  by_cases s1:size<1
  ·rw [if_pos (by simpa using s1)];exact .inl ⟨_,rfl⟩
  rw [if_neg (by simpa using s1)]
  by_cases s2:size>64
  ·rw [if_pos (by simpa using s2)];exact .inl ⟨_,rfl⟩
  rw [if_neg (by simpa using s2)]
  by_cases n1:now<0
  ·rw [if_pos (by simpa using n1)];exact .inl ⟨_,rfl⟩
  rw [if_neg (by simpa using n1)]
  by_cases n2:now>4294967296
  ·rw [if_pos (by simpa using n2)];exact .inl ⟨_,rfl⟩
  rw [if_neg (by simpa using n2),ZjD (by omega) hg lg hc lc,hgd,Zab,if_neg (by simp)]
  have isT:isI a.Times=true:=by simp only [wfS,Bool.and_eq_true] at ha;exact ha.1
  have lT:a.Times.length<1000000:=by simp only [wfS,Bool.and_eq_true,decide_eq_true_eq] at ha;exact ha.2
  obtain ⟨zs,ez⟩ : ∃zs,a.Times=rowI zs:=⟨_,Zgm isT⟩
  obtain ⟨m,em,m0,m1⟩:=Most_eq (N:=N) ok (if (0:Int)>(w64 ((w64 (now+p.Future))-M zs)) then 0 else (w64 ((w64 (now+p.Future))-M zs))) (by split<;>omega)
  obtain ⟨mw,hmw,emw⟩:=ZlG hp.m.1 (fun x hx=>isW_of (hp.m.2 x hx))
  rw [Zah (by rw [hg,List.nil_append,Zky];omega),Zah (by rw [hc,List.nil_append,Zkz];omega),Zah (by rw [List.nil_append];omega)]
  rw [ez,ZjU,Zab,em,Zab,List.set_set,List.set_set,←ez]
  have e1:(st ++ [Zay.lo ⟨plan,[],0,0⟩]:LL).length=st.length+1:=by simp
  rw [e1]
  have B:SyB gs cs ((st ++ [Zay.lo ⟨plan,[],0,0⟩]) ++ [Sy.ll ⟨p,a,nw w,a,nw w,some st.length,1,m,size,[]⟩]) (st.length+1) st.length ⟨p,a,nw w,a,nw w,some st.length,1,m,size,[]⟩ ⟨plan,[],0,0⟩ 0 0:=by
   refine ⟨?_,?_,rfl,by omega,hg,hc,⟨mw,hmw,emw⟩,ha,ha,⟨w,hw,rfl⟩,⟨w,hw,rfl⟩,⟨ok,⟨[],rfl,rfl⟩,rfl,by simp⟩,Nat.le_refl _,⟨[],rfl,by simp⟩,by dsimp only;omega⟩
   ·rw [List.getElem?_append_right (by simp)];simp
   ·rw [List.getElem?_append_left (by simp),List.getElem?_append_right (by simp)];simp
  refine .inr ⟨zs,m,mw,⟨p,a,nw w,a,nw w,some st.length,1,m,size,[]⟩,⟨plan,[],0,0⟩,((st ++ [Zay.lo ⟨plan,[],0,0⟩]) ++ [Sy.ll ⟨p,a,nw w,a,nw w,some st.length,1,m,size,[]⟩]),ez,?_,by simp,?_,rfl,by omega,by omega,em,m0,m1⟩
  ·have hset : ∀(x y:List L),(((st ++ [Zay.lo ⟨plan,[],0,0⟩]) ++ [x]:LL).set (st.length+1) y)=((st ++ [Zay.lo ⟨plan,[],0,0⟩]) ++ [y]):=by
    intro x y
    rw [List.set_append_right _ _ (by simp)];simp
   rw [hset];rfl
  ·exact {
    B:=B,p:=rfl,mw:=⟨emw,hmw⟩,a:=fun _=>⟨rfl,rfl⟩,w:=hw,most:=rfl,ht:=hh,ph:=rfl,ls:=⟨by simp,by simp⟩
    bk:=fun _=>⟨⟨ok,⟨[],rfl,by simp [Lk.bt,btF],by simp,fun i hi=>by simp at hi⟩,rfl,by simp⟩,rfl⟩
    one:=fun _=>⟨rfl,rfl,rfl,rfl,rfl,rfl⟩
    two:=fun h=>by rcases h with h | h<;>cases h
    met:=fun h=>by cases h}
theorem ZmX (hN:1000≤N) {c:ZaL} {base:List Zaa} (hc:WfCase c base) (h20:base.length≤20) {gs:List ZbW} {cs:List ZbD} (hg:c.P.Gates=rowG gs) (hk:c.P.Checks=rowC cs) (lg:gs.length≤400) (lc:cs.length≤400) (hgd:rgood c.P gs cs=true) (st:LL) :
  (∃st',Zbo N c st=some (none,none,st'))∨∃(i j im:Nat) (s:Sy) (b:Zay) (mo:ZbN) (mw m:Int) (st':LL),Zbo N c st=some (some i,some im,st')∧SyF N ⟨c.P,gs,cs,c.Plan,spotA c.P (c.P.Genesis::base),wkF (wkBits c.P.Genesis.Bits) base,mw,m⟩ st' i j s b 0 0 ⟨1,[],[],0⟩∧s.size=c.Size∧st'[im]? = some mo.lo∧mo.Base=rowH (c.P.Genesis::base)∧im≠i∧im≠j∧im<st'.length∧0≤c.Now∧c.Now≤4294967296:=by
 unfold Zbo
 rw [Zic (by omega) hc.p.h.w,Zab,Zfs (by omega),Zab]
 have key : ∃r,loopN (Zbo.p1 N c st) N ([c.P.Genesis.ls],0,begin_ c.P,nw (wkBits c.P.Genesis.Bits))=some r∧((∃st',r=(none,none,st'))∨∃(i j im:Nat) (s:Sy) (b:Zay) (mo:ZbN) (mw m:Int) (st':LL),r=(some i,some im,st')∧SyF N ⟨c.P,gs,cs,c.Plan,spotA c.P (c.P.Genesis::base),wkF (wkBits c.P.Genesis.Bits) base,mw,m⟩ st' i j s b 0 0 ⟨1,[],[],0⟩∧s.size=c.Size∧st'[im]? = some mo.lo∧mo.Base=rowH (c.P.Genesis::base)∧im≠i∧im≠j∧im<st'.length∧0≤c.Now∧c.Now≤4294967296):=by
  refine Zec (Q:=fun r:(Option Nat)×(Option Nat)×LL=>(∃st',r=(none,none,st'))∨∃(i j im:Nat) (s:Sy) (b:Zay) (mo:ZbN) (mw m:Int) (st':LL),r=(some i,some im,st')∧SyF N ⟨c.P,gs,cs,c.Plan,spotA c.P (c.P.Genesis::base),wkF (wkBits c.P.Genesis.Bits) base,mw,m⟩ st' i j s b 0 0 ⟨1,[],[],0⟩∧s.size=c.Size∧st'[im]? = some mo.lo∧mo.Base=rowH (c.P.Genesis::base)∧im≠i∧im≠j∧im<st'.length∧0≤c.Now∧c.Now≤4294967296) (fun m (x:LL×Int×Zax×(List Int))=>∃(k:Nat),k+m=base.length∧x=(rowH (c.P.Genesis::base.take k),(k:Int),spotA c.P (c.P.Genesis::base.take k),nw (wkF (wkBits c.P.Genesis.Bits) (base.take k)))) ?_ N base.length _ ⟨0,by omega,rfl⟩ (by omega)
  rintro G m _ ⟨k,hkm,rfl⟩ hG
  have hw:isN (wkF (wkBits c.P.Genesis.Bits) (base.take k)):=Zfl _ (ZeA _)
  have ha:wfS (spotA c.P (c.P.Genesis::base.take k))=true:=Zmd _ _
  have lt:(base.take k).length=k:=by rw [List.length_take];omega
  unfold Zbo.p1
  dsimp only
  rw [hc.b,ZeM]
  by_cases hlt:k<base.length
  ·have wb:=hc.w _ (List.getElem_mem hlt)
   rw [if_pos (by simp<;>omega),Zah (by omega),Int.toNat_natCast,Zey hlt,ZaD,Zcv,Zee (by omega) wb.w ha,Zab,Zah (by rw [List.length_append,List.length_singleton,Zea,List.length_cons];omega),Zfs (by omega),Zab,ZjM (by omega) hw (ZeA _),Zab,ZaA (by omega) (by omega)]
   have et:base.take (k+1)=base.take k ++ [base[k]]:=by rw [List.take_add_one,List.getElem?_eq_getElem hlt];rfl
   exact hG (m-1) _ (by omega) ⟨k+1,by omega,by rw [Int.natCast_add,et,←List.cons_append,ZlC,ZiI];unfold rowH;rw [List.map_append];rfl⟩
  ·rw [if_neg (by simp<;>omega)]
   have ek:base.take k=base:=List.take_of_length_le (by omega)
   have hht:(spotA c.P (c.P.Genesis::base.take k)).Point.Height=base.length+1:=by rw [ZeJ _ _ (by rw [List.length_cons];omega),List.length_cons,ek];omega
   rcases Zmq hN hg hk lg lc hgd hc.p ha hw c.Plan c.Size c.Now st (by omega) with ⟨st',e⟩ | ⟨zs,mm,mw,s,b,st',ez,e,el,S,es,n0,n1,eM,m0,m1⟩
   ·rw [e,Zab]
    dsimp only
    rw [if_pos (by rfl)]
    exact ⟨_,rfl,.inl ⟨st',rfl⟩⟩
   ·rw [e,Zab]
    dsimp only
    rw [if_neg (by simp),ez,ZiA N (by omega),Zab,eM,Zab]
    rw [ek] at S ⊢
    exact ⟨_,rfl,.inr ⟨st.length+1,st.length,st'.length,s,b,⟨c.P,rowH (c.P.Genesis::base),[],[],0,c.Plan.Salt,c.Plan.Period,c.Plan.Offset,c.Size,mm,1⟩,mw,mm,_,rfl,S.app _,es,by rw [List.getElem?_append_right (Nat.le_refl _),Nat.sub_self];rfl,rfl,by omega,by omega,by simp,n0,n1⟩⟩
 obtain ⟨r,e,h⟩:=key
 rw [e]
 rcases h with ⟨st',rfl⟩ | ⟨i,j,im,s,b,mo,mw,m,st',rfl,h⟩
 ·exact .inl ⟨st',rfl⟩
 ·exact .inr ⟨i,j,im,s,b,mo,mw,m,st',rfl,h⟩
def Short (k:Lk) (L:List Zaa) (n:Nat):Prop:=∀i,i<n→i<L.length→wkF k.w (L.take (i+1))<k.mw
def First (k:Lk) (L:List Zaa) (d:Nat):Prop:=d<L.length∧Short k L d∧¬ wkF k.w (L.take (d+1))<k.mw
theorem take_one {L:List Zaa} {a:Nat} (h:a<L.length):L.take a ++ [L[a]]=L.take (a+1):=by rw [List.take_add_one,List.getElem?_eq_getElem h];rfl
theorem Zkl {p:Zag} {gs:List ZbW} {cs:List ZbD} {s:Zax} {h:Zaa} {now more:Int} (h0:checkS p gs cs s h now=0) (hle:now≤more):checkS p gs cs s h more=0:=by
 unfold checkS at h0 ⊢
 by_cases h1:hgood h=false
 ·rw [if_pos h1] at h0;simp at h0
 rw [if_neg h1] at h0 ⊢
 by_cases h2:h.Prev≠s.Prev
 ·rw [if_pos h2] at h0;simp at h0
 rw [if_neg h2] at h0 ⊢
 by_cases h3:h.Bits≠nextB p s.Point h.Time
 ·rw [if_pos h3] at h0;simp at h0
 rw [if_neg h3] at h0 ⊢
 by_cases h4:itself p h≠0
 ·rw [if_pos h4] at h0;simp at h0
 rw [if_neg h4] at h0 ⊢
 by_cases h5:((tims s.Times).length==0||decide (h.Time>M (tims s.Times)))=false
 ·rw [if_pos h5] at h0;simp at h0
 rw [if_neg h5] at h0 ⊢
 by_cases h6:near h.Time now p.Future=false
 ·rw [if_pos h6] at h0;simp at h0
 rw [if_neg h6] at h0
 have h7 : ¬ near h.Time more p.Future=false:=by
  unfold near at h6 ⊢;simp only [decide_eq_false_iff_not,Decidable.not_not] at h6 ⊢;omega
 rw [if_neg h7];exact h0
structure TwOk (k:Lk) (tw:List Zaa):Prop where
 c : ∀i (h:i<tw.length),checkS k.p k.gs k.cs (spF k.p k.a (tw.take i)) tw[i] 1099511627776=0
 w : ∀x∈tw,WfH x
theorem TwOk.nil (k:Lk):TwOk k []:=⟨fun i h=>by simp at h,fun x h=>by simp at h⟩
theorem TwOk.snoc {k:Lk} {tw:List Zaa} {h:Zaa} (T:TwOk k tw) (hw:WfH h) (hc:checkS k.p k.gs k.cs (spF k.p k.a tw) h 1099511627776=0):TwOk k (tw ++ [h]) where
 c:=fun i hi=>by
  rw [List.length_append,List.length_singleton] at hi
  by_cases e:i<tw.length
  ·rw [List.getElem_append_left e,List.take_append_of_le_length (by omega)];exact T.c i e
  ·have:i=tw.length:=by omega
   subst this
   rw [List.take_left' rfl,List.getElem_append_right (Nat.le_refl _)]
   simpa using hc
 w:=fun x hx=>by
  rcases List.mem_append.1 hx with h1 | h1
  ·exact T.w x h1
  ·simp only [List.mem_singleton] at h1;rw [h1];exact hw
theorem Zly {k:Lk} {now:Int} (hn:now≤4294967296) (seen:List Zaa) : ∀(l:List Zaa) (d:Bool) (tw:List Zaa),TwOk k tw→(∀x∈l,WfH x) →
  TwOk k (againA N k now seen d tw l).2.1∧tw <+: (againA N k now seen d tw l).2.1∧(againA N k now seen d tw l).2.1.length≤tw.length+l.length
 | [],d,tw,T,_=>by unfold againA;exact ⟨T,List.prefix_refl _,by simp⟩
 | h::t,d,tw,T,hl=>by
  unfold againA
  split
  ·rename_i hc
   obtain ⟨k1,k2,k3⟩:=Zly hn seen t (d || !decide (wkF k.w (tw ++ [h])<k.mw)) (tw ++ [h]) (T.snoc (hl h (by simp)) (Zkl hc.1 (by omega))) (fun x hx=>hl x (by simp [hx]))
   refine ⟨k1,List.IsPrefix.trans (List.prefix_append _ _) k2,?_⟩
   rw [List.length_append,List.length_singleton] at k3
   rw [List.length_cons];omega
  ·exact ⟨T,List.prefix_refl _,by simp⟩
structure StOk (k:Lk) (A:Ab):Prop where
 t:TwOk k A.tw
 l:A.told≤A.tw.length
 one:A.ph=1→A.tw = []
theorem feed_ok {k:Lk} {size now:Int} {more:Bool} {l:List Zaa} {A:Ab} (S:StOk k A) (hl : ∀x∈l,WfH x) :
  StOk k (feedA N k size now more l A).2.2∧(feedA N k size now more l A).2.2.tw.take (feedA N k size now more l A).2.2.told=A.tw.take A.told++(feedA N k size now more l A).1 ∧
   ((feedA N k size now more l A).2.1≠0→(feedA N k size now more l A).1 = [])∧(feedA N k size now more l A).2.2.tw.length≤A.tw.length+64∧(feedA N k size now more l A).2.2.told=A.told+(feedA N k size now more l A).1.length:=by
 have same : ∀e:Int,StOk k A∧A.tw.take A.told=A.tw.take A.told++([]:List Zaa)∧(e≠0→([]:List Zaa) = [])∧A.tw.length≤A.tw.length+64∧A.told=A.told+([]:List Zaa).length:=fun e=>⟨S,by simp,fun _=>rfl,by omega,by simp⟩
 have dead : ∀e:Int,StOk k {A with ph:=0}∧A.tw.take A.told=A.tw.take A.told++([]:List Zaa)∧(e≠0→([]:List Zaa) = [])∧A.tw.length≤A.tw.length+64∧A.told=A.told+([]:List Zaa).length:=fun e=>⟨⟨S.t,S.l,fun h=>by cases h⟩,by simp,fun _=>rfl,by omega,by simp⟩
 unfold feedA
 by_cases h1:A.ph=0∨A.ph=3
 ·rw [if_pos h1];exact same 9
 rw [if_neg h1]
 by_cases h2:now<0∨now>4294967296∨l.length>64
 ·rw [if_pos h2];exact same 1
 rw [if_neg h2]
 by_cases h3:A.ph=1
 ·rw [if_pos h3]
  have e:=S.one h3
  have hto:=S.l
  rw [e] at hto
  have hto0:A.told=0:=by simpa using hto
  by_cases h4:(lookA N k now A.seen l).1≠0
  ·rw [if_pos h4];exact dead _
  rw [if_neg h4]
  by_cases h5:more=false∧(lookA N k now A.seen l).2.2=false
  ·rw [if_pos h5];exact dead _
  rw [if_neg h5]
  exact ⟨⟨TwOk.nil k,by simp,fun _=>rfl⟩,by rw [e];simp,fun h=>absurd rfl h,by simp,by rw [hto0];simp⟩
 ·rw [if_neg h3]
  obtain ⟨k1,k2,k3⟩:=Zly (N:=N) (k:=k) (now:=now) (by omega) A.seen l false A.tw S.t hl
  generalize againA N k now A.seen false A.tw l=R at k1 k2 k3 ⊢
  by_cases h4:R.1≠0
  ·rw [if_pos h4];exact dead _
  rw [if_neg h4]
  by_cases h5:more=false∧R.2.2=false
  ·rw [if_pos h5];exact dead _
  rw [if_neg h5]
  dsimp only
  have hle:tellN size ⟨ph2 R.2.2,A.seen,R.2.1,A.told⟩≤R.2.1.length-A.told:=by
   unfold tellN
   dsimp only
   rw [List.length_drop]
   split<;>omega
  generalize tellN size ⟨ph2 R.2.2,A.seen,R.2.1,A.told⟩=t at hle ⊢
  have hp:=k2.length_le
  have ho:=S.l
  obtain ⟨r,hr⟩:=k2
  refine ⟨⟨k1,by dsimp only;omega,fun h=>by exfalso;revert h;cases R.2.2<;>simp [ph2]⟩,?_,fun h=>absurd rfl h,by omega,by rw [List.length_take,List.length_drop];omega⟩
  rw [List.take_add,←hr,List.take_append_of_le_length ho]
theorem Zhg {c:ZaL} {base:List Zaa} (hc:WfCase c base) (l:List Zbe) (hl : ∀x∈l,WfMsg x) (hb:l.length≤maxLen) :
  ∃st,Zaj (l.length+base.length+1000) c (rowMs l) []=some (true,st):=by
 obtain ⟨s1,al⟩:=alive19 (N:=l.length+base.length+1000) (by omega)
 unfold Zaj
 rw [al,Zab]
 dsimp only
 rw [if_neg (by simp)]
 obtain ⟨b,e,hgr⟩:=ZlN (N:=l.length+base.length+1000) hc l hl (by omega) hb
 rw [e,Zab]
 cases b with
 | true=>rw [if_pos rfl];exact ⟨_,rfl⟩
 | false=>
  obtain ⟨h12,h20,gs,cs,eg,ec,lg,lc,hgd⟩:=hgr rfl
  generalize hN:l.length+base.length+1000=N
  rw [if_neg (by simp)]
  rcases ZmX (N:=N) (by omega) hc h20 eg ec lg lc hgd s1 with ⟨st',e⟩ | ⟨i,j,im,s,bk,mo,mw,m,st',e,S,es,hm,hmb,hi,hj,hml,n0,n1⟩
  ·rw [e,Zab]
   dsimp only
   rw [if_pos (by rfl)];exact ⟨_,rfl⟩
  ·rw [e,Zab]
   dsimp only
   rw [if_neg (by simp),Zab,hm,ZaD,ZdL]
   generalize hk:(⟨c.P,gs,cs,c.Plan,spotA c.P (c.P.Genesis::base),wkF (wkBits c.P.Genesis.Bits) base,mw,m⟩:Lk)=k at S
   have kp:k.p=c.P:=by rw [←hk]
   have kg:k.gs=gs:=by rw [←hk]
   have kc:k.cs=cs:=by rw [←hk]
   have ka:k.a=spotA c.P (c.P.Genesis::base):=by rw [←hk]
   have nl:k.gs.length≤400:=by rw [kg];exact lg
   have nc:k.cs.length≤400:=by rw [kc];exact lc
   suffices h : ∃r,loopN (Zaj.p1 N (some i) im (rowMs l) c) N (mo.Base,0,st')=some r∧r.1=true by
    obtain ⟨⟨r1,r2⟩,h1,h2⟩:=h
    dsimp only at h2
    exact ⟨r2,by rw [h1,h2]⟩
   refine Zec (Q:=fun r:Bool×LL=>r.1=true) (fun q (x:LL×Int×LL)=>∃(v:Nat) (st:LL) (s:Sy) (bk:Zay) (n:Nat) (A:Ab),x=(rowH (c.P.Genesis::(base++A.tw.take A.told)),(v:Int),st)∧v+q=l.length∧SyF N k st i j s bk n (64*v) A∧A.ph∈([0,1,2,3]:List Int)∧StOk k A∧A.tw.length≤64*v∧st[im]? = some mo.lo) ?_ N l.length _
    ⟨0,st',s,bk,0,_,by rw [hmb];simp,by omega,S,by simp,⟨TwOk.nil k,by simp,fun _=>rfl⟩,by simp,hm⟩ (by omega)
   clear S hm
   rintro G q _ ⟨v,st,s,bk,n,A,rfl,hv,S,hph,T,htw,hm⟩ hG
   unfold Zaj.p1
   dsimp only
   rw [ZjX]
   by_cases hlt:v<l.length
   ·obtain ⟨hs,eh,wh,lh⟩:=(hl _ (List.getElem_mem hlt)).l
    obtain ⟨st2,s2,b2,n2,eF,S2,hp2,K,q1,q2,q3⟩:=Feed_F (by omega) nl nc S (by simpa using hph) (by omega) hs wh l[v].Now l[v].More
    obtain ⟨T2,et,ee,lt2,to2⟩:=feed_ok (N:=N) (size:=s.size) (now:=l[v].Now) (more:=l[v].More) T wh
    rw [if_pos (by simp only [decide_eq_true_eq];omega),Zah (by omega),Int.toNat_natCast,ZjH hlt,ZaD,ZdE,eh,eF,Zab]
    dsimp only
    generalize feedA N k s.size l[v].Now l[v].More hs A=R at S2 hp2 T2 et ee lt2 to2 ⊢
    obtain ⟨out,er,A2⟩:=R
    dsimp only at S2 hp2 T2 et ee lt2 to2 ⊢
    have hm2:st2[im]? = some mo.lo:=by rw [K.2 im hi hj (List.getElem?_eq_some_iff.1 hm).1];exact hm
    have two : ∃r,Zaj.p2 N G (some i) im (rowH (c.P.Genesis::(base++A.tw.take A.told))) (rowH out) (rowMs l) (v:Int) c st2=some r∧r.1=true:=by
     unfold Zaj.p2
     have hT:A2.told≤A2.tw.length:=T2.l
     refine Zec (Q:=fun r:Bool×LL=>r.1=true) (fun q2 (x:LL×Int)=>∃u:Nat,x=(rowH (c.P.Genesis::(base++A2.tw.take (A.told+u))),(u:Int))∧u+q2=out.length) ?_ N out.length _ ⟨0,by
      have:A2.tw.take A.told=A.tw.take A.told:=by
       have h1:=congrArg (List.take A.told) et
       rw [List.take_take,Nat.min_eq_left (by omega),List.take_append_of_le_length (by rw [List.length_take];have:=T.l;omega),List.take_take,Nat.min_self] at h1
       exact h1
      rw [Nat.add_zero,this];rfl,by omega⟩ (by omega)
     rintro G2 q2 _ ⟨u,rfl,hu⟩ hG2
     unfold Zaj.p3
     dsimp only
     rw [ZeM]
     by_cases hul:u<out.length
     ·have hin:A.told+u<A2.tw.length:=by omega
      have eo:out[u]=A2.tw[A.told+u]:=by
       have h1:(A2.tw.take A2.told)[A.told+u]? = (A.tw.take A.told++out)[A.told+u]? := by rw [et]
       have la:(A.tw.take A.told).length=A.told:=by rw [List.length_take];have:=T.l;omega
       rw [List.getElem?_take_of_lt (by omega),List.getElem?_append_right (by omega),la,Nat.add_sub_cancel_left,List.getElem?_eq_getElem hin,List.getElem?_eq_getElem hul] at h1
       exact (Option.some.inj h1).symm
      have wh2:WfH out[u]:=by rw [eo];exact T2.t.w _ (List.getElem_mem hin)
      have lt:(c.P.Genesis::(base++A2.tw.take (A.told+u))).length=base.length+(A.told+u)+1:=by rw [List.length_cons,List.length_append,List.length_take];omega
      have hch:checkS c.P gs cs (spotA c.P (c.P.Genesis::(base++A2.tw.take (A.told+u)))) out[u] 1099511627776=0:=by
       have:=T2.t.c (A.told+u) hin
       rw [kp,kg,kc,ka,Zme,←eo] at this
       exact this
      rw [if_pos (by simp only [decide_eq_true_eq];omega),Zah (by omega),Nat.zero_add,Int.toNat_natCast,Zey hul,ZaD,Zcv,
       Zid (by omega) eg lg ec lc _ (by omega) (by omega) (by
        intro x hx
        rcases List.mem_cons.1 hx with h | h
        ·rw [h];exact hc.p.h.w
        ·rcases List.mem_append.1 h with h | h
         ·exact (hc.w x h).w
         ·exact (T2.t.w x (List.mem_of_mem_take h)).w) wh2.w 1099511627776 ⟨by omega,by omega⟩,Zab,hch,if_neg (by simp),Zah (by rw [List.nil_append,Zea,lt];omega),Zah (by rw [List.nil_append,List.length_append,List.length_singleton,Zea,lt];omega),ZaA (by omega) (by omega)]
      refine hG2 (q2-1) _ (by omega) ⟨u+1,?_,by omega⟩
      have e1:A2.tw.take (A.told+u+1)=A2.tw.take (A.told+u) ++ [out[u]]:=by rw [eo];exact (take_one hin).symm
      have e2:([]++rowH (c.P.Genesis::(base++A2.tw.take (A.told+u)))) ++ [out[u].ls]=rowH (c.P.Genesis::(base++A2.tw.take (A.told+(u+1)))):=by
       rw [show A.told+(u+1)=A.told+u+1 by omega,e1];simp [rowH]
      rw [e2];rfl
     ·rw [if_neg (by simp only [decide_eq_true_eq];omega),ZaA (by omega) (by omega),show A.told+u=A2.told by omega]
      exact hG (q-1) _ (by omega) ⟨v+1,st2,s2,b2,n2,A2,by rw [Int.natCast_add];rfl,by omega,S2.more (by omega),hp2,T2,by omega,hm2⟩
    by_cases h0:er=0
    ·rw [if_neg (by simp [h0])];exact two
    ·rw [if_pos (by simpa using h0),if_neg (by rw [ee h0];simp [rowH,len])];exact two
   ·have eo : ∀{α:Type} (f:Nat→Option α),optE s.bk f=f j:=fun f=>by rw [S.B.bk];rfl
    rw [if_neg (by simp only [decide_eq_true_eq];omega),hm,ZaD,ZdL,hmb,ZeM,ZeM]
    by_cases hgt:((c.P.Genesis::(base++A.tw.take A.told)).length:Int)>((c.P.Genesis::base).length:Int)
    ·rw [if_pos (by simpa using hgt),Zab,S.B.o,ZaD,ZfP,eo,S.B.k,ZaD,Zcb]
     unfold ZbJ
     dsimp only
     rw [Zab,S.ph]
     refine ⟨_,rfl,?_⟩
     have:A.ph≠1:=by
      intro h1
      rw [T.one h1] at hgt
      simp at hgt
     simpa using this
    ·rw [if_neg (by simpa using hgt)];exact ⟨_,rfl,rfl⟩
theorem PresyncStores_true {ls:List L} (xs:LL) (h0:LTys tysCase ls) (h1 : ∀x∈xs,LTys tysMsg x) (l1:xs.length≤maxLen) :
  ∃st,Snd Tryz.prog 9 [.agg ls,.one (.sl 3 xs)] [] [.one (.bool true)] st:=by
 obtain ⟨c,base,rfl,hc⟩:=Zmt h0
 obtain ⟨l,rfl,hl⟩:=open_Ms h1
 obtain ⟨st,h⟩:=Zhg hc l hl (by rw [ZjG] at l1;exact l1)
 exact ⟨st,Zaj.snd h⟩
end Go.Dn.F
