/- A tree of headers, as a row of nodes, each with its whole chain; the program's arena of such a tree. -/
import Derived.Test.YtcgdbcfflaphhaaGreatDoorNum
import Derived.Test.YtcgdbcfflaphhaaGreatDoorRul
set_option linter.unusedSimpArgs false
set_option linter.unusedVariables false
set_option maxRecDepth 40000
namespace Go.Dn.F
open Go.Dn Go.Proofs
variable {N:Nat}
structure Nd where
 ch:List Zah
 ah:Int
 wk:Int
def h0:Zah:=⟨0,List.replicate 32 0,List.replicate 32 0,0,0,0⟩
def Nd.hd (n:Nd):Zah:=n.ch.getLast?.getD h0
def Nd.id (n:Nd):List Int:=hid n.hd
noncomputable def rowS (p:Zan) (ns:List Nd):LL:=ns.map fun n=>(spotA p n.ch).ls
def ids (ns:List Nd):List (List Int):=ns.map Nd.id
def place:Nat→List (List Int)→List Int→Option Nat
 | _,[],_=>none
 | i,y::l,x=>if x=y then some i else place (i+1) l x
theorem Zhu : ∀{l:List (List Int)} {i:Nat} {x:List Int},place i l x=none→x∉l
 | [],_,_,_=>by simp
 | y::l,i,x,h=>by
  unfold place at h
  split at h
  ·cases h
  ·rename_i e;simp [e,Zhu h]
@[simp] theorem len_rowS (p:Zan) (ns:List Nd):len (rowS p ns)=(ns.length:Int):=by simp [len,rowS]
structure Tree (ns:List Nd):Prop where
 small:ns.length≤512
 ch : ∀n∈ns,n.ch ≠ []∧n.ch.length≤ns.length
 wf : ∀n∈ns,∀x∈n.ch,WfH x
 wk : ∀n∈ns,isN n.wk
 ah : ∀(i:Nat) (h:i<ns.length),(i=0∧ns[i].ah = -1∧ns[i].ch.length=1)∨∃(k:Nat) (hk:k<i),ns[i].ah=(k:Int)∧ns[i].ch=ns[k].ch ++ [ns[i].hd]
 one:(ids ns).Nodup
theorem Nd.hd_snoc {n:Nd} {c:List Zah} {h:Zah} (e:n.ch=c ++ [h]):n.hd=h:=by unfold Nd.hd;rw [e];simp
def chAt (ns:List Nd) (k:Nat):List Zah:=(ns[k]?.map Nd.ch).getD []
def wkAt (ns:List Nd) (k:Nat):Int:=(ns[k]?.map Nd.wk).getD 0
theorem chAt_eq {ns:List Nd} {k:Nat} (h:k<ns.length):chAt ns k=ns[k].ch:=by simp [chAt,h]
theorem wkAt_eq {ns:List Nd} {k:Nat} (h:k<ns.length):wkAt ns k=ns[k].wk:=by simp [wkAt,h]
def nodeOn (ns:List Nd) (k:Nat) (h:Zah):Nd:=⟨chAt ns k ++ [h],(k:Int),wkAdd (wkAt ns k) (wkBits h.Bits)⟩
theorem ZhH {st:LL} {i:Nat} {x:List L} (h:st[i]? = some x):st.set i x=st:=by
 apply List.ext_getElem?
 intro j
 by_cases e:i=j
 ·subst e
  obtain ⟨hi,e⟩:=List.getElem?_eq_some_iff.1 h
  rw [List.getElem?_set_self hi,h]
 ·rw [List.getElem?_set_ne e]
@[simp] theorem ZfC (l:List Zah):len (rowH l)=(l.length:Int):=by simp [len]
theorem Tree.grow {ns:List Nd} (ht:Tree ns) {k:Nat} (hk:k<ns.length) {h:Zah} (hh:WfH h) (hs:ns.length<512) (hid':place 0 (ids ns) (hid h)=none):Tree (ns ++ [nodeOn ns k h]):=by
 have hm:=List.getElem_mem hk
 have cl:=ht.ch _ hm
 have hc:(nodeOn ns k h).ch=ns[k].ch ++ [h]:=by unfold nodeOn;rw [chAt_eq hk]
 have hd:=(nodeOn ns k h).hd_snoc rfl
 refine ⟨by simp;omega,?_,?_,?_,?_,?_⟩
 ·intro n hn
  rcases List.mem_append.1 hn with hn | hn
  ·have:=ht.ch n hn;exact ⟨this.1,by simp;omega⟩
  ·cases List.mem_singleton.1 hn
   rw [hc];exact ⟨by simp,by simp;omega⟩
 ·intro n hn x hx
  rcases List.mem_append.1 hn with hn | hn
  ·exact ht.wf n hn x hx
  ·cases List.mem_singleton.1 hn
   rw [hc] at hx
   rcases List.mem_append.1 hx with hx | hx
   ·exact ht.wf _ hm x hx
   ·cases List.mem_singleton.1 hx;exact hh
 ·intro n hn
  rcases List.mem_append.1 hn with hn | hn
  ·exact ht.wk n hn
  ·cases List.mem_singleton.1 hn
   unfold nodeOn;rw [wkAt_eq hk]
   exact ZgA (ht.wk _ hm) (Zeb _)
 ·intro i hi
  by_cases hlt:i<ns.length
  ·rw [List.getElem_append_left hlt]
   rcases ht.ah i hlt with a | ⟨q,hq,a,b⟩
   ·exact .inl a
   ·exact .inr ⟨q,hq,a,by rw [List.getElem_append_left (by omega)];exact b⟩
  ·have:i=ns.length:=by simp at hi;omega
   subst this
   refine .inr ⟨k,hk,?_,?_⟩
   ·rw [List.getElem_append_right (by omega)];simp [nodeOn]
   ·rw [List.getElem_append_right (by omega),List.getElem_append_left hk]
    simp only [Nat.sub_self,List.getElem_singleton]
    rw [hc,hd]
 ·have np:=Zhu hid'
  unfold ids at *
  rw [List.map_append,List.nodup_append]
  refine ⟨ht.one,by simp,?_⟩
  intro a ha b hb
  simp only [List.map_cons,List.map_nil,List.mem_singleton] at hb
  subst hb
  intro e
  unfold Nd.id at e
  rw [hd] at e
  exact np (by rw [←e];exact ha)
end Go.Dn.F
set_option maxRecDepth 100000
namespace Go.Dn.F
open Go.Dn Go.Proofs
variable {N:Nat}
end Go.Dn.F
set_option maxRecDepth 40000
namespace Go.Dn.F
open Go.Dn Go.Proofs
variable {N:Nat}
def rowF (ns:List Nd):Nat→Nat→List Nat
 | 0,k=>[k]
 | f+1,k=>match ns[k]? with
  | some n=>if n.ah<0 then [k] else rowF ns f n.ah.toNat ++ [k]
  | none=>[k]
def rowP (ns:List Nd) (k:Nat):List Nat:=rowF ns k k
theorem ZkP {ns:List Nd} (ht:Tree ns) : ∀(k f g:Nat),k<ns.length→k≤f→k≤g→rowF ns f k=rowF ns g k:=by
 intro k
 induction k using Nat.strongRecOn with
 | ind k ih=>
  intro f g hk hf hg
  rcases ht.ah k hk with ⟨z,a,c⟩ | ⟨q,hq,a,c⟩
  ·have e : ∀f,rowF ns f k = [k]:=fun f=>by
    cases f with
    | zero=>rfl
    | succ f=>unfold rowF;rw [List.getElem?_eq_getElem hk];dsimp only;rw [a,if_pos (by omega)]
   rw [e,e]
  ·obtain ⟨f,rfl⟩ : ∃x,f=x+1:=⟨f-1,by omega⟩
   obtain ⟨g,rfl⟩ : ∃x,g=x+1:=⟨g-1,by omega⟩
   unfold rowF
   rw [List.getElem?_eq_getElem hk]
   dsimp only
   rw [a,if_neg (by omega),if_neg (by omega),Int.toNat_natCast,ih q hq f g (by omega) (by omega) (by omega)]
theorem ZkM {ns:List Nd} {k:Nat} (hk:k<ns.length) (a:ns[k].ah = -1):rowP ns k = [k]:=by
 unfold rowP
 cases k with
 | zero=>rfl
 | succ f=>unfold rowF;rw [List.getElem?_eq_getElem hk];dsimp only;rw [a,if_pos (by omega)]
theorem Zin {ns:List Nd} (ht:Tree ns) {k q:Nat} (hk:k<ns.length) (hq:q<k) (a:ns[k].ah=(q:Int)):rowP ns k=rowP ns q ++ [k]:=by
 obtain ⟨f,rfl⟩ : ∃x,k=x+1:=⟨k-1,by omega⟩
 unfold rowP
 rw [rowF,List.getElem?_eq_getElem hk]
 dsimp only
 rw [a,if_neg (by omega),Int.toNat_natCast,ZkP ht q f q (by omega) (by omega) (by omega)]
theorem Zkf {ns:List Nd} (ht:Tree ns) {k:Nat} (hk:k<ns.length) :
  (k=0∧ns[k].ah = -1∧rowP ns k = [k]∧ns[k].ch.length=1)∨∃q,q<k∧ns[k].ah=(q:Int)∧rowP ns k=rowP ns q ++ [k]∧∃hq:q<ns.length,ns[k].ch=ns[q].ch ++ [ns[k].hd]:=by
 rcases ht.ah k hk with ⟨z,a,c⟩ | ⟨q,hq,a,c⟩
 ·exact .inl ⟨z,a,ZkM hk a,c⟩
 ·exact .inr ⟨q,hq,a,Zin ht hk hq a,by omega,c⟩
theorem rowP_le {ns:List Nd} (ht:Tree ns) : ∀{k:Nat},k<ns.length→∀x∈rowP ns k,x≤k:=by
 intro k
 induction k using Nat.strongRecOn with
 | ind k ih=>
  intro hk x hx
  rcases Zkf ht hk with ⟨z,a,e,c⟩ | ⟨q,hq,a,e,hq',c⟩
  ·rw [e] at hx;simp at hx;omega
  ·rw [e] at hx
   rcases List.mem_append.1 hx with hx | hx
   ·have:=ih q hq hq' x hx;omega
   ·simp at hx;omega
theorem ZkO (ns:List Nd) (nd:Nd) (ht:Tree ns) : ∀(k f:Nat),k<ns.length→rowF (ns ++ [nd]) f k=rowF ns f k:=by
 intro k
 induction k using Nat.strongRecOn with
 | ind k ih=>
  intro f hk
  cases f with
  | zero=>rfl
  | succ f=>
   unfold rowF
   rw [List.getElem?_append_left hk,List.getElem?_eq_getElem hk]
   dsimp only
   rcases ht.ah k hk with ⟨z,a,c⟩ | ⟨q,hq,a,c⟩
   ·rw [a,if_pos (by omega),if_pos (by omega)]
   ·rw [a,if_neg (by omega),if_neg (by omega),Int.toNat_natCast,ih q hq f (by omega)]
theorem ZgG {ns:List Nd} (nd:Nd) (ht:Tree ns) {k:Nat} (hk:k<ns.length):rowP (ns ++ [nd]) k=rowP ns k:=ZkO ns nd ht k k hk
structure Leaps (ns:List Nd) (lp:List Int):Prop where
 len:lp.length≤ns.length
 ok : ∀(i:Nat) (v:Int),lp[i]? = some v→v = -1∨∃x:Nat,v=(x:Int)∧x≠i∧x∈rowP ns i
def hZ (ns:List Nd) (k:Int):Int:=if 0≤k∧k<(ns.length:Int) then ((ns[k.toNat]?.map Nd.ch).getD []).length-1 else -1
def ancZ (ns:List Nd) (k h:Int):Int:=if 0≤k∧k<(ns.length:Int)∧0≤h then ((rowP ns k.toNat)[h.toNat]?.map fun (x:Nat)=>(x:Int)).getD (-1) else -1
end Go.Dn.F
set_option maxRecDepth 100000
namespace Go.Dn.F
open Go.Dn Go.Proofs
variable {N:Nat}
end Go.Dn.F
set_option maxRecDepth 40000
namespace Go.Dn.F
open Go.Dn Go.Proofs
variable {N:Nat}
theorem Leaps.grow {ns:List Nd} {lp:List Int} (ht:Tree ns) (hl:Leaps ns lp) (hlen:lp.length=ns.length) {nd:Nd} (ht':Tree (ns ++ [nd])) {k:Nat} (hk:k<ns.length) (ha:nd.ah=(k:Int)) (h:Int):Leaps (ns ++ [nd]) (lp ++ [ancZ (ns ++ [nd]) (k:Int) h]) where
 len:=by simp [hlen]
 ok:=fun i v hv=>by
  by_cases hi:i<lp.length
  ·rw [List.getElem?_append_left hi] at hv
   rcases hl.ok i v hv with h1 | ⟨x,h1,h2,h3⟩
   ·exact .inl h1
   ·exact .inr ⟨x,h1,h2,by rw [ZgG nd ht (by omega)];exact h3⟩
  ·have e0:i=ns.length:=by
    have:=(List.getElem?_eq_some_iff.1 hv).1
    simp at this;omega
   subst e0
   rw [List.getElem?_append_right (by omega),hlen,Nat.sub_self] at hv
   cases hv
   have hn:ns.length<(ns ++ [nd]).length:=by simp
   have ea:(ns ++ [nd])[ns.length].ah=(k:Int):=by simpa using ha
   rw [Zin ht' hn hk ea,ZgG nd ht hk]
   unfold ancZ
   by_cases hc:0≤(k:Int)∧(k:Int)<((ns ++ [nd]).length:Int)∧0≤h
   ·rw [if_pos hc,Int.toNat_natCast,ZgG nd ht hk]
    cases e:(rowP ns k)[h.toNat]? with
    | none=>exact .inl rfl
    | some y=>
     have hy:=List.mem_of_getElem? e
     have:=rowP_le ht hk y hy
     exact .inr ⟨y,rfl,by omega,List.mem_append.2 (.inl hy)⟩
   ·rw [if_neg hc];exact .inl rfl
end Go.Dn.F
set_option maxRecDepth 100000
namespace Go.Dn.F
open Go.Dn Go.Proofs
variable {N:Nat}
theorem ZfW {st ex:LL} {i:Nat} {x:List L} (h:st[i]? = some x):(st++ex)[i]? = some x:=by
 rw [List.getElem?_append_left (List.getElem?_eq_some_iff.1 h).1];exact h
noncomputable def bitV (p:Zbr) (b:Bs):Bool:=bitsOf .and .u8 (List.getD ((sha2 (([] ++ [p.Salt].flatMap (le (szOf 8))) ++ [b].flatten)).map byI) 0 0) 1==1
theorem Bit_val (hN:1000≤N) (p:Zbr) {b:Bs} (hb:b.length=32) (st:LL) : ∃ex,ZbC N p (b.map byI) st=some (bitV p b,st++ex):=by
 unfold ZbC
 have h0:(st ++ [[L.own true 1 []]]:LL)[st.length]? = some (penO []):=by simp [penO,rowB]
 have h1:=Zly (N:=N) (by omega) h0 8 [p.Salt] (by simp;omega) (by simp) (by simp)
 have e1:([[L.int .i64 p.Salt]]:LL)=rowI [p.Salt]:=rfl
 rw [e1,h1,Zab]
 generalize hd:([] ++ [p.Salt].flatMap (le (szOf 8)):Bs)=d
 have ld:d.length=8:=by rw [←hd];simp [Zhy];rfl
 have h2:((st ++ [[L.own true 1 []]]).set st.length (penO d))[st.length]? = some (penO d):=by simp
 have h3:=Zka (N:=N) (by omega) h2 [b] (by simp;omega) (by simp) (by omega) (by simp;omega)
 have e2:([[L.arr .u8 32 (b.map byI)]]:LL) = [b].map fun x=>[L.arr .u8 32 (x.map byI)]:=rfl
 rw [e2,h3,Zab]
 have e3:(((st ++ [[L.own true 1 []]]).set st.length (penO d)).set st.length (penO (d ++ [b].flatten)):LL)=st ++ [penO (d ++ [b].flatten)]:=by simp
 rw [e3]
 have h4:(st ++ [penO (d ++ [b].flatten)]:LL)[st.length]? = some (penO (d ++ [b].flatten)):=by simp
 obtain ⟨ex,h5⟩:=ZiU N [d ++ [b].flatten] (st ++ [penO (d ++ [b].flatten)]) (by simp;omega) (by simp;omega) (by simp;omega) (by simp)
 simp only [List.map_cons,List.map_nil] at h5
 rw [h4,Zaz,Zet,Zlx,Zab,h5,Zab]
 unfold bitV
 rw [hd]
 exact ⟨[penO (d ++ [b].flatten)]++ex,by simp⟩
theorem Bit_eq (hN:1000≤N) (p:Zbr) {id_:List Int} (hid_:wfB id_=true) : ∃b:Bool,∀st:LL,∃ex,ZbC N p id_ st=some (b,st++ex):=by
 obtain ⟨b,rfl,hb⟩:=(ZiW id_).1 hid_
 exact ⟨bitV p b,fun st=>Bit_val hN p hb st⟩
def planOk (p:Zbr):Prop:=1≤p.Period∧p.Period≤64∧0≤p.Offset∧p.Offset<p.Period
theorem ZhN (p:Zbr) : ∃b,Zce N p=some b∧(b=true→planOk p)∧(planOk p→b=true):=by
 unfold Zce planOk
 by_cases h1:p.Period≥1
 ·rw [if_pos (by simpa using h1)]
  by_cases h2:p.Period≤64
  ·rw [if_pos (by simpa using h2)]
   by_cases h3:p.Offset≥0
   ·rw [if_pos (by simpa using h3)]
    exact ⟨_,rfl,fun h=>⟨by omega,h2,by omega,by simpa using h⟩,fun h=>by simpa using h.2.2.2⟩
   ·rw [if_neg (by simpa using h3)];exact ⟨_,rfl,(fun h=>by cases h),(fun h=>by omega)⟩
  ·rw [if_neg (by simpa using h2)];exact ⟨_,rfl,(fun h=>by cases h),(fun h=>by omega)⟩
 ·rw [if_neg (by simpa using h1)];exact ⟨_,rfl,(fun h=>by cases h),(fun h=>by omega)⟩
theorem Zkc {p:Zbr} (hp:planOk p) (h:Int) : ∃b,ZbS N p h=some b:=by
 unfold ZbS
 obtain ⟨b,e,h1,h2⟩:=ZhN (N:=N) p
 rw [e,Zab,h2 hp,if_pos rfl]
 by_cases h0:h≥0
 ·rw [if_pos (by simpa using h0),Zam (by have:=hp.1;omega)];exact ⟨_,rfl⟩
 ·rw [if_neg (by simpa using h0)];exact ⟨_,rfl⟩
noncomputable def rowU (l:List Int):LL:=l.map fun n=>[L.int .u64 n]
@[simp] theorem rowU_length (l:List Int):(rowU l).length=l.length:=by simp [rowU]
theorem ZjC {l:List Int} {i:Nat} (h:i<l.length):(rowU l)[i]? = some [L.int .u64 l[i]]:=by simp [rowU,h]
theorem rowU_set (l:List Int) (i:Nat) (x:Int):(rowU l).set i [L.int .u64 x]=rowU (l.set i x):=by simp [rowU,List.map_set]
theorem ZkL (l:List Int) (x:Int):rowU l ++ [[L.int .u64 x]]=rowU (l ++ [x]):=by simp [rowU]
structure BookOk (b:Zat) (n:Nat):Prop where
 pl:planOk b.Plan
 w : ∃ws,b.words=rowU ws∧ws.length=(n+63)/64
 g:b.given=(n:Int)
 m:0≤b.met∧b.met≤b.given
theorem Give_eq (hN:1000≤N) {st:LL} {j:Nat} {b:Zat} {n:Nat} (hst:st[j]? = some b.lo) (hb:BookOk b n) (hn:n<1000000) (h:Int) {id_:List Int} (hid_:wfB id_=true) :
  ∃(r:Int) (b':Zat) (n':Nat) (ex:LL),Zag N (some j) h [[L.arr .u8 32 id_]] st=some (r,st.set j b'.lo++ex)∧BookOk b' n'∧n≤n'∧n'≤n+1∧b'.met=b.met∧b'.Plan=b.Plan:=by
 obtain ⟨bit,hbit⟩:=Bit_eq hN b.Plan hid_
 obtain ⟨ws,ew,lw⟩:=hb.w
 have gm:=hb.m
 have hg:=hb.g
 unfold Zag
 rw [if_neg (by simp)]
 obtain ⟨M,rfl⟩ : ∃M,N=M+2:=⟨N-2,by omega⟩
 have hend : ∀(n_:Int) (s:LL),loopN (Zag.p1 (M+2) h [[L.arr .u8 32 id_]]) (M+1) (some j,n_,1,s)=some (n_,s):=by
  intro n_ s
  rw [Zao]
  unfold Zag.p1
  dsimp only
  rw [if_neg (by simp [len])]
 rw [Zao]
 generalize hG:loopN (Zag.p1 (M+2) h [[L.arr .u8 32 id_]]) (M+1)=G at hend
 unfold Zag.p1 Zag.p2 Zag.p3 Zag.p4
 dsimp only
 rw [if_pos (by simp [len]),Zam (by omega),show ([[L.arr .u8 32 id_]]:LL)[Int.toNat 0]? = some [L.arr .u8 32 id_] from rfl,Zaz,Zgn,Zab,hst,Zaz,ZbL]
 obtain ⟨due,hdue⟩:=Zkc (N:=M+2) hb.pl (w64 (h+0))
 rw [hdue,Zab,show w64 (0+1)=1 from rfl]
 cases due with
 | false=>
  rw [if_pos (by rfl),hend]
  refine ⟨0,b,n,[],by rw [List.append_nil];congr 2;exact (ZhH hst).symm,hb,Nat.le_refl _,by omega,rfl,rfl⟩
 | true=>
  rw [if_neg (by simp)]
  have step : ∀(b1:Zat) (ws:List Int) (s0:LL),s0[j]? = some b1.lo→b1.words=rowU ws→n/64<ws.length→b1.given=(n:Int)→b1.Plan=b.Plan→b1.met=b.met→ws.length=(n+1+63)/64 →
    ∃(b':Zat) (ex:LL),(getE (s0[j]?) ZaV fun x24=>optE (ZbC (M+2) x24.Plan id_ s0) fun (x25,st26)=>
     if x25=true then getE (st26[j]?) ZaV fun x27=>chk (0≤(w64 (Int.tdiv x27.given 64)))<|chk ((w64 (Int.tdiv x27.given 64))<(len x27.words))<|getE (x27.words[0+(Int.toNat (w64 (Int.tdiv x27.given 64)))]?) Zfr fun x28=>chk (0≤(Int.tmod x27.given 64))<|
      getE ((List.set st26 j (Zat.lo {x27 with words:=List.set x27.words (0+(Int.toNat (w64 (Int.tdiv x27.given 64)))) [L.int .u64 (bitsOf .or .u64 x28 (shlOf .u64 1 (Int.tmod x27.given 64)))]}))[j]?) ZaV fun x30=>G (some j,1,1,(List.set (List.set st26 j (Zat.lo {x27 with words:=List.set x27.words (0+(Int.toNat (w64 (Int.tdiv x27.given 64)))) [L.int .u64 (bitsOf .or .u64 x28 (shlOf .u64 1 (Int.tmod x27.given 64)))]})) j (Zat.lo {x30 with given:=w64 (x30.given+1)})))
     else getE (st26[j]?) ZaV fun x30=>G (some j,1,1,(List.set st26 j (Zat.lo {x30 with given:=w64 (x30.given+1)}))))=some (1,s0.set j b'.lo++ex)∧BookOk b' (n+1)∧b'.met=b.met∧b'.Plan=b.Plan:=by
   intro b1 ws s0 hs0 e1 l1 e2 e3 e4 l2
   obtain ⟨ex,hex⟩:=hbit s0
   have hjl:=(List.getElem?_eq_some_iff.1 hs0).1
   have ga:(s0++ex)[j]? = some b1.lo:=ZfW hs0
   have sa : ∀x:List L,(s0++ex).set j x=s0.set j x++ex:=fun x=>List.set_append_left _ _ hjl
   have td:Int.tdiv (n:Int) 64=((n/64:Nat):Int):=by rw [Int.tdiv_eq_ediv_of_nonneg (by omega)];omega
   rw [hs0,Zaz,ZbL,e3,hex,Zab]
   dsimp only
   cases bit with
   | true=>
    rw [if_pos rfl,ga,Zaz,ZbL]
    have gs:((s0++ex).set j (Zat.lo {b1 with words:=(rowU ws).set (0+n/64) [L.int .u64 (bitsOf .or .u64 ws[n/64] (shlOf .u64 1 (Int.tmod (n:Int) 64)))]}))[j]? = some (Zat.lo {b1 with words:=(rowU ws).set (0+n/64) [L.int .u64 (bitsOf .or .u64 ws[n/64] (shlOf .u64 1 (Int.tmod (n:Int) 64)))]}):=List.getElem?_set_self (List.getElem?_eq_some_iff.1 ga).1
    rw [e2,td,ZaD (by omega) (by omega),Int.toNat_natCast,e1,Zam (by omega),Zam (by simp [len];omega),Nat.zero_add,ZjC l1,Zaz,Zhz,Zam (by rw [Int.tmod_eq_emod_of_nonneg (by omega)];omega)]
    rw [Nat.zero_add,e2] at gs
    rw [gs,Zaz,ZbL,hend,List.set_set,sa]
    refine ⟨_,ex,rfl,⟨by rw [show ({b1 with words:=_,given:=_}:Zat).Plan=b1.Plan from rfl,e3];exact hb.pl,⟨ws.set (n/64) _,by dsimp only;rw [rowU_set],by rw [List.length_set];omega⟩,by dsimp only;rw [ZaD (by omega) (by omega)];omega,?_⟩,e4,e3⟩
    dsimp only
    rw [e4,ZaD (by omega) (by omega)]
    omega
   | false=>
    rw [if_neg (by simp),ga,Zaz,ZbL,hend,sa]
    refine ⟨_,ex,rfl,⟨by rw [show ({b1 with given:=_}:Zat).Plan=b1.Plan from rfl,e3];exact hb.pl,⟨ws,e1,by omega⟩,by dsimp only;rw [e2,ZaD (by omega) (by omega)];omega,?_⟩,e4,e3⟩
    dsimp only
    rw [e4,e2,ZaD (by omega) (by omega)]
    omega
  by_cases h64:n%64=0
  ·have hjl:=(List.getElem?_eq_some_iff.1 hst).1
   rw [if_pos (by rw [hg,Int.tmod_eq_emod_of_nonneg (by omega)];simp;omega),Zam (by rw [ew];simp;omega),List.set_set]
   have hs1:(st.set j (Zat.lo {b with words:=b.words ++ [[L.int .u64 0]]}))[j]? = some (Zat.lo {b with words:=b.words ++ [[L.int .u64 0]]}):=List.getElem?_set_self hjl
   obtain ⟨b',ex,e,ok,em,ep⟩:=step {b with words:=b.words ++ [[L.int .u64 0]]} (ws ++ [0]) _ hs1 (by dsimp only;rw [ew,ZkL]) (by simp;omega) hg rfl rfl (by simp;omega)
   rw [List.set_set] at e
   exact ⟨1,b',n+1,ex,e,ok,by omega,by omega,em,ep⟩
  ·rw [if_neg (by rw [hg,Int.tmod_eq_emod_of_nonneg (by omega)];simp;omega)]
   obtain ⟨b',ex,e,ok,em,ep⟩:=step b ws st hst ew (by omega) hg rfl rfl (by omega)
   rw [hst] at e
   exact ⟨1,b',n+1,ex,e,ok,by omega,by omega,em,ep⟩
structure Sy where
 p:Zan
 sa:Zaq
 sw:List Int
 b:Zaq
 bw:List Int
 bk:Option Nat
 ph:Int
 most:Int
 size:Int
 buf:LL
noncomputable def Sy.ll (s:Sy):List L:=s.p.ls++(s.sa.ls++(L.arr .u64 4 s.sw::(s.b.ls++(L.arr .u64 4 s.bw::L.ptr s.bk::L.int .i64 s.ph::L.int .i64 s.most::L.int .i64 s.size::L.own true 68 s.buf :: []))))
noncomputable def Sy.v (s:Sy) (b:Zat):ZaE:=⟨s.p,⟨s.sa,s.sw⟩,⟨s.b,s.bw⟩,b,s.ph,s.most,s.size,s.buf⟩
theorem on_unf {st:LL} {i:Nat} {s:Sy} (hst:st[i]? = some s.ll) (h:Zah) (now:Int) :
  ZbK N (some i) h now st=optE (ZcH N s.p s.b h now) fun x=>if (x != 0)=true then some (false,st) else
   optE (Zcf N s.p s.b h) fun y=>optE (ZcD N h.Bits) fun z=>optE (ZdC N [[L.arr .u64 4 s.bw],[L.arr .u64 4 z]]) fun u=>some (true,st.set i ({s with b:=y,bw:=u}:Sy).ll):=by
 unfold ZbK
 rw [Zab,hst,Zaz]
 rfl
theorem fail_unf {st:LL} {i:Nat} {s:Sy} (hst:st[i]? = some s.ll) (e:Int) :
  Zbz N (some i) e st=some ([],e,st.set i ({s with ph:=0,buf:=[]}:Sy).ll):=by
 unfold Zbz
 rw [Zab,hst,Zaz]
 have : ∀a b:List L,List.set (List.set (List.set st i a) i b) i ({s with ph:=0,buf:=[]}:Sy).ll=st.set i ({s with ph:=0,buf:=[]}:Sy).ll:=fun a b=>by rw [List.set_set,List.set_set]
 exact congrArg (fun x=>some (([]:LL),e,x)) (this ({s with buf:=List.replicate s.buf.length (Zah.ls (Zah.mk 0 (List.replicate 32 0) (List.replicate 32 0) 0 0 0))}:Sy).ll ({s with ph:=0,buf:=List.replicate s.buf.length (Zah.ls (Zah.mk 0 (List.replicate 32 0) (List.replicate 32 0) 0 0 0))}:Sy).ll)
theorem Zjr {st:LL} {i:Nat} {s:Sy} (hst:st[i]? = some s.ll) (n:Int) :
  Zay.p1 N i n st=chk (0≤n) (chk (n.toNat≤s.buf.length) (chk (List.length ([]++s.buf.take n.toNat)*96≤140737488355328) (chk ((0+n.toNat)+(s.buf.length-n.toNat)≤s.buf.length) (chk (List.length ([]++(s.buf.drop (0+n.toNat)).take (s.buf.length-n.toNat))*96≤140737488355328)
   (some ([]++s.buf.take n.toNat,st.set i ({s with buf:=[]++(s.buf.drop (0+n.toNat)).take (s.buf.length-n.toNat)}:Sy).ll)))))):=by
 unfold Zay.p1
 rw [hst,Zaz]
 rfl
theorem free_unf {st:LL} {i:Nat} {s:Sy} (hst:st[i]? = some s.ll) :
  Zay N (some i) st=if (s.ph==3)=true then Zay.p1 N i (len s.buf) st else Zay.p1 N i (if (0:Int)>(w64 ((len s.buf)-s.size)) then 0 else (w64 ((len s.buf)-s.size))) st:=by
 unfold Zay
 rw [Zab,hst,Zaz]
 rfl
theorem ZiO (hN:10≤N) {s:Sy} {b:Zat} {w m:Int} (hw:isN w) (hm:isN m) (e1:s.bw=nw w) (e2:s.p.MinWork=nw m):ZaY N (s.v b)=some (!decide (w<m)):=by
 unfold ZaY
 show optE (ZbW N s.bw s.p.MinWork) _=_
 rw [e1,e2,ZdH hN hw hm,Zab]
theorem ZfB {α:Type} (s:Sy) (k:Int→Int→Int→Int→Bool→LL→LL→List Int→List Int→Int→List Int→List Int→Int→Int→Int→Int→Int→Int→Int→Int→List Int→LL→List Int→Int→Int→Int→Int→Int→List Int→LL→List Int→Option Nat→Int→Int→Int→LL→Option α) :
  Zbb s.ll k=k s.p.Limit s.p.Interval s.p.Spacing s.p.Future s.p.Easy s.p.Gates s.p.Checks s.p.MinWork s.p.Margin s.p.Genesis.Version s.p.Genesis.Prev s.p.Genesis.Root s.p.Genesis.Time s.p.Genesis.Bits s.p.Genesis.Nonce s.sa.Point.Height s.sa.Point.Bits s.sa.Point.Time s.sa.Point.First s.sa.Point.Hard s.sa.Prev s.sa.Times s.sw s.b.Point.Height s.b.Point.Bits s.b.Point.Time s.b.Point.First s.b.Point.Hard s.b.Prev s.b.Times s.bw s.bk s.ph s.most s.size s.buf:=rfl
structure SyB (gs:List ZbF) (cs:List Zbo) (st:LL) (i j:Nat) (s:Sy) (b:Zat) (n c:Nat):Prop where
 o:st[i]? = some s.ll
 k:st[j]? = some b.lo
 bk:s.bk=some j
 ij:i≠j
 hg:s.p.Gates=rowG gs
 hc:s.p.Checks=rowC cs
 mw : ∃m,isN m∧s.p.MinWork=nw m
 wa:wfS s.sa=true
 wb:wfS s.b=true
 sw : ∃w,isN w∧s.sw=nw w
 bw : ∃w,isN w∧s.bw=nw w
 bo:BookOk b n
 nc:n≤c
 bu : ∃l:List Zah,s.buf=rowH l∧l.length≤c
 sz:1≤s.size∧s.size≤64
def Keep (i j:Nat) (st st':LL):Prop:=st.length≤st'.length∧∀r,r≠i→r≠j→r<st.length→st'[r]? = st[r]?
theorem Keep.rfl' (i j:Nat) (st:LL):Keep i j st st:=⟨Nat.le_refl _,fun _ _ _ _=>rfl⟩
theorem Keep.trans {i j:Nat} {a b c:LL} (h:Keep i j a b) (k:Keep i j b c):Keep i j a c:=
 ⟨Nat.le_trans h.1 k.1,fun r h1 h2 h3=>by rw [k.2 r h1 h2 (Nat.lt_of_lt_of_le h3 h.1),h.2 r h1 h2 h3]⟩
theorem Keep.seti (i j:Nat) (st:LL) (x:List L):Keep i j st (st.set i x):=⟨by simp,fun r h1 _ _=>List.getElem?_set_ne (Ne.symm h1)⟩
theorem Keep.setj (i j:Nat) (st:LL) (x:List L) (ex:LL):Keep i j st (st.set j x++ex):=
 ⟨by simp,fun r _ h2 h3=>by rw [List.getElem?_append_left (by simpa using h3),List.getElem?_set_ne (Ne.symm h2)]⟩
theorem Zga (p:Zan) (a:Zaq) (h:Zah):wfS (behind p a h)=true:=by
 unfold behind wfS
 simp only [isI_row,Bool.true_and,decide_eq_true_eq,Zdo,List.length_cons,List.length_take]
 omega
theorem on_eq (hN:1000≤N) {gs:List ZbF} {cs:List Zbo} (lg:gs.length≤400) (lc:cs.length≤400) {st:LL} {i j:Nat} {s:Sy} {b:Zat} {n c:Nat} (S:SyB gs cs st i j s b n c) {h:Zah} (hh:WfH h) (now:Int) (hnow:0≤now∧now≤9223372036854775807) :
  ZbK N (some i) h now st=some (false,st)∨∃w,isN w∧ZbK N (some i) h now st=some (true,st.set i ({s with b:=behind s.p s.b h,bw:=nw w}:Sy).ll):=by
 obtain ⟨w,hw,ew⟩:=S.bw
 have sb:=S.wb
 have isT:isI s.b.Times=true:=by simp only [wfS,Bool.and_eq_true] at sb;exact sb.1
 rw [on_unf S.o,ZhI (by omega) S.hg S.hc lg lc hh.w isT now (by omega),Zab]
 by_cases h0:checkS s.p gs cs s.b h now=0
 ·refine .inr ⟨wkAdd w (wkBits h.Bits),ZgA hw (Zeb _),?_⟩
  rw [if_neg (by simp [h0]),Zeh (by omega) hh.w sb,Zab,Zhc (by omega),Zab,ew,ZiV (by omega) hw (Zeb _),Zab]
 ·exact .inl (by rw [if_pos (by simpa using h0)])
theorem SyB.on {gs:List ZbF} {cs:List Zbo} {st:LL} {i j:Nat} {s:Sy} {b:Zat} {n c:Nat} (S:SyB gs cs st i j s b n c) (h:Zah) {w:Int} (hw:isN w):SyB gs cs (st.set i ({s with b:=behind s.p s.b h,bw:=nw w}:Sy).ll) i j {s with b:=behind s.p s.b h,bw:=nw w} b n c where
 o:=List.getElem?_set_self (List.getElem?_eq_some_iff.1 S.o).1
 k:=by rw [List.getElem?_set_ne S.ij];exact S.k
 bk:=S.bk
 ij:=S.ij
 hg:=S.hg
 hc:=S.hc
 mw:=S.mw
 wa:=S.wa
 wb:=Zga _ _ _
 sw:=S.sw
 bw:=⟨w,hw,rfl⟩
 bo:=S.bo
 nc:=S.nc
 bu:=S.bu
 sz:=S.sz
theorem SyB.give {gs:List ZbF} {cs:List Zbo} {st:LL} {i j:Nat} {s:Sy} {b b':Zat} {n n' c c':Nat} (S:SyB gs cs st i j s b n c) (ex:LL) (hb:BookOk b' n') (hn:n'≤c') (hc:c≤c'):SyB gs cs (st.set j b'.lo++ex) i j s b' n' c' where
 o:=ZfW (by rw [List.getElem?_set_ne (Ne.symm S.ij)];exact S.o)
 k:=ZfW (List.getElem?_set_self (List.getElem?_eq_some_iff.1 S.k).1)
 bk:=S.bk
 ij:=S.ij
 hg:=S.hg
 hc:=S.hc
 mw:=S.mw
 wa:=S.wa
 wb:=S.wb
 sw:=S.sw
 bw:=S.bw
 bo:=hb
 nc:=hn
 bu:=by obtain ⟨l,e,hl⟩:=S.bu;exact ⟨l,e,by omega⟩
 sz:=S.sz
theorem SyB.upd {gs:List ZbF} {cs:List Zbo} {st:LL} {i j:Nat} {s:Sy} {b:Zat} {n c c':Nat} (S:SyB gs cs st i j s b n c) (s':Sy) (hp:s'.p=s.p) (hbk:s'.bk=s.bk) (hsz:s'.size=s.size) (ha:s'.sa=s.sa) (hsw:s'.sw=s.sw) (hb:wfS s'.b=true) (hw : ∃w,isN w∧s'.bw=nw w) (hbu : ∃l:List Zah,s'.buf=rowH l∧l.length≤c') (hc:c≤c'):SyB gs cs (st.set i s'.ll) i j s' b n c' where
 o:=List.getElem?_set_self (List.getElem?_eq_some_iff.1 S.o).1
 k:=by rw [List.getElem?_set_ne S.ij];exact S.k
 bk:=by rw [hbk];exact S.bk
 ij:=S.ij
 hg:=by rw [hp];exact S.hg
 hc:=by rw [hp];exact S.hc
 mw:=by rw [hp];exact S.mw
 wa:=by rw [ha];exact S.wa
 wb:=hb
 sw:=by rw [hsw];exact S.sw
 bw:=hw
 bo:=S.bo
 nc:=Nat.le_trans S.nc hc
 bu:=hbu
 sz:=by rw [hsz];exact S.sz
structure Came (gs:List ZbF) (cs:List Zbo) (st:LL) (i j:Nat) (s:Sy) (n c:Nat) (st':LL) (s':Sy) (n':Nat):Prop where
 k:Keep i j st st'
 p:s'.p=s.p
 most:s'.most=s.most
 size:s'.size=s.size
 ok : ∃b',SyB gs cs st' i j s' b' n' c
theorem look_eq (hN:1000≤N) {gs:List ZbF} {cs:List Zbo} (lg:gs.length≤400) (lc:cs.length≤400) {st:LL} {i j:Nat} {s:Sy} {b:Zat} {n c:Nat} (S:SyB gs cs st i j s b n c) (hph:s.ph=1) (hbits:(n:Int)≤s.most) (l:List Zah) (hl : ∀x∈l,WfH x) (h64:l.length≤64) (hc:c≤900000) (now:Int) (hnow:0≤now∧now≤9223372036854775807) :
  ∃r,ZaJ N (some i) now (rowH l) st=some r∧∃s' n',Came gs cs st i j s n (c+l.length) r.2 s' n'∧(n':Int)≤s.most+1∧(r.1=0→(n':Int)≤s.most)∧(s'.ph=1∨s'.ph=2):=by
 unfold ZaJ
 refine ZdQ (Q:=fun r:Int×LL=>∃s' n',Came gs cs st i j s n (c+l.length) r.2 s' n'∧(n':Int)≤s.most+1∧(r.1=0→(n':Int)≤s.most)∧(s'.ph=1∨s'.ph=2)) (fun m (x:(Option Nat)×Int×LL)=>∃(v:Nat) (st1:LL) (s1:Sy) (b1:Zat) (n1:Nat),x=(some i,(v:Int),st1)∧v+m=l.length∧SyB gs cs st1 i j s1 b1 n1 (c+v)∧Keep i j st st1∧s1.p=s.p∧s1.most=s.most∧s1.size=s.size∧s1.ph=1∧(n1:Int)≤s.most) ?_ N l.length _ ⟨0,st,s,b,n,rfl,by omega,S,Keep.rfl' _ _ _,rfl,rfl,rfl,hph,hbits⟩ (by omega)
 clear S hph hbits
 rintro G m _ ⟨v,st1,s1,b1,n1,rfl,hv,S,K,ep,em,ez,eph,hb⟩ hG
 unfold ZaJ.p1
 dsimp only
 rw [ZfC]
 by_cases hlt:v<l.length
 ·have wh:=hl _ (List.getElem_mem hlt)
  have S':SyB gs cs st1 i j s1 b1 n1 (c+l.length):=⟨S.o,S.k,S.bk,S.ij,S.hg,S.hc,S.mw,S.wa,S.wb,S.sw,S.bw,S.bo,by have:=S.nc;omega,by obtain ⟨q,e,hq⟩:=S.bu;exact ⟨q,e,by omega⟩,S.sz⟩
  rw [if_pos (by simp<;>omega),Zam (by omega),Int.toNat_natCast,Zgt hlt,Zaz,Zdw,Zab,S.o,Zaz,ZfB]
  rcases on_eq hN lg lc S wh now hnow with e | ⟨w,hw,e⟩
  ·rw [e,Zab]
   dsimp only
   rw [if_pos (by rfl)]
   exact ⟨_,rfl,s1,n1,⟨K,ep,em,ez,b1,S'⟩,by omega,fun h=>by simp at h,.inl eph⟩
  ·have S1:=S.on l[v] hw
   rw [e,Zab]
   dsimp only
   rw [if_neg (by simp),S1.o,Zaz,ZfB]
   dsimp only
   rw [ZdL (by omega) wh.w,Zab]
   obtain ⟨r,b2,n2,ex,eG,ok,g1,g2,g3,g4⟩:=Give_eq hN S1.k S1.bo (by have:=S.nc;omega) s1.b.Point.Height (Zky l[v])
   have S2:=S1.give ex ok (c':=c+(v+1)) (by have:=S.nc;omega) (by omega)
   have K2:Keep i j st (((st1.set i ({s1 with b:=behind s1.p s1.b l[v],bw:=nw w}:Sy).ll).set j b2.lo)++ex):=(K.trans (Keep.seti i j _ _)).trans (Keep.setj i j _ _ _)
   have eo : ∀{α:Type} (f:Nat→Option α),optE s1.bk f=f j:=fun f=>by rw [S.bk];rfl
   rw [←S.bk] at eG
   rw [eG,Zab]
   dsimp only
   rw [S2.o,Zaz,ZfB]
   dsimp only
   rw [eo,S2.k,Zaz,ZbL]
   unfold Zbg
   rw [Zab]
   generalize ((st1.set i ({s1 with b:=behind s1.p s1.b l[v],bw:=nw w}:Sy).ll).set j b2.lo)++ex=st2 at S2 K2 ⊢
   have S2':SyB gs cs st2 i j {s1 with b:=behind s1.p s1.b l[v],bw:=nw w} b2 n2 (c+l.length):=⟨S2.o,S2.k,S2.bk,S2.ij,S2.hg,S2.hc,S2.mw,S2.wa,S2.wb,S2.sw,S2.bw,S2.bo,by have:=S2.nc;omega,by obtain ⟨q,e,hq⟩:=S2.bu;exact ⟨q,e,by omega⟩,S2.sz⟩
   have gv:=ok.g
   by_cases hm:b2.given>s1.most
   ·rw [if_pos (by simpa using hm)]
    exact ⟨_,rfl,({s1 with b:=behind s1.p s1.b l[v],bw:=nw w}:Sy),n2,⟨K2,ep,em,ez,b2,S2'⟩,by omega,fun h=>by simp at h,.inl eph⟩
   ·rw [if_neg (by simpa using hm)]
    obtain ⟨mw,hmw,emw⟩:=S.mw
    show ∃r,(optE (ZaY N (Sy.v {s1 with b:=behind s1.p s1.b l[v],bw:=nw w} b2)) _)=some r∧_
    rw [ZiO (s:={s1 with b:=behind s1.p s1.b l[v],bw:=nw w}) (b:=b2) (by omega) hw hmw rfl emw,Zab]
    by_cases hwm:w<mw
    ·rw [decide_eq_true hwm,if_neg (by simp),ZaD (by omega) (by omega)]
     exact hG (m-1) _ (by omega) ⟨v+1,st2,({s1 with b:=behind s1.p s1.b l[v],bw:=nw w}:Sy),b2,n2,by rw [Int.natCast_add];rfl,by omega,S2,K2,ep,em,ez,eph,by omega⟩
    ·rw [decide_eq_false hwm,if_pos (by rfl),List.set_set]
     have S3:=S2'.upd {s1 with b:=s1.sa,bw:=s1.sw,ph:=2,bk:=some j} rfl S.bk.symm rfl rfl rfl S.wa S.sw S2'.bu (Nat.le_refl _)
     exact ⟨_,rfl,{s1 with b:=s1.sa,bw:=s1.sw,ph:=2,bk:=some j},n2,⟨K2.trans (Keep.seti i j _ _),ep,em,ez,b2,S3⟩,by omega,fun _=>by omega,.inr rfl⟩
 ·rw [if_neg (by simp<;>omega)]
  rw [show c+v=c+l.length by omega] at S
  exact ⟨_,rfl,s1,n1,⟨K,ep,em,ez,b1,S⟩,by omega,fun _=>hb,.inl eph⟩
theorem Meet_eq (hN:1000≤N) {st:LL} {j:Nat} {b:Zat} {n:Nat} (hst:st[j]? = some b.lo) (hb:BookOk b n) (hn:n<1000000) (h:Int) {id_:List Int} (hid_:wfB id_=true) :
  ∃(r:Bool) (b':Zat) (ex:LL),ZbV N (some j) h id_ st=some (r,st.set j b'.lo++ex)∧BookOk b' n:=by
 obtain ⟨bit,hbit⟩:=Bit_eq hN b.Plan hid_
 obtain ⟨ws,ew,lw⟩:=hb.w
 have gm:=hb.m
 have hg:=hb.g
 have same : ∀(r:Bool),some (r,st)=some (r,st.set j b.lo ++ []):=fun r=>by rw [List.append_nil,ZhH hst]
 unfold ZbV
 rw [if_neg (by simp),Zab,hst,Zaz,ZbL]
 obtain ⟨due,hdue⟩:=Zkc (N:=N) hb.pl h
 rw [hdue,Zab]
 cases due with
 | false=>rw [if_pos (by rfl)];exact ⟨true,b,[],same true,hb⟩
 | true=>
  rw [if_neg (by simp)]
  by_cases hm:b.met≥b.given
  ·rw [if_pos (by simpa using hm)];exact ⟨false,b,[],same false,hb⟩
  ·rw [if_neg (by simpa using hm)]
   obtain ⟨q,eq⟩ : ∃q:Nat,b.met=(q:Int):=⟨b.met.toNat,by omega⟩
   have hq:q<n:=by omega
   have hqw:q/64<ws.length:=by omega
   have td:Int.tdiv (q:Int) 64=((q/64:Nat):Int):=by rw [Int.tdiv_eq_ediv_of_nonneg (by omega)];omega
   unfold Zca
   rw [eq,td,ZaD (n:=((q/64:Nat):Int)) (by omega) (by omega),Zam (by omega),ew,Zam (by simp [len];omega),Int.toNat_natCast,ZjC hqw,Zaz,Zhz,Zam (by rw [Int.tmod_eq_emod_of_nonneg (by omega)];omega),Zab]
   obtain ⟨ex,hex⟩:=hbit st
   have hjl:=(List.getElem?_eq_some_iff.1 hst).1
   rw [hex,Zab]
   dsimp only
   split
   ·exact ⟨false,b,ex,by rw [ZhH hst],hb⟩
   ·rw [ZfW hst,Zaz,ZbL,List.set_append_left _ _ hjl]
    refine ⟨true,_,ex,rfl,⟨hb.pl,⟨ws,ew,lw⟩,hg,?_⟩⟩
    dsimp only
    rw [eq,ZaD (by omega) (by omega)]
    omega
theorem Zjt (hN:1000≤N) {gs:List ZbF} {cs:List Zbo} {st:LL} {i j:Nat} {s:Sy} {b:Zat} {n c:Nat} (S:SyB gs cs st i j s b n c) (hc:c≤900000) (h:Zah) (now:Int) (l:LL) (v x:Int) (u:Bool) (cc:(Option Nat)×Int×LL→Option (Int×LL)) :
  ∃st' s',Zaj.p2 N cc i now l v x u h st=cc (some i,w64 (v+1),st')∧SyB gs cs st' i j s' b n (c+1)∧Keep i j st st'∧s'.p=s.p∧s'.most=s.most∧s'.size=s.size∧(s'.ph=s.ph∨s'.ph=3):=by
 obtain ⟨q,eb,hq⟩:=S.bu
 obtain ⟨w,hw,ew⟩:=S.bw
 obtain ⟨mw,hmw,emw⟩:=S.mw
 have eo : ∀{α:Type} (f:Nat→Option α),optE s.bk f=f j:=fun f=>by rw [S.bk];rfl
 have e1:s.buf ++ [h.ls]=rowH (q ++ [h]):=by rw [eb];simp [rowH]
 unfold Zaj.p2 Zaj.p3
 rw [S.o,Zaz,ZfB,Zam (by rw [e1,Zei,List.length_append,List.length_singleton];omega),eo,List.set_set,List.getElem?_set_ne S.ij,S.k,Zaz,ZbL]
 have bu' : ∃l':List Zah,s.buf ++ [h.ls]=rowH l'∧l'.length≤c+1:=⟨q ++ [h],e1,by rw [List.length_append,List.length_singleton];omega⟩
 show ∃st' s',(optE (ZaY N (Sy.v ({s with buf:=s.buf ++ [h.ls]}:Sy) b)) _)=_∧_
 rw [ZiO (s:=({s with buf:=s.buf ++ [h.ls]}:Sy)) (b:=b) (by omega) hw hmw ew emw,Zab]
 by_cases hwm:w<mw
 ·rw [decide_eq_true hwm,if_neg (by simp)]
  exact ⟨_,_,rfl,S.upd ({s with buf:=s.buf ++ [h.ls],bk:=some j}:Sy) rfl S.bk.symm rfl rfl rfl S.wb S.bw bu' (by omega),Keep.seti _ _ _ _,rfl,rfl,rfl,.inl rfl⟩
 ·rw [decide_eq_false hwm,if_pos (by rfl),List.set_set]
  exact ⟨_,_,rfl,S.upd ({s with buf:=s.buf ++ [h.ls],bk:=some j,ph:=3}:Sy) rfl S.bk.symm rfl rfl rfl S.wb S.bw bu' (by omega),Keep.seti _ _ _ _,rfl,rfl,rfl,.inr rfl⟩
theorem SyB.more {gs:List ZbF} {cs:List Zbo} {st:LL} {i j:Nat} {s:Sy} {b:Zat} {n c c':Nat} (S:SyB gs cs st i j s b n c) (h:c≤c'):SyB gs cs st i j s b n c':=
 ⟨S.o,S.k,S.bk,S.ij,S.hg,S.hc,S.mw,S.wa,S.wb,S.sw,S.bw,S.bo,Nat.le_trans S.nc h,by obtain ⟨q,e,hq⟩:=S.bu;exact ⟨q,e,by omega⟩,S.sz⟩
theorem again_eq (hN:1000≤N) {gs:List ZbF} {cs:List Zbo} (lg:gs.length≤400) (lc:cs.length≤400) {st:LL} {i j:Nat} {s:Sy} {b:Zat} {n c:Nat} (S:SyB gs cs st i j s b n c) (hph:s.ph=2) (l:List Zah) (hl : ∀x∈l,WfH x) (h64:l.length≤64) (hc:c≤800000) (now:Int) (hnow:0≤now∧now≤9223372036854775807) :
  ∃r,Zaj N (some i) now (rowH l) st=some r∧∃s',Came gs cs st i j s n (c+l.length) r.2 s' n∧(s'.ph=2∨s'.ph=3):=by
 unfold Zaj
 refine ZdQ (Q:=fun r:Int×LL=>∃s',Came gs cs st i j s n (c+l.length) r.2 s' n∧(s'.ph=2∨s'.ph=3)) (fun m (x:(Option Nat)×Int×LL)=>∃(v:Nat) (st1:LL) (s1:Sy) (b1:Zat),x=(some i,(v:Int),st1)∧v+m=l.length∧SyB gs cs st1 i j s1 b1 n (c+v)∧Keep i j st st1∧s1.p=s.p∧s1.most=s.most∧s1.size=s.size∧(s1.ph=2∨s1.ph=3)) ?_ N l.length _ ⟨0,st,s,b,rfl,by omega,S,Keep.rfl' _ _ _,rfl,rfl,rfl,.inl hph⟩ (by omega)
 clear S hph
 rintro G m _ ⟨v,st1,s1,b1,rfl,hv,S,K,ep,em,ez,eph⟩ hG
 unfold Zaj.p1
 dsimp only
 rw [ZfC]
 by_cases hlt:v<l.length
 ·have wh:=hl _ (List.getElem_mem hlt)
  rw [if_pos (by simp<;>omega),Zam (by omega),Int.toNat_natCast,Zgt hlt,Zaz,Zdw,Zab,S.o,Zaz,ZfB]
  rcases on_eq hN lg lc S wh now hnow with e | ⟨w,hw,e⟩
  ·rw [e,Zab]
   dsimp only
   rw [if_pos (by rfl)]
   exact ⟨_,rfl,s1,⟨K,ep,em,ez,b1,S.more (by omega)⟩,eph⟩
  ·have S1:=S.on l[v] hw
   have K1:=K.trans (Keep.seti i j st1 ({s1 with b:=behind s1.p s1.b l[v],bw:=nw w}:Sy).ll)
   rw [e,Zab]
   dsimp only
   rw [if_neg (by simp),S1.o,Zaz,ZfB]
   dsimp only
   generalize (st1.set i ({s1 with b:=behind s1.p s1.b l[v],bw:=nw w}:Sy).ll)=st2 at S1 K1 ⊢
   have fin : ∀(st3:LL) (b3:Zat) (x:Int) (u:Bool),SyB gs cs st3 i j {s1 with b:=behind s1.p s1.b l[v],bw:=nw w} b3 n (c+v)→Keep i j st st3→∃r,Zaj.p2 N G i now (rowH l) (v:Int) x u l[v] st3=some r∧∃s',Came gs cs st i j s n (c+l.length) r.2 s' n∧(s'.ph=2∨s'.ph=3):=by
    intro st3 b3 x u S3 K3
    obtain ⟨st4,s4,e4,S4,K4,p4,m4,z4,h4⟩:=Zjt hN S3 (by omega) l[v] now (rowH l) (v:Int) x u G
    rw [e4,ZaD (by omega) (by omega)]
    exact hG (m-1) _ (by omega) ⟨v+1,st4,s4,b3,by rw [Int.natCast_add];rfl,by omega,S4,K3.trans K4,p4.trans ep,m4.trans em,z4.trans ez,by
     rcases h4 with h4 | h4
     ·rw [h4];exact eph
     ·exact .inr h4⟩
   by_cases hp2:s1.ph=2
   ·obtain ⟨r,b2,ex,eM,ok⟩:=Meet_eq hN S1.k S1.bo (by have:=S.nc;omega) s1.b.Point.Height (Zky l[v])
    have S2:=S1.give ex ok (c':=c+v) S.nc (Nat.le_refl _)
    have K2:=K1.trans (Keep.setj i j st2 b2.lo ex)
    rw [←S.bk] at eM
    rw [if_pos (by simpa using hp2),ZdL (by omega) wh.w,Zab,eM,Zab]
    dsimp only
    cases r with
    | false=>
     rw [if_pos (by rfl)]
     exact ⟨_,rfl,({s1 with b:=behind s1.p s1.b l[v],bw:=nw w}:Sy),⟨K2,ep,em,ez,b2,S2.more (by omega)⟩,eph⟩
    | true=>
     rw [if_neg (by simp)]
     exact fin _ b2 _ _ S2 K2
   ·rw [if_neg (by simpa using hp2)]
    exact fin _ b1 _ _ S1 K1
 ·rw [if_neg (by simp<;>omega)]
  exact ⟨_,rfl,s1,⟨K,ep,em,ez,b1,S.more (by omega)⟩,eph⟩
theorem free_eq {gs:List ZbF} {cs:List Zbo} {st:LL} {i j:Nat} {s:Sy} {b:Zat} {n c:Nat} (S:SyB gs cs st i j s b n c) (hc:c≤900000) :
  ∃out st' s',Zay N (some i) st=some (out,st')∧SyB gs cs st' i j s' b n c∧Keep i j st st'∧s'.p=s.p∧s'.most=s.most∧s'.size=s.size∧s'.ph=s.ph∧(s'.buf.length:Int)≤s.size:=by
 obtain ⟨q,eb,hq⟩:=S.bu
 have sz:=S.sz
 have lb:s.buf.length=q.length:=by rw [eb,Zei]
 have main : ∀k:Nat,k≤q.length→((q.length-k:Nat):Int)≤s.size→∃out st' s',Zay.p1 N i (k:Int) st=some (out,st')∧SyB gs cs st' i j s' b n c∧Keep i j st st'∧s'.p=s.p∧s'.most=s.most∧s'.size=s.size∧s'.ph=s.ph∧(s'.buf.length:Int)≤s.size:=by
  intro k hk hks
  rw [Zjr S.o,Int.toNat_natCast,Zam (by omega),Zam (by omega),Zam (by rw [List.nil_append,List.length_take];omega),Zam (by omega),Zam (by rw [List.nil_append,List.length_take];omega)]
  have e2 : []++(s.buf.drop (0+k)).take (s.buf.length-k)=rowH (q.drop k):=by
   rw [List.nil_append,Nat.zero_add,List.take_of_length_le (by rw [List.length_drop];omega),eb]
   simp [rowH,List.map_drop]
  refine ⟨_,_,_,rfl,S.upd ({s with buf:=[]++(s.buf.drop (0+k)).take (s.buf.length-k)}:Sy) rfl rfl rfl rfl rfl S.wb S.bw ⟨q.drop k,e2,by rw [List.length_drop];omega⟩ (Nat.le_refl _),Keep.seti _ _ _ _,rfl,rfl,rfl,rfl,?_⟩
  dsimp only
  rw [e2,Zei,List.length_drop];exact hks
 rw [free_unf S.o,show len s.buf=(q.length:Int) by rw [len,lb]]
 by_cases h3:s.ph=3
 ·rw [if_pos (by simpa using h3)]
  exact main q.length (Nat.le_refl _) (by omega)
 ·rw [if_neg (by simpa using h3),ZaD (by omega) (by omega)]
  by_cases hz:(0:Int)>(q.length:Int)-s.size
  ·rw [if_pos hz]
   exact main 0 (by omega) (by omega)
  ·rw [if_neg hz,show (q.length:Int)-s.size=((q.length-s.size.toNat:Nat):Int) by omega]
   exact main _ (by omega) (by omega)
structure SyOk (gs:List ZbF) (cs:List Zbo) (st:LL) (i j:Nat) (s:Sy) (n c:Nat):Prop where
 ok : ∃b,SyB gs cs st i j s b n c
 ph:s.ph=0∨s.ph=1∨s.ph=2∨s.ph=3
 bits:(n:Int)≤s.most+1
 one:s.ph=1→(n:Int)≤s.most
 held:(s.buf.length:Int)≤s.size
theorem ZhD {gs:List ZbF} {cs:List Zbo} {st:LL} {i j:Nat} {s:Sy} {b:Zat} {n c:Nat} (S:SyB gs cs st i j s b n c) (hc:c≤900000) (hph:s.ph=1∨s.ph=2∨s.ph=3) (hb:(n:Int)≤s.most+1) (e:Int) (he:e=0→s.ph=1→(n:Int)≤s.most) (more:Bool) (was:Int) :
  ∃out e' st' s',ZaB.p1 N i more was e st=some (out,e',st')∧SyOk gs cs st' i j s' n c∧Keep i j st st'∧s'.p=s.p∧s'.most=s.most∧s'.size=s.size:=by
 have bad : ∀e0:Int,∃out e' st' s',(optE (Zbz N (some i) e0 st) fun (x:LL×Int×LL)=>some (x.1,x.2.1,x.2.2))=some (out,e',st')∧SyOk gs cs st' i j s' n c∧Keep i j st st'∧s'.p=s.p∧s'.most=s.most∧s'.size=s.size:=by
  intro e0
  rw [fail_unf S.o,Zab]
  have sz:=S.sz
  exact ⟨_,_,_,({s with ph:=0,buf:=[]}:Sy),rfl,⟨⟨b,S.upd ({s with ph:=0,buf:=[]}:Sy) rfl rfl rfl rfl rfl S.wb S.bw ⟨[],rfl,by simp⟩ (Nat.le_refl _)⟩,.inl rfl,hb,(fun h=>by cases h),by show ((([]:LL).length:Nat):Int)≤s.size;simp;omega⟩,Keep.seti _ _ _ _,rfl,rfl,rfl⟩
 have good:e=0→∃out e' st' s',(optE (Zay N (some i) st) fun (x:LL×LL)=>some (x.1,(0:Int),x.2))=some (out,e',st')∧SyOk gs cs st' i j s' n c∧Keep i j st st'∧s'.p=s.p∧s'.most=s.most∧s'.size=s.size:=by
  intro h0
  obtain ⟨out,st',s',e1,S',K,p,m,z,h,l⟩:=free_eq (N:=N) S hc
  rw [e1,Zab]
  exact ⟨_,_,_,s',rfl,⟨⟨b,S'⟩,by rw [h];exact .inr hph,by rw [m];exact hb,fun h1=>by rw [m];exact he h0 (by rw [←h];exact h1),by rw [z];exact l⟩,K,p,m,z⟩
 unfold ZaB.p1
 by_cases h0:e=0
 ·rw [if_neg (by simp [h0])]
  cases more with
  | false=>
   rw [if_pos (by rfl),S.o,Zaz,ZfB]
   by_cases hw:s.ph=was
   ·rw [if_pos (by simpa using hw)];exact bad 5
   ·rw [if_neg (by simpa using hw)];exact good h0
  | true=>rw [if_neg (by simp)];exact good h0
 ·rw [if_pos (by simpa using h0)];exact bad e
theorem Feed_eq (hN:1000≤N) {gs:List ZbF} {cs:List Zbo} (lg:gs.length≤400) (lc:cs.length≤400) {st:LL} {i j:Nat} {s:Sy} {n c:Nat} (S:SyOk gs cs st i j s n c) (hc:c≤700000) (l:List Zah) (hl : ∀x∈l,WfH x) (now:Int) (more:Bool) :
  ∃out e st' s' n',ZaB N (some i) now more (rowH l) st=some (out,e,st')∧SyOk gs cs st' i j s' n' (c+64)∧Keep i j st st'∧s'.p=s.p∧s'.most=s.most∧s'.size=s.size:=by
 obtain ⟨b,B⟩:=S.ok
 have same : ∀e:Int,∃out e' st' s' n',(some (([]:LL),e,st):Option (LL×Int×LL))=some (out,e',st')∧SyOk gs cs st' i j s' n' (c+64)∧Keep i j st st'∧s'.p=s.p∧s'.most=s.most∧s'.size=s.size:=fun e=>
  ⟨_,_,_,s,n,rfl,⟨⟨b,B.more (by omega)⟩,S.ph,S.bits,S.one,S.held⟩,Keep.rfl' _ _ _,rfl,rfl,rfl⟩
 unfold ZaB
 rw [if_neg (by simp),Zab,B.o,Zaz,ZfB]
 by_cases p0:s.ph=0
 ·rw [if_pos (by simpa using p0)];exact same 9
 rw [if_neg (by simpa using p0)]
 by_cases p3:s.ph=3
 ·rw [if_pos (by simpa using p3)];exact same 9
 rw [if_neg (by simpa using p3)]
 by_cases n0:now<0
 ·rw [if_pos (by simpa using n0)];exact same 1
 rw [if_neg (by simpa using n0)]
 by_cases n1:now>4294967296
 ·rw [if_pos (by simpa using n1)];exact same 1
 rw [if_neg (by simpa using n1),ZfC]
 by_cases n2:(l.length:Int)>64
 ·rw [if_pos (by simpa using n2)];exact same 1
 rw [if_neg (by simpa using n2)]
 by_cases p1:s.ph=1
 ·obtain ⟨⟨e,st1⟩,e1,s1,n1',C,hb,he,hp⟩:=look_eq hN lg lc B p1 (S.one p1) l hl (by omega) (by omega) now (by omega)
  dsimp only at C he
  obtain ⟨b1,B1⟩:=C.ok
  obtain ⟨out,e',st',s',e2,O,K,q1,q2,q3⟩:=ZhD (N:=N) (B1.more (c':=c+64) (by omega)) (by omega) (by omega) (by rw [C.most];exact hb) e (fun h _=>by rw [C.most];exact he h) more s.ph
  rw [if_pos (by simpa using p1),e1,Zab]
  dsimp only
  rw [e2]
  exact ⟨_,_,_,s',n1',rfl,O,C.k.trans K,q1.trans C.p,q2.trans C.most,q3.trans C.size⟩
 ·have p2:s.ph=2:=by rcases S.ph with h | h | h | h<;>first | exact h | contradiction
  obtain ⟨⟨e,st1⟩,e1,s1,C,hp⟩:=again_eq hN lg lc B p2 l hl (by omega) (by omega) now (by omega)
  dsimp only at C
  obtain ⟨b1,B1⟩:=C.ok
  obtain ⟨out,e',st',s',e2,O,K,q1,q2,q3⟩:=ZhD (N:=N) (B1.more (c':=c+64) (by omega)) (by omega) (.inr hp) (by rw [C.most];exact S.bits) e (fun _ h=>by rcases hp with hp | hp<;>rw [hp] at h<;>simp at h) more s.ph
  rw [if_neg (by simpa using p1),e1,Zab]
  dsimp only
  rw [e2]
  exact ⟨_,_,_,s',n,rfl,O,C.k.trans K,q1.trans C.p,q2.trans C.most,q3.trans C.size⟩
theorem isW_of {n:Int} (h:(Lit.int .u64 n).wf=true):isW n:=by
 simp only [Lit.wf,Bool.and_eq_true,decide_eq_true_eq] at h
 have h1:0≤n∧n≤18446744073709551615:=h
 unfold isW;omega
theorem Most_eq {p:Zbr} (hp:planOk p) (sec:Int) (h0:0≤sec) : ∃m,ZbX N p sec=some m∧0≤m∧m≤51539607553:=by
 unfold ZbX
 obtain ⟨b,e,h1,h2⟩:=ZhN (N:=N) p
 obtain ⟨P1,P2,_,_⟩:=hp
 have hp:planOk p:=⟨P1,P2,by assumption,by assumption⟩
 have hq:0≤(if (8589934592:Int)<sec then 8589934592 else sec)∧(if (8589934592:Int)<sec then 8589934592 else sec)≤8589934592:=by split<;>omega
 generalize (if (8589934592:Int)<sec then 8589934592 else sec)=q at hq ⊢
 have d1:Int.tdiv (6*q) p.Period=(6*q)/p.Period:=Int.tdiv_eq_ediv_of_nonneg (by omega)
 have d2:0≤(6*q)/p.Period:=Int.ediv_nonneg (by omega) (by omega)
 have d3:(6*q)/p.Period≤6*q:=Int.ediv_le_self _ (by omega)
 rw [e,Zab,h2 hp,if_neg (by simp),if_neg (by simpa using h0),Zam (by omega),ZaD (n:=6*q) (by omega) (by omega),d1,ZaD (n:=(6*q)/p.Period) (by omega) (by omega),ZaD (by omega) (by omega)]
 exact ⟨_,rfl,by omega,by omega⟩
theorem Zki (hN:1000≤N) {p:Zan} {gs:List ZbF} {cs:List Zbo} (hg:p.Gates=rowG gs) (hc:p.Checks=rowC cs) (lg:gs.length≤400) (lc:cs.length≤400) (hgd:rgood p gs cs=true) (hp:WfP p) {a:Zaq} (ha:wfS a=true) {w:Int} (hw:isN w) (plan:Zbr) (size now:Int) (st:LL) :
  (∃st',Zci N p (ZcP.mk a (nw w)) plan size now st=some (none,1,st'))∨∃(zs:List Int) (m:Int) (s:Sy) (st':LL),a.Times=rowI zs∧Zci N p (ZcP.mk a (nw w)) plan size now st=some (some (st.length+1),0,st')∧st'.length=st.length+2∧SyOk gs cs st' (st.length+1) st.length s 0 0∧s.ph=1∧s.most=m∧s.size=size ∧
   ZbX N plan (if (0:Int)>(w64 ((w64 (now+p.Future))-M zs)) then 0 else (w64 ((w64 (now+p.Future))-M zs)))=some m∧0≤m∧m≤51539607553:=by
 unfold Zci Zdh
 obtain ⟨b,e,h1,h2⟩:=ZhN (N:=N) plan
 rw [e,Zab]
 cases b with
 | false=>exact .inl ⟨_,rfl⟩
 | true=>
  have ok:=h1 rfl
  rw [if_neg (by simp),Zab]
  dsimp only
  rw [if_neg (by simp)]
  by_cases s1:size<1
  ·rw [if_pos (by simpa using s1)];exact .inl ⟨_,rfl⟩
  rw [if_neg (by simpa using s1)]
  by_cases s2:size>64
  ·rw [if_pos (by simpa using s2)];exact .inl ⟨_,rfl⟩
  rw [if_neg (by simpa using s2)]
  by_cases n1:now<0
  ·rw [if_pos (by simpa using n1)];exact .inl ⟨_,rfl⟩
  rw [if_neg (by simpa using n1)]
  by_cases n2:now>4294967296
  ·rw [if_pos (by simpa using n2)];exact .inl ⟨_,rfl⟩
  rw [if_neg (by simpa using n2),Zil (by omega) hg lg hc lc,hgd,Zab,if_neg (by simp)]
  have isT:isI a.Times=true:=by simp only [wfS,Bool.and_eq_true] at ha;exact ha.1
  have lT:a.Times.length<1000000:=by simp only [wfS,Bool.and_eq_true,decide_eq_true_eq] at ha;exact ha.2
  obtain ⟨zs,ez⟩ : ∃zs,a.Times=rowI zs:=⟨_,ZfD isT⟩
  obtain ⟨m,em,m0,m1⟩:=Most_eq (N:=N) ok (if (0:Int)>(w64 ((w64 (now+p.Future))-M zs)) then 0 else (w64 ((w64 (now+p.Future))-M zs))) (by split<;>omega)
  obtain ⟨mw,hmw,emw⟩:=Zkj hp.m.1 (fun x hx=>isW_of (hp.m.2 x hx))
  rw [Zam (by rw [hg,List.nil_append,Zjc];omega),Zam (by rw [hc,List.nil_append,Zjd];omega),Zam (by rw [List.nil_append];omega)]
  rw [ez,ZiC,Zab,em,Zab,List.set_set,List.set_set,←ez]
  have e1:(st ++ [Zat.lo ⟨plan,[],0,0⟩]:LL).length=st.length+1:=by simp
  rw [e1]
  refine .inr ⟨zs,m,⟨p,a,nw w,a,nw w,some st.length,1,m,size,[]⟩,_,ez,rfl,by simp,⟨⟨⟨plan,[],0,0⟩,?_⟩,.inr (.inl rfl),by simp;omega,fun _=>by simp;omega,by simp;omega⟩,rfl,rfl,rfl,em,m0,m1⟩
  refine ⟨?_,?_,rfl,by omega,hg,hc,⟨mw,hmw,emw⟩,ha,ha,⟨w,hw,rfl⟩,⟨w,hw,rfl⟩,⟨ok,⟨[],rfl,rfl⟩,rfl,by simp⟩,Nat.le_refl _,⟨[],rfl,by simp⟩,by dsimp only;omega⟩
  ·rw [List.getElem?_set_self (by simp)]
   rfl
  ·rw [List.getElem?_set_ne (by omega),List.getElem?_append_left (by simp)]
   simp
theorem alive19 (hN:1000≤N) : ∃st,Zcr N []=some (true,st):=by
 obtain ⟨n,rfl⟩ : ∃n,N=n+1000:=⟨N-1000,by omega⟩
 have h:((Zcr (n+1000) []).map (·.1))=some true:=by kernel_rfl
 cases e:Zcr (n+1000) [] with
 | none=>rw [e] at h;cases h
 | some r=>rw [e] at h;exact ⟨r.2,by cases r;simp at h;subst h;rfl⟩
theorem LTys.app_inv : ∀{a b:List Ty} {ls:List L},LTys (a++b) ls→∃l r,ls=l++r∧LTys a l∧LTys b r
 | [],b,ls,h=>⟨[],ls,rfl,by rw [LTys],h⟩
 | t::a,b,ls,h=>by
  obtain ⟨x,r,rfl,h1,h2⟩:=LTys.cons_inv (t:=t) (ts:=a++b) h
  obtain ⟨l,r',rfl,h3,h4⟩:=LTys.app_inv h2
  exact ⟨x::l,r',rfl,by rw [LTys];exact ⟨x,l,rfl,h1,h3⟩,h4⟩
abbrev tysCase:List Ty:=tysP ++ [.sl 68 tysH,.int .i64,.int .i64,.int .i64,.int .i64,.int .i64]
abbrev tysMsg:List Ty:=[.sl 68 tysH,.int .i64,.bool]
structure WfCase (c:ZaM) (base:List Zah):Prop where
 p:WfP c.P
 b:c.Base=rowH base
 w : ∀x∈base,WfH x
 l:base.length≤maxLen
theorem ZkR {ls:List L} (h:LTys tysCase ls) : ∃c base,ls=ZaM.ls c∧WfCase c base:=by
 obtain ⟨l1,r,rfl,h1,hr⟩:=LTys.app_inv (a:=tysP) (b:=[.sl 68 tysH,.int .i64,.int .i64,.int .i64,.int .i64,.int .i64]) h
 clear h
 have h:=hr
 obtain ⟨p,rfl,hp⟩:=open_P h1
 obtain ⟨_,_,rfl,h2,h⟩:=h.cons_inv
 obtain ⟨_,_,rfl,h3,h⟩:=h.cons_inv
 obtain ⟨_,_,rfl,h4,h⟩:=h.cons_inv
 obtain ⟨_,_,rfl,h5,h⟩:=h.cons_inv
 obtain ⟨_,_,rfl,h6,h⟩:=h.cons_inv
 obtain ⟨_,_,rfl,h7,h⟩:=h.cons_inv
 cases h.nil_inv
 obtain ⟨xs,rfl,lx,wx⟩:=h2.sl_inv
 obtain ⟨a3,rfl,w3⟩:=h3.int_inv
 obtain ⟨a4,rfl,w4⟩:=h4.int_inv
 obtain ⟨a5,rfl,w5⟩:=h5.int_inv
 obtain ⟨a6,rfl,w6⟩:=h6.int_inv
 obtain ⟨a7,rfl,w7⟩:=h7.int_inv
 obtain ⟨base,rfl,hb⟩:=open_C wx
 exact ⟨⟨p,rowH base,⟨a3,a4,a5⟩,a6,a7⟩,base,rfl,hp,rfl,hb,by rw [Zei] at lx;exact lx⟩
structure WfMsg (x:ZaU):Prop where
 l : ∃hs:List Zah,x.List_=rowH hs∧(∀h∈hs,WfH h)∧hs.length≤maxLen
noncomputable def rowMs (l:List ZaU):LL:=l.map ZaU.ls
theorem Zip {l:List ZaU} {i:Nat} (h:i<l.length):(rowMs l)[i]? = some l[i].ls:=by simp [rowMs,h]
@[simp] theorem ZiF (l:List ZaU):len (rowMs l)=(l.length:Int):=by simp [len,rowMs]
@[simp] theorem Zio (l:List ZaU):(rowMs l).length=l.length:=by simp [rowMs]
theorem open_Ms {xs:LL} (h : ∀x∈xs,LTys tysMsg x) : ∃l,xs=rowMs l∧∀x∈l,WfMsg x:=
 decode fun x hx=>by
  obtain ⟨_,_,rfl,h1,h⟩:=(h x hx).cons_inv
  obtain ⟨_,_,rfl,h2,h⟩:=h.cons_inv
  obtain ⟨_,_,rfl,h3,h⟩:=h.cons_inv
  cases h.nil_inv
  obtain ⟨ys,rfl,ly,wy⟩:=h1.sl_inv
  obtain ⟨a2,rfl,w2⟩:=h2.int_inv
  obtain ⟨a3,rfl⟩:=h3.bool_inv
  obtain ⟨hs,rfl,hb⟩:=open_C wy
  exact ⟨⟨rowH hs,a2,a3⟩,rfl,⟨hs,rfl,hb,by rw [Zei] at ly;exact ly⟩⟩
theorem Zkr {c:ZaM} {base:List Zah} (hc:WfCase c base) (l:List ZaU) (hl : ∀x∈l,WfMsg x) (hN:l.length+base.length+900≤N) (hb:l.length≤maxLen) :
  ∃b,ZaK N c (rowMs l)=some b∧(b=false→l.length≤12∧base.length≤20∧∃gs cs,c.P.Gates=rowG gs∧c.P.Checks=rowC cs∧gs.length≤400∧cs.length≤400∧rgood c.P gs cs=true):=by
 have hm:maxLen=9223372036854775807:=rfl
 have cl:=hc.l
 unfold ZaK
 refine ZdQ (fun m (s:Int×Int)=>∃k:Nat,k+m=l.length∧s.2=(k:Int)) ?_ N l.length _ ⟨0,by omega,rfl⟩ (by omega)
 rintro G m ⟨n1,_⟩ ⟨k,hk,rfl⟩ hG
 unfold ZaK.p1
 dsimp only
 rw [ZiF]
 by_cases hlt:k<l.length
 ·rw [if_pos (by simp<;>omega),Zam (by omega),Int.toNat_natCast,Zip hlt,Zaz,Zdf]
  by_cases h70:len l[k].List_>70
  ·rw [if_pos (by simpa using h70)];exact ⟨true,rfl,fun h=>by cases h⟩
  ·rw [if_neg (by simpa using h70),ZaD (n:=(k:Int)+1) (by omega) (by omega)]
   exact hG (m-1) _ (by omega) ⟨k+1,by omega,by dsimp only;omega⟩
 ·rw [if_neg (by simp<;>omega)]
  refine ZdQ (fun m (s:Int)=>∃k:Nat,k+m=base.length∧s=(k:Int)) ?_ N base.length _ ⟨0,by omega,rfl⟩ (by omega)
  rintro G2 m2 _ ⟨q,hq,rfl⟩ hG2
  unfold ZaK.p2
  rw [hc.b,ZfC]
  by_cases hql:q<base.length
  ·rw [if_pos (by simp<;>omega),Zam (by omega),Int.toNat_natCast,Zgt hql,Zaz,Zdw,Zht,Zab]
   cases hgood base[q] with
   | false=>rw [if_pos (by rfl)];exact ⟨true,rfl,fun h=>by cases h⟩
   | true=>
    rw [if_neg (by simp),ZaD (by omega) (by omega)]
    exact hG2 (m2-1) _ (by omega) ⟨q+1,by omega,by omega⟩
  ·rw [if_neg (by simp<;>omega)]
   by_cases h1:len c.P.Gates>20
   ·rw [if_pos (by simpa using h1)];exact ⟨true,rfl,fun h=>by cases h⟩
   rw [if_neg (by simpa using h1)]
   by_cases h2:len c.P.Checks>20
   ·rw [if_pos (by simpa using h2)];exact ⟨true,rfl,fun h=>by cases h⟩
   rw [if_neg (by simpa using h2)]
   by_cases h3:(base.length:Int)>20
   ·rw [if_pos (by simpa using h3)];exact ⟨true,rfl,fun h=>by cases h⟩
   rw [if_neg (by simpa using h3)]
   by_cases h4:(l.length:Int)>12
   ·rw [if_pos (by simpa using h4)];exact ⟨true,rfl,fun h=>by cases h⟩
   rw [if_neg (by simpa using h4)]
   by_cases h5:n1>200
   ·rw [if_pos (by simpa using h5)];exact ⟨true,rfl,fun h=>by cases h⟩
   rw [if_neg (by simpa using h5)]
   obtain ⟨gs,eg⟩:=open_G hc.p.g
   obtain ⟨cs,ec⟩:=open_K hc.p.c
   have lg:gs.length≤400:=by simp [len,eg] at h1;omega
   have lc:cs.length≤400:=by simp [len,ec] at h2;omega
   rw [ZhL (by omega) eg lg ec lc,Zab]
   exact ⟨_,rfl,fun h=>⟨by omega,by omega,gs,cs,eg,ec,lg,lc,by simpa using h⟩⟩
theorem SyOk.app {gs:List ZbF} {cs:List Zbo} {st:LL} {i j:Nat} {s:Sy} {n c:Nat} (S:SyOk gs cs st i j s n c) (x:LL):SyOk gs cs (st++x) i j s n c where
 ok:=by
  obtain ⟨b,B⟩:=S.ok
  exact ⟨b,ZfW B.o,ZfW B.k,B.bk,B.ij,B.hg,B.hc,B.mw,B.wa,B.wb,B.sw,B.bw,B.bo,B.nc,B.bu,B.sz⟩
 ph:=S.ph
 bits:=S.bits
 one:=S.one
 held:=S.held
theorem Zkx (hN:1000≤N) {c:ZaM} {base:List Zah} (hc:WfCase c base) (h20:base.length≤20) {gs:List ZbF} {cs:List Zbo} (hg:c.P.Gates=rowG gs) (hk:c.P.Checks=rowC cs) (lg:gs.length≤400) (lc:cs.length≤400) (hgd:rgood c.P gs cs=true) (st:LL) :
  (∃st',Zbd N c st=some (none,none,st'))∨∃(i j im:Nat) (s:Sy) (mo:ZbA) (st':LL),Zbd N c st=some (some i,some im,st')∧SyOk gs cs st' i j s 0 0∧s.size=c.Size∧st'[im]? = some mo.lo∧mo.Most=s.most∧0≤s.most∧s.most≤51539607553∧im≠i∧im≠j:=by
 unfold Zbd
 rw [Zhf (by omega) hc.p.h.w,Zab,ZeQ (by omega),Zab]
 have key : ∃r,loopN (Zbd.p1 N c st) N ([c.P.Genesis.ls],0,begin_ c.P,nw (wkBits c.P.Genesis.Bits))=some r∧((∃st',r=(none,none,st'))∨∃(i j im:Nat) (s:Sy) (mo:ZbA) (st':LL),r=(some i,some im,st')∧SyOk gs cs st' i j s 0 0∧s.size=c.Size∧st'[im]? = some mo.lo∧mo.Most=s.most∧0≤s.most∧s.most≤51539607553∧im≠i∧im≠j):=by
  refine ZdQ (Q:=fun r:(Option Nat)×(Option Nat)×LL=>(∃st',r=(none,none,st'))∨∃(i j im:Nat) (s:Sy) (mo:ZbA) (st':LL),r=(some i,some im,st')∧SyOk gs cs st' i j s 0 0∧s.size=c.Size∧st'[im]? = some mo.lo∧mo.Most=s.most∧0≤s.most∧s.most≤51539607553∧im≠i∧im≠j) (fun m (x:LL×Int×Zaq×(List Int))=>∃(k:Nat) (v:LL) (a:Zaq) (w:Int),k+m=base.length∧x=(v,(k:Int),a,nw w)∧v.length=k+1∧wfS a=true∧isN w) ?_ N base.length _ ⟨0,_,_,_,by omega,rfl,rfl,Zga _ _ _,Zeb _⟩ (by omega)
  rintro G m _ ⟨k,v,a,w,hkm,rfl,hv,ha,hw⟩ hG
  unfold Zbd.p1
  dsimp only
  rw [hc.b,ZfC]
  by_cases hlt:k<base.length
  ·have wb:=hc.w _ (List.getElem_mem hlt)
   rw [if_pos (by simp<;>omega),Zam (by omega),Int.toNat_natCast,Zgt hlt,Zaz,Zdw,Zeh (by omega) wb.w ha,Zab,Zam (by rw [List.length_append,List.length_singleton];omega),ZeQ (by omega),Zab,Zit (by omega) hw (Zeb _),Zab,ZaD (by omega) (by omega)]
   exact hG (m-1) _ (by omega) ⟨k+1,_,_,_,by omega,by rw [Int.natCast_add];rfl,by rw [List.length_append,List.length_singleton];omega,Zga _ _ _,ZgA hw (Zeb _)⟩
  ·rw [if_neg (by simp<;>omega)]
   rcases Zki hN hg hk lg lc hgd hc.p ha hw c.Plan c.Size c.Now st with ⟨st',e⟩ | ⟨zs,mm,s,st',ez,e,el,S,p1,em,es,eM,m0,m1⟩
   ·rw [e,Zab]
    dsimp only
    rw [if_pos (by rfl)]
    exact ⟨_,rfl,.inl ⟨st',rfl⟩⟩
   ·rw [e,Zab]
    dsimp only
    rw [if_neg (by simp),ez,Zko N (by omega),Zab,eM,Zab]
    exact ⟨_,rfl,.inr ⟨st.length+1,st.length,st'.length,s,⟨c.P,v,[],[],0,c.Plan.Salt,c.Plan.Period,c.Plan.Offset,c.Size,mm,1⟩,_,rfl,S.app _,es,by rw [List.getElem?_append_right (Nat.le_refl _),Nat.sub_self];rfl,em.symm,by omega,by omega,by omega,by omega⟩⟩
 obtain ⟨r,e,h⟩:=key
 rw [e]
 rcases h with ⟨st',rfl⟩ | ⟨i,j,im,s,mo,st',rfl,h⟩
 ·exact .inl ⟨st',rfl⟩
 ·exact .inr ⟨i,j,im,s,mo,st',rfl,h⟩
theorem Zhj {c:ZaM} {base:List Zah} (hc:WfCase c base) (l:List ZaU) (hl : ∀x∈l,WfMsg x) (hb:l.length≤maxLen) :
  ∃st,ZaG (l.length+base.length+1000) c (rowMs l) []=some (true,st):=by
 obtain ⟨s1,al⟩:=alive19 (N:=l.length+base.length+1000) (by omega)
 unfold ZaG
 rw [al,Zab]
 dsimp only
 rw [if_neg (by simp)]
 obtain ⟨b,e,hgr⟩:=Zkr (N:=l.length+base.length+1000) hc l hl (by omega) hb
 rw [e,Zab]
 cases b with
 | true=>rw [if_pos rfl];exact ⟨_,rfl⟩
 | false=>
  obtain ⟨h12,h20,gs,cs,eg,ec,lg,lc,hgd⟩:=hgr rfl
  generalize hN:l.length+base.length+1000=N
  rw [if_neg (by simp)]
  rcases Zkx (N:=N) (by omega) hc h20 eg ec lg lc hgd s1 with ⟨st',e⟩ | ⟨i,j,im,s,mo,st',e,S,es,hm,em,m0,m1,hi,hj⟩
  ·rw [e,Zab]
   dsimp only
   rw [if_pos (by rfl)];exact ⟨_,rfl⟩
  ·rw [e,Zab]
   dsimp only
   rw [if_neg (by simp)]
   have key : ∃r,loopN (ZaG.p1 N (rowMs l) c) N (some i,some im,0,st')=some r∧r.1=true:=by
    refine ZdQ (Q:=fun r:Bool×LL=>r.1=true) (fun m (x:(Option Nat)×(Option Nat)×Int×LL)=>∃(k:Nat) (st:LL) (s1:Sy) (n:Nat),x=(some i,some im,(k:Int),st)∧k+m=l.length∧SyOk gs cs st i j s1 n (64*k)∧s1.most=s.most∧s1.size=c.Size∧st[im]? = some mo.lo) ?_ N l.length _ ⟨0,st',s,0,rfl,by omega,S,rfl,es,hm⟩ (by omega)
    clear S hm
    rintro G m _ ⟨k,st,s1,n,rfl,hk,S,e1,e2,hm⟩ hG
    unfold ZaG.p1
    dsimp only
    rw [ZiF]
    by_cases hlt:k<l.length
    ·obtain ⟨hs,eh,wh,lh⟩:=(hl _ (List.getElem_mem hlt)).l
     obtain ⟨out,ee,st2,s2,n2,eF,S2,K,p2,q2,z2⟩:=Feed_eq (N:=N) (by omega) lg lc S (by omega) hs wh l[k].Now l[k].More
     obtain ⟨b2,B2⟩:=S2.ok
     have hm2:st2[im]? = some mo.lo:=by rw [K.2 im hi hj (List.getElem?_eq_some_iff.1 hm).1];exact hm
     have eo : ∀{α:Type} (f:Nat→Option α),optE s2.bk f=f j:=fun f=>by rw [B2.bk];rfl
     have bg:=B2.bo.g
     have hbits:=S2.bits
     have hheld:=S2.held
     rw [if_pos (by simp<;>omega),Zam (by omega),Int.toNat_natCast,Zip hlt,Zaz,Zdf,eh,eF,Zab]
     dsimp only
     rw [Zab,B2.o,Zaz,ZfB,eo,B2.k,Zaz,ZbL]
     unfold ZbO Zbg ZbN
     dsimp only
     rw [Zab,Zab,Zab,hm2,Zaz,Zdl,em,ZaD (by omega) (by omega),if_neg (by simp;omega),Zab,if_neg (by simp [len];omega),ZaD (by omega) (by omega)]
     exact hG (m-1) _ (by omega) ⟨k+1,st2,s2,n2,by rw [Int.natCast_add];rfl,by omega,S2,by omega,by omega,hm2⟩
    ·rw [if_neg (by simp<;>omega),Zab,hm,Zaz,Zdl]
     exact ⟨_,rfl,by simp;omega⟩
   obtain ⟨⟨r1,r2⟩,h1,h2⟩:=key
   dsimp only at h2
   exact ⟨r2,by rw [h1,h2]⟩
theorem PresyncRoom_true {ls:List L} (xs:LL) (h0:LTys tysCase ls) (h1 : ∀x∈xs,LTys tysMsg x) (l1:xs.length≤maxLen) :
  ∃st,Snd Tryz.prog 11 [.agg ls,.one (.sl 3 xs)] [] [.one (.bool true)] st:=by
 obtain ⟨c,base,rfl,hc⟩:=ZkR h0
 obtain ⟨l,rfl,hl⟩:=open_Ms h1
 obtain ⟨st,h⟩:=Zhj hc l hl (by rw [Zio] at l1;exact l1)
 exact ⟨st,ZaG.snd h⟩
end Go.Dn.F
