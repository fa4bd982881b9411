/- Contracts of functions of the program, as shallow functions, and their proofs. -/
import Derived.Test.YtbplamjmmjnibaaGreatDoorFa
import Derived.Test.YtbplamjmmjnibaaGreatDoorFaP
set_option linter.all false
set_option maxRecDepth 100000
namespace Go.Dn.F
open Go.Proofs
variable {N : Nat} {g0 : G} {w0 : World} {R : Exit → Act → World → Prop}
structure ZbW where
  Height : Int
  Version : Int
noncomputable def ZbW.ls (x : ZbW) : List L := [L.int .i64 x.Height, L.int .i64 x.Version]
noncomputable def ZcF {α : Type} (l : List L) (k : ZbW → Option α) : Option α := match l with
  | [L.int .i64 x0, L.int .i64 x1] => k ⟨x0, x1⟩
  | _ => none
theorem ZcP {α : Type} {o : Option (List L)} {k : ZbW → Option α} {r : α} (h : getE o ZcF k = some r) : ∃ x : ZbW, o = some x.ls ∧ k x = some r := by
  obtain ⟨l, e, k1⟩ := Zan h; subst e; unfold ZcF at k1; split at k1
  · exact ⟨_, rfl, k1⟩
  · cases k1
@[simp] theorem Zew {α : Type} (x : ZbW) (k : ZbW → Option α) : ZcF x.ls k = k x := rfl
theorem ZbW.bv {st : LL} (x : ZbW) : BVs st x.ls x.ls := (bP (bP bN))
structure ZbG where
  Height : Int
  Id : List Int
noncomputable def ZbG.ls (x : ZbG) : List L := [L.int .i64 x.Height, L.arr .u8 32 x.Id]
noncomputable def Zcx {α : Type} (l : List L) (k : ZbG → Option α) : Option α := match l with
  | [L.int .i64 x0, L.arr .u8 32 x1] => k ⟨x0, x1⟩
  | _ => none
theorem ZcK {α : Type} {o : Option (List L)} {k : ZbG → Option α} {r : α} (h : getE o Zcx k = some r) : ∃ x : ZbG, o = some x.ls ∧ k x = some r := by
  obtain ⟨l, e, k1⟩ := Zan h; subst e; unfold Zcx at k1; split at k1
  · exact ⟨_, rfl, k1⟩
  · cases k1
@[simp] theorem Zeh {α : Type} (x : ZbG) (k : ZbG → Option α) : Zcx x.ls k = k x := rfl
theorem ZbG.bv {st : LL} (x : ZbG) : BVs st x.ls x.ls := (bP (bP bN))
theorem slices_Sort_int.snd : SortC Tryz.prog 119 := slices_Sort_int.holds
theorem Zcl.snd {x y z : Int} {r : Int × Int} (h : Zcl N x y z = some r) : ExtI Tryz.prog 137 [(.u64, x), (.u64, y), (.u64, z)] [(.u64, r.1), (.u64, r.2)] := ZgT Tryz.func137 (by kernel_rfl) (by kernel_rfl) (by kernel_rfl) (by kernel_rfl) h
noncomputable def ZbY.B : Code := Tryz.f113.body.getD .skip
noncomputable def ZbY.rs (r : (List Int)) : List CV := [.agg [L.arr .u64 4 r]]
noncomputable def ZbY (N : Nat) (n_0 : Int) : Option (List Int) :=
 some [n_0, 0, 0, 0]
theorem ZbY.snd {n_0 : Int} {r : (List Int)} (h : ZbY N n_0 = some r) : SndQ Tryz.prog 113 [.one (L.int .u64 n_0)] (ZbY.rs r) := fun st =>
 sO ZbY.B Tryz.func113 fun g0 w0 R hE => by
  unfold ZbY at h
  obtain rfl := Zad h
  exact af fol hE [.r [], .r [(1, {m := 3})]] [] 0 [] trivial
noncomputable def ZaL.B : Code := Tryz.f140.body.getD .skip
noncomputable def ZaL.rs (r : (List Int)) : List CV := [.agg [L.arr .u64 4 r]]
noncomputable def ZaL.p2 (N : Nat) (c1_ : (Int × (List Int)) → Option (List Int)) (n_1 v1 : Int) (a_0_0 out_4 : List Int) : Option (List Int) :=
 c1_ (w64 (v1 + 1), out_4)
noncomputable def ZaL.p1 (N : Nat) (n_1 : Int) (a_0_0 : List Int) (c1_ : (Int × (List Int)) → Option (List Int)) : (Int × (List Int)) → Option (List Int) := fun (v1, out_3) =>
 if (decide (v1 < (w64 (4 - (w64 (Int.tdiv (if (0 : Int) > n_1 then 0 else n_1) 64)))))) = true then
  chk (0 ≤ (w64 (v1 + (w64 (Int.tdiv (if (0 : Int) > n_1 then 0 else n_1) 64))))) <|
  chk ((w64 (v1 + (w64 (Int.tdiv (if (0 : Int) > n_1 then 0 else n_1) 64)))) < 4) <|
  chk (0 ≤ (Int.tmod (if (0 : Int) > n_1 then 0 else n_1) 64)) <|
  chk (0 ≤ v1) <|
  chk (v1 < 4) <|
  if (decide ((w64 ((w64 (v1 + (w64 (Int.tdiv (if (0 : Int) > n_1 then 0 else n_1) 64)))) + 1)) < 4)) = true then
   chk (0 ≤ (w64 ((w64 (v1 + (w64 (Int.tdiv (if (0 : Int) > n_1 then 0 else n_1) 64)))) + 1))) <|
   chk (0 ≤ (w64 (64 - (Int.tmod (if (0 : Int) > n_1 then 0 else n_1) 64)))) <|
   ZaL.p2 N c1_ n_1 v1 a_0_0 (List.set (List.set out_3 (Int.toNat v1) (shrOf .u64 (List.getD a_0_0 (Int.toNat (w64 (v1 + (w64 (Int.tdiv (if (0 : Int) > n_1 then 0 else n_1) 64))))) 0) (Int.tmod (if (0 : Int) > n_1 then 0 else n_1) 64))) (Int.toNat v1) (bitsOf .or .u64 (List.getD (List.set out_3 (Int.toNat v1) (shrOf .u64 (List.getD a_0_0 (Int.toNat (w64 (v1 + (w64 (Int.tdiv (if (0 : Int) > n_1 then 0 else n_1) 64))))) 0) (Int.tmod (if (0 : Int) > n_1 then 0 else n_1) 64))) (Int.toNat v1) 0) (shlOf .u64 (List.getD a_0_0 (Int.toNat (w64 ((w64 (v1 + (w64 (Int.tdiv (if (0 : Int) > n_1 then 0 else n_1) 64)))) + 1))) 0) (w64 (64 - (Int.tmod (if (0 : Int) > n_1 then 0 else n_1) 64))))))
  else
  ZaL.p2 N c1_ n_1 v1 a_0_0 (List.set out_3 (Int.toNat v1) (shrOf .u64 (List.getD a_0_0 (Int.toNat (w64 (v1 + (w64 (Int.tdiv (if (0 : Int) > n_1 then 0 else n_1) 64))))) 0) (Int.tmod (if (0 : Int) > n_1 then 0 else n_1) 64)))
 else
 some out_3
noncomputable def ZaL (N : Nat) (a_0_0 : List Int) (n_1 : Int) : Option (List Int) :=
 if (decide (n_1 ≥ 256)) = true then
  some (List.replicate 4 0)
 else
 loopN (ZaL.p1 N n_1 a_0_0) N (0, List.replicate 4 0)
noncomputable def ZaL.p2.S (n_1 v1 : Int) (a_0_0 out_4 : List Int) (st : LL) : S := mkS 53 [(2, .one (.adr (.site 2) 0)), (4, .one (.adr (.site 4) 0)), (5, .one (.adr (.site 5) 0)), (6, .one (.l (L.int .i64 (w64 (Int.tdiv (if (0 : Int) > n_1 then 0 else n_1) 64))))), (7, .one (.l (L.int .i64 (Int.tmod (if (0 : Int) > n_1 then 0 else n_1) 64)))), (19, .one (.l (L.int .i64 (w64 (4 - (w64 (Int.tdiv (if (0 : Int) > n_1 then 0 else n_1) 64))))))), (20, .one (.l (L.int .i64 v1)))] [(2, .cells [L.arr .u64 4 a_0_0]), (4, .cells [L.arr .u64 4 (List.replicate 4 0)]), (5, .cells [L.arr .u64 4 out_4])] st
noncomputable def ZaL.p1.S (n_1 v1 : Int) (a_0_0 out_3 : List Int) (st : LL) : S := mkS 53 [(2, .one (.adr (.site 2) 0)), (4, .one (.adr (.site 4) 0)), (5, .one (.adr (.site 5) 0)), (6, .one (.l (L.int .i64 (w64 (Int.tdiv (if (0 : Int) > n_1 then 0 else n_1) 64))))), (7, .one (.l (L.int .i64 (Int.tmod (if (0 : Int) > n_1 then 0 else n_1) 64)))), (19, .one (.l (L.int .i64 (w64 (4 - (w64 (Int.tdiv (if (0 : Int) > n_1 then 0 else n_1) 64))))))), (20, .one (.l (L.int .i64 v1)))] [(2, .cells [L.arr .u64 4 a_0_0]), (4, .cells [L.arr .u64 4 (List.replicate 4 0)]), (5, .cells [L.arr .u64 4 out_3])] st
theorem ZaL.p2_ok (n_1 v1 : Int) (a_0_0 out_4 : List Int) (st : LL) {r : (List Int)} {c1_ : (Int × (List Int)) → Option (List Int)} {J1 : Act → World → Prop} (hE : En Tryz.f140 g0 w0 (ZaL.rs r) st R) (hc1 : ∀ (v1 : Int) (out_3 : List Int), c1_ (v1, out_3) = some r → At g0 w0 (ZaL.p1.S n_1 v1 a_0_0 out_3 st) J1) (h : ZaL.p2 N c1_ n_1 v1 a_0_0 out_4 = some r) : At g0 w0 (ZaL.p2.S n_1 v1 a_0_0 out_4 st) (XK Tryz.prog R [.c (csub ZaL.B [1, 1, 1, 1, 0, 1, 0, 0, 1, 1, 1]), .h J1, .b 0, .c (csub ZaL.B [1, 1, 1, 1, 1])]) := by
 unfold ZaL.p2 at h
 exact an fol [.r []] [2, 4, 5, 6, 7, 19, 20] [2, 4, 5] trivial (hc1 (w64 (v1 + 1)) out_4 h)
theorem ZaL.p1_ok (n_1 v1 : Int) (a_0_0 out_3 : List Int) (st : LL) {r : (List Int)} {c1_ : (Int × (List Int)) → Option (List Int)} {J1 : Act → World → Prop} (hE : En Tryz.f140 g0 w0 (ZaL.rs r) st R) (hc1 : ∀ (v1 : Int) (out_3 : List Int), c1_ (v1, out_3) = some r → At g0 w0 (ZaL.p1.S n_1 v1 a_0_0 out_3 st) J1) (h : ZaL.p1 N n_1 a_0_0 c1_ (v1, out_3) = some r) : At g0 w0 (ZaL.p1.S n_1 v1 a_0_0 out_3 st) (XK Tryz.prog R (.c (csub ZaL.B [1, 1, 1, 1, 0, 1, 0, 0]) :: .h J1 :: [.b 0, .c (csub ZaL.B [1, 1, 1, 1, 1])])) := by
 unfold ZaL.p1 at h
 refine iteB h (fun c11 h1 => ?_) (fun c11 h2 => ?_) <;> clear h
 · obtain ⟨c12, c13, c14, c15, c16, h3⟩ := ck5 h1; clear h1
   refine iteB h3 (fun c17 h4 => ?_) (fun c17 h5 => ?_) <;> clear h3
   · obtain ⟨c18, c19, h6⟩ := ck2 h4; clear h4
     exact aqd fol [.r [], .c true, .r [], .r [], .r [], .c true, .d {ds := [], hv := 16384, Hs := [16384]}, .s 4] [2, 4, 5, 6, 7, 19, 20] [2, 4, 5] (aI c11 (aI c12 (aI c13 (aI c14 (aI c15 (aI c16 (aI c17 (aI c15 (aI c16 (aI c18 (aI (oD c17) (aI c19 (aI c15 c16))))))))))))) (ZaL.p2_ok n_1 v1 a_0_0 (List.set (List.set out_3 (Int.toNat v1) (shrOf .u64 (List.getD a_0_0 (Int.toNat (w64 (v1 + (w64 (Int.tdiv (if (0 : Int) > n_1 then 0 else n_1) 64))))) 0) (Int.tmod (if (0 : Int) > n_1 then 0 else n_1) 64))) (Int.toNat v1) (bitsOf .or .u64 (List.getD (List.set out_3 (Int.toNat v1) (shrOf .u64 (List.getD a_0_0 (Int.toNat (w64 (v1 + (w64 (Int.tdiv (if (0 : Int) > n_1 then 0 else n_1) 64))))) 0) (Int.tmod (if (0 : Int) > n_1 then 0 else n_1) 64))) (Int.toNat v1) 0) (shlOf .u64 (List.getD a_0_0 (Int.toNat (w64 ((w64 (v1 + (w64 (Int.tdiv (if (0 : Int) > n_1 then 0 else n_1) 64)))) + 1))) 0) (w64 (64 - (Int.tmod (if (0 : Int) > n_1 then 0 else n_1) 64)))))) st hE hc1 h6)
   · exact aq fol [.r [], .c true, .r [], .r [], .r [], .c false, .s 4] [2, 4, 5, 6, 7, 19, 20] [2, 4, 5] (aI c11 (aI c12 (aI c13 (aI c14 (aI c15 (aI c16 c17)))))) (ZaL.p2_ok n_1 v1 a_0_0 (List.set out_3 (Int.toNat v1) (shrOf .u64 (List.getD a_0_0 (Int.toNat (w64 (v1 + (w64 (Int.tdiv (if (0 : Int) > n_1 then 0 else n_1) 64))))) 0) (Int.tmod (if (0 : Int) > n_1 then 0 else n_1) 64))) st hE hc1 h5)
 · obtain rfl := Zad h2
   exact af fol hE [.r [], .c false, .r []] [] 0 [] c11
theorem ZaL.snd {a_0_0 : List Int} {n_1 : Int} {r : (List Int)} (h : ZaL N a_0_0 n_1 = some r) : SndQ Tryz.prog 140 [.agg [L.arr .u64 4 a_0_0], .one (L.int .i64 n_1)] (ZaL.rs r) := fun st =>
 sO ZaL.B Tryz.func140 fun g0 w0 R hE => by
  unfold ZaL at h
  refine iteB h (fun c1 h7 => ?_) (fun c1 h8 => ?_) <;> clear h
  · obtain rfl := Zad h7
    exact af fol hE [.r [], .r [], .c true, .r []] [] 0 [] c1
  · exact aq fol [.r [], .r [], .c false, .r [], .r [], .r []] [2, 4, 5, 6, 7, 19, 20] [2, 4, 5] (aI c1 (aI (neI 64) (neI 64))) (At.loop N (At.loopN (fun y : Int × (List Int) => ZaL.p1.S n_1 y.1 a_0_0 y.2 st) (fun c J hc y h => ZaL.p1_ok n_1 y.1 a_0_0 y.2 st hE (fun v1 out_3 hh => hc (v1, out_3) hh) h) N (0, List.replicate 4 0) h8))
noncomputable def Zbd.B : Code := Tryz.f139.body.getD .skip
noncomputable def Zbd.rs (r : (List Int)) : List CV := [.agg [L.arr .u64 4 r]]
noncomputable def Zbd.p2 (N : Nat) (c1_ : (Int × (List Int)) → Option (List Int)) (n_1 i_1 : Int) (a_0_0 out_4 : List Int) : Option (List Int) :=
 c1_ (w64 (i_1 + 1), out_4)
noncomputable def Zbd.p1 (N : Nat) (n_1 : Int) (a_0_0 : List Int) (c1_ : (Int × (List Int)) → Option (List Int)) : (Int × (List Int)) → Option (List Int) := fun (i_1, out_3) =>
 if (decide (i_1 < 4)) = true then
  chk (0 ≤ (w64 (i_1 - (w64 (Int.tdiv (if (0 : Int) > n_1 then 0 else n_1) 64))))) <|
  chk ((w64 (i_1 - (w64 (Int.tdiv (if (0 : Int) > n_1 then 0 else n_1) 64)))) < 4) <|
  chk (0 ≤ (Int.tmod (if (0 : Int) > n_1 then 0 else n_1) 64)) <|
  chk (0 ≤ i_1) <|
  if (decide (i_1 > (w64 (Int.tdiv (if (0 : Int) > n_1 then 0 else n_1) 64)))) = true then
   chk (0 ≤ (w64 ((w64 (i_1 - (w64 (Int.tdiv (if (0 : Int) > n_1 then 0 else n_1) 64)))) - 1))) <|
   chk ((w64 ((w64 (i_1 - (w64 (Int.tdiv (if (0 : Int) > n_1 then 0 else n_1) 64)))) - 1)) < 4) <|
   chk (0 ≤ (w64 (64 - (Int.tmod (if (0 : Int) > n_1 then 0 else n_1) 64)))) <|
   Zbd.p2 N c1_ n_1 i_1 a_0_0 (List.set (List.set out_3 (Int.toNat i_1) (shlOf .u64 (List.getD a_0_0 (Int.toNat (w64 (i_1 - (w64 (Int.tdiv (if (0 : Int) > n_1 then 0 else n_1) 64))))) 0) (Int.tmod (if (0 : Int) > n_1 then 0 else n_1) 64))) (Int.toNat i_1) (bitsOf .or .u64 (List.getD (List.set out_3 (Int.toNat i_1) (shlOf .u64 (List.getD a_0_0 (Int.toNat (w64 (i_1 - (w64 (Int.tdiv (if (0 : Int) > n_1 then 0 else n_1) 64))))) 0) (Int.tmod (if (0 : Int) > n_1 then 0 else n_1) 64))) (Int.toNat i_1) 0) (shrOf .u64 (List.getD a_0_0 (Int.toNat (w64 ((w64 (i_1 - (w64 (Int.tdiv (if (0 : Int) > n_1 then 0 else n_1) 64)))) - 1))) 0) (w64 (64 - (Int.tmod (if (0 : Int) > n_1 then 0 else n_1) 64))))))
  else
  Zbd.p2 N c1_ n_1 i_1 a_0_0 (List.set out_3 (Int.toNat i_1) (shlOf .u64 (List.getD a_0_0 (Int.toNat (w64 (i_1 - (w64 (Int.tdiv (if (0 : Int) > n_1 then 0 else n_1) 64))))) 0) (Int.tmod (if (0 : Int) > n_1 then 0 else n_1) 64)))
 else
 some out_3
noncomputable def Zbd (N : Nat) (a_0_0 : List Int) (n_1 : Int) : Option (List Int) :=
 if (decide (n_1 ≥ 256)) = true then
  some (List.replicate 4 0)
 else
 loopN (Zbd.p1 N n_1 a_0_0) N (w64 (Int.tdiv (if (0 : Int) > n_1 then 0 else n_1) 64), List.replicate 4 0)
noncomputable def Zbd.p2.S (n_1 i_1 : Int) (a_0_0 out_4 : List Int) (st : LL) : S := mkS 50 [(2, .one (.adr (.site 2) 0)), (4, .one (.adr (.site 4) 0)), (5, .one (.adr (.site 5) 0)), (6, .one (.l (L.int .i64 (w64 (Int.tdiv (if (0 : Int) > n_1 then 0 else n_1) 64))))), (7, .one (.l (L.int .i64 (Int.tmod (if (0 : Int) > n_1 then 0 else n_1) 64)))), (8, .one (.l (L.int .i64 i_1)))] [(2, .cells [L.arr .u64 4 a_0_0]), (4, .cells [L.arr .u64 4 (List.replicate 4 0)]), (5, .cells [L.arr .u64 4 out_4])] st
noncomputable def Zbd.p1.S (n_1 i_1 : Int) (a_0_0 out_3 : List Int) (st : LL) : S := mkS 50 [(2, .one (.adr (.site 2) 0)), (4, .one (.adr (.site 4) 0)), (5, .one (.adr (.site 5) 0)), (6, .one (.l (L.int .i64 (w64 (Int.tdiv (if (0 : Int) > n_1 then 0 else n_1) 64))))), (7, .one (.l (L.int .i64 (Int.tmod (if (0 : Int) > n_1 then 0 else n_1) 64)))), (8, .one (.l (L.int .i64 i_1)))] [(2, .cells [L.arr .u64 4 a_0_0]), (4, .cells [L.arr .u64 4 (List.replicate 4 0)]), (5, .cells [L.arr .u64 4 out_3])] st
theorem Zbd.p2_ok (n_1 i_1 : Int) (a_0_0 out_4 : List Int) (st : LL) {r : (List Int)} {c1_ : (Int × (List Int)) → Option (List Int)} {J1 : Act → World → Prop} (hE : En Tryz.f139 g0 w0 (Zbd.rs r) st R) (hc1 : ∀ (i_1 : Int) (out_3 : List Int), c1_ (i_1, out_3) = some r → At g0 w0 (Zbd.p1.S n_1 i_1 a_0_0 out_3 st) J1) (h : Zbd.p2 N c1_ n_1 i_1 a_0_0 out_4 = some r) : At g0 w0 (Zbd.p2.S n_1 i_1 a_0_0 out_4 st) (XK Tryz.prog R [.c (csub Zbd.B [1, 1, 1, 1, 0, 1, 0, 0, 1, 1]), .h J1, .b 0, .c (csub Zbd.B [1, 1, 1, 1, 1])]) := by
 unfold Zbd.p2 at h
 exact an fol [.r []] [2, 4, 5, 6, 7, 8] [2, 4, 5] trivial (hc1 (w64 (i_1 + 1)) out_4 h)
theorem Zbd.p1_ok (n_1 i_1 : Int) (a_0_0 out_3 : List Int) (st : LL) {r : (List Int)} {c1_ : (Int × (List Int)) → Option (List Int)} {J1 : Act → World → Prop} (hE : En Tryz.f139 g0 w0 (Zbd.rs r) st R) (hc1 : ∀ (i_1 : Int) (out_3 : List Int), c1_ (i_1, out_3) = some r → At g0 w0 (Zbd.p1.S n_1 i_1 a_0_0 out_3 st) J1) (h : Zbd.p1 N n_1 a_0_0 c1_ (i_1, out_3) = some r) : At g0 w0 (Zbd.p1.S n_1 i_1 a_0_0 out_3 st) (XK Tryz.prog R (.c (csub Zbd.B [1, 1, 1, 1, 0, 1, 0, 0]) :: .h J1 :: [.b 0, .c (csub Zbd.B [1, 1, 1, 1, 1])])) := by
 unfold Zbd.p1 at h
 refine iteB h (fun c11 h1 => ?_) (fun c11 h2 => ?_) <;> clear h
 · obtain ⟨c12, c13, c14, c15, h3⟩ := ck4 h1; clear h1
   refine iteB h3 (fun c16 h4 => ?_) (fun c16 h5 => ?_) <;> clear h3
   · obtain ⟨c17, c18, c19, h6⟩ := ck3 h4; clear h4
     exact aqd fol [.r [], .c true, .r [], .r [], .c true, .d {ds := [], hv := 16384, Hs := [16384]}, .s 4] [2, 4, 5, 6, 7, 8] [2, 4, 5] (aI c11 (aI c12 (aI c13 (aI c14 (aI c15 (aI (oD c11) (aI c16 (aI c15 (aI (oD c11) (aI c17 (aI c18 (aI c19 (aI c15 (oD c11)))))))))))))) (Zbd.p2_ok n_1 i_1 a_0_0 (List.set (List.set out_3 (Int.toNat i_1) (shlOf .u64 (List.getD a_0_0 (Int.toNat (w64 (i_1 - (w64 (Int.tdiv (if (0 : Int) > n_1 then 0 else n_1) 64))))) 0) (Int.tmod (if (0 : Int) > n_1 then 0 else n_1) 64))) (Int.toNat i_1) (bitsOf .or .u64 (List.getD (List.set out_3 (Int.toNat i_1) (shlOf .u64 (List.getD a_0_0 (Int.toNat (w64 (i_1 - (w64 (Int.tdiv (if (0 : Int) > n_1 then 0 else n_1) 64))))) 0) (Int.tmod (if (0 : Int) > n_1 then 0 else n_1) 64))) (Int.toNat i_1) 0) (shrOf .u64 (List.getD a_0_0 (Int.toNat (w64 ((w64 (i_1 - (w64 (Int.tdiv (if (0 : Int) > n_1 then 0 else n_1) 64)))) - 1))) 0) (w64 (64 - (Int.tmod (if (0 : Int) > n_1 then 0 else n_1) 64)))))) st hE hc1 h6)
   · exact aq fol [.r [], .c true, .r [], .r [], .c false, .s 4] [2, 4, 5, 6, 7, 8] [2, 4, 5] (aI c11 (aI c12 (aI c13 (aI c14 (aI c15 (aI (oD c11) c16)))))) (Zbd.p2_ok n_1 i_1 a_0_0 (List.set out_3 (Int.toNat i_1) (shlOf .u64 (List.getD a_0_0 (Int.toNat (w64 (i_1 - (w64 (Int.tdiv (if (0 : Int) > n_1 then 0 else n_1) 64))))) 0) (Int.tmod (if (0 : Int) > n_1 then 0 else n_1) 64))) st hE hc1 h5)
 · obtain rfl := Zad h2
   exact af fol hE [.r [], .c false, .r []] [] 0 [] c11
theorem Zbd.snd {a_0_0 : List Int} {n_1 : Int} {r : (List Int)} (h : Zbd N a_0_0 n_1 = some r) : SndQ Tryz.prog 139 [.agg [L.arr .u64 4 a_0_0], .one (L.int .i64 n_1)] (Zbd.rs r) := fun st =>
 sO Zbd.B Tryz.func139 fun g0 w0 R hE => by
  unfold Zbd at h
  refine iteB h (fun c1 h7 => ?_) (fun c1 h8 => ?_) <;> clear h
  · obtain rfl := Zad h7
    exact af fol hE [.r [], .r [], .c true, .r []] [] 0 [] c1
  · exact aq fol [.r [], .r [], .c false, .r [], .r [], .r []] [2, 4, 5, 6, 7, 8] [2, 4, 5] (aI c1 (aI (neI 64) (neI 64))) (At.loop N (At.loopN (fun y : Int × (List Int) => Zbd.p1.S n_1 y.1 a_0_0 y.2 st) (fun c J hc y h => Zbd.p1_ok n_1 y.1 a_0_0 y.2 st hE (fun i_1 out_3 hh => hc (i_1, out_3) hh) h) N (w64 (Int.tdiv (if (0 : Int) > n_1 then 0 else n_1) 64), List.replicate 4 0) h8))
noncomputable def Zaw.B : Code := Tryz.f117.body.getD .skip
noncomputable def Zaw.rs (r : (List Int) × Bool × Bool) : List CV := [.agg [L.arr .u64 4 r.1], .one (L.bool r.2.1), .one (L.bool r.2.2)]
noncomputable def Zaw.p2 (N : Nat) (bits_0 : Int) (below_6 : Bool) (n_5 : List Int) : Option ((List Int) × Bool × Bool) :=
 if ((bitsOf .and .i64 bits_0 8388607) != 0) = true then
  if (decide ((shrOf .i64 bits_0 24) > 34)) = true then
   some (n_5, below_6, true)
  else
  if (decide ((bitsOf .and .i64 bits_0 8388607) > 255)) = true then
   if (decide ((shrOf .i64 bits_0 24) > 33)) = true then
    some (n_5, below_6, true)
   else
   if (decide ((bitsOf .and .i64 bits_0 8388607) > 65535)) = true then
    some (n_5, below_6, decide ((shrOf .i64 bits_0 24) > 32))
   else
   some (n_5, below_6, false)
  else
  if (decide ((bitsOf .and .i64 bits_0 8388607) > 65535)) = true then
   some (n_5, below_6, decide ((shrOf .i64 bits_0 24) > 32))
  else
  some (n_5, below_6, false)
 else
 some (n_5, below_6, false)
noncomputable def Zaw.p1 (N : Nat) (bits_0 : Int) (n_5 : List Int) : Option ((List Int) × Bool × Bool) :=
 if ((bitsOf .and .i64 bits_0 8388607) != 0) = true then
  Zaw.p2 N bits_0 ((bitsOf .and .i64 bits_0 8388608) != 0) n_5
 else
 Zaw.p2 N bits_0 false n_5
noncomputable def Zaw (N : Nat) (bits_0 : Int) : Option ((List Int) × Bool × Bool) :=
 optE (Zbz N bits_0) fun x1 =>
 if (!x1) = true then
  some (List.replicate 4 0, false, false)
 else
 optE (ZbY N (v64 (bitsOf .and .i64 bits_0 8388607))) fun x2 =>
 if (decide ((shrOf .i64 bits_0 24) ≤ 3)) = true then
  optE (ZaL N x2 (w64 (8 * (w64 (3 - (shrOf .i64 bits_0 24)))))) fun x3 =>
  Zaw.p1 N bits_0 x3
 else
 optE (Zbd N x2 (w64 (8 * (w64 ((shrOf .i64 bits_0 24) - 3))))) fun x4 =>
 Zaw.p1 N bits_0 x4
noncomputable def Zaw.p2.S (bits_0 : Int) (below_6 : Bool) (n_5 : List Int) (st : LL) : S := mkS 65 [(2, .one (.adr (.site 2) 0)), (5, .one (.l (L.int .i64 (shrOf .i64 bits_0 24)))), (6, .one (.l (L.int .i64 (bitsOf .and .i64 bits_0 8388607)))), (7, .one (.adr (.site 7) 0)), (8, .one (.l (L.bool below_6)))] [(2, .cells [L.arr .u64 4 (List.replicate 4 0)]), (7, .cells [L.arr .u64 4 n_5])] st
noncomputable def Zaw.p1.S (bits_0 : Int) (n_5 : List Int) (st : LL) : S := mkS 65 [(0, .one (.l (L.int .i64 bits_0))), (2, .one (.adr (.site 2) 0)), (5, .one (.l (L.int .i64 (shrOf .i64 bits_0 24)))), (6, .one (.l (L.int .i64 (bitsOf .and .i64 bits_0 8388607)))), (7, .one (.adr (.site 7) 0))] [(2, .cells [L.arr .u64 4 (List.replicate 4 0)]), (7, .cells [L.arr .u64 4 n_5])] st
theorem Zaw.p2_ok (bits_0 : Int) (below_6 : Bool) (n_5 : List Int) (st : LL) {r : (List Int) × Bool × Bool} (hE : En Tryz.f117 g0 w0 (Zaw.rs r) st R) (h : Zaw.p2 N bits_0 below_6 n_5 = some r) : At g0 w0 (Zaw.p2.S bits_0 below_6 n_5 st) (XK Tryz.prog R [.c (csub Zaw.B [1, 1, 1, 1, 1, 1])]) := by
 unfold Zaw.p2 at h
 refine iteB h (fun c8 h1 => ?_) (fun c8 h2 => ?_) <;> clear h
 · refine iteB h1 (fun c9 h3 => ?_) (fun c9 h4 => ?_) <;> clear h1
   · obtain rfl := Zad h3
     exact af fol hE [.r [(6, {want := false}), (7, {want := false}), (8, {want := false}), (11, {want := false}), (14, {want := false}), (15, {want := false}), (16, {want := false}), (19, {want := false})], .r []] [] 0 [] (aI c8 (aI c8 (aI c8 (aI c9 (aI c9 (aI c9 (aI c9 (aI c8 (aI c9 (aI c8 (aI (eB true) (aI (eB true) (aI (eB true) (aI (eB true) (aI c8 (aI (eB true) c8))))))))))))))))
   · refine iteB h4 (fun c10 h5 => ?_) (fun c10 h6 => ?_) <;> clear h4
     · refine iteB h5 (fun c11 h7 => ?_) (fun c11 h8 => ?_) <;> clear h5
       · obtain rfl := Zad h7
         exact af fol hE [.r [(12, {yes := false}), (14, {want := false}), (15, {want := false}), (16, {want := false}), (19, {want := false})], .r []] [] 0 [] (aI c8 (aI c8 (aI c8 (aI c9 (aI c9 (aI c9 (aI c10 (aI c10 (aI c9 (aI c10 (aI c8 (aI c9 (aI c8 (aI c11 (aI c11 (aI c11 (aI c11 (aI c8 (aI c11 c8)))))))))))))))))))
       · refine iteB h8 (fun c12 h9 => ?_) (fun c12 h10 => ?_) <;> clear h8
         · obtain rfl := Zad h9
           exact af fol hE [.r [(12, {yes := false}), (20, {yes := false})], .r []] [] 0 [] (aI c8 (aI c8 (aI c8 (aI c9 (aI c9 (aI c9 (aI c10 (aI c10 (aI c9 (aI c10 (aI c8 (aI c9 (aI c8 (aI c11 (aI c11 (aI c11 (aI c12 (aI c12 (aI c11 (aI c12 (aI c8 (aI c11 c8))))))))))))))))))))))
         · obtain rfl := Zad h10
           exact af fol hE [.r [(12, {yes := false}), (17, {want := false}), (18, {want := false}), (19, {yes := false}), (20, {yes := false})], .r []] [] 0 [] (aI c8 (aI c8 (aI c8 (aI c9 (aI c9 (aI c9 (aI c10 (aI c10 (aI c9 (aI c10 (aI c8 (aI c9 (aI c8 (aI c11 (aI c11 (aI c11 (aI c12 (aI c12 (aI c11 (aI c12 (aI c8 (aI c11 c8))))))))))))))))))))))
     · refine iteB h6 (fun c13 h11 => ?_) (fun c13 h12 => ?_) <;> clear h6
       · obtain rfl := Zad h11
         exact af fol hE [.r [(9, {want := false}), (10, {want := false}), (11, {yes := false}), (12, {yes := false}), (20, {yes := false})], .r []] [] 0 [] (aI c8 (aI c8 (aI c8 (aI c9 (aI c9 (aI c9 (aI c10 (aI c10 (aI c9 (aI c10 (aI c8 (aI c9 (aI c8 (aI (eB false) (aI (eB false) (aI (eB false) (aI c13 (aI c13 (aI (eB false) (aI c13 (aI c8 (aI (eB false) c8))))))))))))))))))))))
       · obtain rfl := Zad h12
         exact af fol hE [.r [(9, {want := false}), (10, {want := false}), (11, {yes := false}), (12, {yes := false}), (17, {want := false}), (18, {want := false}), (19, {yes := false}), (20, {yes := false})], .r []] [] 0 [] (aI c8 (aI c8 (aI c8 (aI c9 (aI c9 (aI c9 (aI c10 (aI c10 (aI c9 (aI c10 (aI c8 (aI c9 (aI c8 (aI (eB false) (aI (eB false) (aI (eB false) (aI c13 (aI c13 (aI (eB false) (aI c13 (aI c8 (aI (eB false) c8))))))))))))))))))))))
 · obtain rfl := Zad h2
   exact af fol hE [.r [(3, {want := false}), (4, {want := false}), (5, {want := false}), (12, {want := false}), (13, {want := false}), (20, {want := false}), (21, {yes := false})], .r []] [] 0 [] (aI c8 (aI c8 (aI c8 (aI c8 (aI c8 (aI c8 c8))))))
theorem Zaw.p1_ok (bits_0 : Int) (n_5 : List Int) (st : LL) {r : (List Int) × Bool × Bool} (hE : En Tryz.f117 g0 w0 (Zaw.rs r) st R) (h : Zaw.p1 N bits_0 n_5 = some r) : At g0 w0 (Zaw.p1.S bits_0 n_5 st) (XK Tryz.prog R [.c (csub Zaw.B [1, 1, 1, 1, 1])]) := by
 unfold Zaw.p1 at h
 refine iteB h (fun c7 h13 => ?_) (fun c7 h14 => ?_) <;> clear h
 · exact aq fol [.r [], .s 1] [2, 5, 6, 7, 8] [2, 7] (aI c7 (aI c7 (aI c7 c7))) (Zaw.p2_ok bits_0 ((bitsOf .and .i64 bits_0 8388608) != 0) n_5 st hE h13)
 · exact aq fol [.r [(3, {want := false}), (4, {want := false}), (5, {want := false}), (6, {yes := false})], .s 1] [2, 5, 6, 7, 8] [2, 7] (aI c7 (aI c7 (aI c7 c7))) (Zaw.p2_ok bits_0 false n_5 st hE h14)
theorem Zaw.snd {bits_0 : Int} {r : (List Int) × Bool × Bool} (h : Zaw N bits_0 = some r) : SndQ Tryz.prog 117 [.one (L.int .i64 bits_0)] (Zaw.rs r) := fun st =>
 sO Zaw.B Tryz.func117 fun g0 w0 R hE => by
  unfold Zaw at h
  obtain ⟨x1, c1, h15⟩ := Zan h; clear h
  refine iteB h15 (fun c2 h16 => ?_) (fun c2 h17 => ?_) <;> clear h15
  · obtain rfl := Zad h16
    exact af fol hE [.r [], .r [(1, {rs := [.one (L.bool x1)], m := 1})], .c true, .r []] [] 0 [] (aI (Zbz.snd c1) c2)
  · obtain ⟨x2, c3, h18⟩ := Zan h17; clear h17
    refine iteB h18 (fun c4 h19 => ?_) (fun c4 h20 => ?_) <;> clear h18
    · obtain ⟨x3, c5, h21⟩ := Zan h19; clear h19
      exact aq fol [.r [], .r [(1, {rs := [.one (L.bool x1)], m := 1})], .c false, .r [], .r [(2, {rs := [.agg [L.arr .u64 4 x2]], m := 1})], .r [], .c true, .r [(4, {rs := [.agg [L.arr .u64 4 x3]], m := 1})], .s 1] [0, 2, 5, 6, 7] [2, 7] (aI (Zbz.snd c1) (aI c2 (aI (leI 0 24) (aI (ZbY.snd c3) (aI c4 (ZaL.snd c5)))))) (Zaw.p1_ok bits_0 x3 st hE h21)
    · obtain ⟨x4, c6, h22⟩ := Zan h20; clear h20
      exact aq fol [.r [], .r [(1, {rs := [.one (L.bool x1)], m := 1})], .c false, .r [], .r [(2, {rs := [.agg [L.arr .u64 4 x2]], m := 1})], .r [], .c false, .r [(4, {rs := [.agg [L.arr .u64 4 x4]], m := 1})], .s 1] [0, 2, 5, 6, 7] [2, 7] (aI (Zbz.snd c1) (aI c2 (aI (leI 0 24) (aI (ZbY.snd c3) (aI c4 (Zbd.snd c6)))))) (Zaw.p1_ok bits_0 x4 st hE h22)
noncomputable def ZbU.B : Code := Tryz.f115.body.getD .skip
noncomputable def ZbU.rs (r : Bool) : List CV := [.one (L.bool r)]
noncomputable def ZbU (N : Nat) (a_0_0 : List Int) : Option Bool :=
 some (a_0_0 == (List.replicate 4 0))
theorem ZbU.snd {a_0_0 : List Int} {r : Bool} (h : ZbU N a_0_0 = some r) : SndQ Tryz.prog 115 [.agg [L.arr .u64 4 a_0_0]] (ZbU.rs r) := fun st =>
 sO ZbU.B Tryz.func115 fun g0 w0 R hE => by
  unfold ZbU at h
  obtain rfl := Zad h
  exact af fol hE [.r [], .r []] [] 0 [] trivial
noncomputable def ZaS.B : Code := Tryz.f68.body.getD .skip
noncomputable def ZaS.rs (r : Int) : List CV := [.one (L.int .i64 r)]
noncomputable def ZaS.p1 (N : Nat) (a_0_0 b_1_0 : List Int) (c1_ : Int → Option Int) : Int → Option Int := fun i_1 =>
 if (decide (i_1 ≥ 0)) = true then
  chk (0 ≤ i_1) <|
  chk (i_1 < 4) <|
  if (decide ((List.getD a_0_0 (Int.toNat i_1) 0) < (List.getD b_1_0 (Int.toNat i_1) 0))) = true then
   some (-1)
  else
  if (decide ((List.getD a_0_0 (Int.toNat i_1) 0) > (List.getD b_1_0 (Int.toNat i_1) 0))) = true then
   some 1
  else
  c1_ (w64 (i_1 - 1))
 else
 some 0
noncomputable def ZaS (N : Nat) (a_0_0 b_1_0 : List Int) : Option Int :=
 loopN (ZaS.p1 N a_0_0 b_1_0) N 3
noncomputable def ZaS.p1.S (i_1 : Int) (a_0_0 b_1_0 : List Int) (st : LL) : S := mkS 26 [(2, .one (.adr (.site 2) 0)), (3, .one (.adr (.site 3) 0)), (5, .one (.l (L.int .i64 i_1)))] [(2, .cells [L.arr .u64 4 a_0_0]), (3, .cells [L.arr .u64 4 b_1_0])] st
theorem ZaS.p1_ok (i_1 : Int) (a_0_0 b_1_0 : List Int) (st : LL) {r : Int} {c1_ : Int → Option Int} {J1 : Act → World → Prop} (hE : En Tryz.f68 g0 w0 (ZaS.rs r) st R) (hc1 : ∀ (i_1 : Int), c1_ i_1 = some r → At g0 w0 (ZaS.p1.S i_1 a_0_0 b_1_0 st) J1) (h : ZaS.p1 N a_0_0 b_1_0 c1_ i_1 = some r) : At g0 w0 (ZaS.p1.S i_1 a_0_0 b_1_0 st) (XK Tryz.prog R (.c (csub ZaS.B [1, 0, 1, 0, 0]) :: .h J1 :: [.b 0, .c (csub ZaS.B [1, 1])])) := by
 unfold ZaS.p1 at h
 refine iteB h (fun c1 h1 => ?_) (fun c1 h2 => ?_) <;> clear h
 · obtain ⟨c2, c3, h3⟩ := ck2 h1; clear h1
   refine iteB h3 (fun c4 h4 => ?_) (fun c4 h5 => ?_) <;> clear h3
   · obtain rfl := Zad h4
     exact afd fol hE [.r [], .c true, .d {ds := [], hv := 0, Hs := []}, .c true, .r []] [] 0 [] (aI c1 (aI c2 (aI c3 (aI c2 (aI c3 c4)))))
   · refine iteB h5 (fun c5 h6 => ?_) (fun c5 h7 => ?_) <;> clear h5
     · obtain rfl := Zad h6
       exact afd fol hE [.r [], .c true, .d {ds := [], hv := 0, Hs := []}, .c false, .d {ds := [], hv := 0, Hs := []}, .c true, .r []] [] 0 [] (aI c1 (aI c2 (aI c3 (aI c2 (aI c3 (aI c4 (aI c2 (aI c3 (aI c2 (aI c3 c5))))))))))
     · exact and_ fol [.r [], .c true, .d {ds := [], hv := 0, Hs := []}, .c false, .d {ds := [], hv := 0, Hs := []}, .c false, .r []] [2, 3, 5] [2, 3] (aI c1 (aI c2 (aI c3 (aI c2 (aI c3 (aI c4 (aI c2 (aI c3 (aI c2 (aI c3 c5)))))))))) (hc1 (w64 (i_1 - 1)) h7)
 · obtain rfl := Zad h2
   exact af fol hE [.r [], .c false, .r []] [] 0 [] c1
theorem ZaS.snd {a_0_0 b_1_0 : List Int} {r : Int} (h : ZaS N a_0_0 b_1_0 = some r) : SndQ Tryz.prog 68 [.agg [L.arr .u64 4 a_0_0], .agg [L.arr .u64 4 b_1_0]] (ZaS.rs r) := fun st =>
 sO ZaS.B Tryz.func68 fun g0 w0 R hE => by
  unfold ZaS at h
  exact aq fol [.r [], .r []] [2, 3, 5] [2, 3] trivial (At.loop N (At.loopN (fun y : Int => ZaS.p1.S y a_0_0 b_1_0 st) (fun c J hc y h => ZaS.p1_ok y a_0_0 b_1_0 st hE (fun i_1 hh => hc i_1 hh) h) N 3 h))
noncomputable def ZbI.B : Code := Tryz.f114.body.getD .skip
noncomputable def ZbI.rs (r : Bool) : List CV := [.one (L.bool r)]
noncomputable def ZbI (N : Nat) (a_0_0 b_1_0 : List Int) : Option Bool :=
 optE (ZaS N a_0_0 b_1_0) fun x1 =>
 some (decide (x1 < 0))
theorem ZbI.snd {a_0_0 b_1_0 : List Int} {r : Bool} (h : ZbI N a_0_0 b_1_0 = some r) : SndQ Tryz.prog 114 [.agg [L.arr .u64 4 a_0_0], .agg [L.arr .u64 4 b_1_0]] (ZbI.rs r) := fun st =>
 sO ZbI.B Tryz.func114 fun g0 w0 R hE => by
  unfold ZbI at h
  obtain ⟨x1, c1, h1⟩ := Zan h; clear h
  obtain rfl := Zad h1
  exact af fol hE [.r [], .r [(2, {rs := [.one (L.int .i64 x1)], m := 1})]] [] 0 [] (ZaS.snd c1)
noncomputable def ZaG.B : Code := Tryz.f89.body.getD .skip
noncomputable def ZaG.rs (r : (List Int) × Bool) : List CV := [.agg [L.arr .u64 4 r.1], .one (L.bool r.2)]
noncomputable def ZaG (N : Nat) (bits_0 limit_1 : Int) : Option ((List Int) × Bool) :=
 optE (Zaw N bits_0) fun (x1, x2, x3) =>
 optE (Zaw N limit_1) fun (x4, x5, x6) =>
 if x2 = true then
  some (List.replicate 4 0, false)
 else
 if x3 = true then
  some (List.replicate 4 0, false)
 else
 if x5 = true then
  some (List.replicate 4 0, false)
 else
 if x6 = true then
  some (List.replicate 4 0, false)
 else
 optE (ZbU N x1) fun x7 =>
 if x7 = true then
  some (List.replicate 4 0, false)
 else
 optE (ZbI N x4 x1) fun x8 =>
 if x8 = true then
  some (List.replicate 4 0, false)
 else
 some (x1, true)
theorem ZaG.snd {bits_0 limit_1 : Int} {r : (List Int) × Bool} (h : ZaG N bits_0 limit_1 = some r) : SndQ Tryz.prog 89 [.one (L.int .i64 bits_0), .one (L.int .i64 limit_1)] (ZaG.rs r) := fun st =>
 sO ZaG.B Tryz.func89 fun g0 w0 R hE => by
  unfold ZaG at h
  obtain ⟨⟨x1, x2, x3⟩, c1, h1⟩ := Zan h; clear h
  obtain ⟨⟨x4, x5, x6⟩, c2, h2⟩ := Zan h1; clear h1
  refine iteB h2 (fun c3 h3 => ?_) (fun c3 h4 => ?_) <;> clear h2
  · obtain rfl := Zad h3
    exact af fol hE [.r [], .r [(1, {rs := [.agg [L.arr .u64 4 x1], .one (L.bool x2), .one (L.bool x3)], m := 1})], .r [(1, {rs := [.agg [L.arr .u64 4 x4], .one (L.bool x5), .one (L.bool x6)], m := 1})], .r [(2, {want := false}), (5, {want := false}), (8, {want := false}), (11, {want := false}), (12, {want := false}), (15, {want := false}), (16, {want := false}), (17, {want := false})], .c true, .r []] [] 0 [] (aI (Zaw.snd c1) (aI (Zaw.snd c2) (aI c3 (aI c3 (aI (eB true) (aI (eB true) (aI (eB true) (aI (eB true) (aI (eB true) (aI (eB true) (aI (eB true) (aI (eB true) (aI (eB true) (aI (eB true) (aI (eB true) (eB true))))))))))))))))
  · refine iteB h4 (fun c4 h5 => ?_) (fun c4 h6 => ?_) <;> clear h4
    · obtain rfl := Zad h5
      exact af fol hE [.r [], .r [(1, {rs := [.agg [L.arr .u64 4 x1], .one (L.bool x2), .one (L.bool x3)], m := 1})], .r [(1, {rs := [.agg [L.arr .u64 4 x4], .one (L.bool x5), .one (L.bool x6)], m := 1})], .r [(3, {yes := false}), (5, {want := false}), (8, {want := false}), (11, {want := false}), (12, {want := false}), (15, {want := false}), (16, {want := false}), (17, {want := false})], .c true, .r []] [] 0 [] (aI (Zaw.snd c1) (aI (Zaw.snd c2) (aI c3 (aI c3 (aI c4 (aI c4 (aI (eB true) (aI (eB true) (aI (eB true) (aI (eB true) (aI (eB true) (aI (eB true) (aI (eB true) (aI (eB true) (aI (eB true) (eB true))))))))))))))))
    · refine iteB h6 (fun c5 h7 => ?_) (fun c5 h8 => ?_) <;> clear h6
      · obtain rfl := Zad h7
        exact af fol hE [.r [], .r [(1, {rs := [.agg [L.arr .u64 4 x1], .one (L.bool x2), .one (L.bool x3)], m := 1})], .r [(1, {rs := [.agg [L.arr .u64 4 x4], .one (L.bool x5), .one (L.bool x6)], m := 1})], .r [(3, {yes := false}), (6, {yes := false}), (8, {want := false}), (11, {want := false}), (12, {want := false}), (15, {want := false}), (16, {want := false}), (17, {want := false})], .c true, .r []] [] 0 [] (aI (Zaw.snd c1) (aI (Zaw.snd c2) (aI c3 (aI c3 (aI c4 (aI c4 (aI c5 (aI c5 (aI (eB true) (aI (eB true) (aI (eB true) (aI (eB true) (aI (eB true) (aI (eB true) (aI (eB true) (eB true))))))))))))))))
      · refine iteB h8 (fun c6 h9 => ?_) (fun c6 h10 => ?_) <;> clear h8
        · obtain rfl := Zad h9
          exact af fol hE [.r [], .r [(1, {rs := [.agg [L.arr .u64 4 x1], .one (L.bool x2), .one (L.bool x3)], m := 1})], .r [(1, {rs := [.agg [L.arr .u64 4 x4], .one (L.bool x5), .one (L.bool x6)], m := 1})], .r [(3, {yes := false}), (6, {yes := false}), (9, {yes := false}), (11, {want := false}), (12, {want := false}), (15, {want := false}), (16, {want := false}), (17, {want := false})], .c true, .r []] [] 0 [] (aI (Zaw.snd c1) (aI (Zaw.snd c2) (aI c3 (aI c3 (aI c4 (aI c4 (aI c5 (aI c5 (aI c6 (aI c6 (aI c6 (aI (eB true) (aI (eB true) (aI (eB true) (aI (eB true) (eB true))))))))))))))))
        · obtain ⟨x7, c7, h11⟩ := Zan h10; clear h10
          refine iteB h11 (fun c8 h12 => ?_) (fun c8 h13 => ?_) <;> clear h11
          · obtain rfl := Zad h12
            exact af fol hE [.r [], .r [(1, {rs := [.agg [L.arr .u64 4 x1], .one (L.bool x2), .one (L.bool x3)], m := 1})], .r [(1, {rs := [.agg [L.arr .u64 4 x4], .one (L.bool x5), .one (L.bool x6)], m := 1})], .r [(3, {yes := false}), (6, {yes := false}), (9, {yes := false}), (12, {rs := [.one (L.bool x7)], m := 1}), (13, {yes := false}), (15, {want := false}), (16, {want := false}), (17, {want := false})], .c true, .r []] [] 0 [] (aI (Zaw.snd c1) (aI (Zaw.snd c2) (aI c3 (aI c3 (aI c4 (aI c4 (aI c5 (aI c5 (aI c6 (aI c6 (aI (ZbU.snd c7) (aI c6 (aI c8 (aI c8 (aI c8 (aI c8 (eB true)))))))))))))))))
          · obtain ⟨x8, c9, h14⟩ := Zan h13; clear h13
            refine iteB h14 (fun c10 h15 => ?_) (fun c10 h16 => ?_) <;> clear h14
            · obtain rfl := Zad h15
              exact af fol hE [.r [], .r [(1, {rs := [.agg [L.arr .u64 4 x1], .one (L.bool x2), .one (L.bool x3)], m := 1})], .r [(1, {rs := [.agg [L.arr .u64 4 x4], .one (L.bool x5), .one (L.bool x6)], m := 1})], .r [(3, {yes := false}), (6, {yes := false}), (9, {yes := false}), (12, {rs := [.one (L.bool x7)], m := 1}), (13, {yes := false}), (17, {rs := [.one (L.bool x8)], m := 1}), (18, {yes := false})], .c true, .r []] [] 0 [] (aI (Zaw.snd c1) (aI (Zaw.snd c2) (aI c3 (aI c3 (aI c4 (aI c4 (aI c5 (aI c5 (aI c6 (aI c6 (aI (ZbU.snd c7) (aI c6 (aI c8 (aI c8 (aI c8 (aI (ZbI.snd c9) (aI c8 c10)))))))))))))))))
            · obtain rfl := Zad h16
              exact af fol hE [.r [], .r [(1, {rs := [.agg [L.arr .u64 4 x1], .one (L.bool x2), .one (L.bool x3)], m := 1})], .r [(1, {rs := [.agg [L.arr .u64 4 x4], .one (L.bool x5), .one (L.bool x6)], m := 1})], .r [(3, {yes := false}), (6, {yes := false}), (9, {yes := false}), (12, {rs := [.one (L.bool x7)], m := 1}), (13, {yes := false}), (17, {rs := [.one (L.bool x8)], m := 1}), (18, {yes := false})], .c false, .r []] [] 0 [] (aI (Zaw.snd c1) (aI (Zaw.snd c2) (aI c3 (aI c3 (aI c4 (aI c4 (aI c5 (aI c5 (aI c6 (aI c6 (aI (ZbU.snd c7) (aI c6 (aI c8 (aI c8 (aI c8 (aI (ZbI.snd c9) (aI c8 c10)))))))))))))))))
noncomputable def ZbJ.B : Code := Tryz.f86.body.getD .skip
noncomputable def ZbJ.rs (r : Bool) : List CV := [.one (L.bool r)]
noncomputable def ZbJ (N : Nat) (p_0 : Zac) : Option Bool :=
 optE (ZaG N p_0.Limit p_0.Limit) fun (x1, x2) =>
 if x2 = true then
  if (decide (p_0.Interval ≥ 2)) = true then
   if (decide (p_0.Interval ≤ 64)) = true then
    if (decide (p_0.Spacing ≥ 1)) = true then
     if (decide (p_0.Spacing ≤ 10000)) = true then
      if (decide (p_0.Future ≥ 0)) = true then
       some (decide (p_0.Future < 4294967296))
      else
      some false
     else
     some false
    else
    some false
   else
   some false
  else
  some false
 else
 some false
theorem ZbJ.snd {p_0 : Zac} {r : Bool} (h : ZbJ N p_0 = some r) : SndQ Tryz.prog 86 [.agg p_0.ls] (ZbJ.rs r) := fun st =>
 sO ZbJ.B Tryz.func86 fun g0 w0 R hE => by
  unfold ZbJ at h
  obtain ⟨⟨x1, x2⟩, c1, h1⟩ := Zan h; clear h
  refine iteB h1 (fun c2 h2 => ?_) (fun c2 h3 => ?_) <;> clear h1
  · refine iteB h2 (fun c3 h4 => ?_) (fun c3 h5 => ?_) <;> clear h2
    · refine iteB h4 (fun c4 h6 => ?_) (fun c4 h7 => ?_) <;> clear h4
      · refine iteB h6 (fun c5 h8 => ?_) (fun c5 h9 => ?_) <;> clear h6
        · refine iteB h8 (fun c6 h10 => ?_) (fun c6 h11 => ?_) <;> clear h8
          · refine iteB h10 (fun c7 h12 => ?_) (fun c7 h13 => ?_) <;> clear h10
            · obtain rfl := Zad h12
              exact af fol hE [.r [], .r [(4, {rs := [.agg [L.arr .u64 4 x1], .one (L.bool x2)], m := 1})], .r []] [] 0 [] (aI (ZaG.snd c1) (aI c2 (aI c2 (aI c2 (aI c2 (aI c3 (aI c3 (aI c3 (aI c3 (aI c4 (aI c4 (aI c4 (aI c4 (aI c5 (aI c5 (aI c5 (aI c5 (aI c6 (aI c6 (aI c6 (aI c6 (aI c7 (aI c7 (aI c7 c7))))))))))))))))))))))))
            · obtain rfl := Zad h13
              exact af fol hE [.r [], .r [(4, {rs := [.agg [L.arr .u64 4 x1], .one (L.bool x2)], m := 1})], .r [(27, {want := false}), (28, {want := false}), (29, {want := false}), (30, {yes := false})]] [] 0 [] (aI (ZaG.snd c1) (aI c2 (aI c2 (aI c2 (aI c2 (aI c3 (aI c3 (aI c3 (aI c3 (aI c4 (aI c4 (aI c4 (aI c4 (aI c5 (aI c5 (aI c5 (aI c5 (aI c6 (aI c6 (aI c6 (aI c6 (aI c7 (aI c7 (aI c7 c7))))))))))))))))))))))))
          · obtain rfl := Zad h11
            exact af fol hE [.r [], .r [(4, {rs := [.agg [L.arr .u64 4 x1], .one (L.bool x2)], m := 1})], .r [(22, {want := false}), (23, {want := false}), (24, {want := false}), (25, {yes := false}), (27, {want := false}), (28, {want := false}), (29, {want := false}), (30, {yes := false})]] [] 0 [] (aI (ZaG.snd c1) (aI c2 (aI c2 (aI c2 (aI c2 (aI c3 (aI c3 (aI c3 (aI c3 (aI c4 (aI c4 (aI c4 (aI c4 (aI c5 (aI c5 (aI c5 (aI c5 (aI c6 (aI c6 (aI c6 (aI c6 (aI (eB false) (aI (eB false) (aI (eB false) (eB false)))))))))))))))))))))))))
        · obtain rfl := Zad h9
          exact af fol hE [.r [], .r [(4, {rs := [.agg [L.arr .u64 4 x1], .one (L.bool x2)], m := 1})], .r [(17, {want := false}), (18, {want := false}), (19, {want := false}), (20, {yes := false}), (22, {want := false}), (23, {want := false}), (24, {want := false}), (25, {yes := false}), (27, {want := false}), (28, {want := false}), (29, {want := false}), (30, {yes := false})]] [] 0 [] (aI (ZaG.snd c1) (aI c2 (aI c2 (aI c2 (aI c2 (aI c3 (aI c3 (aI c3 (aI c3 (aI c4 (aI c4 (aI c4 (aI c4 (aI c5 (aI c5 (aI c5 (aI c5 (aI (eB false) (aI (eB false) (aI (eB false) (aI (eB false) (aI (eB false) (aI (eB false) (aI (eB false) (eB false)))))))))))))))))))))))))
      · obtain rfl := Zad h7
        exact af fol hE [.r [], .r [(4, {rs := [.agg [L.arr .u64 4 x1], .one (L.bool x2)], m := 1})], .r [(12, {want := false}), (13, {want := false}), (14, {want := false}), (15, {yes := false}), (17, {want := false}), (18, {want := false}), (19, {want := false}), (20, {yes := false}), (22, {want := false}), (23, {want := false}), (24, {want := false}), (25, {yes := false}), (27, {want := false}), (28, {want := false}), (29, {want := false}), (30, {yes := false})]] [] 0 [] (aI (ZaG.snd c1) (aI c2 (aI c2 (aI c2 (aI c2 (aI c3 (aI c3 (aI c3 (aI c3 (aI c4 (aI c4 (aI c4 (aI c4 (aI (eB false) (aI (eB false) (aI (eB false) (aI (eB false) (aI (eB false) (aI (eB false) (aI (eB false) (aI (eB false) (aI (eB false) (aI (eB false) (aI (eB false) (eB false)))))))))))))))))))))))))
    · obtain rfl := Zad h5
      exact af fol hE [.r [], .r [(4, {rs := [.agg [L.arr .u64 4 x1], .one (L.bool x2)], m := 1})], .r [(7, {want := false}), (8, {want := false}), (9, {want := false}), (10, {yes := false}), (12, {want := false}), (13, {want := false}), (14, {want := false}), (15, {yes := false}), (17, {want := false}), (18, {want := false}), (19, {want := false}), (20, {yes := false}), (22, {want := false}), (23, {want := false}), (24, {want := false}), (25, {yes := false}), (27, {want := false}), (28, {want := false}), (29, {want := false}), (30, {yes := false})]] [] 0 [] (aI (ZaG.snd c1) (aI c2 (aI c2 (aI c2 (aI c2 (aI c3 (aI c3 (aI c3 (aI c3 (aI (eB false) (aI (eB false) (aI (eB false) (aI (eB false) (aI (eB false) (aI (eB false) (aI (eB false) (aI (eB false) (aI (eB false) (aI (eB false) (aI (eB false) (aI (eB false) (aI (eB false) (aI (eB false) (aI (eB false) (eB false)))))))))))))))))))))))))
  · obtain rfl := Zad h3
    exact af fol hE [.r [], .r [(4, {rs := [.agg [L.arr .u64 4 x1], .one (L.bool x2)], m := 1})], .r [(2, {want := false}), (3, {want := false}), (4, {want := false}), (5, {yes := false}), (7, {want := false}), (8, {want := false}), (9, {want := false}), (10, {yes := false}), (12, {want := false}), (13, {want := false}), (14, {want := false}), (15, {yes := false}), (17, {want := false}), (18, {want := false}), (19, {want := false}), (20, {yes := false}), (22, {want := false}), (23, {want := false}), (24, {want := false}), (25, {yes := false}), (27, {want := false}), (28, {want := false}), (29, {want := false}), (30, {yes := false})]] [] 0 [] (aI (ZaG.snd c1) (aI c2 (aI c2 (aI c2 (aI c2 (aI (eB false) (aI (eB false) (aI (eB false) (aI (eB false) (aI (eB false) (aI (eB false) (aI (eB false) (aI (eB false) (aI (eB false) (aI (eB false) (aI (eB false) (aI (eB false) (aI (eB false) (aI (eB false) (aI (eB false) (aI (eB false) (aI (eB false) (aI (eB false) (aI (eB false) (eB false)))))))))))))))))))))))))
noncomputable def Zbj.B : Code := Tryz.f52.body.getD .skip
noncomputable def Zbj.rs (r : Bool) : List CV := [.one (L.bool r)]
noncomputable def Zbj.p2 (N : Nat) (p_0 : Zac) (c2_ : Int → Option Bool) : Int → Option Bool := fun v6 =>
 if (decide (v6 < (len p_0.Checks))) = true then
  chk (0 ≤ v6) <|
  getE (p_0.Checks[Int.toNat v6]?) Zcx fun x7 =>
  if (decide (x7.Height < 1)) = true then
   some false
  else
  if (decide (v6 > 0)) = true then
   chk (0 ≤ (w64 (v6 - 1))) <|
   chk ((w64 (v6 - 1)) < (len p_0.Checks)) <|
   getE (p_0.Checks[Int.toNat (w64 (v6 - 1))]?) Zcx fun x8 =>
   if (decide (x7.Height ≤ x8.Height)) = true then
    some false
   else
   c2_ (w64 (v6 + 1))
  else
  c2_ (w64 (v6 + 1))
 else
 some true
noncomputable def Zbj.p1 (N : Nat) (p_0 : Zac) (c1_ : Int → Option Bool) : Int → Option Bool := fun v3 =>
 if (decide (v3 < (len p_0.Gates))) = true then
  chk (0 ≤ v3) <|
  getE (p_0.Gates[Int.toNat v3]?) ZcF fun x4 =>
  if (decide (x4.Height < 0)) = true then
   some false
  else
  if (decide (v3 > 0)) = true then
   chk (0 ≤ (w64 (v3 - 1))) <|
   chk ((w64 (v3 - 1)) < (len p_0.Gates)) <|
   getE (p_0.Gates[Int.toNat (w64 (v3 - 1))]?) ZcF fun x5 =>
   if (decide (x4.Height ≤ x5.Height)) = true then
    some false
   else
   c1_ (w64 (v3 + 1))
  else
  c1_ (w64 (v3 + 1))
 else
 loopN (Zbj.p2 N p_0) N 0
noncomputable def Zbj (N : Nat) (p_0 : Zac) : Option Bool :=
 optE (ZbJ N p_0) fun x1 =>
 if (!x1) = true then
  some false
 else
 optE (ZaV N p_0.Genesis) fun x2 =>
 if (!x2) = true then
  some false
 else
 loopN (Zbj.p1 N p_0) N 0
noncomputable def Zbj.p2.S (p_0 : Zac) (v6 : Int) (st : LL) : S := mkS 72 [(1, .one (.adr (.site 1) 0)), (45, .one (.l (L.sl 33 p_0.Checks))), (46, .one (.l (L.int .i64 (len p_0.Checks)))), (47, .one (.l (L.int .i64 v6)))] [(1, .cells p_0.ls)] st
noncomputable def Zbj.p1.S (p_0 : Zac) (v3 : Int) (st : LL) : S := mkS 72 [(1, .one (.adr (.site 1) 0)), (17, .one (.l (L.sl 2 p_0.Gates))), (18, .one (.l (L.int .i64 (len p_0.Gates)))), (19, .one (.l (L.int .i64 v3)))] [(1, .cells p_0.ls)] st
theorem Zbj.p2_ok (p_0 : Zac) (v6 : Int) (st : LL) {r : Bool} {c2_ : Int → Option Bool} {J2 : Act → World → Prop} (hE : En Tryz.f52 g0 w0 (Zbj.rs r) st R) (hc2 : ∀ (v6 : Int), c2_ v6 = some r → At g0 w0 (Zbj.p2.S p_0 v6 st) J2) (h : Zbj.p2 N p_0 c2_ v6 = some r) : At g0 w0 (Zbj.p2.S p_0 v6 st) (XK Tryz.prog R (.c (csub Zbj.B [1, 1, 1, 0, 1, 0, 0]) :: .h J2 :: [.b 2, .c (csub Zbj.B [1, 1, 1, 1])])) := by
 unfold Zbj.p2 at h
 refine iteB h (fun c14 h1 => ?_) (fun c14 h2 => ?_) <;> clear h
 · obtain ⟨c15, h3⟩ := ZaM h1; clear h1
   obtain ⟨x7, c16, h4⟩ := ZcK h3; clear h3
   refine iteB h4 (fun c17 h5 => ?_) (fun c17 h6 => ?_) <;> clear h4
   · obtain rfl := Zad h5
     exact afd fol hE [.r [], .c true, .r [(2, {oe := x7.ls})], .d {ds := [(4, {want := false}), (5, {want := false}), (6, {want := false}), (17, {want := false})], hv := 0, Hs := []}, .c true, .r []] [] 0 [] (aI c14 (aI c15 (aI (oD c14) (aI c16 (aI c17 (aI c17 (aI c17 (aI c17 (aI c17 (eB true))))))))))
   · refine iteB h6 (fun c18 h7 => ?_) (fun c18 h8 => ?_) <;> clear h6
     · obtain ⟨c19, c20, h9⟩ := ck2 h7; clear h7
       obtain ⟨x8, c21, h10⟩ := ZcK h9; clear h9
       refine iteB h10 (fun c22 h11 => ?_) (fun c22 h12 => ?_) <;> clear h10
       · obtain rfl := Zad h11
         exact afd fol hE [.r [], .c true, .r [(2, {oe := x7.ls})], .d {ds := [(15, {oe := x8.ls}), (18, {yes := false})], hv := 0, Hs := []}, .c true, .r []] [] 0 [] (aI c14 (aI c15 (aI (oD c14) (aI c16 (aI c17 (aI c17 (aI c17 (aI c18 (aI c18 (aI c18 (aI c18 (aI c18 (aI c18 (aI c18 (aI c19 (aI c20 (aI c18 (aI c18 (aI c21 (aI c18 (aI c17 (aI c18 (aI c17 c22)))))))))))))))))))))))
       · exact and_ fol [.r [], .c true, .r [(2, {oe := x7.ls})], .d {ds := [(15, {oe := x8.ls}), (18, {yes := false})], hv := 0, Hs := []}, .c false, .r []] [1, 45, 46, 47] [1] (aI c14 (aI c15 (aI (oD c14) (aI c16 (aI c17 (aI c17 (aI c17 (aI c18 (aI c18 (aI c18 (aI c18 (aI c18 (aI c18 (aI c18 (aI c19 (aI c20 (aI c18 (aI c18 (aI c21 (aI c18 (aI c17 (aI c18 (aI c17 c22))))))))))))))))))))))) (hc2 (w64 (v6 + 1)) h12)
     · exact and_ fol [.r [], .c true, .r [(2, {oe := x7.ls})], .d {ds := [(7, {want := false}), (8, {want := false}), (9, {want := false}), (10, {want := false}), (11, {want := false}), (12, {want := false}), (13, {want := false}), (14, {want := false}), (15, {want := false}), (16, {want := false}), (17, {yes := false}), (18, {yes := false})], hv := 0, Hs := []}, .c false, .r []] [1, 45, 46, 47] [1] (aI c14 (aI c15 (aI (oD c14) (aI c16 (aI c17 (aI c17 (aI c17 (aI c18 (aI c18 (aI c18 (aI c18 (aI c18 (aI c18 (aI c18 (aI c18 (aI c18 (aI c18 (aI c17 (aI c18 (aI c17 (eB false))))))))))))))))))))) (hc2 (w64 (v6 + 1)) h8)
 · obtain rfl := Zad h2
   exact af fol hE [.r [], .c false, .r []] [] 0 [] c14
theorem Zbj.p1_ok (p_0 : Zac) (v3 : Int) (st : LL) {r : Bool} {c1_ : Int → Option Bool} {J1 : Act → World → Prop} (hE : En Tryz.f52 g0 w0 (Zbj.rs r) st R) (hc1 : ∀ (v3 : Int), c1_ v3 = some r → At g0 w0 (Zbj.p1.S p_0 v3 st) J1) (h : Zbj.p1 N p_0 c1_ v3 = some r) : At g0 w0 (Zbj.p1.S p_0 v3 st) (XK Tryz.prog R (.c (csub Zbj.B [1, 1, 0, 1, 0, 0]) :: .h J1 :: [.b 0, .c (csub Zbj.B [1, 1, 1])])) := by
 unfold Zbj.p1 at h
 refine iteB h (fun c5 h13 => ?_) (fun c5 h14 => ?_) <;> clear h
 · obtain ⟨c6, h15⟩ := ZaM h13; clear h13
   obtain ⟨x4, c7, h16⟩ := ZcP h15; clear h15
   refine iteB h16 (fun c8 h17 => ?_) (fun c8 h18 => ?_) <;> clear h16
   · obtain rfl := Zad h17
     exact afd fol hE [.r [], .c true, .r [(2, {oe := x4.ls})], .d {ds := [(4, {want := false}), (5, {want := false}), (6, {want := false}), (17, {want := false})], hv := 0, Hs := []}, .c true, .r []] [] 0 [] (aI c5 (aI c6 (aI (oD c5) (aI c7 (aI c8 (aI c8 (aI c8 (aI c8 (aI c8 (eB true))))))))))
   · refine iteB h18 (fun c9 h19 => ?_) (fun c9 h20 => ?_) <;> clear h18
     · obtain ⟨c10, c11, h21⟩ := ck2 h19; clear h19
       obtain ⟨x5, c12, h22⟩ := ZcP h21; clear h21
       refine iteB h22 (fun c13 h23 => ?_) (fun c13 h24 => ?_) <;> clear h22
       · obtain rfl := Zad h23
         exact afd fol hE [.r [], .c true, .r [(2, {oe := x4.ls})], .d {ds := [(15, {oe := x5.ls}), (18, {yes := false})], hv := 0, Hs := []}, .c true, .r []] [] 0 [] (aI c5 (aI c6 (aI (oD c5) (aI c7 (aI c8 (aI c8 (aI c8 (aI c9 (aI c9 (aI c9 (aI c9 (aI c9 (aI c9 (aI c9 (aI c10 (aI c11 (aI c9 (aI c9 (aI c12 (aI c9 (aI c8 (aI c9 (aI c8 c13)))))))))))))))))))))))
       · exact and_ fol [.r [], .c true, .r [(2, {oe := x4.ls})], .d {ds := [(15, {oe := x5.ls}), (18, {yes := false})], hv := 0, Hs := []}, .c false, .r []] [1, 17, 18, 19] [1] (aI c5 (aI c6 (aI (oD c5) (aI c7 (aI c8 (aI c8 (aI c8 (aI c9 (aI c9 (aI c9 (aI c9 (aI c9 (aI c9 (aI c9 (aI c10 (aI c11 (aI c9 (aI c9 (aI c12 (aI c9 (aI c8 (aI c9 (aI c8 c13))))))))))))))))))))))) (hc1 (w64 (v3 + 1)) h24)
     · exact and_ fol [.r [], .c true, .r [(2, {oe := x4.ls})], .d {ds := [(7, {want := false}), (8, {want := false}), (9, {want := false}), (10, {want := false}), (11, {want := false}), (12, {want := false}), (13, {want := false}), (14, {want := false}), (15, {want := false}), (16, {want := false}), (17, {yes := false}), (18, {yes := false})], hv := 0, Hs := []}, .c false, .r []] [1, 17, 18, 19] [1] (aI c5 (aI c6 (aI (oD c5) (aI c7 (aI c8 (aI c8 (aI c8 (aI c9 (aI c9 (aI c9 (aI c9 (aI c9 (aI c9 (aI c9 (aI c9 (aI c9 (aI c9 (aI c8 (aI c9 (aI c8 (eB false))))))))))))))))))))) (hc1 (w64 (v3 + 1)) h20)
 · exact aq fol [.r [], .c false, .r []] [1, 45, 46, 47] [1] c5 (At.loop N (At.loopN (fun y : Int => Zbj.p2.S p_0 y st) (fun c J hc y h => Zbj.p2_ok p_0 y st hE (fun v6 hh => hc v6 hh) h) N 0 h14))
theorem Zbj.snd {p_0 : Zac} {r : Bool} (h : Zbj N p_0 = some r) : SndQ Tryz.prog 52 [.agg p_0.ls] (Zbj.rs r) := fun st =>
 sO Zbj.B Tryz.func52 fun g0 w0 R hE => by
  unfold Zbj at h
  obtain ⟨x1, c1, h25⟩ := Zan h; clear h
  refine iteB h25 (fun c2 h26 => ?_) (fun c2 h27 => ?_) <;> clear h25
  · obtain rfl := Zad h26
    exact af fol hE [.r [], .r [(1, {rs := [.one (L.bool x1)], m := 1}), (4, {want := false}), (5, {want := false}), (6, {want := false}), (7, {want := false})], .c true, .r []] [] 0 [] (aI (ZbJ.snd c1) (aI (not_false (Zbv c2)) (aI (not_false (Zbv c2)) (aI (not_false (Zbv c2)) (aI (not_false (Zbv c2)) (aI (not_false (Zbv c2)) (eB true)))))))
  · obtain ⟨x2, c3, h28⟩ := Zan h27; clear h27
    refine iteB h28 (fun c4 h29 => ?_) (fun c4 h30 => ?_) <;> clear h28
    · obtain rfl := Zad h29
      exact af fol hE [.r [], .r [(1, {rs := [.one (L.bool x1)], m := 1}), (6, {rs := [.one (L.bool x2)], m := 1}), (8, {yes := false})], .c true, .r []] [] 0 [] (aI (ZbJ.snd c1) (aI (not_true (ZaA c2)) (aI (not_true (ZaA c2)) (aI (not_true (ZaA c2)) (aI (ZaV.snd c3) (aI (not_true (ZaA c2)) (aI (not_true (ZaA c2)) c4)))))))
    · exact aq fol [.r [], .r [(1, {rs := [.one (L.bool x1)], m := 1}), (6, {rs := [.one (L.bool x2)], m := 1}), (8, {yes := false})], .c false, .r []] [1, 17, 18, 19] [1] (aI (ZbJ.snd c1) (aI (not_true (ZaA c2)) (aI (not_true (ZaA c2)) (aI (not_true (ZaA c2)) (aI (ZaV.snd c3) (aI (not_true (ZaA c2)) (aI (not_true (ZaA c2)) c4))))))) (At.loop N (At.loopN (fun y : Int => Zbj.p1.S p_0 y st) (fun c J hc y h => Zbj.p1_ok p_0 y st hE (fun v3 hh => hc v3 hh) h) N 0 h30))
noncomputable def Zcm.B : Code := Tryz.f109.body.getD .skip
noncomputable def Zcm.rs (r : Int) : List CV := [.one (L.int .i64 r)]
noncomputable def Zcm (N : Nat) (p_0 : Zac) (from_1 to_2 : Int) : Option Int :=
 some (if (w64 ((w64 (p_0.Interval * p_0.Spacing)) * 4)) < (if (w64 (Int.tdiv (w64 (p_0.Interval * p_0.Spacing)) 4)) > (w64 (to_2 - from_1)) then (w64 (Int.tdiv (w64 (p_0.Interval * p_0.Spacing)) 4)) else (w64 (to_2 - from_1))) then (w64 ((w64 (p_0.Interval * p_0.Spacing)) * 4)) else (if (w64 (Int.tdiv (w64 (p_0.Interval * p_0.Spacing)) 4)) > (w64 (to_2 - from_1)) then (w64 (Int.tdiv (w64 (p_0.Interval * p_0.Spacing)) 4)) else (w64 (to_2 - from_1))))
theorem Zcm.snd {p_0 : Zac} {from_1 to_2 : Int} {r : Int} (h : Zcm N p_0 from_1 to_2 = some r) : SndQ Tryz.prog 109 [.agg p_0.ls, .one (L.int .i64 from_1), .one (L.int .i64 to_2)] (Zcm.rs r) := fun st =>
 sO Zcm.B Tryz.func109 fun g0 w0 R hE => by
  unfold Zcm at h
  obtain rfl := Zad h
  exact af fol hE [.r [], .r [], .r []] [] 0 [] (neI 4)
noncomputable def Zaq.B : Code := Tryz.f153.body.getD .skip
noncomputable def Zaq.rs (r : Int) : List CV := [.one (L.int .i64 r)]
noncomputable def Zaq.p3 (N : Nat) (x_5 n_6 : Int) : Option Int :=
 chk (0 ≤ (v8 (x_5))) <|
 chk ((v8 (x_5)) < ((ByteArray.size (ByteArray.mk #[0, 1, 2, 2, 3, 3, 3, 3, 4, 4, 4, 4, 4, 4, 4, 4, 5, 5, 5, 5, 5, 5, 5, 5, 5, 5, 5, 5, 5, 5, 5, 5, 6, 6, 6, 6, 6, 6, 6, 6, 6, 6, 6, 6, 6, 6, 6, 6, 6, 6, 6, 6, 6, 6, 6, 6, 6, 6, 6, 6, 6, 6, 6, 6, 7, 7, 7, 7, 7, 7, 7, 7, 7, 7, 7, 7, 7, 7, 7, 7, 7, 7, 7, 7, 7, 7, 7, 7, 7, 7, 7, 7, 7, 7, 7, 7, 7, 7, 7, 7, 7, 7, 7, 7, 7, 7, 7, 7, 7, 7, 7, 7, 7, 7, 7, 7, 7, 7, 7, 7, 7, 7, 7, 7, 7, 7, 7, 7, 8, 8, 8, 8, 8, 8, 8, 8, 8, 8, 8, 8, 8, 8, 8, 8, 8, 8, 8, 8, 8, 8, 8, 8, 8, 8, 8, 8, 8, 8, 8, 8, 8, 8, 8, 8, 8, 8, 8, 8, 8, 8, 8, 8, 8, 8, 8, 8, 8, 8, 8, 8, 8, 8, 8, 8, 8, 8, 8, 8, 8, 8, 8, 8, 8, 8, 8, 8, 8, 8, 8, 8, 8, 8, 8, 8, 8, 8, 8, 8, 8, 8, 8, 8, 8, 8, 8, 8, 8, 8, 8, 8, 8, 8, 8, 8, 8, 8, 8, 8, 8, 8, 8, 8, 8, 8, 8, 8, 8, 8, 8, 8, 8, 8, 8, 8, 8, 8, 8, 8, 8, 8, 8, 8, 8, 8, 8, 8]) : Nat) : Int)) <|
 some (w64 (n_6 + (w64 (((UInt8.toNat (List.getD (Array.toList (ByteArray.data (ByteArray.mk #[0, 1, 2, 2, 3, 3, 3, 3, 4, 4, 4, 4, 4, 4, 4, 4, 5, 5, 5, 5, 5, 5, 5, 5, 5, 5, 5, 5, 5, 5, 5, 5, 6, 6, 6, 6, 6, 6, 6, 6, 6, 6, 6, 6, 6, 6, 6, 6, 6, 6, 6, 6, 6, 6, 6, 6, 6, 6, 6, 6, 6, 6, 6, 6, 7, 7, 7, 7, 7, 7, 7, 7, 7, 7, 7, 7, 7, 7, 7, 7, 7, 7, 7, 7, 7, 7, 7, 7, 7, 7, 7, 7, 7, 7, 7, 7, 7, 7, 7, 7, 7, 7, 7, 7, 7, 7, 7, 7, 7, 7, 7, 7, 7, 7, 7, 7, 7, 7, 7, 7, 7, 7, 7, 7, 7, 7, 7, 7, 8, 8, 8, 8, 8, 8, 8, 8, 8, 8, 8, 8, 8, 8, 8, 8, 8, 8, 8, 8, 8, 8, 8, 8, 8, 8, 8, 8, 8, 8, 8, 8, 8, 8, 8, 8, 8, 8, 8, 8, 8, 8, 8, 8, 8, 8, 8, 8, 8, 8, 8, 8, 8, 8, 8, 8, 8, 8, 8, 8, 8, 8, 8, 8, 8, 8, 8, 8, 8, 8, 8, 8, 8, 8, 8, 8, 8, 8, 8, 8, 8, 8, 8, 8, 8, 8, 8, 8, 8, 8, 8, 8, 8, 8, 8, 8, 8, 8, 8, 8, 8, 8, 8, 8, 8, 8, 8, 8, 8, 8, 8, 8, 8, 8, 8, 8, 8, 8, 8, 8, 8, 8, 8, 8, 8, 8, 8, 8]))) (Int.toNat (v8 (x_5))) 0) : Nat) : Int)))))
noncomputable def Zaq.p2 (N : Nat) (x_3 n_4 : Int) : Option Int :=
 if (decide (x_3 ≥ 256)) = true then
  Zaq.p3 N (shrOf .u64 x_3 8) (w64 (n_4 + 8))
 else
 Zaq.p3 N x_3 n_4
noncomputable def Zaq.p1 (N : Nat) (x_1 n_2 : Int) : Option Int :=
 if (decide (x_1 ≥ 65536)) = true then
  Zaq.p2 N (shrOf .u64 x_1 16) (w64 (n_2 + 16))
 else
 Zaq.p2 N x_1 n_2
noncomputable def Zaq (N : Nat) (x_0 : Int) : Option Int :=
 if (decide (x_0 ≥ 4294967296)) = true then
  Zaq.p1 N (shrOf .u64 x_0 32) 32
 else
 Zaq.p1 N x_0 0
noncomputable def Zaq.p3.S (x_5 n_6 : Int) (st : LL) : S := mkS 25 [(0, .one (.l (L.int .u64 x_5))), (2, .one (.l (L.int .i64 n_6)))] [] st
noncomputable def Zaq.p2.S (x_3 n_4 : Int) (st : LL) : S := mkS 25 [(0, .one (.l (L.int .u64 x_3))), (2, .one (.l (L.int .i64 n_4)))] [] st
noncomputable def Zaq.p1.S (x_1 n_2 : Int) (st : LL) : S := mkS 25 [(0, .one (.l (L.int .u64 x_1))), (2, .one (.l (L.int .i64 n_2)))] [] st
theorem Zaq.p3_ok (x_5 n_6 : Int) (st : LL) {r : Int} (hE : En Tryz.f153 g0 w0 (Zaq.rs r) st R) (h : Zaq.p3 N x_5 n_6 = some r) : At g0 w0 (Zaq.p3.S x_5 n_6 st) (XK Tryz.prog R [.c (csub Zaq.B [1, 1, 1, 1])]) := by
 unfold Zaq.p3 at h
 obtain ⟨c4, c5, h1⟩ := ck2 h; clear h
 obtain rfl := Zad h1
 exact af fol hE [.r []] [] 0 [] (aI c4 c5)
theorem Zaq.p2_ok (x_3 n_4 : Int) (st : LL) {r : Int} (hE : En Tryz.f153 g0 w0 (Zaq.rs r) st R) (h : Zaq.p2 N x_3 n_4 = some r) : At g0 w0 (Zaq.p2.S x_3 n_4 st) (XK Tryz.prog R [.c (csub Zaq.B [1, 1, 1])]) := by
 unfold Zaq.p2 at h
 refine iteB h (fun c3 h2 => ?_) (fun c3 h3 => ?_) <;> clear h
 · exact aq fol [.r [], .c true, .r [], .r [], .s 1] [0, 2] [] (aI c3 (leI 0 8)) (Zaq.p3_ok (shrOf .u64 x_3 8) (w64 (n_4 + 8)) st hE h2)
 · exact aq fol [.r [], .c false, .s 1] [0, 2] [] c3 (Zaq.p3_ok x_3 n_4 st hE h3)
theorem Zaq.p1_ok (x_1 n_2 : Int) (st : LL) {r : Int} (hE : En Tryz.f153 g0 w0 (Zaq.rs r) st R) (h : Zaq.p1 N x_1 n_2 = some r) : At g0 w0 (Zaq.p1.S x_1 n_2 st) (XK Tryz.prog R [.c (csub Zaq.B [1, 1])]) := by
 unfold Zaq.p1 at h
 refine iteB h (fun c2 h4 => ?_) (fun c2 h5 => ?_) <;> clear h
 · exact aq fol [.r [], .c true, .r [], .r [], .s 1] [0, 2] [] (aI c2 (leI 0 16)) (Zaq.p2_ok (shrOf .u64 x_1 16) (w64 (n_2 + 16)) st hE h4)
 · exact aq fol [.r [], .c false, .s 1] [0, 2] [] c2 (Zaq.p2_ok x_1 n_2 st hE h5)
theorem Zaq.snd {x_0 : Int} {r : Int} (h : Zaq N x_0 = some r) : SndQ Tryz.prog 153 [.one (L.int .u64 x_0)] (Zaq.rs r) := fun st =>
 sO Zaq.B Tryz.func153 fun g0 w0 R hE => by
  unfold Zaq at h
  refine iteB h (fun c1 h6 => ?_) (fun c1 h7 => ?_) <;> clear h
  · exact aq fol [.r [], .r [], .c true, .r [], .r [], .s 1] [0, 2] [] (aI c1 (leI 0 32)) (Zaq.p1_ok (shrOf .u64 x_0 32) 32 st hE h6)
  · exact aq fol [.r [], .r [], .c false, .s 1] [0, 2] [] c1 (Zaq.p1_ok x_0 0 st hE h7)
noncomputable def Zbb.B : Code := Tryz.f152.body.getD .skip
noncomputable def Zbb.rs (r : Int) : List CV := [.one (L.int .i64 r)]
noncomputable def Zbb (N : Nat) (x_0 : Int) : Option Int :=
 optE (Zaq N x_0) fun x1 =>
 some (w64 (64 - x1))
theorem Zbb.snd {x_0 : Int} {r : Int} (h : Zbb N x_0 = some r) : SndQ Tryz.prog 152 [.one (L.int .u64 x_0)] (Zbb.rs r) := fun st =>
 sO Zbb.B Tryz.func152 fun g0 w0 R hE => by
  unfold Zbb at h
  obtain ⟨x1, c1, h1⟩ := Zan h; clear h
  obtain rfl := Zad h1
  exact af fol hE [.r [], .r [(1, {rs := [.one (L.int .i64 x1)], m := 1})]] [] 0 [] (Zaq.snd c1)
noncomputable def Zab.B : Code := Tryz.f135.body.getD .skip
noncomputable def Zab.rs (r : Int × Int) : List CV := [.one (L.int .u64 r.1), .one (L.int .u64 r.2)]
noncomputable def Zab.p6 (N : Nat) (y_2 x1 lo_1 q1_4 hi_0 q0_7 : Int) : Option (Int × Int) :=
 chk (0 ≤ (v64 (x1))) <|
 some (v64 ((v64 (q1_4 * 4294967296)) + q0_7), shrOf .u64 (v64 ((v64 ((v64 ((v64 ((v64 ((v64 ((bitsOf .or .u64 (shlOf .u64 hi_0 (v64 (x1))) (shrOf .u64 lo_1 (v64 (64 - (v64 (x1)))))) * 4294967296)) + (shrOf .u64 (shlOf .u64 lo_1 (v64 (x1))) 32))) - (v64 (q1_4 * (shlOf .u64 y_2 (v64 (x1))))))) * 4294967296)) + (bitsOf .and .u64 (shlOf .u64 lo_1 (v64 (x1))) 4294967295))) - (v64 (q0_7 * (shlOf .u64 y_2 (v64 (x1))))))) (v64 (x1)))
noncomputable def Zab.p5 (N : Nat) (c4_ : (Int × Int) → Option (Int × Int)) (y_2 x1 lo_1 q1_4 rhat_5 hi_0 q0_6 : Int) : Option (Int × Int) :=
 if (decide ((v64 (rhat_5 + (shrOf .u64 (shlOf .u64 y_2 (v64 (x1))) 32))) ≥ 4294967296)) = true then
  Zab.p6 N y_2 x1 lo_1 q1_4 hi_0 (v64 (q0_6 - 1))
 else
 c4_ (v64 (rhat_5 + (shrOf .u64 (shlOf .u64 y_2 (v64 (x1))) 32)), v64 (q0_6 - 1))
noncomputable def Zab.p4 (N : Nat) (y_2 x1 lo_1 q1_4 hi_0 : Int) (c4_ : (Int × Int) → Option (Int × Int)) : (Int × Int) → Option (Int × Int) := fun (rhat_5, q0_6) =>
 if (decide (q0_6 ≥ 4294967296)) = true then
  Zab.p5 N c4_ y_2 x1 lo_1 q1_4 rhat_5 hi_0 q0_6
 else
 if (decide ((v64 (q0_6 * (bitsOf .and .u64 (shlOf .u64 y_2 (v64 (x1))) 4294967295))) > (v64 ((v64 (4294967296 * rhat_5)) + (bitsOf .and .u64 (shlOf .u64 lo_1 (v64 (x1))) 4294967295))))) = true then
  Zab.p5 N c4_ y_2 x1 lo_1 q1_4 rhat_5 hi_0 q0_6
 else
 Zab.p6 N y_2 x1 lo_1 q1_4 hi_0 q0_6
noncomputable def Zab.p3 (N : Nat) (y_2 x1 hi_0 lo_1 q1_4 : Int) : Option (Int × Int) :=
 chk ((shrOf .u64 (shlOf .u64 y_2 (v64 (x1))) 32) ≠ 0) <|
 loopN (Zab.p4 N y_2 x1 lo_1 q1_4 hi_0) N (v64 ((v64 ((v64 ((v64 ((bitsOf .or .u64 (shlOf .u64 hi_0 (v64 (x1))) (shrOf .u64 lo_1 (v64 (64 - (v64 (x1)))))) * 4294967296)) + (shrOf .u64 (shlOf .u64 lo_1 (v64 (x1))) 32))) - (v64 (q1_4 * (shlOf .u64 y_2 (v64 (x1))))))) - (v64 ((v64 (Int.tdiv (v64 ((v64 ((v64 ((bitsOf .or .u64 (shlOf .u64 hi_0 (v64 (x1))) (shrOf .u64 lo_1 (v64 (64 - (v64 (x1)))))) * 4294967296)) + (shrOf .u64 (shlOf .u64 lo_1 (v64 (x1))) 32))) - (v64 (q1_4 * (shlOf .u64 y_2 (v64 (x1))))))) (shrOf .u64 (shlOf .u64 y_2 (v64 (x1))) 32))) * (shrOf .u64 (shlOf .u64 y_2 (v64 (x1))) 32)))), v64 (Int.tdiv (v64 ((v64 ((v64 ((bitsOf .or .u64 (shlOf .u64 hi_0 (v64 (x1))) (shrOf .u64 lo_1 (v64 (64 - (v64 (x1)))))) * 4294967296)) + (shrOf .u64 (shlOf .u64 lo_1 (v64 (x1))) 32))) - (v64 (q1_4 * (shlOf .u64 y_2 (v64 (x1))))))) (shrOf .u64 (shlOf .u64 y_2 (v64 (x1))) 32)))
noncomputable def Zab.p2 (N : Nat) (c1_ : (Int × Int) → Option (Int × Int)) (y_2 x1 hi_0 lo_1 q1_2 rhat_3 : Int) : Option (Int × Int) :=
 if (decide ((v64 (rhat_3 + (shrOf .u64 (shlOf .u64 y_2 (v64 (x1))) 32))) ≥ 4294967296)) = true then
  Zab.p3 N y_2 x1 hi_0 lo_1 (v64 (q1_2 - 1))
 else
 c1_ (v64 (q1_2 - 1), v64 (rhat_3 + (shrOf .u64 (shlOf .u64 y_2 (v64 (x1))) 32)))
noncomputable def Zab.p1 (N : Nat) (y_2 x1 hi_0 lo_1 : Int) (c1_ : (Int × Int) → Option (Int × Int)) : (Int × Int) → Option (Int × Int) := fun (q1_2, rhat_3) =>
 if (decide (q1_2 ≥ 4294967296)) = true then
  Zab.p2 N c1_ y_2 x1 hi_0 lo_1 q1_2 rhat_3
 else
 if (decide ((v64 (q1_2 * (bitsOf .and .u64 (shlOf .u64 y_2 (v64 (x1))) 4294967295))) > (v64 ((v64 (4294967296 * rhat_3)) + (shrOf .u64 (shlOf .u64 lo_1 (v64 (x1))) 32))))) = true then
  Zab.p2 N c1_ y_2 x1 hi_0 lo_1 q1_2 rhat_3
 else
 Zab.p3 N y_2 x1 hi_0 lo_1 q1_2
noncomputable def Zab (N : Nat) (hi_0 lo_1 y_2 : Int) : Option (Int × Int) :=
 if (y_2 == 0) = true then
  none
 else
 if (decide (y_2 ≤ hi_0)) = true then
  none
 else
 if (hi_0 == 0) = true then
  chk (y_2 ≠ 0) <|
  some (v64 (Int.tdiv lo_1 y_2), Int.tmod lo_1 y_2)
 else
 optE (Zbb N y_2) fun x1 =>
 chk (0 ≤ (v64 (x1))) <|
 chk (0 ≤ (v64 (64 - (v64 (x1))))) <|
 chk ((shrOf .u64 (shlOf .u64 y_2 (v64 (x1))) 32) ≠ 0) <|
 loopN (Zab.p1 N y_2 x1 hi_0 lo_1) N (v64 (Int.tdiv (bitsOf .or .u64 (shlOf .u64 hi_0 (v64 (x1))) (shrOf .u64 lo_1 (v64 (64 - (v64 (x1)))))) (shrOf .u64 (shlOf .u64 y_2 (v64 (x1))) 32)), v64 ((bitsOf .or .u64 (shlOf .u64 hi_0 (v64 (x1))) (shrOf .u64 lo_1 (v64 (64 - (v64 (x1)))))) - (v64 ((v64 (Int.tdiv (bitsOf .or .u64 (shlOf .u64 hi_0 (v64 (x1))) (shrOf .u64 lo_1 (v64 (64 - (v64 (x1)))))) (shrOf .u64 (shlOf .u64 y_2 (v64 (x1))) 32))) * (shrOf .u64 (shlOf .u64 y_2 (v64 (x1))) 32)))))
noncomputable def Zab.p6.S (y_2 x1 lo_1 q1_4 hi_0 q0_7 : Int) (st : LL) : S := mkS 135 [(2, .one (.l (L.int .u64 (shlOf .u64 y_2 (v64 (x1)))))), (8, .one (.l (L.int .u64 (v64 (x1))))), (14, .one (.l (L.int .u64 (bitsOf .and .u64 (shlOf .u64 lo_1 (v64 (x1))) 4294967295)))), (15, .one (.l (L.int .u64 q1_4))), (17, .one (.l (L.int .u64 (v64 ((v64 ((v64 ((bitsOf .or .u64 (shlOf .u64 hi_0 (v64 (x1))) (shrOf .u64 lo_1 (v64 (64 - (v64 (x1)))))) * 4294967296)) + (shrOf .u64 (shlOf .u64 lo_1 (v64 (x1))) 32))) - (v64 (q1_4 * (shlOf .u64 y_2 (v64 (x1)))))))))), (18, .one (.l (L.int .u64 q0_7)))] [] st
noncomputable def Zab.p5.S (y_2 x1 lo_1 q1_4 rhat_5 hi_0 q0_6 : Int) (st : LL) : S := mkS 135 [(2, .one (.l (L.int .u64 (shlOf .u64 y_2 (v64 (x1)))))), (8, .one (.l (L.int .u64 (v64 (x1))))), (9, .one (.l (L.int .u64 (shrOf .u64 (shlOf .u64 y_2 (v64 (x1))) 32)))), (10, .one (.l (L.int .u64 (bitsOf .and .u64 (shlOf .u64 y_2 (v64 (x1))) 4294967295)))), (14, .one (.l (L.int .u64 (bitsOf .and .u64 (shlOf .u64 lo_1 (v64 (x1))) 4294967295)))), (15, .one (.l (L.int .u64 q1_4))), (16, .one (.l (L.int .u64 rhat_5))), (17, .one (.l (L.int .u64 (v64 ((v64 ((v64 ((bitsOf .or .u64 (shlOf .u64 hi_0 (v64 (x1))) (shrOf .u64 lo_1 (v64 (64 - (v64 (x1)))))) * 4294967296)) + (shrOf .u64 (shlOf .u64 lo_1 (v64 (x1))) 32))) - (v64 (q1_4 * (shlOf .u64 y_2 (v64 (x1)))))))))), (18, .one (.l (L.int .u64 q0_6)))] [] st
noncomputable def Zab.p4.S (y_2 x1 lo_1 q1_4 rhat_5 hi_0 q0_6 : Int) (st : LL) : S := mkS 135 [(2, .one (.l (L.int .u64 (shlOf .u64 y_2 (v64 (x1)))))), (8, .one (.l (L.int .u64 (v64 (x1))))), (9, .one (.l (L.int .u64 (shrOf .u64 (shlOf .u64 y_2 (v64 (x1))) 32)))), (10, .one (.l (L.int .u64 (bitsOf .and .u64 (shlOf .u64 y_2 (v64 (x1))) 4294967295)))), (14, .one (.l (L.int .u64 (bitsOf .and .u64 (shlOf .u64 lo_1 (v64 (x1))) 4294967295)))), (15, .one (.l (L.int .u64 q1_4))), (16, .one (.l (L.int .u64 rhat_5))), (17, .one (.l (L.int .u64 (v64 ((v64 ((v64 ((bitsOf .or .u64 (shlOf .u64 hi_0 (v64 (x1))) (shrOf .u64 lo_1 (v64 (64 - (v64 (x1)))))) * 4294967296)) + (shrOf .u64 (shlOf .u64 lo_1 (v64 (x1))) 32))) - (v64 (q1_4 * (shlOf .u64 y_2 (v64 (x1)))))))))), (18, .one (.l (L.int .u64 q0_6)))] [] st
noncomputable def Zab.p3.S (y_2 x1 hi_0 lo_1 q1_4 : Int) (st : LL) : S := mkS 135 [(2, .one (.l (L.int .u64 (shlOf .u64 y_2 (v64 (x1)))))), (8, .one (.l (L.int .u64 (v64 (x1))))), (9, .one (.l (L.int .u64 (shrOf .u64 (shlOf .u64 y_2 (v64 (x1))) 32)))), (10, .one (.l (L.int .u64 (bitsOf .and .u64 (shlOf .u64 y_2 (v64 (x1))) 4294967295)))), (11, .one (.l (L.int .u64 (bitsOf .or .u64 (shlOf .u64 hi_0 (v64 (x1))) (shrOf .u64 lo_1 (v64 (64 - (v64 (x1))))))))), (13, .one (.l (L.int .u64 (shrOf .u64 (shlOf .u64 lo_1 (v64 (x1))) 32)))), (14, .one (.l (L.int .u64 (bitsOf .and .u64 (shlOf .u64 lo_1 (v64 (x1))) 4294967295)))), (15, .one (.l (L.int .u64 q1_4)))] [] st
noncomputable def Zab.p2.S (y_2 x1 hi_0 lo_1 q1_2 rhat_3 : Int) (st : LL) : S := mkS 135 [(2, .one (.l (L.int .u64 (shlOf .u64 y_2 (v64 (x1)))))), (8, .one (.l (L.int .u64 (v64 (x1))))), (9, .one (.l (L.int .u64 (shrOf .u64 (shlOf .u64 y_2 (v64 (x1))) 32)))), (10, .one (.l (L.int .u64 (bitsOf .and .u64 (shlOf .u64 y_2 (v64 (x1))) 4294967295)))), (11, .one (.l (L.int .u64 (bitsOf .or .u64 (shlOf .u64 hi_0 (v64 (x1))) (shrOf .u64 lo_1 (v64 (64 - (v64 (x1))))))))), (13, .one (.l (L.int .u64 (shrOf .u64 (shlOf .u64 lo_1 (v64 (x1))) 32)))), (14, .one (.l (L.int .u64 (bitsOf .and .u64 (shlOf .u64 lo_1 (v64 (x1))) 4294967295)))), (15, .one (.l (L.int .u64 q1_2))), (16, .one (.l (L.int .u64 rhat_3)))] [] st
noncomputable def Zab.p1.S (y_2 x1 hi_0 lo_1 q1_2 rhat_3 : Int) (st : LL) : S := mkS 135 [(2, .one (.l (L.int .u64 (shlOf .u64 y_2 (v64 (x1)))))), (8, .one (.l (L.int .u64 (v64 (x1))))), (9, .one (.l (L.int .u64 (shrOf .u64 (shlOf .u64 y_2 (v64 (x1))) 32)))), (10, .one (.l (L.int .u64 (bitsOf .and .u64 (shlOf .u64 y_2 (v64 (x1))) 4294967295)))), (11, .one (.l (L.int .u64 (bitsOf .or .u64 (shlOf .u64 hi_0 (v64 (x1))) (shrOf .u64 lo_1 (v64 (64 - (v64 (x1))))))))), (13, .one (.l (L.int .u64 (shrOf .u64 (shlOf .u64 lo_1 (v64 (x1))) 32)))), (14, .one (.l (L.int .u64 (bitsOf .and .u64 (shlOf .u64 lo_1 (v64 (x1))) 4294967295)))), (15, .one (.l (L.int .u64 q1_2))), (16, .one (.l (L.int .u64 rhat_3)))] [] st
theorem Zab.p6_ok (y_2 x1 lo_1 q1_4 hi_0 q0_7 : Int) (st : LL) {r : Int × Int} (hE : En Tryz.f135 g0 w0 (Zab.rs r) st R) (h : Zab.p6 N y_2 x1 lo_1 q1_4 hi_0 q0_7 = some r) : At g0 w0 (Zab.p6.S y_2 x1 lo_1 q1_4 hi_0 q0_7 st) (XK Tryz.prog R [.c (csub Zab.B [1, 1, 1, 1, 1, 1, 1, 1, 1, 1, 1, 1, 1, 1, 1, 1, 1, 1, 1])]) := by
 unfold Zab.p6 at h
 obtain ⟨c16, h1⟩ := ZaM h; clear h
 obtain rfl := Zad h1
 exact af fol hE [.r []] [] 0 [] c16
theorem Zab.p5_ok (y_2 x1 lo_1 q1_4 rhat_5 hi_0 q0_6 : Int) (st : LL) {r : Int × Int} {c4_ : (Int × Int) → Option (Int × Int)} {J4 : Act → World → Prop} (hE : En Tryz.f135 g0 w0 (Zab.rs r) st R) (hc4 : ∀ (rhat_5 q0_6 : Int), c4_ (rhat_5, q0_6) = some r → At g0 w0 (Zab.p4.S y_2 x1 lo_1 q1_4 rhat_5 hi_0 q0_6 st) J4) (h : Zab.p5 N c4_ y_2 x1 lo_1 q1_4 rhat_5 hi_0 q0_6 = some r) : At g0 w0 (Zab.p5.S y_2 x1 lo_1 q1_4 rhat_5 hi_0 q0_6 st) (XK Tryz.prog R [.c (csub Zab.B [1, 1, 1, 1, 1, 1, 1, 1, 1, 1, 1, 1, 1, 1, 1, 1, 1, 1, 0, 0, 0, 1]), .h J4, .b 2, .c (csub Zab.B [1, 1, 1, 1, 1, 1, 1, 1, 1, 1, 1, 1, 1, 1, 1, 1, 1, 1, 1])]) := by
 unfold Zab.p5 at h
 refine iteB h (fun c15 h2 => ?_) (fun c15 h3 => ?_) <;> clear h
 · exact aq fol [.r [], .r [], .r [], .c true, .s 1] [2, 8, 14, 15, 17, 18] [] c15 (Zab.p6_ok y_2 x1 lo_1 q1_4 hi_0 (v64 (q0_6 - 1)) st hE h2)
 · exact an fol [.r [], .r [], .r [], .c false] [2, 8, 9, 10, 14, 15, 16, 17, 18] [] c15 (hc4 (v64 (rhat_5 + (shrOf .u64 (shlOf .u64 y_2 (v64 (x1))) 32))) (v64 (q0_6 - 1)) h3)
theorem Zab.p4_ok (y_2 x1 lo_1 q1_4 rhat_5 hi_0 q0_6 : Int) (st : LL) {r : Int × Int} {c4_ : (Int × Int) → Option (Int × Int)} {J4 : Act → World → Prop} (hE : En Tryz.f135 g0 w0 (Zab.rs r) st R) (hc4 : ∀ (rhat_5 q0_6 : Int), c4_ (rhat_5, q0_6) = some r → At g0 w0 (Zab.p4.S y_2 x1 lo_1 q1_4 rhat_5 hi_0 q0_6 st) J4) (h : Zab.p4 N y_2 x1 lo_1 q1_4 hi_0 c4_ (rhat_5, q0_6) = some r) : At g0 w0 (Zab.p4.S y_2 x1 lo_1 q1_4 rhat_5 hi_0 q0_6 st) (XK Tryz.prog R (.c (csub Zab.B [1, 1, 1, 1, 1, 1, 1, 1, 1, 1, 1, 1, 1, 1, 1, 1, 1, 1, 0, 0, 0]) :: .h J4 :: [.b 2, .c (csub Zab.B [1, 1, 1, 1, 1, 1, 1, 1, 1, 1, 1, 1, 1, 1, 1, 1, 1, 1, 1])])) := by
 unfold Zab.p4 at h
 refine iteB h (fun c13 h4 => ?_) (fun c13 h5 => ?_) <;> clear h
 · exact aq fol [.r [(3, {want := false}), (4, {want := false}), (5, {want := false}), (6, {want := false}), (7, {want := false}), (8, {want := false}), (9, {want := false}), (10, {want := false})], .c true, .s 4] [2, 8, 9, 10, 14, 15, 16, 17, 18] [] (aI c13 (aI c13 (aI c13 (aI c13 (aI c13 (aI c13 (aI c13 (aI c13 (aI c13 (eB true)))))))))) (Zab.p5_ok y_2 x1 lo_1 q1_4 rhat_5 hi_0 q0_6 st hE hc4 h4)
 · refine iteB h5 (fun c14 h6 => ?_) (fun c14 h7 => ?_) <;> clear h5
   · exact aq fol [.r [(11, {yes := false})], .c true, .s 4] [2, 8, 9, 10, 14, 15, 16, 17, 18] [] (aI c13 (aI c13 (aI c13 (aI c13 (aI c13 (aI c13 (aI c13 (aI c13 (aI c13 c14))))))))) (Zab.p5_ok y_2 x1 lo_1 q1_4 rhat_5 hi_0 q0_6 st hE hc4 h6)
   · exact aq fol [.r [(11, {yes := false})], .c false, .s 1] [2, 8, 14, 15, 17, 18] [] (aI c13 (aI c13 (aI c13 (aI c13 (aI c13 (aI c13 (aI c13 (aI c13 (aI c13 c14))))))))) (Zab.p6_ok y_2 x1 lo_1 q1_4 hi_0 q0_6 st hE h7)
theorem Zab.p3_ok (y_2 x1 hi_0 lo_1 q1_4 : Int) (st : LL) {r : Int × Int} (hE : En Tryz.f135 g0 w0 (Zab.rs r) st R) (h : Zab.p3 N y_2 x1 hi_0 lo_1 q1_4 = some r) : At g0 w0 (Zab.p3.S y_2 x1 hi_0 lo_1 q1_4 st) (XK Tryz.prog R [.c (csub Zab.B [1, 1, 1, 1, 1, 1, 1, 1, 1, 1, 1, 1, 1, 1, 1])]) := by
 unfold Zab.p3 at h
 obtain ⟨c12, h8⟩ := ZaM h; clear h
 exact aq fol [.r [], .r [], .r []] [2, 8, 9, 10, 14, 15, 16, 17, 18] [] c12 (At.loop N (At.loopN (fun y : Int × Int => Zab.p4.S y_2 x1 lo_1 q1_4 y.1 hi_0 y.2 st) (fun c J hc y h => Zab.p4_ok y_2 x1 lo_1 q1_4 y.1 hi_0 y.2 st hE (fun rhat_5 q0_6 hh => hc (rhat_5, q0_6) hh) h) N (v64 ((v64 ((v64 ((v64 ((bitsOf .or .u64 (shlOf .u64 hi_0 (v64 (x1))) (shrOf .u64 lo_1 (v64 (64 - (v64 (x1)))))) * 4294967296)) + (shrOf .u64 (shlOf .u64 lo_1 (v64 (x1))) 32))) - (v64 (q1_4 * (shlOf .u64 y_2 (v64 (x1))))))) - (v64 ((v64 (Int.tdiv (v64 ((v64 ((v64 ((bitsOf .or .u64 (shlOf .u64 hi_0 (v64 (x1))) (shrOf .u64 lo_1 (v64 (64 - (v64 (x1)))))) * 4294967296)) + (shrOf .u64 (shlOf .u64 lo_1 (v64 (x1))) 32))) - (v64 (q1_4 * (shlOf .u64 y_2 (v64 (x1))))))) (shrOf .u64 (shlOf .u64 y_2 (v64 (x1))) 32))) * (shrOf .u64 (shlOf .u64 y_2 (v64 (x1))) 32)))), v64 (Int.tdiv (v64 ((v64 ((v64 ((bitsOf .or .u64 (shlOf .u64 hi_0 (v64 (x1))) (shrOf .u64 lo_1 (v64 (64 - (v64 (x1)))))) * 4294967296)) + (shrOf .u64 (shlOf .u64 lo_1 (v64 (x1))) 32))) - (v64 (q1_4 * (shlOf .u64 y_2 (v64 (x1))))))) (shrOf .u64 (shlOf .u64 y_2 (v64 (x1))) 32))) h8))
theorem Zab.p2_ok (y_2 x1 hi_0 lo_1 q1_2 rhat_3 : Int) (st : LL) {r : Int × Int} {c1_ : (Int × Int) → Option (Int × Int)} {J1 : Act → World → Prop} (hE : En Tryz.f135 g0 w0 (Zab.rs r) st R) (hc1 : ∀ (q1_2 rhat_3 : Int), c1_ (q1_2, rhat_3) = some r → At g0 w0 (Zab.p1.S y_2 x1 hi_0 lo_1 q1_2 rhat_3 st) J1) (h : Zab.p2 N c1_ y_2 x1 hi_0 lo_1 q1_2 rhat_3 = some r) : At g0 w0 (Zab.p2.S y_2 x1 hi_0 lo_1 q1_2 rhat_3 st) (XK Tryz.prog R [.c (csub Zab.B [1, 1, 1, 1, 1, 1, 1, 1, 1, 1, 1, 1, 1, 1, 0, 0, 0, 1]), .h J1, .b 0, .c (csub Zab.B [1, 1, 1, 1, 1, 1, 1, 1, 1, 1, 1, 1, 1, 1, 1])]) := by
 unfold Zab.p2 at h
 refine iteB h (fun c11 h9 => ?_) (fun c11 h10 => ?_) <;> clear h
 · exact aq fol [.r [], .r [], .r [], .c true, .s 1] [2, 8, 9, 10, 11, 13, 14, 15] [] c11 (Zab.p3_ok y_2 x1 hi_0 lo_1 (v64 (q1_2 - 1)) st hE h9)
 · exact an fol [.r [], .r [], .r [], .c false] [2, 8, 9, 10, 11, 13, 14, 15, 16] [] c11 (hc1 (v64 (q1_2 - 1)) (v64 (rhat_3 + (shrOf .u64 (shlOf .u64 y_2 (v64 (x1))) 32))) h10)
theorem Zab.p1_ok (y_2 x1 hi_0 lo_1 q1_2 rhat_3 : Int) (st : LL) {r : Int × Int} {c1_ : (Int × Int) → Option (Int × Int)} {J1 : Act → World → Prop} (hE : En Tryz.f135 g0 w0 (Zab.rs r) st R) (hc1 : ∀ (q1_2 rhat_3 : Int), c1_ (q1_2, rhat_3) = some r → At g0 w0 (Zab.p1.S y_2 x1 hi_0 lo_1 q1_2 rhat_3 st) J1) (h : Zab.p1 N y_2 x1 hi_0 lo_1 c1_ (q1_2, rhat_3) = some r) : At g0 w0 (Zab.p1.S y_2 x1 hi_0 lo_1 q1_2 rhat_3 st) (XK Tryz.prog R (.c (csub Zab.B [1, 1, 1, 1, 1, 1, 1, 1, 1, 1, 1, 1, 1, 1, 0, 0, 0]) :: .h J1 :: [.b 0, .c (csub Zab.B [1, 1, 1, 1, 1, 1, 1, 1, 1, 1, 1, 1, 1, 1, 1])])) := by
 unfold Zab.p1 at h
 refine iteB h (fun c9 h11 => ?_) (fun c9 h12 => ?_) <;> clear h
 · exact aq fol [.r [(3, {want := false}), (4, {want := false}), (5, {want := false}), (6, {want := false}), (7, {want := false}), (8, {want := false}), (9, {want := false}), (10, {want := false})], .c true, .s 4] [2, 8, 9, 10, 11, 13, 14, 15, 16] [] (aI c9 (aI c9 (aI c9 (aI c9 (aI c9 (aI c9 (aI c9 (aI c9 (aI c9 (eB true)))))))))) (Zab.p2_ok y_2 x1 hi_0 lo_1 q1_2 rhat_3 st hE hc1 h11)
 · refine iteB h12 (fun c10 h13 => ?_) (fun c10 h14 => ?_) <;> clear h12
   · exact aq fol [.r [(11, {yes := false})], .c true, .s 4] [2, 8, 9, 10, 11, 13, 14, 15, 16] [] (aI c9 (aI c9 (aI c9 (aI c9 (aI c9 (aI c9 (aI c9 (aI c9 (aI c9 c10))))))))) (Zab.p2_ok y_2 x1 hi_0 lo_1 q1_2 rhat_3 st hE hc1 h13)
   · exact aq fol [.r [(11, {yes := false})], .c false, .s 1] [2, 8, 9, 10, 11, 13, 14, 15] [] (aI c9 (aI c9 (aI c9 (aI c9 (aI c9 (aI c9 (aI c9 (aI c9 (aI c9 c10))))))))) (Zab.p3_ok y_2 x1 hi_0 lo_1 q1_2 st hE h14)
theorem Zab.snd {hi_0 lo_1 y_2 : Int} {r : Int × Int} (h : Zab N hi_0 lo_1 y_2 = some r) : SndQ Tryz.prog 135 [.one (L.int .u64 hi_0), .one (L.int .u64 lo_1), .one (L.int .u64 y_2)] (Zab.rs r) := fun st =>
 sO Zab.B Tryz.func135 fun g0 w0 R hE => by
  unfold Zab at h
  refine iteB h (fun c1 h15 => ?_) (fun c1 h16 => ?_) <;> clear h
  · cases h15
  · refine iteB h16 (fun c2 h17 => ?_) (fun c2 h18 => ?_) <;> clear h16
    · cases h17
    · refine iteB h18 (fun c3 h19 => ?_) (fun c3 h20 => ?_) <;> clear h18
      · obtain ⟨c4, h21⟩ := ZaM h19; clear h19
        obtain rfl := Zad h21
        exact afd fol hE [.r [], .r [], .c false, .r [], .c false, .r [], .c true, .d {ds := [], hv := 0, Hs := []}] [] 0 [] (aI c1 (aI c2 (aI c3 (aI c4 c4))))
      · obtain ⟨x1, c5, h22⟩ := Zan h20; clear h20
        obtain ⟨c6, c7, c8, h23⟩ := ck3 h22; clear h22
        exact aq fol [.r [], .r [], .c false, .r [], .c false, .r [], .c false, .r [(1, {rs := [.one (L.int .i64 x1)], m := 1})], .r [], .r [], .r [], .r [], .r [], .r [], .r [], .r [], .r []] [2, 8, 9, 10, 11, 13, 14, 15, 16] [] (aI c1 (aI c2 (aI c3 (aI (Zbb.snd c5) (aI c6 (aI (leI 0 32) (aI c6 (aI c7 (aI c6 (aI (leI 0 32) c8)))))))))) (At.loop N (At.loopN (fun y : Int × Int => Zab.p1.S y_2 x1 hi_0 lo_1 y.1 y.2 st) (fun c J hc y h => Zab.p1_ok y_2 x1 hi_0 lo_1 y.1 y.2 st hE (fun q1_2 rhat_3 hh => hc (q1_2, rhat_3) hh) h) N (v64 (Int.tdiv (bitsOf .or .u64 (shlOf .u64 hi_0 (v64 (x1))) (shrOf .u64 lo_1 (v64 (64 - (v64 (x1)))))) (shrOf .u64 (shlOf .u64 y_2 (v64 (x1))) 32)), v64 ((bitsOf .or .u64 (shlOf .u64 hi_0 (v64 (x1))) (shrOf .u64 lo_1 (v64 (64 - (v64 (x1)))))) - (v64 ((v64 (Int.tdiv (bitsOf .or .u64 (shlOf .u64 hi_0 (v64 (x1))) (shrOf .u64 lo_1 (v64 (64 - (v64 (x1)))))) (shrOf .u64 (shlOf .u64 y_2 (v64 (x1))) 32))) * (shrOf .u64 (shlOf .u64 y_2 (v64 (x1))) 32))))) h23))
noncomputable def Zbf.B : Code := Tryz.f110.body.getD .skip
noncomputable def Zbf.rs (r : (List Int) × Int) : List CV := [.agg [L.arr .u64 4 r.1], .one (L.int .u64 r.2)]
noncomputable def Zbf.p1 (N : Nat) (by_1 : Int) (c1_ : (Int × Int × (List Int)) → Option ((List Int) × Int)) : (Int × Int × (List Int)) → Option ((List Int) × Int) := fun (r_1, i_2, a_5) =>
 if (decide (i_2 ≥ 0)) = true then
  chk (0 ≤ i_2) <|
  chk (i_2 < 4) <|
  optE (Zab N r_1 (List.getD a_5 (Int.toNat i_2) 0) by_1) fun (x6, x7) =>
  c1_ (x7, w64 (i_2 - 1), List.set a_5 (Int.toNat i_2) x6)
 else
 some (a_5, r_1)
noncomputable def Zbf (N : Nat) (a_0_0 : List Int) (by_1 : Int) : Option ((List Int) × Int) :=
 if (by_1 == 0) = true then
  some (List.replicate 4 0, 0)
 else
 loopN (Zbf.p1 N by_1) N (0, 3, a_0_0)
noncomputable def Zbf.p1.S (by_1 r_1 i_2 : Int) (a_5 : List Int) (st : LL) : S := mkS 28 [(1, .one (.l (L.int .u64 by_1))), (2, .one (.adr (.site 2) 0)), (4, .one (.adr (.site 4) 0)), (6, .one (.l (L.int .u64 r_1))), (7, .one (.l (L.int .i64 i_2)))] [(2, .cells [L.arr .u64 4 a_5]), (4, .cells [L.arr .u64 4 (List.replicate 4 0)])] st
theorem Zbf.p1_ok (by_1 r_1 i_2 : Int) (a_5 : List Int) (st : LL) {r : (List Int) × Int} {c1_ : (Int × Int × (List Int)) → Option ((List Int) × Int)} {J1 : Act → World → Prop} (hE : En Tryz.f110 g0 w0 (Zbf.rs r) st R) (hc1 : ∀ (r_1 i_2 : Int) (a_5 : List Int), c1_ (r_1, i_2, a_5) = some r → At g0 w0 (Zbf.p1.S by_1 r_1 i_2 a_5 st) J1) (h : Zbf.p1 N by_1 c1_ (r_1, i_2, a_5) = some r) : At g0 w0 (Zbf.p1.S by_1 r_1 i_2 a_5 st) (XK Tryz.prog R (.c (csub Zbf.B [1, 1, 1, 0, 1, 0, 0]) :: .h J1 :: [.b 0, .c (csub Zbf.B [1, 1, 1, 1])])) := by
 unfold Zbf.p1 at h
 refine iteB h (fun c6 h1 => ?_) (fun c6 h2 => ?_) <;> clear h
 · obtain ⟨c7, c8, h3⟩ := ck2 h1; clear h1
   obtain ⟨⟨x6, x7⟩, c9, h4⟩ := Zan h3; clear h3
   exact an fol [.r [], .c true, .r [(6, {rs := [.one (L.int .u64 x6), .one (L.int .u64 x7)], m := 1})], .r []] [1, 2, 4, 6, 7] [2, 4] (aI c6 (aI c7 (aI c8 (aI (Zab.snd c9) (aI c7 c8))))) (hc1 x7 (w64 (i_2 - 1)) (List.set a_5 (Int.toNat i_2) x6) h4)
 · obtain rfl := Zad h2
   exact af fol hE [.r [], .c false, .r []] [] 0 [] c6
theorem Zbf.snd {a_0_0 : List Int} {by_1 : Int} {r : (List Int) × Int} (h : Zbf N a_0_0 by_1 = some r) : SndQ Tryz.prog 110 [.agg [L.arr .u64 4 a_0_0], .one (L.int .u64 by_1)] (Zbf.rs r) := fun st =>
 sO Zbf.B Tryz.func110 fun g0 w0 R hE => by
  unfold Zbf at h
  refine iteB h (fun c1 h5 => ?_) (fun c1 h6 => ?_) <;> clear h
  · obtain rfl := Zad h5
    exact af fol hE [.r [], .r [], .c true, .r []] [] 0 [] c1
  · exact aq fol [.r [], .r [], .c false, .r [], .r []] [1, 2, 4, 6, 7] [2, 4] c1 (At.loop N (At.loopN (fun y : Int × Int × (List Int) => Zbf.p1.S by_1 y.1 y.2.1 y.2.2 st) (fun c J hc y h => Zbf.p1_ok by_1 y.1 y.2.1 y.2.2 st hE (fun r_1 i_2 a_5 hh => hc (r_1, i_2, a_5) hh) h) N (0, 3, a_0_0) h6))
noncomputable def Zbw.B : Code := Tryz.f136.body.getD .skip
noncomputable def Zbw.rs (r : Int × Int) : List CV := [.one (L.int .u64 r.1), .one (L.int .u64 r.2)]
noncomputable def Zbw (N : Nat) (x_0 y_1 : Int) : Option (Int × Int) :=
 some (v64 ((v64 ((v64 ((shrOf .u64 x_0 32) * (shrOf .u64 y_1 32))) + (shrOf .u64 (v64 ((v64 ((shrOf .u64 x_0 32) * (bitsOf .and .u64 y_1 4294967295))) + (shrOf .u64 (v64 ((bitsOf .and .u64 x_0 4294967295) * (bitsOf .and .u64 y_1 4294967295))) 32))) 32))) + (shrOf .u64 (v64 ((bitsOf .and .u64 (v64 ((v64 ((shrOf .u64 x_0 32) * (bitsOf .and .u64 y_1 4294967295))) + (shrOf .u64 (v64 ((bitsOf .and .u64 x_0 4294967295) * (bitsOf .and .u64 y_1 4294967295))) 32))) 4294967295) + (v64 ((bitsOf .and .u64 x_0 4294967295) * (shrOf .u64 y_1 32))))) 32)), v64 (x_0 * y_1))
theorem Zbw.snd {x_0 y_1 : Int} {r : Int × Int} (h : Zbw N x_0 y_1 = some r) : SndQ Tryz.prog 136 [.one (L.int .u64 x_0), .one (L.int .u64 y_1)] (Zbw.rs r) := fun st =>
 sO Zbw.B Tryz.func136 fun g0 w0 R hE => by
  unfold Zbw at h
  obtain rfl := Zad h
  exact af fol hE [.r [], .r [], .r [], .r [], .r [], .r [], .r [], .r [], .r [], .r [], .r [], .r []] [] 0 [] (aI (leI 0 32) (aI (leI 0 32) (aI (leI 0 32) (aI (leI 0 32) (leI 0 32)))))
noncomputable def ZaW.B : Code := Tryz.f111.body.getD .skip
noncomputable def ZaW.rs (r : (List Int) × Bool) : List CV := [.agg [L.arr .u64 4 r.1], .one (L.bool r.2)]
noncomputable def ZaW.p1 (N : Nat) (by_1 : Int) (c1_ : (Int × Int × (List Int)) → Option ((List Int) × Bool)) : (Int × Int × (List Int)) → Option ((List Int) × Bool) := fun (c_1, v2, a_7) =>
 if (decide (v2 < 4)) = true then
  chk (0 ≤ v2) <|
  optE (Zbw N (List.getD a_7 (Int.toNat v2) 0) by_1) fun (x8, x9) =>
  optE (Zcl N x9 c_1 0) fun (x10, x11) =>
  c1_ (v64 (x8 + x11), w64 (v2 + 1), List.set a_7 (Int.toNat v2) x10)
 else
 some (a_7, c_1 != 0)
noncomputable def ZaW (N : Nat) (a_0_0 : List Int) (by_1 : Int) : Option ((List Int) × Bool) :=
 loopN (ZaW.p1 N by_1) N (0, 0, a_0_0)
noncomputable def ZaW.p1.S (by_1 c_1 v2 : Int) (a_7 : List Int) (st : LL) : S := mkS 37 [(1, .one (.l (L.int .u64 by_1))), (2, .one (.adr (.site 2) 0)), (4, .one (.adr (.site 4) 0)), (6, .one (.l (L.int .u64 c_1))), (11, .one (.l (L.int .i64 v2)))] [(2, .cells [L.arr .u64 4 a_7]), (4, .cells [L.arr .u64 4 (List.replicate 4 0)])] st
theorem ZaW.p1_ok (by_1 c_1 v2 : Int) (a_7 : List Int) (st : LL) {r : (List Int) × Bool} {c1_ : (Int × Int × (List Int)) → Option ((List Int) × Bool)} {J1 : Act → World → Prop} (hE : En Tryz.f111 g0 w0 (ZaW.rs r) st R) (hc1 : ∀ (c_1 v2 : Int) (a_7 : List Int), c1_ (c_1, v2, a_7) = some r → At g0 w0 (ZaW.p1.S by_1 c_1 v2 a_7 st) J1) (h : ZaW.p1 N by_1 c1_ (c_1, v2, a_7) = some r) : At g0 w0 (ZaW.p1.S by_1 c_1 v2 a_7 st) (XK Tryz.prog R (.c (csub ZaW.B [1, 1, 0, 1, 0, 0]) :: .h J1 :: [.b 0, .c (csub ZaW.B [1, 1, 1])])) := by
 unfold ZaW.p1 at h
 refine iteB h (fun c5 h1 => ?_) (fun c5 h2 => ?_) <;> clear h
 · obtain ⟨c6, h3⟩ := ZaM h1; clear h1
   obtain ⟨⟨x8, x9⟩, c7, h4⟩ := Zan h3; clear h3
   obtain ⟨⟨x10, x11⟩, c8, h5⟩ := Zan h4; clear h4
   exact an fol [.r [], .c true, .r [], .r [(4, {rs := [.one (L.int .u64 x8), .one (L.int .u64 x9)], m := 1})], .r [], .r [(3, {rs := [.one (L.int .u64 x10), .one (L.int .u64 x11)], m := 4})], .r [], .r []] [1, 2, 4, 6, 11] [2, 4] (aI c5 (aI c6 (aI (oD c5) (aI (Zbw.snd c7) (aI (Zcl.snd c8) (aI c6 (oD c5))))))) (hc1 (v64 (x8 + x11)) (w64 (v2 + 1)) (List.set a_7 (Int.toNat v2) x10) h5)
 · obtain rfl := Zad h2
   exact af fol hE [.r [], .c false, .r []] [] 0 [] c5
theorem ZaW.snd {a_0_0 : List Int} {by_1 : Int} {r : (List Int) × Bool} (h : ZaW N a_0_0 by_1 = some r) : SndQ Tryz.prog 111 [.agg [L.arr .u64 4 a_0_0], .one (L.int .u64 by_1)] (ZaW.rs r) := fun st =>
 sO ZaW.B Tryz.func111 fun g0 w0 R hE => by
  unfold ZaW at h
  exact aq fol [.r [], .r [], .r []] [1, 2, 4, 6, 11] [2, 4] trivial (At.loop N (At.loopN (fun y : Int × Int × (List Int) => ZaW.p1.S by_1 y.1 y.2.1 y.2.2 st) (fun c J hc y h => ZaW.p1_ok by_1 y.1 y.2.1 y.2.2 st hE (fun c_1 v2 a_7 hh => hc (c_1, v2, a_7) hh) h) N (0, 0, a_0_0) h))
noncomputable def Zbq.B : Code := Tryz.f112.body.getD .skip
noncomputable def Zbq.rs (r : (List Int) × Bool) : List CV := [.agg [L.arr .u64 4 r.1], .one (L.bool r.2)]
noncomputable def Zbq.p1 (N : Nat) (b_1_0 : List Int) (c1_ : (Int × Int × (List Int)) → Option ((List Int) × Bool)) : (Int × Int × (List Int)) → Option ((List Int) × Bool) := fun (c_1, v2, a_5) =>
 if (decide (v2 < 4)) = true then
  chk (0 ≤ v2) <|
  optE (Zcl N (List.getD a_5 (Int.toNat v2) 0) (List.getD b_1_0 (Int.toNat v2) 0) c_1) fun (x6, x7) =>
  c1_ (x7, w64 (v2 + 1), List.set a_5 (Int.toNat v2) x6)
 else
 some (a_5, c_1 != 0)
noncomputable def Zbq (N : Nat) (a_0_0 b_1_0 : List Int) : Option ((List Int) × Bool) :=
 loopN (Zbq.p1 N b_1_0) N (0, 0, a_0_0)
noncomputable def Zbq.p1.S (c_1 v2 : Int) (a_5 b_1_0 : List Int) (st : LL) : S := mkS 28 [(2, .one (.adr (.site 2) 0)), (3, .one (.adr (.site 3) 0)), (4, .one (.adr (.site 4) 0)), (6, .one (.l (L.int .u64 c_1))), (8, .one (.l (L.int .i64 v2)))] [(2, .cells [L.arr .u64 4 a_5]), (3, .cells [L.arr .u64 4 b_1_0]), (4, .cells [L.arr .u64 4 (List.replicate 4 0)])] st
theorem Zbq.p1_ok (c_1 v2 : Int) (a_5 b_1_0 : List Int) (st : LL) {r : (List Int) × Bool} {c1_ : (Int × Int × (List Int)) → Option ((List Int) × Bool)} {J1 : Act → World → Prop} (hE : En Tryz.f112 g0 w0 (Zbq.rs r) st R) (hc1 : ∀ (c_1 v2 : Int) (a_5 : List Int), c1_ (c_1, v2, a_5) = some r → At g0 w0 (Zbq.p1.S c_1 v2 a_5 b_1_0 st) J1) (h : Zbq.p1 N b_1_0 c1_ (c_1, v2, a_5) = some r) : At g0 w0 (Zbq.p1.S c_1 v2 a_5 b_1_0 st) (XK Tryz.prog R (.c (csub Zbq.B [1, 1, 0, 1, 0, 0]) :: .h J1 :: [.b 0, .c (csub Zbq.B [1, 1, 1])])) := by
 unfold Zbq.p1 at h
 refine iteB h (fun c4 h1 => ?_) (fun c4 h2 => ?_) <;> clear h
 · obtain ⟨c5, h3⟩ := ZaM h1; clear h1
   obtain ⟨⟨x6, x7⟩, c6, h4⟩ := Zan h3; clear h3
   exact and_ fol [.r [], .c true, .r [], .d {ds := [(8, {rs := [.one (L.int .u64 x6), .one (L.int .u64 x7)], m := 4})], hv := 8192, Hs := [8192]}, .r []] [2, 3, 4, 6, 8] [2, 3, 4] (aI c4 (aI c5 (aI (oD c4) (aI c5 (aI (oD c4) (aI (Zcl.snd c6) (aI c5 (oD c4)))))))) (hc1 x7 (w64 (v2 + 1)) (List.set a_5 (Int.toNat v2) x6) h4)
 · obtain rfl := Zad h2
   exact af fol hE [.r [], .c false, .r []] [] 0 [] c4
theorem Zbq.snd {a_0_0 b_1_0 : List Int} {r : (List Int) × Bool} (h : Zbq N a_0_0 b_1_0 = some r) : SndQ Tryz.prog 112 [.agg [L.arr .u64 4 a_0_0], .agg [L.arr .u64 4 b_1_0]] (Zbq.rs r) := fun st =>
 sO Zbq.B Tryz.func112 fun g0 w0 R hE => by
  unfold Zbq at h
  exact aq fol [.r [], .r [], .r []] [2, 3, 4, 6, 8] [2, 3, 4] trivial (At.loop N (At.loopN (fun y : Int × Int × (List Int) => Zbq.p1.S y.1 y.2.1 y.2.2 b_1_0 st) (fun c J hc y h => Zbq.p1_ok y.1 y.2.1 y.2.2 b_1_0 st hE (fun c_1 v2 a_5 hh => hc (c_1, v2, a_5) hh) h) N (0, 0, a_0_0) h))
noncomputable def Zbs.B : Code := Tryz.f138.body.getD .skip
noncomputable def Zbs.rs (r : Int) : List CV := [.one (L.int .i64 r)]
noncomputable def Zbs.p1 (N : Nat) (a_0_0 : List Int) (c1_ : Int → Option Int) : Int → Option Int := fun i_1 =>
 if (decide (i_1 ≥ 0)) = true then
  chk (0 ≤ i_1) <|
  chk (i_1 < 4) <|
  if ((List.getD a_0_0 (Int.toNat i_1) 0) != 0) = true then
   optE (Zaq N (List.getD a_0_0 (Int.toNat i_1) 0)) fun x2 =>
   some (w64 ((w64 (64 * i_1)) + x2))
  else
  c1_ (w64 (i_1 - 1))
 else
 some 0
noncomputable def Zbs (N : Nat) (a_0_0 : List Int) : Option Int :=
 loopN (Zbs.p1 N a_0_0) N 3
noncomputable def Zbs.p1.S (i_1 : Int) (a_0_0 : List Int) (st : LL) : S := mkS 19 [(1, .one (.adr (.site 1) 0)), (3, .one (.l (L.int .i64 i_1)))] [(1, .cells [L.arr .u64 4 a_0_0])] st
theorem Zbs.p1_ok (i_1 : Int) (a_0_0 : List Int) (st : LL) {r : Int} {c1_ : Int → Option Int} {J1 : Act → World → Prop} (hE : En Tryz.f138 g0 w0 (Zbs.rs r) st R) (hc1 : ∀ (i_1 : Int), c1_ i_1 = some r → At g0 w0 (Zbs.p1.S i_1 a_0_0 st) J1) (h : Zbs.p1 N a_0_0 c1_ i_1 = some r) : At g0 w0 (Zbs.p1.S i_1 a_0_0 st) (XK Tryz.prog R (.c (csub Zbs.B [1, 0, 1, 0, 0]) :: .h J1 :: [.b 0, .c (csub Zbs.B [1, 1])])) := by
 unfold Zbs.p1 at h
 refine iteB h (fun c1 h1 => ?_) (fun c1 h2 => ?_) <;> clear h
 · obtain ⟨c2, c3, h3⟩ := ck2 h1; clear h1
   refine iteB h3 (fun c4 h4 => ?_) (fun c4 h5 => ?_) <;> clear h3
   · obtain ⟨x2, c5, h6⟩ := Zan h4; clear h4
     obtain rfl := Zad h6
     exact af fol hE [.r [], .c true, .r [], .c true, .r [(5, {rs := [.one (L.int .i64 x2)], m := 1})]] [] 0 [] (aI c1 (aI c2 (aI c3 (aI c4 (aI c2 (aI c3 (Zaq.snd c5)))))))
   · exact an fol [.r [], .c true, .r [], .c false, .r []] [1, 3] [1] (aI c1 (aI c2 (aI c3 c4))) (hc1 (w64 (i_1 - 1)) h5)
 · obtain rfl := Zad h2
   exact af fol hE [.r [], .c false, .r []] [] 0 [] c1
theorem Zbs.snd {a_0_0 : List Int} {r : Int} (h : Zbs N a_0_0 = some r) : SndQ Tryz.prog 138 [.agg [L.arr .u64 4 a_0_0]] (Zbs.rs r) := fun st =>
 sO Zbs.B Tryz.func138 fun g0 w0 R hE => by
  unfold Zbs at h
  exact aq fol [.r [], .r []] [1, 3] [1] trivial (At.loop N (At.loopN (fun y : Int => Zbs.p1.S y a_0_0 st) (fun c J hc y h => Zbs.p1_ok y a_0_0 st hE (fun i_1 hh => hc i_1 hh) h) N 3 h))
noncomputable def ZaD.B : Code := Tryz.f116.body.getD .skip
noncomputable def ZaD.rs (r : Int) : List CV := [.one (L.int .i64 r)]
noncomputable def ZaD.p2 (N : Nat) (size_5 word_6 : Int) : Option Int :=
 some (bitsOf .or .i64 (shlOf .i64 size_5 24) word_6)
noncomputable def ZaD.p1 (N : Nat) (x1 word_4 : Int) : Option Int :=
 if ((bitsOf .and .i64 word_4 8388608) != 0) = true then
  ZaD.p2 N (w64 ((w64 (Int.tdiv (w64 (x1 + 7)) 8)) + 1)) (shrOf .i64 word_4 8)
 else
 ZaD.p2 N (w64 (Int.tdiv (w64 (x1 + 7)) 8)) word_4
noncomputable def ZaD (N : Nat) (n_0_0 : List Int) : Option Int :=
 optE (Zbs N n_0_0) fun x1 =>
 if (decide ((w64 (Int.tdiv (w64 (x1 + 7)) 8)) ≤ 3)) = true then
  optE (Zbd N n_0_0 (w64 (8 * (w64 (3 - (w64 (Int.tdiv (w64 (x1 + 7)) 8))))))) fun x2 =>
  ZaD.p1 N x1 (w64 (List.getD x2 0 0))
 else
 optE (ZaL N n_0_0 (w64 (8 * (w64 ((w64 (Int.tdiv (w64 (x1 + 7)) 8)) - 3))))) fun x3 =>
 ZaD.p1 N x1 (w64 (List.getD x3 0 0))
noncomputable def ZaD.p2.S (size_5 word_6 : Int) (st : LL) : S := mkS 36 [(3, .one (.l (L.int .i64 size_5))), (4, .one (.l (L.int .i64 word_6)))] [] st
noncomputable def ZaD.p1.S (x1 word_4 : Int) (st : LL) : S := mkS 36 [(3, .one (.l (L.int .i64 (w64 (Int.tdiv (w64 (x1 + 7)) 8))))), (4, .one (.l (L.int .i64 word_4)))] [] st
theorem ZaD.p2_ok (size_5 word_6 : Int) (st : LL) {r : Int} (hE : En Tryz.f116 g0 w0 (ZaD.rs r) st R) (h : ZaD.p2 N size_5 word_6 = some r) : At g0 w0 (ZaD.p2.S size_5 word_6 st) (XK Tryz.prog R [.c (csub ZaD.B [1, 1, 1, 1, 1])]) := by
 unfold ZaD.p2 at h
 obtain rfl := Zad h
 exact af fol hE [.r []] [] 0 [] (leI 0 24)
theorem ZaD.p1_ok (x1 word_4 : Int) (st : LL) {r : Int} (hE : En Tryz.f116 g0 w0 (ZaD.rs r) st R) (h : ZaD.p1 N x1 word_4 = some r) : At g0 w0 (ZaD.p1.S x1 word_4 st) (XK Tryz.prog R [.c (csub ZaD.B [1, 1, 1, 1])]) := by
 unfold ZaD.p1 at h
 refine iteB h (fun c5 h1 => ?_) (fun c5 h2 => ?_) <;> clear h
 · exact aq fol [.r [], .c true, .r [], .r [], .s 1] [3, 4] [] (aI c5 (leI 0 8)) (ZaD.p2_ok (w64 ((w64 (Int.tdiv (w64 (x1 + 7)) 8)) + 1)) (shrOf .i64 word_4 8) st hE h1)
 · exact aq fol [.r [], .c false, .s 1] [3, 4] [] c5 (ZaD.p2_ok (w64 (Int.tdiv (w64 (x1 + 7)) 8)) word_4 st hE h2)
theorem ZaD.snd {n_0_0 : List Int} {r : Int} (h : ZaD N n_0_0 = some r) : SndQ Tryz.prog 116 [.agg [L.arr .u64 4 n_0_0]] (ZaD.rs r) := fun st =>
 sO ZaD.B Tryz.func116 fun g0 w0 R hE => by
  unfold ZaD at h
  obtain ⟨x1, c1, h3⟩ := Zan h; clear h
  refine iteB h3 (fun c2 h4 => ?_) (fun c2 h5 => ?_) <;> clear h3
  · obtain ⟨x2, c3, h6⟩ := Zan h4; clear h4
    exact aq fol [.r [], .r [(1, {rs := [.one (L.int .i64 x1)], m := 1})], .r [], .r [], .c true, .r [(4, {rs := [.agg [L.arr .u64 4 x2]], m := 1})], .s 1] [3, 4] [] (aI (Zbs.snd c1) (aI (neI 8) (aI c2 (aI (Zbd.snd c3) (aI (leI 0 0) (ltI 0 4)))))) (ZaD.p1_ok x1 (w64 (List.getD x2 0 0)) st hE h6)
  · obtain ⟨x3, c4, h7⟩ := Zan h5; clear h5
    exact aq fol [.r [], .r [(1, {rs := [.one (L.int .i64 x1)], m := 1})], .r [], .r [], .c false, .r [(4, {rs := [.agg [L.arr .u64 4 x3]], m := 1})], .s 1] [3, 4] [] (aI (Zbs.snd c1) (aI (neI 8) (aI c2 (aI (ZaL.snd c4) (aI (leI 0 0) (ltI 0 4)))))) (ZaD.p1_ok x1 (w64 (List.getD x3 0 0)) st hE h7)
noncomputable def ZaY.B : Code := Tryz.f88.body.getD .skip
noncomputable def ZaY.rs (r : Int) : List CV := [.one (L.int .i64 r)]
noncomputable def ZaY.p1 (N : Nat) (n_17 : List Int) : Option Int :=
 optE (ZaD N n_17) fun x18 =>
 some x18
noncomputable def ZaY (N : Nat) (p_0 : Zac) (bits_1 from_2 to_3 : Int) : Option Int :=
 optE (ZaG N bits_1 p_0.Limit) fun (x1, x2) =>
 optE (ZbJ N p_0) fun x3 =>
 if (!x3) = true then
  some p_0.Limit
 else
 if (!x2) = true then
  some p_0.Limit
 else
 optE (Zcm N p_0 from_2 to_3) fun x4 =>
 optE (Zbf N x1 (v64 (w64 (p_0.Interval * p_0.Spacing)))) fun (x5, x6) =>
 optE (ZaW N x5 (v64 (x4))) fun (x7, x8) =>
 chk ((v64 (w64 (p_0.Interval * p_0.Spacing))) ≠ 0) <|
 optE (ZbY N (v64 (Int.tdiv (v64 (x6 * (v64 (x4)))) (v64 (w64 (p_0.Interval * p_0.Spacing)))))) fun x9 =>
 optE (Zbq N x7 x9) fun (x10, x11) =>
 optE (ZaG N p_0.Limit p_0.Limit) fun (x12, x13) =>
 if x8 = true then
  some p_0.Limit
 else
 if x11 = true then
  some p_0.Limit
 else
 optE (ZbI N x12 x10) fun x14 =>
 if x14 = true then
  some p_0.Limit
 else
 optE (ZbU N x10) fun x15 =>
 if x15 = true then
  optE (ZbY N 1) fun x16 =>
  ZaY.p1 N x16
 else
 ZaY.p1 N x10
noncomputable def ZaY.p1.S (n_17 : List Int) (st : LL) : S := mkS 94 [(15, .one (.adr (.site 15) 0))] [(15, .cells [L.arr .u64 4 n_17])] st
theorem ZaY.p1_ok (n_17 : List Int) (st : LL) {r : Int} (hE : En Tryz.f88 g0 w0 (ZaY.rs r) st R) (h : ZaY.p1 N n_17 = some r) : At g0 w0 (ZaY.p1.S n_17 st) (XK Tryz.prog R [.c (csub ZaY.B [1, 1, 1, 1, 1, 1, 1, 1, 1, 1, 1])]) := by
 unfold ZaY.p1 at h
 obtain ⟨x18, c19, h1⟩ := Zan h; clear h
 obtain rfl := Zad h1
 exact af fol hE [.r [(1, {rs := [.one (L.int .i64 x18)], m := 1})]] [] 0 [] (ZaD.snd c19)
theorem ZaY.snd {p_0 : Zac} {bits_1 from_2 to_3 : Int} {r : Int} (h : ZaY N p_0 bits_1 from_2 to_3 = some r) : SndQ Tryz.prog 88 [.agg p_0.ls, .one (L.int .i64 bits_1), .one (L.int .i64 from_2), .one (L.int .i64 to_3)] (ZaY.rs r) := fun st =>
 sO ZaY.B Tryz.func88 fun g0 w0 R hE => by
  unfold ZaY at h
  obtain ⟨⟨x1, x2⟩, c1, h2⟩ := Zan h; clear h
  obtain ⟨x3, c2, h3⟩ := Zan h2; clear h2
  refine iteB h3 (fun c3 h4 => ?_) (fun c3 h5 => ?_) <;> clear h3
  · obtain rfl := Zad h4
    exact af fol hE [.r [], .r [(3, {rs := [.agg [L.arr .u64 4 x1], .one (L.bool x2)], m := 1})], .r [(1, {rs := [.one (L.bool x3)], m := 1}), (4, {want := false}), (5, {want := false})], .c true, .r []] [] 0 [] (aI (ZaG.snd c1) (aI (ZbJ.snd c2) (aI (not_false (Zbv c3)) (aI (not_false (Zbv c3)) (aI (not_false (Zbv c3)) (eB true))))))
  · refine iteB h5 (fun c4 h6 => ?_) (fun c4 h7 => ?_) <;> clear h5
    · obtain rfl := Zad h6
      exact af fol hE [.r [], .r [(3, {rs := [.agg [L.arr .u64 4 x1], .one (L.bool x2)], m := 1})], .r [(1, {rs := [.one (L.bool x3)], m := 1}), (6, {yes := false})], .c true, .r []] [] 0 [] (aI (ZaG.snd c1) (aI (ZbJ.snd c2) (aI (not_true (ZaA c3)) (aI (not_true (ZaA c3)) (aI (not_true (ZaA c3)) c4)))))
    · obtain ⟨x4, c5, h8⟩ := Zan h7; clear h7
      obtain ⟨⟨x5, x6⟩, c6, h9⟩ := Zan h8; clear h8
      obtain ⟨⟨x7, x8⟩, c7, h10⟩ := Zan h9; clear h9
      obtain ⟨c8, h11⟩ := ZaM h10; clear h10
      obtain ⟨x9, c9, h12⟩ := Zan h11; clear h11
      obtain ⟨⟨x10, x11⟩, c10, h13⟩ := Zan h12; clear h12
      obtain ⟨⟨x12, x13⟩, c11, h14⟩ := Zan h13; clear h13
      refine iteB h14 (fun c12 h15 => ?_) (fun c12 h16 => ?_) <;> clear h14
      · obtain rfl := Zad h15
        exact afd fol hE [.r [], .r [(3, {rs := [.agg [L.arr .u64 4 x1], .one (L.bool x2)], m := 1})], .r [(1, {rs := [.one (L.bool x3)], m := 1}), (6, {yes := false})], .c false, .r [], .r [(3, {rs := [.one (L.int .i64 x4)], m := 1})], .r [(2, {rs := [.agg [L.arr .u64 4 x5], .one (L.int .u64 x6)], m := 1})], .r [(2, {rs := [.agg [L.arr .u64 4 x7], .one (L.bool x8)], m := 1})], .d {ds := [(6, {rs := [.agg [L.arr .u64 4 x9]], m := 1}), (7, {rs := [.agg [L.arr .u64 4 x10], .one (L.bool x11)], m := 1})], hv := 2048, Hs := [2048]}, .r [(4, {rs := [.agg [L.arr .u64 4 x12], .one (L.bool x13)], m := 1})], .r [(2, {want := false}), (5, {want := false}), (6, {want := false}), (7, {want := false})], .c true, .r []] [] 0 [] (aI (ZaG.snd c1) (aI (ZbJ.snd c2) (aI (not_true (ZaA c3)) (aI (not_true (ZaA c3)) (aI (not_true (ZaA c3)) (aI c4 (aI (Zcm.snd c5) (aI (Zbf.snd c6) (aI (ZaW.snd c7) (aI c8 (aI (ZbY.snd c9) (aI (Zbq.snd c10) (aI (ZaG.snd c11) (aI c12 (aI c12 (aI (eB true) (aI (eB true) (aI (eB true) (aI (eB true) (eB true))))))))))))))))))))
      · refine iteB h16 (fun c13 h17 => ?_) (fun c13 h18 => ?_) <;> clear h16
        · obtain rfl := Zad h17
          exact afd fol hE [.r [], .r [(3, {rs := [.agg [L.arr .u64 4 x1], .one (L.bool x2)], m := 1})], .r [(1, {rs := [.one (L.bool x3)], m := 1}), (6, {yes := false})], .c false, .r [], .r [(3, {rs := [.one (L.int .i64 x4)], m := 1})], .r [(2, {rs := [.agg [L.arr .u64 4 x5], .one (L.int .u64 x6)], m := 1})], .r [(2, {rs := [.agg [L.arr .u64 4 x7], .one (L.bool x8)], m := 1})], .d {ds := [(6, {rs := [.agg [L.arr .u64 4 x9]], m := 1}), (7, {rs := [.agg [L.arr .u64 4 x10], .one (L.bool x11)], m := 1})], hv := 2048, Hs := [2048]}, .r [(4, {rs := [.agg [L.arr .u64 4 x12], .one (L.bool x13)], m := 1})], .r [(3, {yes := false}), (5, {want := false}), (6, {want := false}), (7, {want := false})], .c true, .r []] [] 0 [] (aI (ZaG.snd c1) (aI (ZbJ.snd c2) (aI (not_true (ZaA c3)) (aI (not_true (ZaA c3)) (aI (not_true (ZaA c3)) (aI c4 (aI (Zcm.snd c5) (aI (Zbf.snd c6) (aI (ZaW.snd c7) (aI c8 (aI (ZbY.snd c9) (aI (Zbq.snd c10) (aI (ZaG.snd c11) (aI c12 (aI c12 (aI c13 (aI c13 (aI c13 (aI c13 (eB true))))))))))))))))))))
        · obtain ⟨x14, c14, h19⟩ := Zan h18; clear h18
          refine iteB h19 (fun c15 h20 => ?_) (fun c15 h21 => ?_) <;> clear h19
          · obtain rfl := Zad h20
            exact afd fol hE [.r [], .r [(3, {rs := [.agg [L.arr .u64 4 x1], .one (L.bool x2)], m := 1})], .r [(1, {rs := [.one (L.bool x3)], m := 1}), (6, {yes := false})], .c false, .r [], .r [(3, {rs := [.one (L.int .i64 x4)], m := 1})], .r [(2, {rs := [.agg [L.arr .u64 4 x5], .one (L.int .u64 x6)], m := 1})], .r [(2, {rs := [.agg [L.arr .u64 4 x7], .one (L.bool x8)], m := 1})], .d {ds := [(6, {rs := [.agg [L.arr .u64 4 x9]], m := 1}), (7, {rs := [.agg [L.arr .u64 4 x10], .one (L.bool x11)], m := 1})], hv := 2048, Hs := [2048]}, .r [(4, {rs := [.agg [L.arr .u64 4 x12], .one (L.bool x13)], m := 1})], .r [(3, {yes := false}), (7, {rs := [.one (L.bool x14)], m := 1}), (8, {yes := false})], .c true, .r []] [] 0 [] (aI (ZaG.snd c1) (aI (ZbJ.snd c2) (aI (not_true (ZaA c3)) (aI (not_true (ZaA c3)) (aI (not_true (ZaA c3)) (aI c4 (aI (Zcm.snd c5) (aI (Zbf.snd c6) (aI (ZaW.snd c7) (aI c8 (aI (ZbY.snd c9) (aI (Zbq.snd c10) (aI (ZaG.snd c11) (aI c12 (aI c12 (aI c13 (aI c13 (aI c13 (aI (ZbI.snd c14) (aI c13 c15))))))))))))))))))))
          · obtain ⟨x15, c16, h22⟩ := Zan h21; clear h21
            refine iteB h22 (fun c17 h23 => ?_) (fun c17 h24 => ?_) <;> clear h22
            · obtain ⟨x16, c18, h25⟩ := Zan h23; clear h23
              exact aqd fol [.r [], .r [(3, {rs := [.agg [L.arr .u64 4 x1], .one (L.bool x2)], m := 1})], .r [(1, {rs := [.one (L.bool x3)], m := 1}), (6, {yes := false})], .c false, .r [], .r [(3, {rs := [.one (L.int .i64 x4)], m := 1})], .r [(2, {rs := [.agg [L.arr .u64 4 x5], .one (L.int .u64 x6)], m := 1})], .r [(2, {rs := [.agg [L.arr .u64 4 x7], .one (L.bool x8)], m := 1})], .d {ds := [(6, {rs := [.agg [L.arr .u64 4 x9]], m := 1}), (7, {rs := [.agg [L.arr .u64 4 x10], .one (L.bool x11)], m := 1})], hv := 2048, Hs := [2048]}, .r [(4, {rs := [.agg [L.arr .u64 4 x12], .one (L.bool x13)], m := 1})], .r [(3, {yes := false}), (7, {rs := [.one (L.bool x14)], m := 1}), (8, {yes := false})], .c false, .r [(1, {rs := [.one (L.bool x15)], m := 1})], .c true, .r [(0, {rs := [.agg [L.arr .u64 4 x16]], m := 1})], .s 1] [15] [15] (aI (ZaG.snd c1) (aI (ZbJ.snd c2) (aI (not_true (ZaA c3)) (aI (not_true (ZaA c3)) (aI (not_true (ZaA c3)) (aI c4 (aI (Zcm.snd c5) (aI (Zbf.snd c6) (aI (ZaW.snd c7) (aI c8 (aI (ZbY.snd c9) (aI (Zbq.snd c10) (aI (ZaG.snd c11) (aI c12 (aI c12 (aI c13 (aI c13 (aI c13 (aI (ZbI.snd c14) (aI c13 (aI c15 (aI (ZbU.snd c16) (aI c17 (ZbY.snd c18)))))))))))))))))))))))) (ZaY.p1_ok x16 st hE h25)
            · exact aqd fol [.r [], .r [(3, {rs := [.agg [L.arr .u64 4 x1], .one (L.bool x2)], m := 1})], .r [(1, {rs := [.one (L.bool x3)], m := 1}), (6, {yes := false})], .c false, .r [], .r [(3, {rs := [.one (L.int .i64 x4)], m := 1})], .r [(2, {rs := [.agg [L.arr .u64 4 x5], .one (L.int .u64 x6)], m := 1})], .r [(2, {rs := [.agg [L.arr .u64 4 x7], .one (L.bool x8)], m := 1})], .d {ds := [(6, {rs := [.agg [L.arr .u64 4 x9]], m := 1}), (7, {rs := [.agg [L.arr .u64 4 x10], .one (L.bool x11)], m := 1})], hv := 2048, Hs := [2048]}, .r [(4, {rs := [.agg [L.arr .u64 4 x12], .one (L.bool x13)], m := 1})], .r [(3, {yes := false}), (7, {rs := [.one (L.bool x14)], m := 1}), (8, {yes := false})], .c false, .r [(1, {rs := [.one (L.bool x15)], m := 1})], .c false, .s 1] [15] [15] (aI (ZaG.snd c1) (aI (ZbJ.snd c2) (aI (not_true (ZaA c3)) (aI (not_true (ZaA c3)) (aI (not_true (ZaA c3)) (aI c4 (aI (Zcm.snd c5) (aI (Zbf.snd c6) (aI (ZaW.snd c7) (aI c8 (aI (ZbY.snd c9) (aI (Zbq.snd c10) (aI (ZaG.snd c11) (aI c12 (aI c12 (aI c13 (aI c13 (aI c13 (aI (ZbI.snd c14) (aI c13 (aI c15 (aI (ZbU.snd c16) c17)))))))))))))))))))))) (ZaY.p1_ok x10 st hE h24)
noncomputable def Zcc.B : Code := Tryz.f54.body.getD .skip
noncomputable def Zcc.rs (r : Int) : List CV := [.one (L.int .i64 r)]
noncomputable def Zcc (N : Nat) (p_0 : Zac) (at_1 : ZbA) (time_2 : Int) : Option Int :=
 if (decide (at_1.Height ≤ 0)) = true then
  some p_0.Limit
 else
 optE (Zbu N p_0 at_1.Height) fun x1 =>
 if x1 = true then
  optE (ZaY N p_0 at_1.Bits at_1.First at_1.Time) fun x2 =>
  some x2
 else
 if (!p_0.Easy) = true then
  some at_1.Bits
 else
 if (decide ((w64 (time_2 - at_1.Time)) > (w64 (2 * p_0.Spacing)))) = true then
  some p_0.Limit
 else
 some at_1.Hard
theorem Zcc.snd {p_0 : Zac} {at_1 : ZbA} {time_2 : Int} {r : Int} (h : Zcc N p_0 at_1 time_2 = some r) : SndQ Tryz.prog 54 [.agg p_0.ls, .agg at_1.ls, .one (L.int .i64 time_2)] (Zcc.rs r) := fun st =>
 sO Zcc.B Tryz.func54 fun g0 w0 R hE => by
  unfold Zcc at h
  refine iteB h (fun c1 h1 => ?_) (fun c1 h2 => ?_) <;> clear h
  · obtain rfl := Zad h1
    exact af fol hE [.r [], .r [], .c true, .r []] [] 0 [] c1
  · obtain ⟨x1, c2, h3⟩ := Zan h2; clear h2
    refine iteB h3 (fun c3 h4 => ?_) (fun c3 h5 => ?_) <;> clear h3
    · obtain ⟨x2, c4, h6⟩ := Zan h4; clear h4
      obtain rfl := Zad h6
      exact af fol hE [.r [], .r [], .c false, .r [(3, {rs := [.one (L.bool x1)], m := 1})], .c true, .r [(7, {rs := [.one (L.int .i64 x2)], m := 1})]] [] 0 [] (aI c1 (aI (Zbu.snd c2) (aI c3 (ZaY.snd c4))))
    · refine iteB h5 (fun c5 h7 => ?_) (fun c5 h8 => ?_) <;> clear h5
      · obtain rfl := Zad h7
        exact af fol hE [.r [], .r [], .c false, .r [(3, {rs := [.one (L.bool x1)], m := 1})], .c false, .r [], .c true, .r []] [] 0 [] (aI c1 (aI (Zbu.snd c2) (aI c3 c5)))
      · refine iteB h8 (fun c6 h9 => ?_) (fun c6 h10 => ?_) <;> clear h8
        · obtain rfl := Zad h9
          exact af fol hE [.r [], .r [], .c false, .r [(3, {rs := [.one (L.bool x1)], m := 1})], .c false, .r [], .c false, .r [], .c true, .r []] [] 0 [] (aI c1 (aI (Zbu.snd c2) (aI c3 (aI c5 c6))))
        · obtain rfl := Zad h10
          exact af fol hE [.r [], .r [], .c false, .r [(3, {rs := [.one (L.bool x1)], m := 1})], .c false, .r [], .c false, .r [], .c false, .r []] [] 0 [] (aI c1 (aI (Zbu.snd c2) (aI c3 (aI c5 c6))))
noncomputable def ZaT.B : Code := Tryz.f118.body.getD .skip
noncomputable def ZaT.rs (r : (List Int)) : List CV := [.agg [L.arr .u64 4 r]]
noncomputable def ZaT.p1 (N : Nat) (h_0_0 : List Int) (c1_ : (Int × (List Int)) → Option (List Int)) : (Int × (List Int)) → Option (List Int) := fun (v1, out_2) =>
 if (decide (v1 < 32)) = true then
  chk (0 ≤ v1) <|
  chk (0 ≤ (w64 (Int.tdiv v1 8))) <|
  chk ((w64 (Int.tdiv v1 8)) < 4) <|
  chk (0 ≤ (w64 (8 * (Int.tmod v1 8)))) <|
  c1_ (w64 (v1 + 1), List.set out_2 (Int.toNat (w64 (Int.tdiv v1 8))) (bitsOf .or .u64 (List.getD out_2 (Int.toNat (w64 (Int.tdiv v1 8))) 0) (shlOf .u64 (v64 (List.getD h_0_0 (Int.toNat v1) 0)) (w64 (8 * (Int.tmod v1 8))))))
 else
 some out_2
noncomputable def ZaT (N : Nat) (h_0_0 : List Int) : Option (List Int) :=
 loopN (ZaT.p1 N h_0_0) N (0, List.replicate 4 0)
noncomputable def ZaT.p1.S (h_0_0 : List Int) (v1 : Int) (out_2 : List Int) (st : LL) : S := mkS 25 [(2, .one (.adr (.site 2) 0)), (3, .one (.adr (.site 3) 0)), (6, .agg [.l (L.arr .u8 32 h_0_0)]), (7, .one (.l (L.int .i64 v1)))] [(2, .cells [L.arr .u64 4 (List.replicate 4 0)]), (3, .cells [L.arr .u64 4 out_2])] st
theorem ZaT.p1_ok (h_0_0 : List Int) (v1 : Int) (out_2 : List Int) (st : LL) {r : (List Int)} {c1_ : (Int × (List Int)) → Option (List Int)} {J1 : Act → World → Prop} (hE : En Tryz.f118 g0 w0 (ZaT.rs r) st R) (hc1 : ∀ (v1 : Int) (out_2 : List Int), c1_ (v1, out_2) = some r → At g0 w0 (ZaT.p1.S h_0_0 v1 out_2 st) J1) (h : ZaT.p1 N h_0_0 c1_ (v1, out_2) = some r) : At g0 w0 (ZaT.p1.S h_0_0 v1 out_2 st) (XK Tryz.prog R (.c (csub ZaT.B [1, 1, 0, 1, 0, 0]) :: .h J1 :: [.b 0, .c (csub ZaT.B [1, 1, 1])])) := by
 unfold ZaT.p1 at h
 refine iteB h (fun c6 h1 => ?_) (fun c6 h2 => ?_) <;> clear h
 · obtain ⟨c7, c8, c9, c10, h3⟩ := ck4 h1; clear h1
   exact and_ fol [.r [], .c true, .r [], .d {ds := [], hv := 4096, Hs := [4096]}, .r []] [2, 3, 6, 7] [2, 3] (aI c6 (aI c7 (aI (oD c6) (aI (neI 8) (aI c8 (aI c9 (aI (neI 8) (aI c10 (aI c8 c9))))))))) (hc1 (w64 (v1 + 1)) (List.set out_2 (Int.toNat (w64 (Int.tdiv v1 8))) (bitsOf .or .u64 (List.getD out_2 (Int.toNat (w64 (Int.tdiv v1 8))) 0) (shlOf .u64 (v64 (List.getD h_0_0 (Int.toNat v1) 0)) (w64 (8 * (Int.tmod v1 8)))))) h3)
 · obtain rfl := Zad h2
   exact af fol hE [.r [], .c false, .r []] [] 0 [] c6
theorem ZaT.snd {h_0_0 : List Int} {r : (List Int)} (h : ZaT N h_0_0 = some r) : SndQ Tryz.prog 118 [.agg [L.arr .u8 32 h_0_0]] (ZaT.rs r) := fun st =>
 sO ZaT.B Tryz.func118 fun g0 w0 R hE => by
  unfold ZaT at h
  exact aq fol [.r [], .r [], .r []] [2, 3, 6, 7] [2, 3] trivial (At.loop N (At.loopN (fun y : Int × (List Int) => ZaT.p1.S h_0_0 y.1 y.2 st) (fun c J hc y h => ZaT.p1_ok h_0_0 y.1 y.2 st hE (fun v1 out_2 hh => hc (v1, out_2) hh) h) N (0, List.replicate 4 0) h))
noncomputable def ZbK.B : Code := Tryz.f90.body.getD .skip
noncomputable def ZbK.rs (r : Bool) : List CV := [.one (L.bool r)]
noncomputable def ZbK (N : Nat) (h_0_0 target_1_0 : List Int) : Option Bool :=
 optE (ZaT N h_0_0) fun x1 =>
 optE (ZbI N target_1_0 x1) fun x2 =>
 some (!x2)
theorem ZbK.snd {h_0_0 target_1_0 : List Int} {r : Bool} (h : ZbK N h_0_0 target_1_0 = some r) : SndQ Tryz.prog 90 [.agg [L.arr .u8 32 h_0_0], .agg [L.arr .u64 4 target_1_0]] (ZbK.rs r) := fun st =>
 sO ZbK.B Tryz.func90 fun g0 w0 R hE => by
  unfold ZbK at h
  obtain ⟨x1, c1, h1⟩ := Zan h; clear h
  obtain ⟨x2, c2, h2⟩ := Zan h1; clear h1
  obtain rfl := Zad h2
  exact afd fol hE [.r [], .d {ds := [(2, {rs := [.agg [L.arr .u64 4 x1]], m := 1}), (3, {rs := [.one (L.bool x2)], m := 1})], hv := 0, Hs := []}] [] 0 [] (aI (ZaT.snd c1) (ZbI.snd c2))
noncomputable def ZbH.B : Code := Tryz.f55.body.getD .skip
noncomputable def ZbH.rs (r : Int) : List CV := [.one (L.int .i64 r)]
noncomputable def ZbH (N : Nat) (p_0 : Zac) (h_1 : Zae) : Option Int :=
 optE (ZaV N h_1) fun x1 =>
 if (!x1) = true then
  some 1
 else
 optE (ZaG N h_1.Bits p_0.Limit) fun (x2, x3) =>
 if (!x3) = true then
  some 4
 else
 optE (Zcr N h_1) fun x4 =>
 optE (ZbK N x4 x2) fun x5 =>
 if (!x5) = true then
  some 4
 else
 some 0
theorem ZbH.snd {p_0 : Zac} {h_1 : Zae} {r : Int} (h : ZbH N p_0 h_1 = some r) : SndQ Tryz.prog 55 [.agg p_0.ls, .agg h_1.ls] (ZbH.rs r) := fun st =>
 sO ZbH.B Tryz.func55 fun g0 w0 R hE => by
  unfold ZbH at h
  obtain ⟨x1, c1, h1⟩ := Zan h; clear h
  refine iteB h1 (fun c2 h2 => ?_) (fun c2 h3 => ?_) <;> clear h1
  · obtain rfl := Zad h2
    exact af fol hE [.r [], .r [(1, {rs := [.one (L.bool x1)], m := 1})], .c true, .r []] [] 0 [] (aI (ZaV.snd c1) c2)
  · obtain ⟨⟨x2, x3⟩, c3, h4⟩ := Zan h3; clear h3
    refine iteB h4 (fun c4 h5 => ?_) (fun c4 h6 => ?_) <;> clear h4
    · obtain rfl := Zad h5
      exact afd fol hE [.r [], .r [(1, {rs := [.one (L.bool x1)], m := 1})], .c false, .r [(4, {rs := [.agg [L.arr .u64 4 x2], .one (L.bool x3)], m := 1})], .d {ds := [(3, {want := false}), (4, {want := false}), (5, {want := false}), (6, {want := false}), (7, {want := false})], hv := 0, Hs := []}, .c true, .r []] [] 0 [] (aI (ZaV.snd c1) (aI c2 (aI (ZaG.snd c3) (aI (not_false (Zbv c4)) (aI (not_false (Zbv c4)) (aI (not_false (Zbv c4)) (aI (not_false (Zbv c4)) (aI (not_false (Zbv c4)) (aI (not_false (Zbv c4)) (eB true))))))))))
    · obtain ⟨x4, c5, h7⟩ := Zan h6; clear h6
      obtain ⟨x5, c6, h8⟩ := Zan h7; clear h7
      refine iteB h8 (fun c7 h9 => ?_) (fun c7 h10 => ?_) <;> clear h8
      · obtain rfl := Zad h9
        exact afd fol hE [.r [], .r [(1, {rs := [.one (L.bool x1)], m := 1})], .c false, .r [(4, {rs := [.agg [L.arr .u64 4 x2], .one (L.bool x3)], m := 1})], .d {ds := [(4, {rs := [.agg [L.arr .u8 32 x4]], m := 1}), (6, {rs := [.one (L.bool x5)], m := 1}), (8, {yes := false})], hv := 0, Hs := []}, .c true, .r []] [] 0 [] (aI (ZaV.snd c1) (aI c2 (aI (ZaG.snd c3) (aI (not_true (ZaA c4)) (aI (not_true (ZaA c4)) (aI (Zcr.snd c5) (aI (not_true (ZaA c4)) (aI (not_true (ZaA c4)) (aI (ZbK.snd c6) (aI (not_true (ZaA c4)) (aI (not_true (ZaA c4)) c7)))))))))))
      · obtain rfl := Zad h10
        exact afd fol hE [.r [], .r [(1, {rs := [.one (L.bool x1)], m := 1})], .c false, .r [(4, {rs := [.agg [L.arr .u64 4 x2], .one (L.bool x3)], m := 1})], .d {ds := [(4, {rs := [.agg [L.arr .u8 32 x4]], m := 1}), (6, {rs := [.one (L.bool x5)], m := 1}), (8, {yes := false})], hv := 0, Hs := []}, .c false, .r []] [] 0 [] (aI (ZaV.snd c1) (aI c2 (aI (ZaG.snd c3) (aI (not_true (ZaA c4)) (aI (not_true (ZaA c4)) (aI (Zcr.snd c5) (aI (not_true (ZaA c4)) (aI (not_true (ZaA c4)) (aI (ZbK.snd c6) (aI (not_true (ZaA c4)) (aI (not_true (ZaA c4)) c7)))))))))))
noncomputable def ZcE.B : Code := Tryz.f91.body.getD .skip
noncomputable def ZcE.rs (r : Int) : List CV := [.one (L.int .i64 r)]
noncomputable def ZcE (N : Nat) (times_0 : LL) : Option Int :=
 chk (0 ≤ (if (11 : Int) < (len times_0) then 11 else (len times_0))) <|
 chk ((Int.toNat (if (11 : Int) < (len times_0) then 11 else (len times_0))) ≤ (List.length times_0)) <|
 optE (ZaU N (List.take (Int.toNat (if (11 : Int) < (len times_0) then 11 else (len times_0))) (List.drop 0 times_0))) fun x1 =>
 if ((len x1) == 0) = true then
  some 0
 else
 chk (isI x1 = true) <|
 chk (List.length x1 < 4611686018427387904) <|
 chk (0 ≤ (w64 (Int.tdiv (len x1) 2))) <|
 chk ((w64 (Int.tdiv (len x1) 2)) < (len x1)) <|
 getE ((sortR x1)[0 + (Int.toNat (w64 (Int.tdiv (len x1) 2)))]?) ZcN fun x2 =>
 some x2
theorem ZcE.snd {times_0 : LL} {r : Int} (h : ZcE N times_0 = some r) : SndQ Tryz.prog 91 [.one (L.sl 1 times_0)] (ZcE.rs r) := fun st =>
 sO ZcE.B Tryz.func91 fun g0 w0 R hE => by
  unfold ZcE at h
  obtain ⟨c1, c2, h1⟩ := ck2 h; clear h
  obtain ⟨x1, c3, h2⟩ := Zan h1; clear h1
  refine iteB h2 (fun c4 h3 => ?_) (fun c4 h4 => ?_) <;> clear h2
  · obtain rfl := Zad h3
    exact af fol hE [.r [], .r [(5, {rs := [.row true 1 x1], ns := [9], m := 1})], .r [], .c true, .r []] [] 0 [] (aI c1 (aI (Nat.zero_le (Int.toNat (if (11 : Int) < (len times_0) then 11 else (len times_0)))) (aI c2 (aI (ZaU.snd c3) c4))))
  · obtain ⟨c5, c6, c7, c8, h5⟩ := ck4 h4; clear h4
    obtain ⟨x2, c9, h6⟩ := Zcn h5; clear h5
    obtain rfl := Zad h6
    exact af fol hE [.r [], .r [(5, {rs := [.row true 1 x1], ns := [9], m := 1})], .r [], .c false, .r [(1, {m := 7})], .r [(5, {oe := [L.int .i64 x2]})]] [] 0 [] (aI c1 (aI (Nat.zero_le (Int.toNat (if (11 : Int) < (len times_0) then 11 else (len times_0)))) (aI c2 (aI (ZaU.snd c3) (aI c4 (aI z0 (aI (@rfl _ (List.length x1) : (List.length x1) = (List.length x1)) (aI c5 (aI c6 (aI slices_Sort_int.snd (aI (neI 2) (aI c7 (aI c8 c9)))))))))))))
noncomputable def ZbD.B : Code := Tryz.f56.body.getD .skip
noncomputable def ZbD.rs (r : Bool) : List CV := [.one (L.bool r)]
noncomputable def ZbD (N : Nat) (time_0 : Int) (times_1 : LL) : Option Bool :=
 if ((len times_1) == 0) = true then
  some true
 else
 optE (ZcE N times_1) fun x1 =>
 some (decide (time_0 > x1))
theorem ZbD.snd {time_0 : Int} {times_1 : LL} {r : Bool} (h : ZbD N time_0 times_1 = some r) : SndQ Tryz.prog 56 [.one (L.int .i64 time_0), .one (L.sl 1 times_1)] (ZbD.rs r) := fun st =>
 sO ZbD.B Tryz.func56 fun g0 w0 R hE => by
  unfold ZbD at h
  refine iteB h (fun c1 h1 => ?_) (fun c1 h2 => ?_) <;> clear h
  · obtain rfl := Zad h1
    exact af fol hE [.r [], .r [(4, {want := false}), (5, {want := false}), (6, {want := false}), (7, {want := false})]] [] 0 [] (aI c1 (aI c1 (aI c1 (aI c1 c1))))
  · obtain ⟨x1, c2, h3⟩ := Zan h2; clear h2
    obtain rfl := Zad h3
    exact af fol hE [.r [], .r [(6, {rs := [.one (L.int .i64 x1)], m := 1}), (8, {yes := false})]] [] 0 [] (aI c1 (aI c1 (aI c1 (aI (ZcE.snd c2) (aI c1 c1)))))
noncomputable def ZbR.B : Code := Tryz.f57.body.getD .skip
noncomputable def ZbR.rs (r : Bool) : List CV := [.one (L.bool r)]
noncomputable def ZbR (N : Nat) (time_0 now_1 future_2 : Int) : Option Bool :=
 if (decide (future_2 ≥ 0)) = true then
  if (decide (time_0 ≤ now_1)) = true then
   some true
  else
  some (decide ((w64 (time_0 - now_1)) ≤ future_2))
 else
 some false
theorem ZbR.snd {time_0 now_1 future_2 : Int} {r : Bool} (h : ZbR N time_0 now_1 future_2 = some r) : SndQ Tryz.prog 57 [.one (L.int .i64 time_0), .one (L.int .i64 now_1), .one (L.int .i64 future_2)] (ZbR.rs r) := fun st =>
 sO ZbR.B Tryz.func57 fun g0 w0 R hE => by
  unfold ZbR at h
  refine iteB h (fun c1 h1 => ?_) (fun c1 h2 => ?_) <;> clear h
  · refine iteB h1 (fun c2 h3 => ?_) (fun c2 h4 => ?_) <;> clear h1
    · obtain rfl := Zad h3
      exact af fol hE [.r [], .r [(7, {want := false}), (8, {want := false}), (9, {want := false}), (10, {want := false}), (11, {want := false})]] [] 0 [] (aI c1 (aI c1 (aI c1 (aI c1 (aI c2 (aI c2 (aI c2 (aI c2 (aI c2 (aI c1 (aI c2 c1)))))))))))
    · obtain rfl := Zad h4
      exact af fol hE [.r [], .r [(12, {yes := false})]] [] 0 [] (aI c1 (aI c1 (aI c1 (aI c1 (aI c2 (aI c2 (aI c2 (aI c2 (aI c2 (aI c1 (aI c2 c1)))))))))))
  · obtain rfl := Zad h2
    exact af fol hE [.r [], .r [(3, {want := false}), (4, {want := false}), (5, {want := false}), (6, {want := false}), (12, {want := false}), (13, {yes := false})]] [] 0 [] (aI c1 (aI c1 (aI c1 (aI c1 (aI c1 c1)))))
noncomputable def ZaH.B : Code := Tryz.f58.body.getD .skip
noncomputable def ZaH.rs (r : Int) : List CV := [.one (L.int .i64 r)]
noncomputable def ZaH.p2 (N : Nat) (c1_ : (Int × Int) → Option Int) (height_0 least_4 : Int) (gates_1 : LL) (v2 : Int) : Option Int :=
 c1_ (least_4, w64 (v2 + 1))
noncomputable def ZaH.p1 (N : Nat) (height_0 : Int) (gates_1 : LL) (c1_ : (Int × Int) → Option Int) : (Int × Int) → Option Int := fun (least_1, v2) =>
 if (decide (v2 < (len gates_1))) = true then
  chk (0 ≤ v2) <|
  getE (gates_1[Int.toNat v2]?) ZcF fun x3 =>
  if (decide (height_0 ≥ x3.Height)) = true then
   ZaH.p2 N c1_ height_0 (if x3.Version > least_1 then x3.Version else least_1) gates_1 v2
  else
  ZaH.p2 N c1_ height_0 least_1 gates_1 v2
 else
 some least_1
noncomputable def ZaH (N : Nat) (height_0 : Int) (gates_1 : LL) : Option Int :=
 loopN (ZaH.p1 N height_0 gates_1) N ((-2147483648), 0)
noncomputable def ZaH.p2.S (height_0 least_4 : Int) (gates_1 : LL) (v2 : Int) (st : LL) : S := mkS 24 [(0, .one (.l (L.int .i64 height_0))), (5, .one (.l (L.int .i64 least_4))), (8, .one (.l (L.sl 2 gates_1))), (9, .one (.l (L.int .i64 (len gates_1)))), (10, .one (.l (L.int .i64 v2)))] [] st
noncomputable def ZaH.p1.S (height_0 least_1 : Int) (gates_1 : LL) (v2 : Int) (st : LL) : S := mkS 24 [(0, .one (.l (L.int .i64 height_0))), (5, .one (.l (L.int .i64 least_1))), (8, .one (.l (L.sl 2 gates_1))), (9, .one (.l (L.int .i64 (len gates_1)))), (10, .one (.l (L.int .i64 v2)))] [] st
theorem ZaH.p2_ok (height_0 least_4 : Int) (gates_1 : LL) (v2 : Int) (st : LL) {r : Int} {c1_ : (Int × Int) → Option Int} {J1 : Act → World → Prop} (hE : En Tryz.f58 g0 w0 (ZaH.rs r) st R) (hc1 : ∀ (least_1 v2 : Int), c1_ (least_1, v2) = some r → At g0 w0 (ZaH.p1.S height_0 least_1 gates_1 v2 st) J1) (h : ZaH.p2 N c1_ height_0 least_4 gates_1 v2 = some r) : At g0 w0 (ZaH.p2.S height_0 least_4 gates_1 v2 st) (XK Tryz.prog R [.c (csub ZaH.B [1, 1, 0, 1, 0, 0, 1, 1, 1]), .h J1, .b 0, .c (csub ZaH.B [1, 1, 1])]) := by
 unfold ZaH.p2 at h
 exact an fol [.r []] [0, 5, 8, 9, 10] [] trivial (hc1 least_4 (w64 (v2 + 1)) h)
theorem ZaH.p1_ok (height_0 least_1 : Int) (gates_1 : LL) (v2 : Int) (st : LL) {r : Int} {c1_ : (Int × Int) → Option Int} {J1 : Act → World → Prop} (hE : En Tryz.f58 g0 w0 (ZaH.rs r) st R) (hc1 : ∀ (least_1 v2 : Int), c1_ (least_1, v2) = some r → At g0 w0 (ZaH.p1.S height_0 least_1 gates_1 v2 st) J1) (h : ZaH.p1 N height_0 gates_1 c1_ (least_1, v2) = some r) : At g0 w0 (ZaH.p1.S height_0 least_1 gates_1 v2 st) (XK Tryz.prog R (.c (csub ZaH.B [1, 1, 0, 1, 0, 0]) :: .h J1 :: [.b 0, .c (csub ZaH.B [1, 1, 1])])) := by
 unfold ZaH.p1 at h
 refine iteB h (fun c1 h1 => ?_) (fun c1 h2 => ?_) <;> clear h
 · obtain ⟨c2, h3⟩ := ZaM h1; clear h1
   obtain ⟨x3, c3, h4⟩ := ZcP h3; clear h3
   refine iteB h4 (fun c4 h5 => ?_) (fun c4 h6 => ?_) <;> clear h4
   · exact aq fol [.r [], .c true, .r [(1, {oe := x3.ls})], .r [], .c true, .r [], .s 4] [0, 5, 8, 9, 10] [] (aI c1 (aI c2 (aI (oD c1) (aI c3 c4)))) (ZaH.p2_ok height_0 (if x3.Version > least_1 then x3.Version else least_1) gates_1 v2 st hE hc1 h5)
   · exact aq fol [.r [], .c true, .r [(1, {oe := x3.ls})], .r [], .c false, .s 4] [0, 5, 8, 9, 10] [] (aI c1 (aI c2 (aI (oD c1) (aI c3 c4)))) (ZaH.p2_ok height_0 least_1 gates_1 v2 st hE hc1 h6)
 · obtain rfl := Zad h2
   exact af fol hE [.r [], .c false, .r []] [] 0 [] c1
theorem ZaH.snd {height_0 : Int} {gates_1 : LL} {r : Int} (h : ZaH N height_0 gates_1 = some r) : SndQ Tryz.prog 58 [.one (L.int .i64 height_0), .one (L.sl 2 gates_1)] (ZaH.rs r) := fun st =>
 sO ZaH.B Tryz.func58 fun g0 w0 R hE => by
  unfold ZaH at h
  exact aq fol [.r [], .r [], .r []] [0, 5, 8, 9, 10] [] trivial (At.loop N (At.loopN (fun y : Int × Int => ZaH.p1.S height_0 y.1 gates_1 y.2 st) (fun c J hc y h => ZaH.p1_ok height_0 y.1 gates_1 y.2 st hE (fun least_1 v2 hh => hc (least_1, v2) hh) h) N ((-2147483648), 0) h))
noncomputable def Zbe.B : Code := Tryz.f59.body.getD .skip
noncomputable def Zbe.rs (r : Bool) : List CV := [.one (L.bool r)]
noncomputable def Zbe.p1 (N : Nat) (height_0 : Int) (checks_2 : LL) (id_1_0 : List Int) (c1_ : Int → Option Bool) : Int → Option Bool := fun v1 =>
 if (decide (v1 < (len checks_2))) = true then
  chk (0 ≤ v1) <|
  getE (checks_2[Int.toNat v1]?) Zcx fun x2 =>
  if (x2.Height == height_0) = true then
   if (!(x2.Id == id_1_0)) = true then
    some false
   else
   c1_ (w64 (v1 + 1))
  else
  c1_ (w64 (v1 + 1))
 else
 some true
noncomputable def Zbe (N : Nat) (height_0 : Int) (id_1_0 : List Int) (checks_2 : LL) : Option Bool :=
 loopN (Zbe.p1 N height_0 checks_2 id_1_0) N 0
noncomputable def Zbe.p1.S (height_0 : Int) (checks_2 : LL) (v1 : Int) (id_1_0 : List Int) (st : LL) : S := mkS 26 [(0, .one (.l (L.int .i64 height_0))), (4, .one (.adr (.site 4) 0)), (9, .one (.l (L.sl 33 checks_2))), (10, .one (.l (L.int .i64 (len checks_2)))), (11, .one (.l (L.int .i64 v1)))] [(4, .cells [L.arr .u8 32 id_1_0])] st
theorem Zbe.p1_ok (height_0 : Int) (checks_2 : LL) (v1 : Int) (id_1_0 : List Int) (st : LL) {r : Bool} {c1_ : Int → Option Bool} {J1 : Act → World → Prop} (hE : En Tryz.f59 g0 w0 (Zbe.rs r) st R) (hc1 : ∀ (v1 : Int), c1_ v1 = some r → At g0 w0 (Zbe.p1.S height_0 checks_2 v1 id_1_0 st) J1) (h : Zbe.p1 N height_0 checks_2 id_1_0 c1_ v1 = some r) : At g0 w0 (Zbe.p1.S height_0 checks_2 v1 id_1_0 st) (XK Tryz.prog R (.c (csub Zbe.B [1, 0, 1, 0, 0]) :: .h J1 :: [.b 0, .c (csub Zbe.B [1, 1])])) := by
 unfold Zbe.p1 at h
 refine iteB h (fun c1 h1 => ?_) (fun c1 h2 => ?_) <;> clear h
 · obtain ⟨c2, h3⟩ := ZaM h1; clear h1
   obtain ⟨x2, c3, h4⟩ := ZcK h3; clear h3
   refine iteB h4 (fun c4 h5 => ?_) (fun c4 h6 => ?_) <;> clear h4
   · refine iteB h5 (fun c5 h7 => ?_) (fun c5 h8 => ?_) <;> clear h5
     · obtain rfl := Zad h7
       exact af fol hE [.r [], .c true, .r [(1, {oe := x2.ls})], .r [], .c true, .r []] [] 0 [] (aI c1 (aI c2 (aI (oD c1) (aI c3 (aI c4 (aI c4 (aI c4 (aI c4 (aI c4 c5)))))))))
     · exact an fol [.r [], .c true, .r [(1, {oe := x2.ls})], .r [], .c false, .r []] [0, 4, 9, 10, 11] [4] (aI c1 (aI c2 (aI (oD c1) (aI c3 (aI c4 (aI c4 (aI c4 (aI c4 (aI c4 c5))))))))) (hc1 (w64 (v1 + 1)) h8)
   · exact an fol [.r [], .c true, .r [(1, {oe := x2.ls})], .r [(5, {want := false}), (6, {want := false}), (7, {want := false}), (8, {want := false}), (9, {yes := false})], .c false, .r []] [0, 4, 9, 10, 11] [4] (aI c1 (aI c2 (aI (oD c1) (aI c3 (aI c4 (aI c4 (aI c4 (aI c4 (aI c4 (eB false)))))))))) (hc1 (w64 (v1 + 1)) h6)
 · obtain rfl := Zad h2
   exact af fol hE [.r [], .c false, .r []] [] 0 [] c1
theorem Zbe.snd {height_0 : Int} {id_1_0 : List Int} {checks_2 : LL} {r : Bool} (h : Zbe N height_0 id_1_0 checks_2 = some r) : SndQ Tryz.prog 59 [.one (L.int .i64 height_0), .agg [L.arr .u8 32 id_1_0], .one (L.sl 33 checks_2)] (Zbe.rs r) := fun st =>
 sO Zbe.B Tryz.func59 fun g0 w0 R hE => by
  unfold Zbe at h
  exact aq fol [.r [], .r []] [0, 4, 9, 10, 11] [4] trivial (At.loop N (At.loopN (fun y : Int => Zbe.p1.S height_0 checks_2 y id_1_0 st) (fun c J hc y h => Zbe.p1_ok height_0 checks_2 y id_1_0 st hE (fun v1 hh => hc v1 hh) h) N 0 h))
noncomputable def Zcj.B : Code := Tryz.f16.body.getD .skip
noncomputable def Zcj.rs (r : Int) : List CV := [.one (L.int .i64 r)]
noncomputable def Zcj (N : Nat) (p_0 : Zac) (at_1 : Zav) (h_2 : Zae) (now_3 : Int) : Option Int :=
 optE (ZaV N h_2) fun x1 =>
 if (!x1) = true then
  some 1
 else
 if (!(h_2.Prev == at_1.Prev)) = true then
  some 2
 else
 optE (Zcc N p_0 at_1.Point h_2.Time) fun x2 =>
 if (h_2.Bits != x2) = true then
  some 3
 else
 optE (ZbH N p_0 h_2) fun x3 =>
 if (x3 != 0) = true then
  some 4
 else
 optE (ZbD N h_2.Time at_1.Times) fun x4 =>
 if (!x4) = true then
  some 5
 else
 optE (ZbR N h_2.Time now_3 p_0.Future) fun x5 =>
 if (!x5) = true then
  some 6
 else
 optE (ZaH N at_1.Point.Height p_0.Gates) fun x6 =>
 if (decide (h_2.Version < x6)) = true then
  some 7
 else
 optE (Zcr N h_2) fun x7 =>
 optE (Zbe N at_1.Point.Height x7 p_0.Checks) fun x8 =>
 if (!x8) = true then
  some 8
 else
 some 0
theorem Zcj.snd {p_0 : Zac} {at_1 : Zav} {h_2 : Zae} {now_3 : Int} {r : Int} (h : Zcj N p_0 at_1 h_2 now_3 = some r) : SndQ Tryz.prog 16 [.agg p_0.ls, .agg at_1.ls, .agg h_2.ls, .one (L.int .i64 now_3)] (Zcj.rs r) := fun st =>
 sO Zcj.B Tryz.func16 fun g0 w0 R hE => by
  unfold Zcj at h
  obtain ⟨x1, c1, h1⟩ := Zan h; clear h
  refine iteB h1 (fun c2 h2 => ?_) (fun c2 h3 => ?_) <;> clear h1
  · obtain rfl := Zad h2
    exact af fol hE [.r [], .r [(1, {rs := [.one (L.bool x1)], m := 1})], .c true, .r []] [] 0 [] (aI (ZaV.snd c1) c2)
  · refine iteB h3 (fun c3 h4 => ?_) (fun c3 h5 => ?_) <;> clear h3
    · obtain rfl := Zad h4
      exact af fol hE [.r [], .r [(1, {rs := [.one (L.bool x1)], m := 1})], .c false, .r [], .c true, .r []] [] 0 [] (aI (ZaV.snd c1) (aI c2 c3))
    · obtain ⟨x2, c4, h6⟩ := Zan h5; clear h5
      refine iteB h6 (fun c5 h7 => ?_) (fun c5 h8 => ?_) <;> clear h6
      · obtain rfl := Zad h7
        exact afd fol hE [.r [], .r [(1, {rs := [.one (L.bool x1)], m := 1})], .c false, .r [], .c false, .d {ds := [(7, {rs := [.one (L.int .i64 x2)], m := 1})], hv := 0, Hs := []}, .c true, .r []] [] 0 [] (aI (ZaV.snd c1) (aI c2 (aI c3 (aI (Zcc.snd c4) c5))))
      · obtain ⟨x3, c6, h9⟩ := Zan h8; clear h8
        refine iteB h9 (fun c7 h10 => ?_) (fun c7 h11 => ?_) <;> clear h9
        · obtain rfl := Zad h10
          exact afd fol hE [.r [], .r [(1, {rs := [.one (L.bool x1)], m := 1})], .c false, .r [], .c false, .d {ds := [(7, {rs := [.one (L.int .i64 x2)], m := 1})], hv := 0, Hs := []}, .c false, .r [(2, {rs := [.one (L.int .i64 x3)], m := 1})], .c true, .r []] [] 0 [] (aI (ZaV.snd c1) (aI c2 (aI c3 (aI (Zcc.snd c4) (aI c5 (aI (ZbH.snd c6) c7))))))
        · obtain ⟨x4, c8, h12⟩ := Zan h11; clear h11
          refine iteB h12 (fun c9 h13 => ?_) (fun c9 h14 => ?_) <;> clear h12
          · obtain rfl := Zad h13
            exact afd fol hE [.r [], .r [(1, {rs := [.one (L.bool x1)], m := 1})], .c false, .r [], .c false, .d {ds := [(7, {rs := [.one (L.int .i64 x2)], m := 1})], hv := 0, Hs := []}, .c false, .r [(2, {rs := [.one (L.int .i64 x3)], m := 1})], .c false, .r [(4, {rs := [.one (L.bool x4)], m := 1})], .c true, .r []] [] 0 [] (aI (ZaV.snd c1) (aI c2 (aI c3 (aI (Zcc.snd c4) (aI c5 (aI (ZbH.snd c6) (aI c7 (aI (ZbD.snd c8) c9))))))))
          · obtain ⟨x5, c10, h15⟩ := Zan h14; clear h14
            refine iteB h15 (fun c11 h16 => ?_) (fun c11 h17 => ?_) <;> clear h15
            · obtain rfl := Zad h16
              exact afd fol hE [.r [], .r [(1, {rs := [.one (L.bool x1)], m := 1})], .c false, .r [], .c false, .d {ds := [(7, {rs := [.one (L.int .i64 x2)], m := 1})], hv := 0, Hs := []}, .c false, .r [(2, {rs := [.one (L.int .i64 x3)], m := 1})], .c false, .r [(4, {rs := [.one (L.bool x4)], m := 1})], .c false, .r [(5, {rs := [.one (L.bool x5)], m := 1})], .c true, .r []] [] 0 [] (aI (ZaV.snd c1) (aI c2 (aI c3 (aI (Zcc.snd c4) (aI c5 (aI (ZbH.snd c6) (aI c7 (aI (ZbD.snd c8) (aI c9 (aI (ZbR.snd c10) c11))))))))))
            · obtain ⟨x6, c12, h18⟩ := Zan h17; clear h17
              refine iteB h18 (fun c13 h19 => ?_) (fun c13 h20 => ?_) <;> clear h18
              · obtain rfl := Zad h19
                exact afd fol hE [.r [], .r [(1, {rs := [.one (L.bool x1)], m := 1})], .c false, .r [], .c false, .d {ds := [(7, {rs := [.one (L.int .i64 x2)], m := 1})], hv := 0, Hs := []}, .c false, .r [(2, {rs := [.one (L.int .i64 x3)], m := 1})], .c false, .r [(4, {rs := [.one (L.bool x4)], m := 1})], .c false, .r [(5, {rs := [.one (L.bool x5)], m := 1})], .c false, .d {ds := [(7, {rs := [.one (L.int .i64 x6)], m := 1})], hv := 0, Hs := []}, .c true, .r []] [] 0 [] (aI (ZaV.snd c1) (aI c2 (aI c3 (aI (Zcc.snd c4) (aI c5 (aI (ZbH.snd c6) (aI c7 (aI (ZbD.snd c8) (aI c9 (aI (ZbR.snd c10) (aI c11 (aI (ZaH.snd c12) c13))))))))))))
              · obtain ⟨x7, c14, h21⟩ := Zan h20; clear h20
                obtain ⟨x8, c15, h22⟩ := Zan h21; clear h21
                refine iteB h22 (fun c16 h23 => ?_) (fun c16 h24 => ?_) <;> clear h22
                · obtain rfl := Zad h23
                  exact afd fol hE [.r [], .r [(1, {rs := [.one (L.bool x1)], m := 1})], .c false, .r [], .c false, .d {ds := [(7, {rs := [.one (L.int .i64 x2)], m := 1})], hv := 0, Hs := []}, .c false, .r [(2, {rs := [.one (L.int .i64 x3)], m := 1})], .c false, .r [(4, {rs := [.one (L.bool x4)], m := 1})], .c false, .r [(5, {rs := [.one (L.bool x5)], m := 1})], .c false, .d {ds := [(7, {rs := [.one (L.int .i64 x6)], m := 1})], hv := 0, Hs := []}, .c false, .d {ds := [(4, {rs := [.agg [L.arr .u8 32 x7]], m := 1}), (7, {rs := [.one (L.bool x8)], m := 1})], hv := 0, Hs := []}, .c true, .r []] [] 0 [] (aI (ZaV.snd c1) (aI c2 (aI c3 (aI (Zcc.snd c4) (aI c5 (aI (ZbH.snd c6) (aI c7 (aI (ZbD.snd c8) (aI c9 (aI (ZbR.snd c10) (aI c11 (aI (ZaH.snd c12) (aI c13 (aI (Zcr.snd c14) (aI (Zbe.snd c15) c16)))))))))))))))
                · obtain rfl := Zad h24
                  exact afd fol hE [.r [], .r [(1, {rs := [.one (L.bool x1)], m := 1})], .c false, .r [], .c false, .d {ds := [(7, {rs := [.one (L.int .i64 x2)], m := 1})], hv := 0, Hs := []}, .c false, .r [(2, {rs := [.one (L.int .i64 x3)], m := 1})], .c false, .r [(4, {rs := [.one (L.bool x4)], m := 1})], .c false, .r [(5, {rs := [.one (L.bool x5)], m := 1})], .c false, .d {ds := [(7, {rs := [.one (L.int .i64 x6)], m := 1})], hv := 0, Hs := []}, .c false, .d {ds := [(4, {rs := [.agg [L.arr .u8 32 x7]], m := 1}), (7, {rs := [.one (L.bool x8)], m := 1})], hv := 0, Hs := []}, .c false, .r []] [] 0 [] (aI (ZaV.snd c1) (aI c2 (aI c3 (aI (Zcc.snd c4) (aI c5 (aI (ZbH.snd c6) (aI c7 (aI (ZbD.snd c8) (aI c9 (aI (ZbR.snd c10) (aI c11 (aI (ZaH.snd c12) (aI c13 (aI (Zcr.snd c14) (aI (Zbe.snd c15) c16)))))))))))))))
noncomputable def ZbQ.B : Code := Tryz.f13.body.getD .skip
noncomputable def ZbQ.rs (r : Bool) : List CV := [.one (L.bool r)]
noncomputable def ZbQ (N : Nat) : Option Bool :=
 optE (Zbj N (Zac.mk 545259519 4 10 0 false [] [] (List.replicate 4 0) (List.replicate 4 0) (Zae.mk 0 (List.replicate 32 0) (List.replicate 32 0) 0 0 0))) fun x1 =>
 if x1 = true then
  optE (ZcC N (Zac.mk 545259519 4 10 0 false [] [] (List.replicate 4 0) (List.replicate 4 0) (Zae.mk 0 (List.replicate 32 0) (List.replicate 32 0) 0 0 0))) fun x2 =>
  optE (Zcj N (Zac.mk 545259519 4 10 0 false [] [] (List.replicate 4 0) (List.replicate 4 0) (Zae.mk 0 (List.replicate 32 0) (List.replicate 32 0) 0 0 0)) x2 (Zae.mk 0 (List.replicate 32 0) (List.replicate 32 0) 5 545259519 0) 9) fun x3 =>
  some (x3 == 2)
 else
 some false
theorem ZbQ.snd {r : Bool} (h : ZbQ N = some r) : SndQ Tryz.prog 13 [] (ZbQ.rs r) := fun st =>
 sO ZbQ.B Tryz.func13 fun g0 w0 R hE => by
  unfold ZbQ at h
  obtain ⟨x1, c1, h1⟩ := Zan h; clear h
  refine iteB h1 (fun c2 h2 => ?_) (fun c2 h3 => ?_) <;> clear h1
  · obtain ⟨x2, c3, h4⟩ := Zan h2; clear h2
    obtain ⟨x3, c4, h5⟩ := Zan h4; clear h4
    obtain rfl := Zad h5
    exact afd fol hE [.r [], .r [], .r [], .d {ds := [(1, {rs := [.one (L.bool x1)], m := 1}), (5, {rs := [.agg x2.ls], m := 1}), (7, {rs := [.one (L.int .i64 x3)], m := 1})], hv := 0, Hs := []}] [] 0 [] (aI (Zbj.snd c1) (aI c2 (aI c2 (aI c2 (aI (ZcC.snd c3) (aI c2 (aI c2 (aI (Zcj.snd c4) (aI c2 c2)))))))))
  · obtain rfl := Zad h3
    exact afd fol hE [.r [], .r [], .r [], .d {ds := [(1, {rs := [.one (L.bool x1)], m := 1}), (3, {want := false}), (4, {want := false}), (5, {want := false}), (6, {want := false}), (7, {want := false}), (8, {want := false}), (9, {yes := false})], hv := 0, Hs := []}] [] 0 [] (aI (Zbj.snd c1) (aI c2 (aI c2 (aI c2 (aI c2 (aI c2 (aI c2 c2)))))))
noncomputable def ZbP.B : Code := Tryz.f14.body.getD .skip
noncomputable def ZbP.rs (r : Bool) : List CV := [.one (L.bool r)]
noncomputable def ZbP (N : Nat) (p_0 : Zac) (chain_1 : LL) : Option Bool :=
 if (decide ((len p_0.Gates) > 20)) = true then
  some true
 else
 if (decide ((len p_0.Checks) > 20)) = true then
  some true
 else
 some (decide ((len chain_1) > 40))
theorem ZbP.snd {p_0 : Zac} {chain_1 : LL} {r : Bool} (h : ZbP N p_0 chain_1 = some r) : SndQ Tryz.prog 14 [.agg p_0.ls, .one (L.sl 68 chain_1)] (ZbP.rs r) := fun st =>
 sO ZbP.B Tryz.func14 fun g0 w0 R hE => by
  unfold ZbP at h
  refine iteB h (fun c1 h1 => ?_) (fun c1 h2 => ?_) <;> clear h
  · obtain rfl := Zad h1
    exact af fol hE [.r [], .r [(5, {want := false}), (6, {want := false}), (7, {want := false}), (8, {want := false}), (11, {want := false}), (12, {want := false}), (13, {want := false})]] [] 0 [] (aI c1 (aI c1 (aI c1 (aI c1 (aI c1 (aI (eB true) (aI (eB true) (aI (eB true) (eB true)))))))))
  · refine iteB h2 (fun c2 h3 => ?_) (fun c2 h4 => ?_) <;> clear h2
    · obtain rfl := Zad h3
      exact af fol hE [.r [], .r [(9, {yes := false}), (11, {want := false}), (12, {want := false}), (13, {want := false})]] [] 0 [] (aI c1 (aI c1 (aI c1 (aI c1 (aI c1 (aI c2 (aI c2 (aI c2 c2))))))))
    · obtain rfl := Zad h4
      exact af fol hE [.r [], .r [(9, {yes := false}), (14, {yes := false})]] [] 0 [] (aI c1 (aI c1 (aI c1 (aI c1 (aI c1 (aI c2 (aI c2 (aI c2 c2))))))))
noncomputable def Zbx.B : Code := Tryz.f15.body.getD .skip
noncomputable def Zbx.rs (r : Bool) : List CV := [.one (L.bool r)]
noncomputable def Zbx (N : Nat) (h_0 : Zae) : Option Bool :=
 if (decide (h_0.Version ≥ (-2147483648))) = true then
  if (decide (h_0.Version ≤ 2147483647)) = true then
   if (decide (h_0.Time ≥ 0)) = true then
    if (decide (h_0.Time < 4294967296)) = true then
     if (decide (h_0.Bits ≥ 0)) = true then
      if (decide (h_0.Bits < 4294967296)) = true then
       if (decide (h_0.Nonce ≥ 0)) = true then
        some (decide (h_0.Nonce < 4294967296))
       else
       some false
      else
      some false
     else
     some false
    else
    some false
   else
   some false
  else
  some false
 else
 some false
theorem Zbx.snd {h_0 : Zae} {r : Bool} (h : Zbx N h_0 = some r) : SndQ Tryz.prog 15 [.agg h_0.ls] (Zbx.rs r) := fun st =>
 sO Zbx.B Tryz.func15 fun g0 w0 R hE => by
  unfold Zbx at h
  refine iteB h (fun c1 h1 => ?_) (fun c1 h2 => ?_) <;> clear h
  · refine iteB h1 (fun c2 h3 => ?_) (fun c2 h4 => ?_) <;> clear h1
    · refine iteB h3 (fun c3 h5 => ?_) (fun c3 h6 => ?_) <;> clear h3
      · refine iteB h5 (fun c4 h7 => ?_) (fun c4 h8 => ?_) <;> clear h5
        · refine iteB h7 (fun c5 h9 => ?_) (fun c5 h10 => ?_) <;> clear h7
          · refine iteB h9 (fun c6 h11 => ?_) (fun c6 h12 => ?_) <;> clear h9
            · refine iteB h11 (fun c7 h13 => ?_) (fun c7 h14 => ?_) <;> clear h11
              · obtain rfl := Zad h13
                exact af fol hE [.r [], .r [], .r []] [] 0 [] (aI c1 (aI c1 (aI c1 (aI c1 (aI c2 (aI c2 (aI c2 (aI c2 (aI c3 (aI c3 (aI c3 (aI c3 (aI c3 (aI c4 (aI c4 (aI c4 (aI c4 (aI c5 (aI c5 (aI c5 (aI c5 (aI c5 (aI c6 (aI c6 (aI c6 (aI c6 (aI c7 (aI c7 (aI c7 (aI c7 c7))))))))))))))))))))))))))))))
              · obtain rfl := Zad h14
                exact af fol hE [.r [], .r [], .r [(36, {want := false}), (37, {want := false}), (38, {want := false}), (39, {want := false}), (40, {yes := false})]] [] 0 [] (aI c1 (aI c1 (aI c1 (aI c1 (aI c2 (aI c2 (aI c2 (aI c2 (aI c3 (aI c3 (aI c3 (aI c3 (aI c3 (aI c4 (aI c4 (aI c4 (aI c4 (aI c5 (aI c5 (aI c5 (aI c5 (aI c5 (aI c6 (aI c6 (aI c6 (aI c6 (aI c7 (aI c7 (aI c7 (aI c7 c7))))))))))))))))))))))))))))))
            · obtain rfl := Zad h12
              exact af fol hE [.r [], .r [], .r [(31, {want := false}), (32, {want := false}), (33, {want := false}), (34, {yes := false}), (36, {want := false}), (37, {want := false}), (38, {want := false}), (39, {want := false}), (40, {yes := false})]] [] 0 [] (aI c1 (aI c1 (aI c1 (aI c1 (aI c2 (aI c2 (aI c2 (aI c2 (aI c3 (aI c3 (aI c3 (aI c3 (aI c3 (aI c4 (aI c4 (aI c4 (aI c4 (aI c5 (aI c5 (aI c5 (aI c5 (aI c5 (aI c6 (aI c6 (aI c6 (aI c6 (aI (eB false) (aI (eB false) (aI (eB false) (aI (eB false) (eB false)))))))))))))))))))))))))))))))
          · obtain rfl := Zad h10
            exact af fol hE [.r [], .r [], .r [(25, {want := false}), (26, {want := false}), (27, {want := false}), (28, {want := false}), (29, {yes := false}), (31, {want := false}), (32, {want := false}), (33, {want := false}), (34, {yes := false}), (36, {want := false}), (37, {want := false}), (38, {want := false}), (39, {want := false}), (40, {yes := false})]] [] 0 [] (aI c1 (aI c1 (aI c1 (aI c1 (aI c2 (aI c2 (aI c2 (aI c2 (aI c3 (aI c3 (aI c3 (aI c3 (aI c3 (aI c4 (aI c4 (aI c4 (aI c4 (aI c5 (aI c5 (aI c5 (aI c5 (aI c5 (aI (eB false) (aI (eB false) (aI (eB false) (aI (eB false) (aI (eB false) (aI (eB false) (aI (eB false) (aI (eB false) (eB false)))))))))))))))))))))))))))))))
        · obtain rfl := Zad h8
          exact af fol hE [.r [], .r [], .r [(20, {want := false}), (21, {want := false}), (22, {want := false}), (23, {yes := false}), (25, {want := false}), (26, {want := false}), (27, {want := false}), (28, {want := false}), (29, {yes := false}), (31, {want := false}), (32, {want := false}), (33, {want := false}), (34, {yes := false}), (36, {want := false}), (37, {want := false}), (38, {want := false}), (39, {want := false}), (40, {yes := false})]] [] 0 [] (aI c1 (aI c1 (aI c1 (aI c1 (aI c2 (aI c2 (aI c2 (aI c2 (aI c3 (aI c3 (aI c3 (aI c3 (aI c3 (aI c4 (aI c4 (aI c4 (aI c4 (aI (eB false) (aI (eB false) (aI (eB false) (aI (eB false) (aI (eB false) (aI (eB false) (aI (eB false) (aI (eB false) (aI (eB false) (aI (eB false) (aI (eB false) (aI (eB false) (aI (eB false) (eB false)))))))))))))))))))))))))))))))
      · obtain rfl := Zad h6
        exact af fol hE [.r [], .r [], .r [(14, {want := false}), (15, {want := false}), (16, {want := false}), (17, {want := false}), (18, {yes := false}), (20, {want := false}), (21, {want := false}), (22, {want := false}), (23, {yes := false}), (25, {want := false}), (26, {want := false}), (27, {want := false}), (28, {want := false}), (29, {yes := false}), (31, {want := false}), (32, {want := false}), (33, {want := false}), (34, {yes := false}), (36, {want := false}), (37, {want := false}), (38, {want := false}), (39, {want := false}), (40, {yes := false})]] [] 0 [] (aI c1 (aI c1 (aI c1 (aI c1 (aI c2 (aI c2 (aI c2 (aI c2 (aI c3 (aI c3 (aI c3 (aI c3 (aI c3 (aI (eB false) (aI (eB false) (aI (eB false) (aI (eB false) (aI (eB false) (aI (eB false) (aI (eB false) (aI (eB false) (aI (eB false) (aI (eB false) (aI (eB false) (aI (eB false) (aI (eB false) (aI (eB false) (aI (eB false) (aI (eB false) (aI (eB false) (eB false)))))))))))))))))))))))))))))))
    · obtain rfl := Zad h4
      exact af fol hE [.r [], .r [], .r [(9, {want := false}), (10, {want := false}), (11, {want := false}), (12, {yes := false}), (14, {want := false}), (15, {want := false}), (16, {want := false}), (17, {want := false}), (18, {yes := false}), (20, {want := false}), (21, {want := false}), (22, {want := false}), (23, {yes := false}), (25, {want := false}), (26, {want := false}), (27, {want := false}), (28, {want := false}), (29, {yes := false}), (31, {want := false}), (32, {want := false}), (33, {want := false}), (34, {yes := false}), (36, {want := false}), (37, {want := false}), (38, {want := false}), (39, {want := false}), (40, {yes := false})]] [] 0 [] (aI c1 (aI c1 (aI c1 (aI c1 (aI c2 (aI c2 (aI c2 (aI c2 (aI (eB false) (aI (eB false) (aI (eB false) (aI (eB false) (aI (eB false) (aI (eB false) (aI (eB false) (aI (eB false) (aI (eB false) (aI (eB false) (aI (eB false) (aI (eB false) (aI (eB false) (aI (eB false) (aI (eB false) (aI (eB false) (aI (eB false) (aI (eB false) (aI (eB false) (aI (eB false) (aI (eB false) (aI (eB false) (eB false)))))))))))))))))))))))))))))))
  · obtain rfl := Zad h2
    exact af fol hE [.r [], .r [], .r [(4, {want := false}), (5, {want := false}), (6, {want := false}), (7, {yes := false}), (9, {want := false}), (10, {want := false}), (11, {want := false}), (12, {yes := false}), (14, {want := false}), (15, {want := false}), (16, {want := false}), (17, {want := false}), (18, {yes := false}), (20, {want := false}), (21, {want := false}), (22, {want := false}), (23, {yes := false}), (25, {want := false}), (26, {want := false}), (27, {want := false}), (28, {want := false}), (29, {yes := false}), (31, {want := false}), (32, {want := false}), (33, {want := false}), (34, {yes := false}), (36, {want := false}), (37, {want := false}), (38, {want := false}), (39, {want := false}), (40, {yes := false})]] [] 0 [] (aI c1 (aI c1 (aI c1 (aI c1 (aI (eB false) (aI (eB false) (aI (eB false) (aI (eB false) (aI (eB false) (aI (eB false) (aI (eB false) (aI (eB false) (aI (eB false) (aI (eB false) (aI (eB false) (aI (eB false) (aI (eB false) (aI (eB false) (aI (eB false) (aI (eB false) (aI (eB false) (aI (eB false) (aI (eB false) (aI (eB false) (aI (eB false) (aI (eB false) (aI (eB false) (aI (eB false) (aI (eB false) (aI (eB false) (eB false)))))))))))))))))))))))))))))))
noncomputable def Zbo.B : Code := Tryz.f17.body.getD .skip
noncomputable def Zbo.rs (r : Zav) : List CV := [.agg r.ls]
noncomputable def Zbo.p1 (N : Nat) (chain_1 : LL) (p_0 : Zac) (c1_ : (Int × Zav) → Option Zav) : (Int × Zav) → Option Zav := fun (v2, at_5) =>
 if (decide (v2 < (len chain_1))) = true then
  chk (0 ≤ v2) <|
  getE (chain_1[Int.toNat v2]?) ZbZ fun x6 =>
  optE (Zcb N p_0 at_5 x6) fun x7 =>
  c1_ (w64 (v2 + 1), x7)
 else
 some at_5
noncomputable def Zbo (N : Nat) (p_0 : Zac) (chain_1 : LL) : Option Zav :=
 optE (ZcC N p_0) fun x1 =>
 loopN (Zbo.p1 N chain_1 p_0) N (0, x1)
noncomputable def Zbo.p1.S (chain_1 : LL) (v2 : Int) (p_0 : Zac) (at_5 : Zav) (st : LL) : S := mkS 22 [(2, .one (.adr (.site 2) 0)), (4, .one (.adr (.site 4) 0)), (5, .one (.adr (.site 5) 0)), (10, .one (.l (L.sl 68 chain_1))), (11, .one (.l (L.int .i64 (len chain_1)))), (12, .one (.l (L.int .i64 v2)))] [(2, .cells p_0.ls), (4, .cells [L.int .i64 0, L.int .i64 0, L.int .i64 0, L.int .i64 0, L.int .i64 0, L.arr .u8 32 (List.replicate 32 0), L.own true 1 []]), (5, .cells at_5.ls)] st
theorem Zbo.p1_ok (chain_1 : LL) (v2 : Int) (p_0 : Zac) (at_5 : Zav) (st : LL) {r : Zav} {c1_ : (Int × Zav) → Option Zav} {J1 : Act → World → Prop} (hE : En Tryz.f17 g0 w0 (Zbo.rs r) st R) (hc1 : ∀ (v2 : Int) (at_5 : Zav), c1_ (v2, at_5) = some r → At g0 w0 (Zbo.p1.S chain_1 v2 p_0 at_5 st) J1) (h : Zbo.p1 N chain_1 p_0 c1_ (v2, at_5) = some r) : At g0 w0 (Zbo.p1.S chain_1 v2 p_0 at_5 st) (XK Tryz.prog R (.c (csub Zbo.B [1, 1, 0, 1, 0, 0]) :: .h J1 :: [.b 0, .c (csub Zbo.B [1, 1, 1])])) := by
 unfold Zbo.p1 at h
 refine iteB h (fun c6 h1 => ?_) (fun c6 h2 => ?_) <;> clear h
 · obtain ⟨c7, h3⟩ := ZaM h1; clear h1
   obtain ⟨x6, c8, h4⟩ := Zcf h3; clear h3
   obtain ⟨x7, c9, h5⟩ := Zan h4; clear h4
   exact an fol [.r [], .c true, .r [(1, {oe := x6.ls})], .r [(3, {rs := [.agg x7.ls], m := 1})], .r []] [2, 4, 5, 10, 11, 12] [2, 4, 5] (aI c6 (aI c7 (aI (oD c6) (aI c8 (Zcb.snd c9))))) (hc1 (w64 (v2 + 1)) x7 h5)
 · obtain rfl := Zad h2
   exact af fol hE [.r [], .c false, .r []] [] 0 [] c6
theorem Zbo.snd {p_0 : Zac} {chain_1 : LL} {r : Zav} (h : Zbo N p_0 chain_1 = some r) : SndQ Tryz.prog 17 [.agg p_0.ls, .one (L.sl 68 chain_1)] (Zbo.rs r) := fun st =>
 sO Zbo.B Tryz.func17 fun g0 w0 R hE => by
  unfold Zbo at h
  obtain ⟨x1, c1, h6⟩ := Zan h; clear h
  exact aq fol [.r [], .r [(1, {rs := [.agg x1.ls], m := 1})], .r []] [2, 4, 5, 10, 11, 12] [2, 4, 5] (ZcC.snd c1) (At.loop N (At.loopN (fun y : Int × Zav => Zbo.p1.S chain_1 y.1 p_0 y.2 st) (fun c J hc y h => Zbo.p1_ok chain_1 y.1 p_0 y.2 st hE (fun v2 at_5 hh => hc (v2, at_5) hh) h) N (0, x1) h6))
noncomputable def ZaP.B : Code := Tryz.f107.body.getD .skip
noncomputable def ZaP.rs (r : ByteArray) : List CV := [.one (L.str r)]
noncomputable def ZaP.p1 (N : Nat) (size_0 : Int) (c1_ : (Int × ByteArray × Int) → Option ByteArray) : (Int × ByteArray × Int) → Option ByteArray := fun (u_1, s_3, i_2) =>
 if (decide (i_2 < (if (8 : Int) < (if (1 : Int) > size_0 then 1 else size_0) then 8 else (if (1 : Int) > size_0 then 1 else size_0)))) = true then
  chk (isB [[L.int .u8 (v8 (Int.tmod u_1 256))]] = true) <|
  chk (ByteArray.size s_3 + ByteArray.size (istr (List.map leafI [[L.int .u8 (v8 (Int.tmod u_1 256))]])) ≤ 9223372036854775807) <|
  c1_ (v64 (Int.tdiv u_1 256), s_3 ++ (istr (List.map leafI [[L.int .u8 (v8 (Int.tmod u_1 256))]])), w64 (i_2 + 1))
 else
 some s_3
noncomputable def ZaP (N : Nat) (size_0 n_1 : Int) : Option ByteArray :=
 loopN (ZaP.p1 N size_0) N (v64 (n_1), (ByteArray.mk #[]), 0)
noncomputable def ZaP.p1.S (size_0 u_1 : Int) (s_3 : ByteArray) (i_2 : Int) (st : LL) : S := mkS 27 [(0, .one (.l (L.int .i64 size_0))), (5, .one (.l (L.int .u64 u_1))), (6, .one (.l (L.str s_3))), (7, .one (.l (L.int .i64 i_2)))] [] st
theorem ZaP.p1_ok (size_0 u_1 : Int) (s_3 : ByteArray) (i_2 : Int) (st : LL) {r : ByteArray} {c1_ : (Int × ByteArray × Int) → Option ByteArray} {J1 : Act → World → Prop} (hE : En Tryz.f107 g0 w0 (ZaP.rs r) st R) (hc1 : ∀ (u_1 : Int) (s_3 : ByteArray) (i_2 : Int), c1_ (u_1, s_3, i_2) = some r → At g0 w0 (ZaP.p1.S size_0 u_1 s_3 i_2 st) J1) (h : ZaP.p1 N size_0 c1_ (u_1, s_3, i_2) = some r) : At g0 w0 (ZaP.p1.S size_0 u_1 s_3 i_2 st) (XK Tryz.prog R (.c (csub ZaP.B [1, 1, 1, 0, 1, 0, 0]) :: .h J1 :: [.b 0, .c (csub ZaP.B [1, 1, 1, 1])])) := by
 unfold ZaP.p1 at h
 refine iteB h (fun c4 h1 => ?_) (fun c4 h2 => ?_) <;> clear h
 · obtain ⟨c5, c6, h3⟩ := ck2 h1; clear h1
   exact an fol [.r [], .c true, .r [], .r [], .r []] [0, 5, 6, 7] [] (aI c4 (aI (neI 256) (aI z0 (aI (eN (1)) (aI c5 (aI c6 (neI 256))))))) (hc1 (v64 (Int.tdiv u_1 256)) (s_3 ++ (istr (List.map leafI [[L.int .u8 (v8 (Int.tmod u_1 256))]]))) (w64 (i_2 + 1)) h3)
 · obtain rfl := Zad h2
   exact af fol hE [.r [], .c false, .r []] [] 0 [] c4
theorem ZaP.snd {size_0 n_1 : Int} {r : ByteArray} (h : ZaP N size_0 n_1 = some r) : SndQ Tryz.prog 107 [.one (L.int .i64 size_0), .one (L.int .i64 n_1)] (ZaP.rs r) := fun st =>
 sO ZaP.B Tryz.func107 fun g0 w0 R hE => by
  unfold ZaP at h
  exact aq fol [.r [], .r [], .r [], .r []] [0, 5, 6, 7] [] trivial (At.loop N (At.loopN (fun y : Int × ByteArray × Int => ZaP.p1.S size_0 y.1 y.2.1 y.2.2 st) (fun c J hc y h => ZaP.p1_ok size_0 y.1 y.2.1 y.2.2 st hE (fun u_1 s_3 i_2 hh => hc (u_1, s_3, i_2) hh) h) N (v64 (n_1), (ByteArray.mk #[]), 0) h))
noncomputable def Zbi.B : Code := Tryz.f108.body.getD .skip
noncomputable def Zbi.rs (r : ByteArray) : List CV := [.one (L.str r)]
noncomputable def Zbi.p1 (N : Nat) (h_0_0 : List Int) (c1_ : (ByteArray × Int) → Option ByteArray) : (ByteArray × Int) → Option ByteArray := fun (s_2, i_1) =>
 if (decide (i_1 < 32)) = true then
  chk (0 ≤ i_1) <|
  chk (isB [[L.int .u8 (List.getD h_0_0 (Int.toNat i_1) 0)]] = true) <|
  chk (ByteArray.size s_2 + ByteArray.size (istr (List.map leafI [[L.int .u8 (List.getD h_0_0 (Int.toNat i_1) 0)]])) ≤ 9223372036854775807) <|
  c1_ (s_2 ++ (istr (List.map leafI [[L.int .u8 (List.getD h_0_0 (Int.toNat i_1) 0)]])), w64 (i_1 + 1))
 else
 some s_2
noncomputable def Zbi (N : Nat) (h_0_0 : List Int) : Option ByteArray :=
 loopN (Zbi.p1 N h_0_0) N ((ByteArray.mk #[]), 0)
noncomputable def Zbi.p1.S (s_2 : ByteArray) (i_1 : Int) (h_0_0 : List Int) (st : LL) : S := mkS 17 [(1, .one (.adr (.site 1) 0)), (3, .one (.l (L.str s_2))), (4, .one (.l (L.int .i64 i_1)))] [(1, .cells [L.arr .u8 32 h_0_0])] st
theorem Zbi.p1_ok (s_2 : ByteArray) (i_1 : Int) (h_0_0 : List Int) (st : LL) {r : ByteArray} {c1_ : (ByteArray × Int) → Option ByteArray} {J1 : Act → World → Prop} (hE : En Tryz.f108 g0 w0 (Zbi.rs r) st R) (hc1 : ∀ (s_2 : ByteArray) (i_1 : Int), c1_ (s_2, i_1) = some r → At g0 w0 (Zbi.p1.S s_2 i_1 h_0_0 st) J1) (h : Zbi.p1 N h_0_0 c1_ (s_2, i_1) = some r) : At g0 w0 (Zbi.p1.S s_2 i_1 h_0_0 st) (XK Tryz.prog R (.c (csub Zbi.B [1, 1, 0, 1, 0, 0]) :: .h J1 :: [.b 0, .c (csub Zbi.B [1, 1, 1])])) := by
 unfold Zbi.p1 at h
 refine iteB h (fun c5 h1 => ?_) (fun c5 h2 => ?_) <;> clear h
 · obtain ⟨c6, c7, c8, h3⟩ := ck3 h1; clear h1
   exact an fol [.r [], .c true, .r [], .r []] [1, 3, 4] [1] (aI c5 (aI c6 (aI (oD c5) (aI z0 (aI (eN (1)) (aI c7 c8)))))) (hc1 (s_2 ++ (istr (List.map leafI [[L.int .u8 (List.getD h_0_0 (Int.toNat i_1) 0)]]))) (w64 (i_1 + 1)) h3)
 · obtain rfl := Zad h2
   exact af fol hE [.r [], .c false, .r []] [] 0 [] c5
theorem Zbi.snd {h_0_0 : List Int} {r : ByteArray} (h : Zbi N h_0_0 = some r) : SndQ Tryz.prog 108 [.agg [L.arr .u8 32 h_0_0]] (Zbi.rs r) := fun st =>
 sO Zbi.B Tryz.func108 fun g0 w0 R hE => by
  unfold Zbi at h
  exact aq fol [.r [], .r [], .r []] [1, 3, 4] [1] trivial (At.loop N (At.loopN (fun y : ByteArray × Int => Zbi.p1.S y.1 y.2 h_0_0 st) (fun c J hc y h => Zbi.p1_ok y.1 y.2 h_0_0 st hE (fun s_2 i_1 hh => hc (s_2, i_1) hh) h) N ((ByteArray.mk #[]), 0) h))
noncomputable def Zce.B : Code := Tryz.f84.body.getD .skip
noncomputable def Zce.rs (r : ByteArray) : List CV := [.one (L.str r)]
noncomputable def Zce (N : Nat) (h_0 : Zae) : Option ByteArray :=
 optE (ZaP N 4 h_0.Version) fun x1 =>
 optE (Zbi N h_0.Prev) fun x2 =>
 chk (ByteArray.size x1 + ByteArray.size x2 ≤ 9223372036854775807) <|
 optE (Zbi N h_0.Root) fun x3 =>
 chk (ByteArray.size (x1 ++ x2) + ByteArray.size x3 ≤ 9223372036854775807) <|
 optE (ZaP N 4 h_0.Time) fun x4 =>
 chk (ByteArray.size ((x1 ++ x2) ++ x3) + ByteArray.size x4 ≤ 9223372036854775807) <|
 optE (ZaP N 4 h_0.Bits) fun x5 =>
 chk (ByteArray.size (((x1 ++ x2) ++ x3) ++ x4) + ByteArray.size x5 ≤ 9223372036854775807) <|
 optE (ZaP N 4 h_0.Nonce) fun x6 =>
 chk (ByteArray.size ((((x1 ++ x2) ++ x3) ++ x4) ++ x5) + ByteArray.size x6 ≤ 9223372036854775807) <|
 some (((((x1 ++ x2) ++ x3) ++ x4) ++ x5) ++ x6)
theorem Zce.snd {h_0 : Zae} {r : ByteArray} (h : Zce N h_0 = some r) : SndQ Tryz.prog 84 [.agg h_0.ls] (Zce.rs r) := fun st =>
 sO Zce.B Tryz.func84 fun g0 w0 R hE => by
  unfold Zce at h
  obtain ⟨x1, c1, h1⟩ := Zan h; clear h
  obtain ⟨x2, c2, h2⟩ := Zan h1; clear h1
  obtain ⟨c3, h3⟩ := ZaM h2; clear h2
  obtain ⟨x3, c4, h4⟩ := Zan h3; clear h3
  obtain ⟨c5, h5⟩ := ZaM h4; clear h4
  obtain ⟨x4, c6, h6⟩ := Zan h5; clear h5
  obtain ⟨c7, h7⟩ := ZaM h6; clear h6
  obtain ⟨x5, c8, h8⟩ := Zan h7; clear h7
  obtain ⟨c9, h9⟩ := ZaM h8; clear h8
  obtain ⟨x6, c10, h10⟩ := Zan h9; clear h9
  obtain ⟨c11, h11⟩ := ZaM h10; clear h10
  obtain rfl := Zad h11
  exact afd fol hE [.r [], .d {ds := [(2, {rs := [.one (L.str x1)], m := 1}), (5, {rs := [.one (L.str x2)], m := 1}), (9, {rs := [.one (L.str x3)], m := 1})], hv := 0, Hs := []}, .d {ds := [(3, {rs := [.one (L.str x4)], m := 1}), (7, {rs := [.one (L.str x5)], m := 1}), (11, {rs := [.one (L.str x6)], m := 1})], hv := 0, Hs := []}] [] 0 [] (aI (ZaP.snd c1) (aI (Zbi.snd c2) (aI c3 (aI (Zbi.snd c4) (aI c5 (aI (ZaP.snd c6) (aI c7 (aI (ZaP.snd c8) (aI c9 (aI (ZaP.snd c10) c11))))))))))
noncomputable def ZaF.B : Code := Tryz.f132.body.getD .skip
noncomputable def ZaF.rs (r : ByteArray) : List CV := [.one (L.str r)]
noncomputable def ZaF.p2 (N : Nat) (s_4 : ByteArray) (c2_ : (Int × ByteArray × Int) → Option ByteArray) : (Int × ByteArray × Int) → Option ByteArray := fun (n_5, tail_7, i_6) =>
 if (decide (i_6 < 8)) = true then
  chk (isB [[L.int .u8 (v8 (Int.tmod n_5 256))]] = true) <|
  chk (ByteArray.size (istr (List.map leafI [[L.int .u8 (v8 (Int.tmod n_5 256))]])) + ByteArray.size tail_7 ≤ 9223372036854775807) <|
  c2_ (w64 (Int.tdiv n_5 256), (istr (List.map leafI [[L.int .u8 (v8 (Int.tmod n_5 256))]])) ++ tail_7, w64 (i_6 + 1))
 else
 chk (ByteArray.size s_4 + ByteArray.size tail_7 ≤ 9223372036854775807) <|
 some (s_4 ++ tail_7)
noncomputable def ZaF.p1 (N : Nat) (s_0 : ByteArray) (c1_ : ByteArray → Option ByteArray) : ByteArray → Option ByteArray := fun s_4 =>
 if ((Int.tmod ((ByteArray.size s_4 : Nat) : Int) 64) != 56) = true then
  chk (ByteArray.size s_4 + ByteArray.size (ByteArray.mk #[0]) ≤ 9223372036854775807) <|
  c1_ (s_4 ++ (ByteArray.mk #[0]))
 else
 loopN (ZaF.p2 N s_4) N (w64 (8 * ((ByteArray.size s_0 : Nat) : Int)), (ByteArray.mk #[]), 0)
noncomputable def ZaF (N : Nat) (s_0 : ByteArray) : Option ByteArray :=
 chk (ByteArray.size s_0 + ByteArray.size (ByteArray.mk #[128]) ≤ 9223372036854775807) <|
 loopN (ZaF.p1 N s_0) N (s_0 ++ (ByteArray.mk #[128]))
noncomputable def ZaF.p2.S (s_4 : ByteArray) (n_5 : Int) (tail_7 : ByteArray) (i_6 : Int) (st : LL) : S := mkS 34 [(0, .one (.l (L.str s_4))), (3, .one (.l (L.int .i64 n_5))), (4, .one (.l (L.str tail_7))), (5, .one (.l (L.int .i64 i_6)))] [] st
noncomputable def ZaF.p1.S (s_4 s_0 : ByteArray) (st : LL) : S := mkS 34 [(0, .one (.l (L.str s_4))), (3, .one (.l (L.int .i64 ((ByteArray.size s_0 : Nat) : Int))))] [] st
theorem ZaF.p2_ok (s_4 : ByteArray) (n_5 : Int) (tail_7 : ByteArray) (i_6 : Int) (st : LL) {r : ByteArray} {c2_ : (Int × ByteArray × Int) → Option ByteArray} {J2 : Act → World → Prop} (hE : En Tryz.f132 g0 w0 (ZaF.rs r) st R) (hc2 : ∀ (n_5 : Int) (tail_7 : ByteArray) (i_6 : Int), c2_ (n_5, tail_7, i_6) = some r → At g0 w0 (ZaF.p2.S s_4 n_5 tail_7 i_6 st) J2) (h : ZaF.p2 N s_4 c2_ (n_5, tail_7, i_6) = some r) : At g0 w0 (ZaF.p2.S s_4 n_5 tail_7 i_6 st) (XK Tryz.prog R (.c (csub ZaF.B [1, 1, 1, 1, 1, 1, 0, 1, 0, 0]) :: .h J2 :: [.b 2, .c (csub ZaF.B [1, 1, 1, 1, 1, 1, 1])])) := by
 unfold ZaF.p2 at h
 refine iteB h (fun c18 h1 => ?_) (fun c18 h2 => ?_) <;> clear h
 · obtain ⟨c19, c20, h3⟩ := ck2 h1; clear h1
   exact an fol [.r [], .c true, .r [], .r [], .r []] [0, 3, 4, 5] [] (aI c18 (aI (neI 256) (aI z0 (aI (eN (1)) (aI c19 (aI c20 (neI 256))))))) (hc2 (w64 (Int.tdiv n_5 256)) ((istr (List.map leafI [[L.int .u8 (v8 (Int.tmod n_5 256))]])) ++ tail_7) (w64 (i_6 + 1)) h3)
 · obtain ⟨c21, h4⟩ := ZaM h2; clear h2
   obtain rfl := Zad h4
   exact af fol hE [.r [], .c false, .r []] [] 0 [] (aI c18 c21)
theorem ZaF.p1_ok (s_4 s_0 : ByteArray) (st : LL) {r : ByteArray} {c1_ : ByteArray → Option ByteArray} {J1 : Act → World → Prop} (hE : En Tryz.f132 g0 w0 (ZaF.rs r) st R) (hc1 : ∀ (s_4 : ByteArray), c1_ s_4 = some r → At g0 w0 (ZaF.p1.S s_4 s_0 st) J1) (h : ZaF.p1 N s_0 c1_ s_4 = some r) : At g0 w0 (ZaF.p1.S s_4 s_0 st) (XK Tryz.prog R (.c (csub ZaF.B [1, 1, 1, 0, 0, 0]) :: .h J1 :: [.b 0, .c (csub ZaF.B [1, 1, 1, 1])])) := by
 unfold ZaF.p1 at h
 refine iteB h (fun c12 h5 => ?_) (fun c12 h6 => ?_) <;> clear h
 · obtain ⟨c13, h7⟩ := ZaM h5; clear h5
   exact an fol [.r [], .c true, .r []] [0, 3] [] (aI (neI 64) (aI c12 c13)) (hc1 (s_4 ++ (ByteArray.mk #[0])) h7)
 · exact aq fol [.r [], .c false, .r [], .r [], .r []] [0, 3, 4, 5] [] (aI (neI 64) c12) (At.loop N (At.loopN (fun y : Int × ByteArray × Int => ZaF.p2.S s_4 y.1 y.2.1 y.2.2 st) (fun c J hc y h => ZaF.p2_ok s_4 y.1 y.2.1 y.2.2 st hE (fun n_5 tail_7 i_6 hh => hc (n_5, tail_7, i_6) hh) h) N (w64 (8 * ((ByteArray.size s_0 : Nat) : Int)), (ByteArray.mk #[]), 0) h6))
theorem ZaF.snd {s_0 : ByteArray} {r : ByteArray} (h : ZaF N s_0 = some r) : SndQ Tryz.prog 132 [.one (L.str s_0)] (ZaF.rs r) := fun st =>
 sO ZaF.B Tryz.func132 fun g0 w0 R hE => by
  unfold ZaF at h
  obtain ⟨c1, h8⟩ := ZaM h; clear h
  exact aq fol [.r [], .r [], .r []] [0, 3] [] c1 (At.loop N (At.loopN (fun y : ByteArray => ZaF.p1.S y s_0 st) (fun c J hc y h => ZaF.p1_ok y s_0 st hE (fun s_4 hh => hc s_4 hh) h) N (s_0 ++ (ByteArray.mk #[128])) h8))
noncomputable def ZaI.B : Code := Tryz.f133.body.getD .skip
noncomputable def ZaI.rs (r : Int) : List CV := [.one (L.int .u32 r)]
noncomputable def ZaI (N : Nat) (x_0 n_1 : Int) : Option Int :=
 chk (0 ≤ n_1) <|
 chk (0 ≤ (v64 (32 - n_1))) <|
 some (v32 ((shrOf .u32 x_0 n_1) + (shlOf .u32 x_0 (v64 (32 - n_1)))))
theorem ZaI.snd {x_0 n_1 : Int} {r : Int} (h : ZaI N x_0 n_1 = some r) : SndQ Tryz.prog 133 [.one (L.int .u32 x_0), .one (L.int .u64 n_1)] (ZaI.rs r) := fun st =>
 sO ZaI.B Tryz.func133 fun g0 w0 R hE => by
  unfold ZaI at h
  obtain ⟨c1, c2, h1⟩ := ck2 h; clear h
  obtain rfl := Zad h1
  exact af fol hE [.r [], .r []] [] 0 [] (aI c1 c2)
noncomputable def ZcV.B : Code := Tryz.f134.body.getD .skip
noncomputable def ZcV.rs (r : Int) : List CV := [.one (L.int .u32 r)]
noncomputable def ZcV (N : Nat) (i_0 : Int) : Option Int :=
 chk (0 ≤ i_0) <|
 chk (i_0 < 64) <|
 some (List.getD [1116352408, 1899447441, 3049323471, 3921009573, 961987163, 1508970993, 2453635748, 2870763221, 3624381080, 310598401, 607225278, 1426881987, 1925078388, 2162078206, 2614888103, 3248222580, 3835390401, 4022224774, 264347078, 604807628, 770255983, 1249150122, 1555081692, 1996064986, 2554220882, 2821834349, 2952996808, 3210313671, 3336571891, 3584528711, 113926993, 338241895, 666307205, 773529912, 1294757372, 1396182291, 1695183700, 1986661051, 2177026350, 2456956037, 2730485921, 2820302411, 3259730800, 3345764771, 3516065817, 3600352804, 4094571909, 275423344, 430227734, 506948616, 659060556, 883997877, 958139571, 1322822218, 1537002063, 1747873779, 1955562222, 2024104815, 2227730452, 2361852424, 2428436474, 2756734187, 3204031479, 3329325298] (Int.toNat i_0) 0)
theorem ZcV.snd {i_0 : Int} {r : Int} (h : ZcV N i_0 = some r) : SndQ Tryz.prog 134 [.one (L.int .i64 i_0)] (ZcV.rs r) := fun st =>
 sO ZcV.B Tryz.func134 fun g0 w0 R hE => by
  unfold ZcV at h
  obtain ⟨c1, c2, h1⟩ := ck2 h; clear h
  obtain rfl := Zad h1
  exact af fol hE [.r [], .r [(0, {m := 3})]] [] 0 [] (aI c1 c2)
noncomputable def Zal.B : Code := Tryz.f106.body.getD .skip
noncomputable def Zal.rs (r : (List Int)) : List CV := [.agg [L.arr .u8 32 r]]
noncomputable def Zal.p3 (N : Nat) (c2_ : (Int × (List Int)) → Option (List Int)) (c1_ : (Int × (List Int)) → Option (List Int)) (x1 : ByteArray) (at_2 i_112 : Int) (h_111 : List Int) (c3_ : (Int × (List Int)) → Option (List Int)) : (Int × (List Int)) → Option (List Int) := fun (j_166, w_167) =>
 if (decide (j_166 < 4)) = true then
  chk (0 ≤ i_112) <|
  chk (i_112 < 64) <|
  chk (0 ≤ (w64 ((w64 (at_2 + (w64 (4 * i_112)))) + j_166))) <|
  chk ((w64 ((w64 (at_2 + (w64 (4 * i_112)))) + j_166)) < ((ByteArray.size x1 : Nat) : Int)) <|
  c3_ (w64 (j_166 + 1), List.set w_167 (Int.toNat i_112) (v32 ((v32 ((List.getD w_167 (Int.toNat i_112) 0) * 256)) + (v32 (((UInt8.toNat (List.getD (Array.toList (ByteArray.data x1)) (Int.toNat (w64 ((w64 (at_2 + (w64 (4 * i_112)))) + j_166))) 0) : Nat) : Int))))))
 else
 c2_ (w64 (i_112 + 1), w_167)
noncomputable def Zal.p6 (N : Nat) (c1_ : (Int × (List Int)) → Option (List Int)) (x1 : ByteArray) (at_2 : Int) (s_208 : List Int) (c6_ : (Int × (List Int)) → Option (List Int)) : (Int × (List Int)) → Option (List Int) := fun (i_216, h_217) =>
 if (decide (i_216 < 8)) = true then
  chk (0 ≤ i_216) <|
  c6_ (w64 (i_216 + 1), List.set h_217 (Int.toNat i_216) (v32 ((List.getD h_217 (Int.toNat i_216) 0) + (List.getD s_208 (Int.toNat i_216) 0))))
 else
 c1_ (w64 (at_2 + 64), h_217)
noncomputable def Zal.p5 (N : Nat) (c1_ : (Int × (List Int)) → Option (List Int)) (x1 : ByteArray) (at_2 : Int) (h_111 w_193 : List Int) (c5_ : (Int × (List Int)) → Option (List Int)) : (Int × (List Int)) → Option (List Int) := fun (i_198, s_208) =>
 if (decide (i_198 < 64)) = true then
  optE (ZaI N (List.getD s_208 4 0) 6) fun x209 =>
  optE (ZaI N (List.getD s_208 4 0) 11) fun x210 =>
  optE (ZaI N (List.getD s_208 4 0) 25) fun x211 =>
  optE (ZcV N i_198) fun x212 =>
  chk (0 ≤ i_198) <|
  optE (ZaI N (List.getD s_208 0 0) 2) fun x213 =>
  optE (ZaI N (List.getD s_208 0 0) 13) fun x214 =>
  optE (ZaI N (List.getD s_208 0 0) 22) fun x215 =>
  c5_ (w64 (i_198 + 1), [v32 ((v32 ((v32 ((v32 ((v32 ((List.getD s_208 7 0) + (bitsOf .xor .u32 (bitsOf .xor .u32 x209 x210) x211))) + (bitsOf .or .u32 (bitsOf .and .u32 (List.getD s_208 4 0) (List.getD s_208 5 0)) (bitsOf .and .u32 (v32 (4294967295 - (List.getD s_208 4 0))) (List.getD s_208 6 0))))) + x212)) + (List.getD w_193 (Int.toNat i_198) 0))) + (v32 ((bitsOf .xor .u32 (bitsOf .xor .u32 x213 x214) x215) + (bitsOf .or .u32 (bitsOf .or .u32 (bitsOf .and .u32 (List.getD s_208 0 0) (List.getD s_208 1 0)) (bitsOf .and .u32 (List.getD s_208 0 0) (List.getD s_208 2 0))) (bitsOf .and .u32 (List.getD s_208 1 0) (List.getD s_208 2 0)))))), List.getD s_208 0 0, List.getD s_208 1 0, List.getD s_208 2 0, v32 ((List.getD s_208 3 0) + (v32 ((v32 ((v32 ((v32 ((List.getD s_208 7 0) + (bitsOf .xor .u32 (bitsOf .xor .u32 x209 x210) x211))) + (bitsOf .or .u32 (bitsOf .and .u32 (List.getD s_208 4 0) (List.getD s_208 5 0)) (bitsOf .and .u32 (v32 (4294967295 - (List.getD s_208 4 0))) (List.getD s_208 6 0))))) + x212)) + (List.getD w_193 (Int.toNat i_198) 0)))), List.getD s_208 4 0, List.getD s_208 5 0, List.getD s_208 6 0])
 else
 loopN (Zal.p6 N c1_ x1 at_2 s_208) N (0, h_111)
noncomputable def Zal.p4 (N : Nat) (c1_ : (Int × (List Int)) → Option (List Int)) (x1 : ByteArray) (at_2 : Int) (h_111 : List Int) (c4_ : (Int × (List Int)) → Option (List Int)) : (Int × (List Int)) → Option (List Int) := fun (i_168, w_193) =>
 if (decide (i_168 < 64)) = true then
  chk (0 ≤ (w64 (i_168 - 15))) <|
  chk ((w64 (i_168 - 15)) < 64) <|
  optE (ZaI N (List.getD w_193 (Int.toNat (w64 (i_168 - 15))) 0) 7) fun x194 =>
  optE (ZaI N (List.getD w_193 (Int.toNat (w64 (i_168 - 15))) 0) 18) fun x195 =>
  chk (0 ≤ (w64 (i_168 - 2))) <|
  chk ((w64 (i_168 - 2)) < 64) <|
  optE (ZaI N (List.getD w_193 (Int.toNat (w64 (i_168 - 2))) 0) 17) fun x196 =>
  optE (ZaI N (List.getD w_193 (Int.toNat (w64 (i_168 - 2))) 0) 19) fun x197 =>
  chk (0 ≤ (w64 (i_168 - 16))) <|
  chk ((w64 (i_168 - 16)) < 64) <|
  chk (0 ≤ (w64 (i_168 - 7))) <|
  chk ((w64 (i_168 - 7)) < 64) <|
  chk (0 ≤ i_168) <|
  c4_ (w64 (i_168 + 1), List.set w_193 (Int.toNat i_168) (v32 ((v32 ((v32 ((List.getD w_193 (Int.toNat (w64 (i_168 - 16))) 0) + (bitsOf .xor .u32 (bitsOf .xor .u32 x194 x195) (v32 (Int.tdiv (List.getD w_193 (Int.toNat (w64 (i_168 - 15))) 0) 8))))) + (List.getD w_193 (Int.toNat (w64 (i_168 - 7))) 0))) + (bitsOf .xor .u32 (bitsOf .xor .u32 x196 x197) (v32 (Int.tdiv (List.getD w_193 (Int.toNat (w64 (i_168 - 2))) 0) 1024))))))
 else
 loopN (Zal.p5 N c1_ x1 at_2 h_111 w_193) N (0, h_111)
noncomputable def Zal.p2 (N : Nat) (c1_ : (Int × (List Int)) → Option (List Int)) (x1 : ByteArray) (at_2 : Int) (h_111 : List Int) (c2_ : (Int × (List Int)) → Option (List Int)) : (Int × (List Int)) → Option (List Int) := fun (i_112, w_165) =>
 if (decide (i_112 < 16)) = true then
  loopN (Zal.p3 N c2_ c1_ x1 at_2 i_112 h_111) N (0, w_165)
 else
 loopN (Zal.p4 N c1_ x1 at_2 h_111) N (16, w_165)
noncomputable def Zal.p7 (N : Nat) (h_111 : List Int) (c7_ : (Int × (List Int)) → Option (List Int)) : (Int × (List Int)) → Option (List Int) := fun (i_218, out_219) =>
 if (decide (i_218 < 32)) = true then
  chk (0 ≤ (w64 (Int.tdiv i_218 4))) <|
  chk ((w64 (Int.tdiv i_218 4)) < 8) <|
  chk (0 ≤ (v64 (w64 (24 - (w64 (8 * (Int.tmod i_218 4))))))) <|
  chk (0 ≤ i_218) <|
  c7_ (w64 (i_218 + 1), List.set out_219 (Int.toNat i_218) (v8 (Int.tmod (shrOf .u32 (List.getD h_111 (Int.toNat (w64 (Int.tdiv i_218 4))) 0) (v64 (w64 (24 - (w64 (8 * (Int.tmod i_218 4))))))) 256)))
 else
 some out_219
noncomputable def Zal.p1 (N : Nat) (x1 : ByteArray) (c1_ : (Int × (List Int)) → Option (List Int)) : (Int × (List Int)) → Option (List Int) := fun (at_2, h_111) =>
 if (decide (at_2 < ((ByteArray.size x1 : Nat) : Int))) = true then
  loopN (Zal.p2 N c1_ x1 at_2 h_111) N (0, List.replicate 64 0)
 else
 loopN (Zal.p7 N h_111) N (0, List.replicate 32 0)
noncomputable def Zal (N : Nat) (s_0 : ByteArray) : Option (List Int) :=
 optE (ZaF N s_0) fun x1 =>
 loopN (Zal.p1 N x1) N (0, [1779033703, 3144134277, 1013904242, 2773480762, 1359893119, 2600822924, 528734635, 1541459225])
noncomputable def Zal.p3.S (x1 : ByteArray) (at_2 i_112 j_166 : Int) (h_111 w_167 : List Int) (st : LL) : S := mkS 225 [(2, .one (.adr (.site 2) 0)), (3, .one (.adr (.site 3) 0)), (4, .one (.l (L.str x1))), (5, .one (.l (L.int .i64 at_2))), (6, .one (.adr (.site 6) 0)), (7, .one (.l (L.int .i64 i_112))), (8, .one (.l (L.int .i64 j_166)))] [(2, .cells [L.arr .u8 32 (List.replicate 32 0)]), (3, .cells [L.arr .u32 8 h_111]), (6, .cells [L.arr .u32 64 w_167])] st
noncomputable def Zal.p6.S (x1 : ByteArray) (at_2 i_216 : Int) (h_217 s_208 : List Int) (st : LL) : S := mkS 225 [(2, .one (.adr (.site 2) 0)), (3, .one (.adr (.site 3) 0)), (4, .one (.l (L.str x1))), (5, .one (.l (L.int .i64 at_2))), (12, .one (.adr (.site 12) 0)), (16, .one (.l (L.int .i64 i_216)))] [(2, .cells [L.arr .u8 32 (List.replicate 32 0)]), (3, .cells [L.arr .u32 8 h_217]), (12, .cells [L.arr .u32 8 s_208])] st
noncomputable def Zal.p5.S (x1 : ByteArray) (at_2 i_198 : Int) (h_111 w_193 s_208 : List Int) (st : LL) : S := mkS 225 [(2, .one (.adr (.site 2) 0)), (3, .one (.adr (.site 3) 0)), (4, .one (.l (L.str x1))), (5, .one (.l (L.int .i64 at_2))), (6, .one (.adr (.site 6) 0)), (12, .one (.adr (.site 12) 0)), (13, .one (.l (L.int .i64 i_198)))] [(2, .cells [L.arr .u8 32 (List.replicate 32 0)]), (3, .cells [L.arr .u32 8 h_111]), (6, .cells [L.arr .u32 64 w_193]), (12, .cells [L.arr .u32 8 s_208])] st
noncomputable def Zal.p4.S (x1 : ByteArray) (at_2 i_168 : Int) (h_111 w_193 : List Int) (st : LL) : S := mkS 225 [(2, .one (.adr (.site 2) 0)), (3, .one (.adr (.site 3) 0)), (4, .one (.l (L.str x1))), (5, .one (.l (L.int .i64 at_2))), (6, .one (.adr (.site 6) 0)), (9, .one (.l (L.int .i64 i_168)))] [(2, .cells [L.arr .u8 32 (List.replicate 32 0)]), (3, .cells [L.arr .u32 8 h_111]), (6, .cells [L.arr .u32 64 w_193])] st
noncomputable def Zal.p2.S (x1 : ByteArray) (at_2 i_112 : Int) (h_111 w_165 : List Int) (st : LL) : S := mkS 225 [(2, .one (.adr (.site 2) 0)), (3, .one (.adr (.site 3) 0)), (4, .one (.l (L.str x1))), (5, .one (.l (L.int .i64 at_2))), (6, .one (.adr (.site 6) 0)), (7, .one (.l (L.int .i64 i_112)))] [(2, .cells [L.arr .u8 32 (List.replicate 32 0)]), (3, .cells [L.arr .u32 8 h_111]), (6, .cells [L.arr .u32 64 w_165])] st
noncomputable def Zal.p7.S (i_218 : Int) (h_111 out_219 : List Int) (st : LL) : S := mkS 225 [(2, .one (.adr (.site 2) 0)), (3, .one (.adr (.site 3) 0)), (17, .one (.adr (.site 17) 0)), (18, .one (.l (L.int .i64 i_218)))] [(2, .cells [L.arr .u8 32 (List.replicate 32 0)]), (3, .cells [L.arr .u32 8 h_111]), (17, .cells [L.arr .u8 32 out_219])] st
noncomputable def Zal.p1.S (x1 : ByteArray) (at_2 : Int) (h_111 : List Int) (st : LL) : S := mkS 225 [(2, .one (.adr (.site 2) 0)), (3, .one (.adr (.site 3) 0)), (4, .one (.l (L.str x1))), (5, .one (.l (L.int .i64 at_2)))] [(2, .cells [L.arr .u8 32 (List.replicate 32 0)]), (3, .cells [L.arr .u32 8 h_111])] st
theorem Zal.p3_ok (x1 : ByteArray) (at_2 i_112 j_166 : Int) (h_111 w_167 : List Int) (st : LL) {r : (List Int)} {c2_ : (Int × (List Int)) → Option (List Int)} {c1_ : (Int × (List Int)) → Option (List Int)} {c3_ : (Int × (List Int)) → Option (List Int)} {J2 : Act → World → Prop} {J1 : Act → World → Prop} {J3 : Act → World → Prop} (hE : En Tryz.f106 g0 w0 (Zal.rs r) st R) (hc2 : ∀ (i_112 : Int) (w_165 : List Int), c2_ (i_112, w_165) = some r → At g0 w0 (Zal.p2.S x1 at_2 i_112 h_111 w_165 st) J2) (hc1 : ∀ (at_2 : Int) (h_111 : List Int), c1_ (at_2, h_111) = some r → At g0 w0 (Zal.p1.S x1 at_2 h_111 st) J1) (hc3 : ∀ (j_166 : Int) (w_167 : List Int), c3_ (j_166, w_167) = some r → At g0 w0 (Zal.p3.S x1 at_2 i_112 j_166 h_111 w_167 st) J3) (h : Zal.p3 N c2_ c1_ x1 at_2 i_112 h_111 c3_ (j_166, w_167) = some r) : At g0 w0 (Zal.p3.S x1 at_2 i_112 j_166 h_111 w_167 st) (XK Tryz.prog R (.c (csub Zal.B [1, 1, 1, 0, 1, 0, 0, 1, 0, 0, 1, 0, 1, 0, 0, 1, 0, 0, 1, 0, 0]) :: .h J3 :: [.b 4, .b 3, .c (csub Zal.B [1, 1, 1, 0, 1, 0, 0, 1, 0, 0, 1, 0, 1, 0, 0, 1, 1]), .h J2, .b 2, .c (csub Zal.B [1, 1, 1, 0, 1, 0, 0, 1, 0, 0, 1, 1]), .b 1, .c (csub Zal.B [1, 1, 1, 0, 1, 0, 0, 1, 1]), .h J1, .b 0, .c (csub Zal.B [1, 1, 1, 1])])) := by
 unfold Zal.p3 at h
 refine iteB h (fun c293 h1 => ?_) (fun c293 h2 => ?_) <;> clear h
 · obtain ⟨c294, c295, c296, c297, h3⟩ := ck4 h1; clear h1
   exact and_ fol [.r [], .c true, .d {ds := [], hv := 65536, Hs := [65536]}, .r []] [2, 3, 4, 5, 6, 7, 8] [2, 3, 6] (aI c293 (aI c294 (aI c295 (aI c296 (aI c297 (aI c294 c295)))))) (hc3 (w64 (j_166 + 1)) (List.set w_167 (Int.toNat i_112) (v32 ((v32 ((List.getD w_167 (Int.toNat i_112) 0) * 256)) + (v32 (((UInt8.toNat (List.getD (Array.toList (ByteArray.data x1)) (Int.toNat (w64 ((w64 (at_2 + (w64 (4 * i_112)))) + j_166))) 0) : Nat) : Int)))))) h3)
 · exact an fol [.r [], .c false, .r []] [2, 3, 4, 5, 6, 7] [2, 3, 6] c293 (hc2 (w64 (i_112 + 1)) w_167 h2)
theorem Zal.p6_ok (x1 : ByteArray) (at_2 i_216 : Int) (h_217 s_208 : List Int) (st : LL) {r : (List Int)} {c1_ : (Int × (List Int)) → Option (List Int)} {c6_ : (Int × (List Int)) → Option (List Int)} {J1 : Act → World → Prop} {J6 : Act → World → Prop} (hE : En Tryz.f106 g0 w0 (Zal.rs r) st R) (hc1 : ∀ (at_2 : Int) (h_111 : List Int), c1_ (at_2, h_111) = some r → At g0 w0 (Zal.p1.S x1 at_2 h_111 st) J1) (hc6 : ∀ (i_216 : Int) (h_217 : List Int), c6_ (i_216, h_217) = some r → At g0 w0 (Zal.p6.S x1 at_2 i_216 h_217 s_208 st) J6) (h : Zal.p6 N c1_ x1 at_2 s_208 c6_ (i_216, h_217) = some r) : At g0 w0 (Zal.p6.S x1 at_2 i_216 h_217 s_208 st) (XK Tryz.prog R (.c (csub Zal.B [1, 1, 1, 0, 1, 0, 0, 1, 0, 0, 1, 1, 1, 1, 1, 1, 0, 0]) :: .h J6 :: [.b 10, .b 1, .c (csub Zal.B [1, 1, 1, 0, 1, 0, 0, 1, 1]), .h J1, .b 0, .c (csub Zal.B [1, 1, 1, 1])])) := by
 unfold Zal.p6 at h
 refine iteB h (fun c376 h4 => ?_) (fun c376 h5 => ?_) <;> clear h
 · obtain ⟨c377, h6⟩ := ZaM h4; clear h4
   exact and_ fol [.r [], .c true, .d {ds := [], hv := 512, Hs := [512]}, .r []] [2, 3, 4, 5, 12, 16] [2, 3, 12] (aI c376 (aI c377 (aI (oD c376) (aI c377 (aI (oD c376) (aI c377 (oD c376))))))) (hc6 (w64 (i_216 + 1)) (List.set h_217 (Int.toNat i_216) (v32 ((List.getD h_217 (Int.toNat i_216) 0) + (List.getD s_208 (Int.toNat i_216) 0)))) h6)
 · exact an fol [.r [], .c false, .r []] [2, 3, 4, 5] [2, 3] c376 (hc1 (w64 (at_2 + 64)) h_217 h5)
theorem Zal.p5_ok (x1 : ByteArray) (at_2 i_198 : Int) (h_111 w_193 s_208 : List Int) (st : LL) {r : (List Int)} {c1_ : (Int × (List Int)) → Option (List Int)} {c5_ : (Int × (List Int)) → Option (List Int)} {J1 : Act → World → Prop} {J5 : Act → World → Prop} (hE : En Tryz.f106 g0 w0 (Zal.rs r) st R) (hc1 : ∀ (at_2 : Int) (h_111 : List Int), c1_ (at_2, h_111) = some r → At g0 w0 (Zal.p1.S x1 at_2 h_111 st) J1) (hc5 : ∀ (i_198 : Int) (s_208 : List Int), c5_ (i_198, s_208) = some r → At g0 w0 (Zal.p5.S x1 at_2 i_198 h_111 w_193 s_208 st) J5) (h : Zal.p5 N c1_ x1 at_2 h_111 w_193 c5_ (i_198, s_208) = some r) : At g0 w0 (Zal.p5.S x1 at_2 i_198 h_111 w_193 s_208 st) (XK Tryz.prog R (.c (csub Zal.B [1, 1, 1, 0, 1, 0, 0, 1, 0, 0, 1, 1, 1, 1, 0, 1, 0, 0]) :: .h J5 :: [.b 8, .c (csub Zal.B [1, 1, 1, 0, 1, 0, 0, 1, 0, 0, 1, 1, 1, 1, 1]), .b 1, .c (csub Zal.B [1, 1, 1, 0, 1, 0, 0, 1, 1]), .h J1, .b 0, .c (csub Zal.B [1, 1, 1, 1])])) := by
 unfold Zal.p5 at h
 refine iteB h (fun c365 h7 => ?_) (fun c365 h8 => ?_) <;> clear h
 · obtain ⟨x209, c366, h9⟩ := Zan h7; clear h7
   obtain ⟨x210, c367, h10⟩ := Zan h9; clear h9
   obtain ⟨x211, c368, h11⟩ := Zan h10; clear h10
   obtain ⟨x212, c369, h12⟩ := Zan h11; clear h11
   obtain ⟨c370, h13⟩ := ZaM h12; clear h12
   obtain ⟨x213, c371, h14⟩ := Zan h13; clear h13
   obtain ⟨x214, c372, h15⟩ := Zan h14; clear h14
   obtain ⟨x215, c373, h16⟩ := Zan h15; clear h15
   exact and_ fol [.r [], .c true, .d {ds := [(4, {rs := [.one (L.int .u32 x209)], m := 1}), (7, {rs := [.one (L.int .u32 x210)], m := 1}), (11, {rs := [.one (L.int .u32 x211)], m := 1}), (28, {rs := [.one (L.int .u32 x212)], m := 1})], hv := 0, Hs := []}, .d {ds := [(2, {rs := [.one (L.int .u32 x213)], m := 1}), (5, {rs := [.one (L.int .u32 x214)], m := 1}), (9, {rs := [.one (L.int .u32 x215)], m := 1})], hv := 0, Hs := []}, .r [(19, {m := 3})], .r []] [2, 3, 4, 5, 6, 12, 13] [2, 3, 6, 12] (aI c365 (ix 7 8 (ix 4 8 (aI (ZaI.snd c366) (ix 4 8 (aI (ZaI.snd c367) (ix 4 8 (aI (ZaI.snd c368) (ix 4 8 (ix 5 8 (ix 4 8 (ix 6 8 (aI (ZcV.snd c369) (aI c370 (aI (oD c365) (ix 0 8 (aI (ZaI.snd c371) (ix 0 8 (aI (ZaI.snd c372) (ix 0 8 (aI (ZaI.snd c373) (ix 0 8 (ix 1 8 (ix 0 8 (ix 2 8 (ix 1 8 (ix 2 8 (ix 0 8 (ix 1 8 (ix 2 8 (ix 3 8 (ix 4 8 (ix 5 8 (aI (leI 0 6) (ltI 6 8))))))))))))))))))))))))))))))))))) (hc5 (w64 (i_198 + 1)) [v32 ((v32 ((v32 ((v32 ((v32 ((List.getD s_208 7 0) + (bitsOf .xor .u32 (bitsOf .xor .u32 x209 x210) x211))) + (bitsOf .or .u32 (bitsOf .and .u32 (List.getD s_208 4 0) (List.getD s_208 5 0)) (bitsOf .and .u32 (v32 (4294967295 - (List.getD s_208 4 0))) (List.getD s_208 6 0))))) + x212)) + (List.getD w_193 (Int.toNat i_198) 0))) + (v32 ((bitsOf .xor .u32 (bitsOf .xor .u32 x213 x214) x215) + (bitsOf .or .u32 (bitsOf .or .u32 (bitsOf .and .u32 (List.getD s_208 0 0) (List.getD s_208 1 0)) (bitsOf .and .u32 (List.getD s_208 0 0) (List.getD s_208 2 0))) (bitsOf .and .u32 (List.getD s_208 1 0) (List.getD s_208 2 0)))))), List.getD s_208 0 0, List.getD s_208 1 0, List.getD s_208 2 0, v32 ((List.getD s_208 3 0) + (v32 ((v32 ((v32 ((v32 ((List.getD s_208 7 0) + (bitsOf .xor .u32 (bitsOf .xor .u32 x209 x210) x211))) + (bitsOf .or .u32 (bitsOf .and .u32 (List.getD s_208 4 0) (List.getD s_208 5 0)) (bitsOf .and .u32 (v32 (4294967295 - (List.getD s_208 4 0))) (List.getD s_208 6 0))))) + x212)) + (List.getD w_193 (Int.toNat i_198) 0)))), List.getD s_208 4 0, List.getD s_208 5 0, List.getD s_208 6 0] h16)
 · exact aq fol [.r [], .c false, .r []] [2, 3, 4, 5, 12, 16] [2, 3, 12] c365 (At.loop N (At.loopN (fun y : Int × (List Int) => Zal.p6.S x1 at_2 y.1 y.2 s_208 st) (fun c J hc y h => Zal.p6_ok x1 at_2 y.1 y.2 s_208 st hE hc1 (fun i_216 h_217 hh => hc (i_216, h_217) hh) h) N (0, h_111) h8))
theorem Zal.p4_ok (x1 : ByteArray) (at_2 i_168 : Int) (h_111 w_193 : List Int) (st : LL) {r : (List Int)} {c1_ : (Int × (List Int)) → Option (List Int)} {c4_ : (Int × (List Int)) → Option (List Int)} {J1 : Act → World → Prop} {J4 : Act → World → Prop} (hE : En Tryz.f106 g0 w0 (Zal.rs r) st R) (hc1 : ∀ (at_2 : Int) (h_111 : List Int), c1_ (at_2, h_111) = some r → At g0 w0 (Zal.p1.S x1 at_2 h_111 st) J1) (hc4 : ∀ (i_168 : Int) (w_193 : List Int), c4_ (i_168, w_193) = some r → At g0 w0 (Zal.p4.S x1 at_2 i_168 h_111 w_193 st) J4) (h : Zal.p4 N c1_ x1 at_2 h_111 c4_ (i_168, w_193) = some r) : At g0 w0 (Zal.p4.S x1 at_2 i_168 h_111 w_193 st) (XK Tryz.prog R (.c (csub Zal.B [1, 1, 1, 0, 1, 0, 0, 1, 0, 0, 1, 1, 0, 1, 0, 0]) :: .h J4 :: [.b 6, .c (csub Zal.B [1, 1, 1, 0, 1, 0, 0, 1, 0, 0, 1, 1, 1]), .b 1, .c (csub Zal.B [1, 1, 1, 0, 1, 0, 0, 1, 1]), .h J1, .b 0, .c (csub Zal.B [1, 1, 1, 1])])) := by
 unfold Zal.p4 at h
 refine iteB h (fun c338 h17 => ?_) (fun c338 h18 => ?_) <;> clear h
 · obtain ⟨c339, c340, h19⟩ := ck2 h17; clear h17
   obtain ⟨x194, c341, h20⟩ := Zan h19; clear h19
   obtain ⟨x195, c342, h21⟩ := Zan h20; clear h20
   obtain ⟨c343, c344, h22⟩ := ck2 h21; clear h21
   obtain ⟨x196, c345, h23⟩ := Zan h22; clear h22
   obtain ⟨x197, c346, h24⟩ := Zan h23; clear h23
   obtain ⟨c347, c348, c349, c350, c351, h25⟩ := ck5 h24; clear h24
   exact and_ fol [.r [], .c true, .d {ds := [(4, {rs := [.one (L.int .u32 x194)], m := 1}), (9, {rs := [.one (L.int .u32 x195)], m := 1})], hv := 0, Hs := []}, .d {ds := [(4, {rs := [.one (L.int .u32 x196)], m := 1}), (9, {rs := [.one (L.int .u32 x197)], m := 1})], hv := 0, Hs := []}, .d {ds := [], hv := 32768, Hs := [32768]}, .r []] [2, 3, 4, 5, 6, 9] [2, 3, 6] (aI c338 (aI c339 (aI c340 (aI (ZaI.snd c341) (aI c339 (aI c340 (aI (ZaI.snd c342) (aI c339 (aI c340 (aI (neI 8) (aI c343 (aI c344 (aI (ZaI.snd c345) (aI c343 (aI c344 (aI (ZaI.snd c346) (aI c343 (aI c344 (aI (neI 1024) (aI c347 (aI c348 (aI c349 (aI c350 (aI c351 (oD c338))))))))))))))))))))))))) (hc4 (w64 (i_168 + 1)) (List.set w_193 (Int.toNat i_168) (v32 ((v32 ((v32 ((List.getD w_193 (Int.toNat (w64 (i_168 - 16))) 0) + (bitsOf .xor .u32 (bitsOf .xor .u32 x194 x195) (v32 (Int.tdiv (List.getD w_193 (Int.toNat (w64 (i_168 - 15))) 0) 8))))) + (List.getD w_193 (Int.toNat (w64 (i_168 - 7))) 0))) + (bitsOf .xor .u32 (bitsOf .xor .u32 x196 x197) (v32 (Int.tdiv (List.getD w_193 (Int.toNat (w64 (i_168 - 2))) 0) 1024)))))) h25)
 · exact aq fol [.r [], .c false, .r [], .r []] [2, 3, 4, 5, 6, 12, 13] [2, 3, 6, 12] c338 (At.loop N (At.loopN (fun y : Int × (List Int) => Zal.p5.S x1 at_2 y.1 h_111 w_193 y.2 st) (fun c J hc y h => Zal.p5_ok x1 at_2 y.1 h_111 w_193 y.2 st hE hc1 (fun i_198 s_208 hh => hc (i_198, s_208) hh) h) N (0, h_111) h18))
theorem Zal.p2_ok (x1 : ByteArray) (at_2 i_112 : Int) (h_111 w_165 : List Int) (st : LL) {r : (List Int)} {c1_ : (Int × (List Int)) → Option (List Int)} {c2_ : (Int × (List Int)) → Option (List Int)} {J1 : Act → World → Prop} {J2 : Act → World → Prop} (hE : En Tryz.f106 g0 w0 (Zal.rs r) st R) (hc1 : ∀ (at_2 : Int) (h_111 : List Int), c1_ (at_2, h_111) = some r → At g0 w0 (Zal.p1.S x1 at_2 h_111 st) J1) (hc2 : ∀ (i_112 : Int) (w_165 : List Int), c2_ (i_112, w_165) = some r → At g0 w0 (Zal.p2.S x1 at_2 i_112 h_111 w_165 st) J2) (h : Zal.p2 N c1_ x1 at_2 h_111 c2_ (i_112, w_165) = some r) : At g0 w0 (Zal.p2.S x1 at_2 i_112 h_111 w_165 st) (XK Tryz.prog R (.c (csub Zal.B [1, 1, 1, 0, 1, 0, 0, 1, 0, 0, 1, 0, 1, 0, 0]) :: .h J2 :: [.b 2, .c (csub Zal.B [1, 1, 1, 0, 1, 0, 0, 1, 0, 0, 1, 1]), .b 1, .c (csub Zal.B [1, 1, 1, 0, 1, 0, 0, 1, 1]), .h J1, .b 0, .c (csub Zal.B [1, 1, 1, 1])])) := by
 unfold Zal.p2 at h
 refine iteB h (fun c287 h26 => ?_) (fun c287 h27 => ?_) <;> clear h
 · exact aq fol [.r [], .c true, .r []] [2, 3, 4, 5, 6, 7, 8] [2, 3, 6] c287 (At.loop N (At.loopN (fun y : Int × (List Int) => Zal.p3.S x1 at_2 i_112 y.1 h_111 y.2 st) (fun c J hc y h => Zal.p3_ok x1 at_2 i_112 y.1 h_111 y.2 st hE hc2 hc1 (fun j_166 w_167 hh => hc (j_166, w_167) hh) h) N (0, w_165) h26))
 · exact aq fol [.r [], .c false, .r []] [2, 3, 4, 5, 6, 9] [2, 3, 6] c287 (At.loop N (At.loopN (fun y : Int × (List Int) => Zal.p4.S x1 at_2 y.1 h_111 y.2 st) (fun c J hc y h => Zal.p4_ok x1 at_2 y.1 h_111 y.2 st hE hc1 (fun i_168 w_193 hh => hc (i_168, w_193) hh) h) N (16, w_165) h27))
theorem Zal.p7_ok (i_218 : Int) (h_111 out_219 : List Int) (st : LL) {r : (List Int)} {c7_ : (Int × (List Int)) → Option (List Int)} {J7 : Act → World → Prop} (hE : En Tryz.f106 g0 w0 (Zal.rs r) st R) (hc7 : ∀ (i_218 : Int) (out_219 : List Int), c7_ (i_218, out_219) = some r → At g0 w0 (Zal.p7.S i_218 h_111 out_219 st) J7) (h : Zal.p7 N h_111 c7_ (i_218, out_219) = some r) : At g0 w0 (Zal.p7.S i_218 h_111 out_219 st) (XK Tryz.prog R (.c (csub Zal.B [1, 1, 1, 1, 1, 0, 1, 0, 0]) :: .h J7 :: [.b 12, .c (csub Zal.B [1, 1, 1, 1, 1, 1])])) := by
 unfold Zal.p7 at h
 refine iteB h (fun c383 h28 => ?_) (fun c383 h29 => ?_) <;> clear h
 · obtain ⟨c384, c385, c386, c387, h30⟩ := ck4 h28; clear h28
   exact an fol [.r [], .c true, .r [], .r []] [2, 3, 17, 18] [2, 3, 17] (aI c383 (aI (neI 4) (aI c384 (aI c385 (aI (neI 4) (aI c386 (aI (neI 256) (aI c387 (oD c383))))))))) (hc7 (w64 (i_218 + 1)) (List.set out_219 (Int.toNat i_218) (v8 (Int.tmod (shrOf .u32 (List.getD h_111 (Int.toNat (w64 (Int.tdiv i_218 4))) 0) (v64 (w64 (24 - (w64 (8 * (Int.tmod i_218 4))))))) 256))) h30)
 · obtain rfl := Zad h29
   exact af fol hE [.r [], .c false, .r []] [] 0 [] c383
theorem Zal.p1_ok (x1 : ByteArray) (at_2 : Int) (h_111 : List Int) (st : LL) {r : (List Int)} {c1_ : (Int × (List Int)) → Option (List Int)} {J1 : Act → World → Prop} (hE : En Tryz.f106 g0 w0 (Zal.rs r) st R) (hc1 : ∀ (at_2 : Int) (h_111 : List Int), c1_ (at_2, h_111) = some r → At g0 w0 (Zal.p1.S x1 at_2 h_111 st) J1) (h : Zal.p1 N x1 c1_ (at_2, h_111) = some r) : At g0 w0 (Zal.p1.S x1 at_2 h_111 st) (XK Tryz.prog R (.c (csub Zal.B [1, 1, 1, 0, 1, 0, 0]) :: .h J1 :: [.b 0, .c (csub Zal.B [1, 1, 1, 1])])) := by
 unfold Zal.p1 at h
 refine iteB h (fun c195 h31 => ?_) (fun c195 h32 => ?_) <;> clear h
 · exact aq fol [.r [], .c true, .r [], .r []] [2, 3, 4, 5, 6, 7] [2, 3, 6] c195 (At.loop N (At.loopN (fun y : Int × (List Int) => Zal.p2.S x1 at_2 y.1 h_111 y.2 st) (fun c J hc y h => Zal.p2_ok x1 at_2 y.1 h_111 y.2 st hE hc1 (fun i_112 w_165 hh => hc (i_112, w_165) hh) h) N (0, List.replicate 64 0) h31))
 · exact aq fol [.r [], .c false, .r [], .r []] [2, 3, 17, 18] [2, 3, 17] c195 (At.loop N (At.loopN (fun y : Int × (List Int) => Zal.p7.S y.1 h_111 y.2 st) (fun c J hc y h => Zal.p7_ok y.1 h_111 y.2 st hE (fun i_218 out_219 hh => hc (i_218, out_219) hh) h) N (0, List.replicate 32 0) h32))
theorem Zal.snd {s_0 : ByteArray} {r : (List Int)} (h : Zal N s_0 = some r) : SndQ Tryz.prog 106 [.one (L.str s_0)] (Zal.rs r) := fun st =>
 sO Zal.B Tryz.func106 fun g0 w0 R hE => by
  unfold Zal at h
  obtain ⟨x1, c1, h33⟩ := Zan h; clear h
  exact aq fol [.r [], .r [(0, {m := 3})], .r [(1, {rs := [.one (L.str x1)], m := 1})], .r []] [2, 3, 4, 5] [2, 3] (ZaF.snd c1) (At.loop N (At.loopN (fun y : Int × (List Int) => Zal.p1.S x1 y.1 y.2 st) (fun c J hc y h => Zal.p1_ok x1 y.1 y.2 st hE (fun at_2 h_111 hh => hc (at_2, h_111) hh) h) N (0, [1779033703, 3144134277, 1013904242, 2773480762, 1359893119, 2600822924, 528734635, 1541459225]) h33))
noncomputable def Zba.B : Code := Tryz.f83.body.getD .skip
noncomputable def Zba.rs (r : (List Int)) : List CV := [.agg [L.arr .u8 32 r]]
noncomputable def Zba.p1 (N : Nat) (x1 : List Int) (c1_ : (ByteArray × Int) → Option (List Int)) : (ByteArray × Int) → Option (List Int) := fun (b_4, i_2) =>
 if (decide (i_2 < 32)) = true then
  chk (0 ≤ i_2) <|
  chk (isB [[L.int .u8 (List.getD x1 (Int.toNat i_2) 0)]] = true) <|
  chk (ByteArray.size b_4 + ByteArray.size (istr (List.map leafI [[L.int .u8 (List.getD x1 (Int.toNat i_2) 0)]])) ≤ 9223372036854775807) <|
  c1_ (b_4 ++ (istr (List.map leafI [[L.int .u8 (List.getD x1 (Int.toNat i_2) 0)]])), w64 (i_2 + 1))
 else
 optE (Zal N b_4) fun x5 =>
 some x5
noncomputable def Zba (N : Nat) (s_0 : ByteArray) : Option (List Int) :=
 optE (Zal N s_0) fun x1 =>
 loopN (Zba.p1 N x1) N ((ByteArray.mk #[]), 0)
noncomputable def Zba.p1.S (b_4 : ByteArray) (i_2 : Int) (x1 : List Int) (st : LL) : S := mkS 21 [(2, .one (.adr (.site 2) 0)), (3, .one (.adr (.site 3) 0)), (4, .one (.l (L.str b_4))), (5, .one (.l (L.int .i64 i_2)))] [(2, .cells [L.arr .u8 32 (List.replicate 32 0)]), (3, .cells [L.arr .u8 32 x1])] st
theorem Zba.p1_ok (b_4 : ByteArray) (i_2 : Int) (x1 : List Int) (st : LL) {r : (List Int)} {c1_ : (ByteArray × Int) → Option (List Int)} {J1 : Act → World → Prop} (hE : En Tryz.f83 g0 w0 (Zba.rs r) st R) (hc1 : ∀ (b_4 : ByteArray) (i_2 : Int), c1_ (b_4, i_2) = some r → At g0 w0 (Zba.p1.S b_4 i_2 x1 st) J1) (h : Zba.p1 N x1 c1_ (b_4, i_2) = some r) : At g0 w0 (Zba.p1.S b_4 i_2 x1 st) (XK Tryz.prog R (.c (csub Zba.B [1, 1, 1, 0, 1, 0, 0]) :: .h J1 :: [.b 0, .c (csub Zba.B [1, 1, 1, 1])])) := by
 unfold Zba.p1 at h
 refine iteB h (fun c7 h1 => ?_) (fun c7 h2 => ?_) <;> clear h
 · obtain ⟨c8, c9, c10, h3⟩ := ck3 h1; clear h1
   exact an fol [.r [], .c true, .r [], .r []] [2, 3, 4, 5] [2, 3] (aI c7 (aI c8 (aI (oD c7) (aI z0 (aI (eN (1)) (aI c9 c10)))))) (hc1 (b_4 ++ (istr (List.map leafI [[L.int .u8 (List.getD x1 (Int.toNat i_2) 0)]]))) (w64 (i_2 + 1)) h3)
 · obtain ⟨x5, c11, h4⟩ := Zan h2; clear h2
   obtain rfl := Zad h4
   exact af fol hE [.r [], .c false, .r [(1, {rs := [.agg [L.arr .u8 32 x5]], m := 1})]] [] 0 [] (aI c7 (Zal.snd c11))
theorem Zba.snd {s_0 : ByteArray} {r : (List Int)} (h : Zba N s_0 = some r) : SndQ Tryz.prog 83 [.one (L.str s_0)] (Zba.rs r) := fun st =>
 sO Zba.B Tryz.func83 fun g0 w0 R hE => by
  unfold Zba at h
  obtain ⟨x1, c1, h5⟩ := Zan h; clear h
  exact aq fol [.r [], .r [(1, {rs := [.agg [L.arr .u8 32 x1]], m := 1})], .r [], .r []] [2, 3, 4, 5] [2, 3] (Zal.snd c1) (At.loop N (At.loopN (fun y : ByteArray × Int => Zba.p1.S y.1 y.2 x1 st) (fun c J hc y h => Zba.p1_ok y.1 y.2 x1 st hE (fun b_4 i_2 hh => hc (b_4, i_2) hh) h) N ((ByteArray.mk #[]), 0) h5))
noncomputable def Zcd.B : Code := Tryz.f49.body.getD .skip
noncomputable def Zcd.rs (r : (List Int)) : List CV := [.agg [L.arr .u8 32 r]]
noncomputable def Zcd (N : Nat) (h_0 : Zae) : Option (List Int) :=
 optE (Zbx N h_0) fun x1 =>
 if (!x1) = true then
  some (List.replicate 32 0)
 else
 optE (Zce N h_0) fun x2 =>
 optE (Zba N x2) fun x3 =>
 some x3
theorem Zcd.snd {h_0 : Zae} {r : (List Int)} (h : Zcd N h_0 = some r) : SndQ Tryz.prog 49 [.agg h_0.ls] (Zcd.rs r) := fun st =>
 sO Zcd.B Tryz.func49 fun g0 w0 R hE => by
  unfold Zcd at h
  obtain ⟨x1, c1, h1⟩ := Zan h; clear h
  refine iteB h1 (fun c2 h2 => ?_) (fun c2 h3 => ?_) <;> clear h1
  · obtain rfl := Zad h2
    exact af fol hE [.r [], .r [(1, {rs := [.one (L.bool x1)], m := 1})], .c true, .r []] [] 0 [] (aI (Zbx.snd c1) c2)
  · obtain ⟨x2, c3, h4⟩ := Zan h3; clear h3
    obtain ⟨x3, c4, h5⟩ := Zan h4; clear h4
    obtain rfl := Zad h5
    exact af fol hE [.r [], .r [(1, {rs := [.one (L.bool x1)], m := 1})], .c false, .r [(1, {rs := [.one (L.str x2)], m := 1}), (2, {rs := [.agg [L.arr .u8 32 x3]], m := 1})]] [] 0 [] (aI (Zbx.snd c1) (aI c2 (aI (Zce.snd c3) (Zba.snd c4))))
noncomputable def Zah.B : Code := Tryz.f125.body.getD .skip
noncomputable def Zah.rs (r : (List Int)) : List CV := [.agg [L.arr .u64 4 r]]
noncomputable def Zah.p4 (N : Nat) (c3_ : (Int × (List Int)) → Option (List Int)) (n_13 i_19 : Int) (a_18 out_22 : List Int) : Option (List Int) :=
 c3_ (w64 (i_19 + 1), out_22)
noncomputable def Zah.p3 (N : Nat) (n_13 : Int) (a_18 : List Int) (c3_ : (Int × (List Int)) → Option (List Int)) : (Int × (List Int)) → Option (List Int) := fun (i_19, out_21) =>
 if (decide (i_19 < 4)) = true then
  if (decide (n_13 > 0)) = true then
   chk (0 ≤ i_19) <|
   chk (0 ≤ (v64 (n_13))) <|
   if (decide (i_19 > 0)) = true then
    chk (0 ≤ (w64 (i_19 - 1))) <|
    chk ((w64 (i_19 - 1)) < 4) <|
    chk (0 ≤ (v64 (w64 (64 - n_13)))) <|
    Zah.p4 N c3_ n_13 i_19 a_18 (List.set (List.set out_21 (Int.toNat i_19) (shlOf .u64 (List.getD a_18 (Int.toNat i_19) 0) (v64 (n_13)))) (Int.toNat i_19) (v64 ((List.getD (List.set out_21 (Int.toNat i_19) (shlOf .u64 (List.getD a_18 (Int.toNat i_19) 0) (v64 (n_13)))) (Int.toNat i_19) 0) + (shrOf .u64 (List.getD a_18 (Int.toNat (w64 (i_19 - 1))) 0) (v64 (w64 (64 - n_13)))))))
   else
   Zah.p4 N c3_ n_13 i_19 a_18 (List.set out_21 (Int.toNat i_19) (shlOf .u64 (List.getD a_18 (Int.toNat i_19) 0) (v64 (n_13))))
  else
  chk (0 ≤ i_19) <|
  chk (0 ≤ (v64 (w64 (0 - n_13)))) <|
  if (decide (i_19 < 3)) = true then
   chk (0 ≤ (w64 (i_19 + 1))) <|
   chk ((w64 (i_19 + 1)) < 4) <|
   chk (0 ≤ (v64 (w64 (64 + n_13)))) <|
   Zah.p4 N c3_ n_13 i_19 a_18 (List.set (List.set out_21 (Int.toNat i_19) (shrOf .u64 (List.getD a_18 (Int.toNat i_19) 0) (v64 (w64 (0 - n_13))))) (Int.toNat i_19) (v64 ((List.getD (List.set out_21 (Int.toNat i_19) (shrOf .u64 (List.getD a_18 (Int.toNat i_19) 0) (v64 (w64 (0 - n_13))))) (Int.toNat i_19) 0) + (shlOf .u64 (List.getD a_18 (Int.toNat (w64 (i_19 + 1))) 0) (v64 (w64 (64 + n_13)))))))
  else
  Zah.p4 N c3_ n_13 i_19 a_18 (List.set out_21 (Int.toNat i_19) (shrOf .u64 (List.getD a_18 (Int.toNat i_19) 0) (v64 (w64 (0 - n_13)))))
 else
 some out_21
noncomputable def Zah.p2 (N : Nat) (c2_ : (Int × (List Int)) → Option (List Int)) : (Int × (List Int)) → Option (List Int) := fun (n_13, a_18) =>
 if (decide (n_13 ≤ (-64))) = true then
  c2_ (w64 (n_13 + 64), [List.getD a_18 1 0, List.getD a_18 2 0, List.getD a_18 3 0, 0])
 else
 if (n_13 == 0) = true then
  some a_18
 else
 loopN (Zah.p3 N n_13 a_18) N (0, List.replicate 4 0)
noncomputable def Zah.p1 (N : Nat) (c1_ : (Int × (List Int)) → Option (List Int)) : (Int × (List Int)) → Option (List Int) := fun (n_1, a_12) =>
 if (decide (n_1 ≥ 64)) = true then
  c1_ (w64 (n_1 - 64), [0, List.getD a_12 0 0, List.getD a_12 1 0, List.getD a_12 2 0])
 else
 loopN (Zah.p2 N) N (n_1, a_12)
noncomputable def Zah (N : Nat) (a_0_0 : List Int) (n_1 : Int) : Option (List Int) :=
 if (decide (n_1 ≤ (-256))) = true then
  some (List.replicate 4 0)
 else
 if (decide (n_1 ≥ 256)) = true then
  some (List.replicate 4 0)
 else
 loopN (Zah.p1 N) N (n_1, a_0_0)
noncomputable def Zah.p4.S (n_13 i_19 : Int) (a_18 out_22 : List Int) (st : LL) : S := mkS 96 [(1, .one (.l (L.int .i64 n_13))), (2, .one (.adr (.site 2) 0)), (4, .one (.adr (.site 4) 0)), (5, .one (.adr (.site 5) 0)), (6, .one (.l (L.int .i64 i_19)))] [(2, .cells [L.arr .u64 4 a_18]), (4, .cells [L.arr .u64 4 (List.replicate 4 0)]), (5, .cells [L.arr .u64 4 out_22])] st
noncomputable def Zah.p3.S (n_13 i_19 : Int) (a_18 out_21 : List Int) (st : LL) : S := mkS 96 [(1, .one (.l (L.int .i64 n_13))), (2, .one (.adr (.site 2) 0)), (4, .one (.adr (.site 4) 0)), (5, .one (.adr (.site 5) 0)), (6, .one (.l (L.int .i64 i_19)))] [(2, .cells [L.arr .u64 4 a_18]), (4, .cells [L.arr .u64 4 (List.replicate 4 0)]), (5, .cells [L.arr .u64 4 out_21])] st
noncomputable def Zah.p2.S (n_13 : Int) (a_18 : List Int) (st : LL) : S := mkS 96 [(1, .one (.l (L.int .i64 n_13))), (2, .one (.adr (.site 2) 0)), (4, .one (.adr (.site 4) 0)), (5, .one (.adr (.site 5) 0))] [(2, .cells [L.arr .u64 4 a_18]), (4, .cells [L.arr .u64 4 (List.replicate 4 0)]), (5, .cells [L.arr .u64 4 (List.replicate 4 0)])] st
noncomputable def Zah.p1.S (n_1 : Int) (a_12 : List Int) (st : LL) : S := mkS 96 [(1, .one (.l (L.int .i64 n_1))), (2, .one (.adr (.site 2) 0)), (4, .one (.adr (.site 4) 0)), (5, .one (.adr (.site 5) 0))] [(2, .cells [L.arr .u64 4 a_12]), (4, .cells [L.arr .u64 4 (List.replicate 4 0)]), (5, .cells [L.arr .u64 4 (List.replicate 4 0)])] st
theorem Zah.p4_ok (n_13 i_19 : Int) (a_18 out_22 : List Int) (st : LL) {r : (List Int)} {c3_ : (Int × (List Int)) → Option (List Int)} {J3 : Act → World → Prop} (hE : En Tryz.f125 g0 w0 (Zah.rs r) st R) (hc3 : ∀ (i_19 : Int) (out_21 : List Int), c3_ (i_19, out_21) = some r → At g0 w0 (Zah.p3.S n_13 i_19 a_18 out_21 st) J3) (h : Zah.p4 N c3_ n_13 i_19 a_18 out_22 = some r) : At g0 w0 (Zah.p4.S n_13 i_19 a_18 out_22 st) (XK Tryz.prog R [.c (csub Zah.B [1, 1, 1, 1, 1, 1, 0, 1, 0, 0, 1, 1]), .h J3, .b 4, .c (csub Zah.B [1, 1, 1, 1, 1, 1, 1])]) := by
 unfold Zah.p4 at h
 exact an fol [.r []] [1, 2, 4, 5, 6] [2, 4, 5] trivial (hc3 (w64 (i_19 + 1)) out_22 h)
theorem Zah.p3_ok (n_13 i_19 : Int) (a_18 out_21 : List Int) (st : LL) {r : (List Int)} {c3_ : (Int × (List Int)) → Option (List Int)} {J3 : Act → World → Prop} (hE : En Tryz.f125 g0 w0 (Zah.rs r) st R) (hc3 : ∀ (i_19 : Int) (out_21 : List Int), c3_ (i_19, out_21) = some r → At g0 w0 (Zah.p3.S n_13 i_19 a_18 out_21 st) J3) (h : Zah.p3 N n_13 a_18 c3_ (i_19, out_21) = some r) : At g0 w0 (Zah.p3.S n_13 i_19 a_18 out_21 st) (XK Tryz.prog R (.c (csub Zah.B [1, 1, 1, 1, 1, 1, 0, 1, 0, 0]) :: .h J3 :: [.b 4, .c (csub Zah.B [1, 1, 1, 1, 1, 1, 1])])) := by
 unfold Zah.p3 at h
 refine iteB h (fun c111 h1 => ?_) (fun c111 h2 => ?_) <;> clear h
 · refine iteB h1 (fun c112 h3 => ?_) (fun c112 h4 => ?_) <;> clear h1
   · obtain ⟨c113, c114, h5⟩ := ck2 h3; clear h3
     refine iteB h5 (fun c115 h6 => ?_) (fun c115 h7 => ?_) <;> clear h5
     · obtain ⟨c116, c117, c118, h8⟩ := ck3 h6; clear h6
       exact aqd fol [.r [], .c true, .r [], .c true, .r [], .r [], .c true, .d {ds := [], hv := 16384, Hs := [16384]}, .s 4] [1, 2, 4, 5, 6] [2, 4, 5] (aI c111 (aI c112 (aI c113 (aI (oD c111) (aI c114 (aI c113 (aI (oD c111) (aI c115 (aI c113 (aI (oD c111) (aI c116 (aI c117 (aI c118 (aI c113 (oD c111))))))))))))))) (Zah.p4_ok n_13 i_19 a_18 (List.set (List.set out_21 (Int.toNat i_19) (shlOf .u64 (List.getD a_18 (Int.toNat i_19) 0) (v64 (n_13)))) (Int.toNat i_19) (v64 ((List.getD (List.set out_21 (Int.toNat i_19) (shlOf .u64 (List.getD a_18 (Int.toNat i_19) 0) (v64 (n_13)))) (Int.toNat i_19) 0) + (shrOf .u64 (List.getD a_18 (Int.toNat (w64 (i_19 - 1))) 0) (v64 (w64 (64 - n_13))))))) st hE hc3 h8)
     · exact aq fol [.r [], .c true, .r [], .c true, .r [], .r [], .c false, .s 4] [1, 2, 4, 5, 6] [2, 4, 5] (aI c111 (aI c112 (aI c113 (aI (oD c111) (aI c114 (aI c113 (aI (oD c111) c115))))))) (Zah.p4_ok n_13 i_19 a_18 (List.set out_21 (Int.toNat i_19) (shlOf .u64 (List.getD a_18 (Int.toNat i_19) 0) (v64 (n_13)))) st hE hc3 h7)
   · obtain ⟨c119, c120, h9⟩ := ck2 h4; clear h4
     refine iteB h9 (fun c121 h10 => ?_) (fun c121 h11 => ?_) <;> clear h9
     · obtain ⟨c122, c123, c124, h12⟩ := ck3 h10; clear h10
       exact aqd fol [.r [], .c true, .r [], .c false, .r [], .r [], .c true, .d {ds := [], hv := 16384, Hs := [16384]}, .s 4] [1, 2, 4, 5, 6] [2, 4, 5] (aI c111 (aI c112 (aI c119 (aI (oD c111) (aI c120 (aI c119 (aI (oD c111) (aI c121 (aI c119 (aI (oD c111) (aI c122 (aI c123 (aI c124 (aI c119 (oD c111))))))))))))))) (Zah.p4_ok n_13 i_19 a_18 (List.set (List.set out_21 (Int.toNat i_19) (shrOf .u64 (List.getD a_18 (Int.toNat i_19) 0) (v64 (w64 (0 - n_13))))) (Int.toNat i_19) (v64 ((List.getD (List.set out_21 (Int.toNat i_19) (shrOf .u64 (List.getD a_18 (Int.toNat i_19) 0) (v64 (w64 (0 - n_13))))) (Int.toNat i_19) 0) + (shlOf .u64 (List.getD a_18 (Int.toNat (w64 (i_19 + 1))) 0) (v64 (w64 (64 + n_13))))))) st hE hc3 h12)
     · exact aq fol [.r [], .c true, .r [], .c false, .r [], .r [], .c false, .s 4] [1, 2, 4, 5, 6] [2, 4, 5] (aI c111 (aI c112 (aI c119 (aI (oD c111) (aI c120 (aI c119 (aI (oD c111) c121))))))) (Zah.p4_ok n_13 i_19 a_18 (List.set out_21 (Int.toNat i_19) (shrOf .u64 (List.getD a_18 (Int.toNat i_19) 0) (v64 (w64 (0 - n_13))))) st hE hc3 h11)
 · obtain rfl := Zad h2
   exact af fol hE [.r [], .c false, .r []] [] 0 [] c111
theorem Zah.p2_ok (n_13 : Int) (a_18 : List Int) (st : LL) {r : (List Int)} {c2_ : (Int × (List Int)) → Option (List Int)} {J2 : Act → World → Prop} (hE : En Tryz.f125 g0 w0 (Zah.rs r) st R) (hc2 : ∀ (n_13 : Int) (a_18 : List Int), c2_ (n_13, a_18) = some r → At g0 w0 (Zah.p2.S n_13 a_18 st) J2) (h : Zah.p2 N c2_ (n_13, a_18) = some r) : At g0 w0 (Zah.p2.S n_13 a_18 st) (XK Tryz.prog R (.c (csub Zah.B [1, 1, 1, 1, 0, 0, 0]) :: .h J2 :: [.b 2, .c (csub Zah.B [1, 1, 1, 1, 1])])) := by
 unfold Zah.p2 at h
 refine iteB h (fun c95 h13 => ?_) (fun c95 h14 => ?_) <;> clear h
 · exact an fol [.r [], .c true, .r [(6, {m := 3})], .r []] [1, 2, 4, 5] [2, 4, 5] (aI c95 (ix 1 4 (ix 2 4 (aI (leI 0 3) (ltI 3 4))))) (hc2 (w64 (n_13 + 64)) [List.getD a_18 1 0, List.getD a_18 2 0, List.getD a_18 3 0, 0] h13)
 · refine iteB h14 (fun c96 h15 => ?_) (fun c96 h16 => ?_) <;> clear h14
   · obtain rfl := Zad h15
     exact af fol hE [.r [], .c false, .r [], .c true, .r []] [] 0 [] (aI c95 c96)
   · exact aq fol [.r [], .c false, .r [], .c false, .r []] [1, 2, 4, 5, 6] [2, 4, 5] (aI c95 c96) (At.loop N (At.loopN (fun y : Int × (List Int) => Zah.p3.S n_13 y.1 a_18 y.2 st) (fun c J hc y h => Zah.p3_ok n_13 y.1 a_18 y.2 st hE (fun i_19 out_21 hh => hc (i_19, out_21) hh) h) N (0, List.replicate 4 0) h16))
theorem Zah.p1_ok (n_1 : Int) (a_12 : List Int) (st : LL) {r : (List Int)} {c1_ : (Int × (List Int)) → Option (List Int)} {J1 : Act → World → Prop} (hE : En Tryz.f125 g0 w0 (Zah.rs r) st R) (hc1 : ∀ (n_1 : Int) (a_12 : List Int), c1_ (n_1, a_12) = some r → At g0 w0 (Zah.p1.S n_1 a_12 st) J1) (h : Zah.p1 N c1_ (n_1, a_12) = some r) : At g0 w0 (Zah.p1.S n_1 a_12 st) (XK Tryz.prog R (.c (csub Zah.B [1, 1, 1, 0, 0, 0]) :: .h J1 :: [.b 0, .c (csub Zah.B [1, 1, 1, 1])])) := by
 unfold Zah.p1 at h
 refine iteB h (fun c64 h17 => ?_) (fun c64 h18 => ?_) <;> clear h
 · exact an fol [.r [], .c true, .r [(6, {m := 3})], .r []] [1, 2, 4, 5] [2, 4, 5] (aI c64 (ix 0 4 (ix 1 4 (aI (leI 0 2) (ltI 2 4))))) (hc1 (w64 (n_1 - 64)) [0, List.getD a_12 0 0, List.getD a_12 1 0, List.getD a_12 2 0] h17)
 · exact aq fol [.r [], .c false] [1, 2, 4, 5] [2, 4, 5] c64 (At.loop N (At.loopN (fun y : Int × (List Int) => Zah.p2.S y.1 y.2 st) (fun c J hc y h => Zah.p2_ok y.1 y.2 st hE (fun n_13 a_18 hh => hc (n_13, a_18) hh) h) N (n_1, a_12) h18))
theorem Zah.snd {a_0_0 : List Int} {n_1 : Int} {r : (List Int)} (h : Zah N a_0_0 n_1 = some r) : SndQ Tryz.prog 125 [.agg [L.arr .u64 4 a_0_0], .one (L.int .i64 n_1)] (Zah.rs r) := fun st =>
 sO Zah.B Tryz.func125 fun g0 w0 R hE => by
  unfold Zah at h
  refine iteB h (fun c1 h19 => ?_) (fun c1 h20 => ?_) <;> clear h
  · obtain rfl := Zad h19
    exact af fol hE [.r [], .r [], .r [(3, {want := false}), (4, {want := false})], .c true, .r []] [] 0 [] (aI c1 (aI c1 (aI c1 (eB true))))
  · refine iteB h20 (fun c2 h21 => ?_) (fun c2 h22 => ?_) <;> clear h20
    · obtain rfl := Zad h21
      exact af fol hE [.r [], .r [], .r [(5, {yes := false})], .c true, .r []] [] 0 [] (aI c1 (aI c1 (aI c1 c2)))
    · exact aq fol [.r [], .r [], .r [(5, {yes := false})], .c false] [1, 2, 4, 5] [2, 4, 5] (aI c1 (aI c1 (aI c1 c2))) (At.loop N (At.loopN (fun y : Int × (List Int) => Zah.p1.S y.1 y.2 st) (fun c J hc y h => Zah.p1_ok y.1 y.2 st hE (fun n_1 a_12 hh => hc (n_1, a_12) hh) h) N (n_1, a_0_0) h22))
noncomputable def Zax.B : Code := Tryz.f100.body.getD .skip
noncomputable def Zax.rs (r : (List Int) × Bool × Bool) : List CV := [.agg [L.arr .u64 4 r.1], .one (L.bool r.2.1), .one (L.bool r.2.2)]
noncomputable def Zax.p1 (N : Nat) (bits_0 : Int) (over_2 : Bool) (x1 : List Int) : Option ((List Int) × Bool × Bool) :=
 if (decide ((Int.tmod bits_0 8388608) > 0)) = true then
  some (x1, (Int.tmod (w64 (Int.tdiv bits_0 8388608)) 2) == 1, over_2)
 else
 some (x1, false, over_2)
noncomputable def Zax (N : Nat) (bits_0 : Int) : Option ((List Int) × Bool × Bool) :=
 if (decide (bits_0 < 0)) = true then
  some (List.replicate 4 0, false, false)
 else
 if (decide (bits_0 > 4294967295)) = true then
  some (List.replicate 4 0, false, false)
 else
 optE (Zah N [v64 (Int.tmod bits_0 8388608), 0, 0, 0] (w64 (8 * (w64 ((w64 (Int.tdiv bits_0 16777216)) - 3))))) fun x1 =>
 if (decide ((Int.tmod bits_0 8388608) > 0)) = true then
  if (decide ((w64 (Int.tdiv bits_0 16777216)) > 34)) = true then
   Zax.p1 N bits_0 true x1
  else
  if (decide ((Int.tmod bits_0 8388608) > 255)) = true then
   if (decide ((w64 (Int.tdiv bits_0 16777216)) > 33)) = true then
    Zax.p1 N bits_0 true x1
   else
   if (decide ((Int.tmod bits_0 8388608) > 65535)) = true then
    Zax.p1 N bits_0 (decide ((w64 (Int.tdiv bits_0 16777216)) > 32)) x1
   else
   Zax.p1 N bits_0 false x1
  else
  if (decide ((Int.tmod bits_0 8388608) > 65535)) = true then
   Zax.p1 N bits_0 (decide ((w64 (Int.tdiv bits_0 16777216)) > 32)) x1
  else
  Zax.p1 N bits_0 false x1
 else
 if (decide ((Int.tmod bits_0 8388608) > 255)) = true then
  if (decide ((w64 (Int.tdiv bits_0 16777216)) > 33)) = true then
   Zax.p1 N bits_0 true x1
  else
  if (decide ((Int.tmod bits_0 8388608) > 65535)) = true then
   Zax.p1 N bits_0 (decide ((w64 (Int.tdiv bits_0 16777216)) > 32)) x1
  else
  Zax.p1 N bits_0 false x1
 else
 if (decide ((Int.tmod bits_0 8388608) > 65535)) = true then
  Zax.p1 N bits_0 (decide ((w64 (Int.tdiv bits_0 16777216)) > 32)) x1
 else
 Zax.p1 N bits_0 false x1
noncomputable def Zax.p1.S (bits_0 : Int) (over_2 : Bool) (x1 : List Int) (st : LL) : S := mkS 61 [(2, .one (.adr (.site 2) 0)), (6, .one (.l (L.int .i64 (Int.tmod bits_0 8388608)))), (7, .one (.l (L.bool ((Int.tmod (w64 (Int.tdiv bits_0 8388608)) 2) == 1)))), (8, .one (.adr (.site 8) 0)), (9, .one (.l (L.bool over_2)))] [(2, .cells [L.arr .u64 4 (List.replicate 4 0)]), (8, .cells [L.arr .u64 4 x1])] st
theorem Zax.p1_ok (bits_0 : Int) (over_2 : Bool) (x1 : List Int) (st : LL) {r : (List Int) × Bool × Bool} (hE : En Tryz.f100 g0 w0 (Zax.rs r) st R) (h : Zax.p1 N bits_0 over_2 x1 = some r) : At g0 w0 (Zax.p1.S bits_0 over_2 x1 st) (XK Tryz.prog R [.c (csub Zax.B [1, 1, 1, 1, 1, 1, 1])]) := by
 unfold Zax.p1 at h
 refine iteB h (fun c14 h1 => ?_) (fun c14 h2 => ?_) <;> clear h
 · obtain rfl := Zad h1
   exact af fol hE [.r []] [] 0 [] (aI c14 c14)
 · obtain rfl := Zad h2
   exact af fol hE [.r [(4, {want := false}), (5, {yes := false})]] [] 0 [] (aI c14 c14)
theorem Zax.snd {bits_0 : Int} {r : (List Int) × Bool × Bool} (h : Zax N bits_0 = some r) : SndQ Tryz.prog 100 [.one (L.int .i64 bits_0)] (Zax.rs r) := fun st =>
 sO Zax.B Tryz.func100 fun g0 w0 R hE => by
  unfold Zax at h
  refine iteB h (fun c1 h3 => ?_) (fun c1 h4 => ?_) <;> clear h
  · obtain rfl := Zad h3
    exact af fol hE [.r [], .r [(3, {want := false}), (4, {want := false})], .c true, .r []] [] 0 [] (aI c1 (aI c1 (aI c1 (eB true))))
  · refine iteB h4 (fun c2 h5 => ?_) (fun c2 h6 => ?_) <;> clear h4
    · obtain rfl := Zad h5
      exact af fol hE [.r [], .r [(5, {yes := false})], .c true, .r []] [] 0 [] (aI c1 (aI c1 (aI c1 c2)))
    · obtain ⟨x1, c3, h7⟩ := Zan h6; clear h6
      refine iteB h7 (fun c4 h8 => ?_) (fun c4 h9 => ?_) <;> clear h7
      · refine iteB h8 (fun c5 h10 => ?_) (fun c5 h11 => ?_) <;> clear h8
        · exact aq fol [.r [], .r [(5, {yes := false})], .c false, .r [], .r [], .r [], .r [(2, {m := 3}), (6, {rs := [.agg [L.arr .u64 4 x1]], m := 1})], .r [(7, {want := false}), (8, {want := false}), (9, {want := false}), (12, {want := false}), (15, {want := false}), (16, {want := false}), (17, {want := false}), (20, {want := false})], .s 1] [2, 6, 7, 8, 9] [2, 8] (aI c1 (aI c1 (aI c1 (aI c2 (aI (neI 16777216) (aI (neI 8388608) (aI (neI 8388608) (aI (neI 2) (aI (Zah.snd c3) (aI c4 (aI c4 (aI c4 (aI c5 (aI c5 (aI c5 (aI c5 (aI c5 (aI (eB true) (aI (eB true) (aI (eB true) (aI (eB true) (eB true)))))))))))))))))))))) (Zax.p1_ok bits_0 true x1 st hE h10)
        · refine iteB h11 (fun c6 h12 => ?_) (fun c6 h13 => ?_) <;> clear h11
          · refine iteB h12 (fun c7 h14 => ?_) (fun c7 h15 => ?_) <;> clear h12
            · exact aq fol [.r [], .r [(5, {yes := false})], .c false, .r [], .r [], .r [], .r [(2, {m := 3}), (6, {rs := [.agg [L.arr .u64 4 x1]], m := 1})], .r [(13, {yes := false}), (15, {want := false}), (16, {want := false}), (17, {want := false}), (20, {want := false})], .s 1] [2, 6, 7, 8, 9] [2, 8] (aI c1 (aI c1 (aI c1 (aI c2 (aI (neI 16777216) (aI (neI 8388608) (aI (neI 8388608) (aI (neI 2) (aI (Zah.snd c3) (aI c4 (aI c4 (aI c4 (aI c5 (aI c5 (aI c5 (aI c6 (aI c6 (aI c5 (aI c6 (aI c5 (aI c7 (aI c7 (aI c7 (aI c7 c7)))))))))))))))))))))))) (Zax.p1_ok bits_0 true x1 st hE h14)
            · refine iteB h15 (fun c8 h16 => ?_) (fun c8 h17 => ?_) <;> clear h15
              · exact aq fol [.r [], .r [(5, {yes := false})], .c false, .r [], .r [], .r [], .r [(2, {m := 3}), (6, {rs := [.agg [L.arr .u64 4 x1]], m := 1})], .r [(13, {yes := false}), (21, {yes := false})], .s 1] [2, 6, 7, 8, 9] [2, 8] (aI c1 (aI c1 (aI c1 (aI c2 (aI (neI 16777216) (aI (neI 8388608) (aI (neI 8388608) (aI (neI 2) (aI (Zah.snd c3) (aI c4 (aI c4 (aI c4 (aI c5 (aI c5 (aI c5 (aI c6 (aI c6 (aI c5 (aI c6 (aI c5 (aI c7 (aI c7 (aI c7 (aI c8 (aI c8 (aI c7 (aI c8 c7))))))))))))))))))))))))))) (Zax.p1_ok bits_0 (decide ((w64 (Int.tdiv bits_0 16777216)) > 32)) x1 st hE h16)
              · exact aq fol [.r [], .r [(5, {yes := false})], .c false, .r [], .r [], .r [], .r [(2, {m := 3}), (6, {rs := [.agg [L.arr .u64 4 x1]], m := 1})], .r [(13, {yes := false}), (18, {want := false}), (19, {want := false}), (20, {yes := false}), (21, {yes := false})], .s 1] [2, 6, 7, 8, 9] [2, 8] (aI c1 (aI c1 (aI c1 (aI c2 (aI (neI 16777216) (aI (neI 8388608) (aI (neI 8388608) (aI (neI 2) (aI (Zah.snd c3) (aI c4 (aI c4 (aI c4 (aI c5 (aI c5 (aI c5 (aI c6 (aI c6 (aI c5 (aI c6 (aI c5 (aI c7 (aI c7 (aI c7 (aI c8 (aI c8 (aI c7 (aI c8 c7))))))))))))))))))))))))))) (Zax.p1_ok bits_0 false x1 st hE h17)
          · refine iteB h13 (fun c9 h18 => ?_) (fun c9 h19 => ?_) <;> clear h13
            · exact aq fol [.r [], .r [(5, {yes := false})], .c false, .r [], .r [], .r [], .r [(2, {m := 3}), (6, {rs := [.agg [L.arr .u64 4 x1]], m := 1})], .r [(10, {want := false}), (11, {want := false}), (12, {yes := false}), (13, {yes := false}), (21, {yes := false})], .s 1] [2, 6, 7, 8, 9] [2, 8] (aI c1 (aI c1 (aI c1 (aI c2 (aI (neI 16777216) (aI (neI 8388608) (aI (neI 8388608) (aI (neI 2) (aI (Zah.snd c3) (aI c4 (aI c4 (aI c4 (aI c5 (aI c5 (aI c5 (aI c6 (aI c6 (aI c5 (aI c6 (aI c5 (aI (eB false) (aI (eB false) (aI (eB false) (aI c9 (aI c9 (aI (eB false) (aI c9 (eB false)))))))))))))))))))))))))))) (Zax.p1_ok bits_0 (decide ((w64 (Int.tdiv bits_0 16777216)) > 32)) x1 st hE h18)
            · exact aq fol [.r [], .r [(5, {yes := false})], .c false, .r [], .r [], .r [], .r [(2, {m := 3}), (6, {rs := [.agg [L.arr .u64 4 x1]], m := 1})], .r [(10, {want := false}), (11, {want := false}), (12, {yes := false}), (13, {yes := false}), (18, {want := false}), (19, {want := false}), (20, {yes := false}), (21, {yes := false})], .s 1] [2, 6, 7, 8, 9] [2, 8] (aI c1 (aI c1 (aI c1 (aI c2 (aI (neI 16777216) (aI (neI 8388608) (aI (neI 8388608) (aI (neI 2) (aI (Zah.snd c3) (aI c4 (aI c4 (aI c4 (aI c5 (aI c5 (aI c5 (aI c6 (aI c6 (aI c5 (aI c6 (aI c5 (aI (eB false) (aI (eB false) (aI (eB false) (aI c9 (aI c9 (aI (eB false) (aI c9 (eB false)))))))))))))))))))))))))))) (Zax.p1_ok bits_0 false x1 st hE h19)
      · refine iteB h9 (fun c10 h20 => ?_) (fun c10 h21 => ?_) <;> clear h9
        · refine iteB h20 (fun c11 h22 => ?_) (fun c11 h23 => ?_) <;> clear h20
          · exact aq fol [.r [], .r [(5, {yes := false})], .c false, .r [], .r [], .r [], .r [(2, {m := 3}), (6, {rs := [.agg [L.arr .u64 4 x1]], m := 1})], .r [(3, {want := false}), (4, {want := false}), (5, {yes := false}), (13, {yes := false}), (15, {want := false}), (16, {want := false}), (17, {want := false}), (20, {want := false})], .s 1] [2, 6, 7, 8, 9] [2, 8] (aI c1 (aI c1 (aI c1 (aI c2 (aI (neI 16777216) (aI (neI 8388608) (aI (neI 8388608) (aI (neI 2) (aI (Zah.snd c3) (aI c4 (aI c4 (aI c4 (aI (eB false) (aI (eB false) (aI (eB false) (aI c10 (aI c10 (aI (eB false) (aI c10 (aI (eB false) (aI c11 (aI c11 (aI c11 (aI c11 c11)))))))))))))))))))))))) (Zax.p1_ok bits_0 true x1 st hE h22)
          · refine iteB h23 (fun c12 h24 => ?_) (fun c12 h25 => ?_) <;> clear h23
            · exact aq fol [.r [], .r [(5, {yes := false})], .c false, .r [], .r [], .r [], .r [(2, {m := 3}), (6, {rs := [.agg [L.arr .u64 4 x1]], m := 1})], .r [(3, {want := false}), (4, {want := false}), (5, {yes := false}), (13, {yes := false}), (21, {yes := false})], .s 1] [2, 6, 7, 8, 9] [2, 8] (aI c1 (aI c1 (aI c1 (aI c2 (aI (neI 16777216) (aI (neI 8388608) (aI (neI 8388608) (aI (neI 2) (aI (Zah.snd c3) (aI c4 (aI c4 (aI c4 (aI (eB false) (aI (eB false) (aI (eB false) (aI c10 (aI c10 (aI (eB false) (aI c10 (aI (eB false) (aI c11 (aI c11 (aI c11 (aI c12 (aI c12 (aI c11 (aI c12 c11))))))))))))))))))))))))))) (Zax.p1_ok bits_0 (decide ((w64 (Int.tdiv bits_0 16777216)) > 32)) x1 st hE h24)
            · exact aq fol [.r [], .r [(5, {yes := false})], .c false, .r [], .r [], .r [], .r [(2, {m := 3}), (6, {rs := [.agg [L.arr .u64 4 x1]], m := 1})], .r [(3, {want := false}), (4, {want := false}), (5, {yes := false}), (13, {yes := false}), (18, {want := false}), (19, {want := false}), (20, {yes := false}), (21, {yes := false})], .s 1] [2, 6, 7, 8, 9] [2, 8] (aI c1 (aI c1 (aI c1 (aI c2 (aI (neI 16777216) (aI (neI 8388608) (aI (neI 8388608) (aI (neI 2) (aI (Zah.snd c3) (aI c4 (aI c4 (aI c4 (aI (eB false) (aI (eB false) (aI (eB false) (aI c10 (aI c10 (aI (eB false) (aI c10 (aI (eB false) (aI c11 (aI c11 (aI c11 (aI c12 (aI c12 (aI c11 (aI c12 c11))))))))))))))))))))))))))) (Zax.p1_ok bits_0 false x1 st hE h25)
        · refine iteB h21 (fun c13 h26 => ?_) (fun c13 h27 => ?_) <;> clear h21
          · exact aq fol [.r [], .r [(5, {yes := false})], .c false, .r [], .r [], .r [], .r [(2, {m := 3}), (6, {rs := [.agg [L.arr .u64 4 x1]], m := 1})], .r [(3, {want := false}), (4, {want := false}), (5, {yes := false}), (10, {want := false}), (11, {want := false}), (12, {yes := false}), (13, {yes := false}), (21, {yes := false})], .s 1] [2, 6, 7, 8, 9] [2, 8] (aI c1 (aI c1 (aI c1 (aI c2 (aI (neI 16777216) (aI (neI 8388608) (aI (neI 8388608) (aI (neI 2) (aI (Zah.snd c3) (aI c4 (aI c4 (aI c4 (aI (eB false) (aI (eB false) (aI (eB false) (aI c10 (aI c10 (aI (eB false) (aI c10 (aI (eB false) (aI (eB false) (aI (eB false) (aI (eB false) (aI c13 (aI c13 (aI (eB false) (aI c13 (eB false)))))))))))))))))))))))))))) (Zax.p1_ok bits_0 (decide ((w64 (Int.tdiv bits_0 16777216)) > 32)) x1 st hE h26)
          · exact aq fol [.r [], .r [(5, {yes := false})], .c false, .r [], .r [], .r [], .r [(2, {m := 3}), (6, {rs := [.agg [L.arr .u64 4 x1]], m := 1})], .r [(3, {want := false}), (4, {want := false}), (5, {yes := false}), (10, {want := false}), (11, {want := false}), (12, {yes := false}), (13, {yes := false}), (18, {want := false}), (19, {want := false}), (20, {yes := false}), (21, {yes := false})], .s 1] [2, 6, 7, 8, 9] [2, 8] (aI c1 (aI c1 (aI c1 (aI c2 (aI (neI 16777216) (aI (neI 8388608) (aI (neI 8388608) (aI (neI 2) (aI (Zah.snd c3) (aI c4 (aI c4 (aI c4 (aI (eB false) (aI (eB false) (aI (eB false) (aI c10 (aI c10 (aI (eB false) (aI c10 (aI (eB false) (aI (eB false) (aI (eB false) (aI (eB false) (aI c13 (aI c13 (aI (eB false) (aI c13 (eB false)))))))))))))))))))))))))))) (Zax.p1_ok bits_0 false x1 st hE h27)
noncomputable def ZbO.B : Code := Tryz.f124.body.getD .skip
noncomputable def ZbO.rs (r : Int) : List CV := [.one (L.int .i64 r)]
noncomputable def ZbO (N : Nat) (a_0_0 : List Int) (i_1 : Int) : Option Int :=
 if (decide (i_1 < 0)) = true then
  some 0
 else
 if (decide (i_1 > 255)) = true then
  some 0
 else
 chk (0 ≤ (w64 (Int.tdiv i_1 64))) <|
 chk ((w64 (Int.tdiv i_1 64)) < 4) <|
 chk (0 ≤ (v64 (Int.tmod i_1 64))) <|
 some (w64 (Int.tmod (shrOf .u64 (List.getD a_0_0 (Int.toNat (w64 (Int.tdiv i_1 64))) 0) (v64 (Int.tmod i_1 64))) 2))
theorem ZbO.snd {a_0_0 : List Int} {i_1 : Int} {r : Int} (h : ZbO N a_0_0 i_1 = some r) : SndQ Tryz.prog 124 [.agg [L.arr .u64 4 a_0_0], .one (L.int .i64 i_1)] (ZbO.rs r) := fun st =>
 sO ZbO.B Tryz.func124 fun g0 w0 R hE => by
  unfold ZbO at h
  refine iteB h (fun c1 h1 => ?_) (fun c1 h2 => ?_) <;> clear h
  · obtain rfl := Zad h1
    exact af fol hE [.r [], .r [(3, {want := false}), (4, {want := false})], .c true, .r []] [] 0 [] (aI c1 (aI c1 (aI c1 (eB true))))
  · refine iteB h2 (fun c2 h3 => ?_) (fun c2 h4 => ?_) <;> clear h2
    · obtain rfl := Zad h3
      exact af fol hE [.r [], .r [(5, {yes := false})], .c true, .r []] [] 0 [] (aI c1 (aI c1 (aI c1 c2)))
    · obtain ⟨c3, c4, c5, h5⟩ := ck3 h4; clear h4
      obtain rfl := Zad h5
      exact af fol hE [.r [], .r [(5, {yes := false})], .c false, .r []] [] 0 [] (aI c1 (aI c1 (aI c1 (aI c2 (aI (neI 64) (aI c3 (aI c4 (aI (neI 64) (aI c5 (neI 2))))))))))
noncomputable def ZaX.B : Code := Tryz.f96.body.getD .skip
noncomputable def ZaX.rs (r : Bool) : List CV := [.one (L.bool r)]
noncomputable def ZaX.p1 (N : Nat) (a_0_0 b_1_0 : List Int) (c1_ : Int → Option Bool) : Int → Option Bool := fun i_1 =>
 if (decide (i_1 ≥ 0)) = true then
  optE (ZbO N a_0_0 i_1) fun x2 =>
  optE (ZbO N b_1_0 i_1) fun x3 =>
  if (x2 != x3) = true then
   some (decide (x2 < x3))
  else
  c1_ (w64 (i_1 - 1))
 else
 some false
noncomputable def ZaX (N : Nat) (a_0_0 b_1_0 : List Int) : Option Bool :=
 loopN (ZaX.p1 N a_0_0 b_1_0) N 255
noncomputable def ZaX.p1.S (i_1 : Int) (a_0_0 b_1_0 : List Int) (st : LL) : S := mkS 24 [(2, .one (.adr (.site 2) 0)), (3, .one (.adr (.site 3) 0)), (5, .one (.l (L.int .i64 i_1)))] [(2, .cells [L.arr .u64 4 a_0_0]), (3, .cells [L.arr .u64 4 b_1_0])] st
theorem ZaX.p1_ok (i_1 : Int) (a_0_0 b_1_0 : List Int) (st : LL) {r : Bool} {c1_ : Int → Option Bool} {J1 : Act → World → Prop} (hE : En Tryz.f96 g0 w0 (ZaX.rs r) st R) (hc1 : ∀ (i_1 : Int), c1_ i_1 = some r → At g0 w0 (ZaX.p1.S i_1 a_0_0 b_1_0 st) J1) (h : ZaX.p1 N a_0_0 b_1_0 c1_ i_1 = some r) : At g0 w0 (ZaX.p1.S i_1 a_0_0 b_1_0 st) (XK Tryz.prog R (.c (csub ZaX.B [1, 0, 1, 0, 0]) :: .h J1 :: [.b 0, .c (csub ZaX.B [1, 1])])) := by
 unfold ZaX.p1 at h
 refine iteB h (fun c1 h1 => ?_) (fun c1 h2 => ?_) <;> clear h
 · obtain ⟨x2, c2, h3⟩ := Zan h1; clear h1
   obtain ⟨x3, c3, h4⟩ := Zan h3; clear h3
   refine iteB h4 (fun c4 h5 => ?_) (fun c4 h6 => ?_) <;> clear h4
   · obtain rfl := Zad h5
     exact afd fol hE [.r [], .c true, .d {ds := [(2, {rs := [.one (L.int .i64 x2)], m := 1}), (5, {rs := [.one (L.int .i64 x3)], m := 1})], hv := 0, Hs := []}, .c true, .d {ds := [(2, {rs := [.one (L.int .i64 x2)], m := 1}), (5, {rs := [.one (L.int .i64 x3)], m := 1})], hv := 0, Hs := []}] [] 0 [] (aI c1 (aI (ZbO.snd c2) (aI (ZbO.snd c3) (aI c4 (aI (ZbO.snd c2) (ZbO.snd c3))))))
   · exact and_ fol [.r [], .c true, .d {ds := [(2, {rs := [.one (L.int .i64 x2)], m := 1}), (5, {rs := [.one (L.int .i64 x3)], m := 1})], hv := 0, Hs := []}, .c false, .r []] [2, 3, 5] [2, 3] (aI c1 (aI (ZbO.snd c2) (aI (ZbO.snd c3) c4))) (hc1 (w64 (i_1 - 1)) h6)
 · obtain rfl := Zad h2
   exact af fol hE [.r [], .c false, .r []] [] 0 [] c1
theorem ZaX.snd {a_0_0 b_1_0 : List Int} {r : Bool} (h : ZaX N a_0_0 b_1_0 = some r) : SndQ Tryz.prog 96 [.agg [L.arr .u64 4 a_0_0], .agg [L.arr .u64 4 b_1_0]] (ZaX.rs r) := fun st =>
 sO ZaX.B Tryz.func96 fun g0 w0 R hE => by
  unfold ZaX at h
  exact aq fol [.r [], .r []] [2, 3, 5] [2, 3] trivial (At.loop N (At.loopN (fun y : Int => ZaX.p1.S y a_0_0 b_1_0 st) (fun c J hc y h => ZaX.p1_ok y a_0_0 b_1_0 st hE (fun i_1 hh => hc i_1 hh) h) N 255 h))
noncomputable def ZaR.B : Code := Tryz.f95.body.getD .skip
noncomputable def ZaR.rs (r : (List Int) × Bool) : List CV := [.agg [L.arr .u64 4 r.1], .one (L.bool r.2)]
noncomputable def ZaR (N : Nat) (bits_0 limit_1 : Int) : Option ((List Int) × Bool) :=
 optE (Zax N bits_0) fun (x1, x2, x3) =>
 optE (Zax N limit_1) fun (x4, x5, x6) =>
 if x2 = true then
  some (List.replicate 4 0, false)
 else
 if x3 = true then
  some (List.replicate 4 0, false)
 else
 if x5 = true then
  some (List.replicate 4 0, false)
 else
 if x6 = true then
  some (List.replicate 4 0, false)
 else
 if (x1 == (List.replicate 4 0)) = true then
  some (List.replicate 4 0, false)
 else
 optE (ZaX N x4 x1) fun x7 =>
 if x7 = true then
  some (List.replicate 4 0, false)
 else
 some (x1, true)
theorem ZaR.snd {bits_0 limit_1 : Int} {r : (List Int) × Bool} (h : ZaR N bits_0 limit_1 = some r) : SndQ Tryz.prog 95 [.one (L.int .i64 bits_0), .one (L.int .i64 limit_1)] (ZaR.rs r) := fun st =>
 sO ZaR.B Tryz.func95 fun g0 w0 R hE => by
  unfold ZaR at h
  obtain ⟨⟨x1, x2, x3⟩, c1, h1⟩ := Zan h; clear h
  obtain ⟨⟨x4, x5, x6⟩, c2, h2⟩ := Zan h1; clear h1
  refine iteB h2 (fun c3 h3 => ?_) (fun c3 h4 => ?_) <;> clear h2
  · obtain rfl := Zad h3
    exact af fol hE [.r [], .r [(1, {rs := [.agg [L.arr .u64 4 x1], .one (L.bool x2), .one (L.bool x3)], m := 1})], .r [(1, {rs := [.agg [L.arr .u64 4 x4], .one (L.bool x5), .one (L.bool x6)], m := 1})], .r [(2, {want := false}), (5, {want := false}), (8, {want := false}), (11, {want := false}), (12, {want := false}), (13, {want := false}), (16, {want := false}), (17, {want := false}), (18, {want := false})], .c true, .r []] [] 0 [] (aI (Zax.snd c1) (aI (Zax.snd c2) (aI c3 (aI c3 (aI (eB true) (aI (eB true) (aI (eB true) (aI (eB true) (aI (eB true) (aI (eB true) (aI (eB true) (aI (eB true) (aI (eB true) (aI (eB true) (aI (eB true) (aI (eB true) (eB true)))))))))))))))))
  · refine iteB h4 (fun c4 h5 => ?_) (fun c4 h6 => ?_) <;> clear h4
    · obtain rfl := Zad h5
      exact af fol hE [.r [], .r [(1, {rs := [.agg [L.arr .u64 4 x1], .one (L.bool x2), .one (L.bool x3)], m := 1})], .r [(1, {rs := [.agg [L.arr .u64 4 x4], .one (L.bool x5), .one (L.bool x6)], m := 1})], .r [(3, {yes := false}), (5, {want := false}), (8, {want := false}), (11, {want := false}), (12, {want := false}), (13, {want := false}), (16, {want := false}), (17, {want := false}), (18, {want := false})], .c true, .r []] [] 0 [] (aI (Zax.snd c1) (aI (Zax.snd c2) (aI c3 (aI c3 (aI c4 (aI c4 (aI (eB true) (aI (eB true) (aI (eB true) (aI (eB true) (aI (eB true) (aI (eB true) (aI (eB true) (aI (eB true) (aI (eB true) (aI (eB true) (eB true)))))))))))))))))
    · refine iteB h6 (fun c5 h7 => ?_) (fun c5 h8 => ?_) <;> clear h6
      · obtain rfl := Zad h7
        exact af fol hE [.r [], .r [(1, {rs := [.agg [L.arr .u64 4 x1], .one (L.bool x2), .one (L.bool x3)], m := 1})], .r [(1, {rs := [.agg [L.arr .u64 4 x4], .one (L.bool x5), .one (L.bool x6)], m := 1})], .r [(3, {yes := false}), (6, {yes := false}), (8, {want := false}), (11, {want := false}), (12, {want := false}), (13, {want := false}), (16, {want := false}), (17, {want := false}), (18, {want := false})], .c true, .r []] [] 0 [] (aI (Zax.snd c1) (aI (Zax.snd c2) (aI c3 (aI c3 (aI c4 (aI c4 (aI c5 (aI c5 (aI (eB true) (aI (eB true) (aI (eB true) (aI (eB true) (aI (eB true) (aI (eB true) (aI (eB true) (aI (eB true) (eB true)))))))))))))))))
      · refine iteB h8 (fun c6 h9 => ?_) (fun c6 h10 => ?_) <;> clear h8
        · obtain rfl := Zad h9
          exact af fol hE [.r [], .r [(1, {rs := [.agg [L.arr .u64 4 x1], .one (L.bool x2), .one (L.bool x3)], m := 1})], .r [(1, {rs := [.agg [L.arr .u64 4 x4], .one (L.bool x5), .one (L.bool x6)], m := 1})], .r [(3, {yes := false}), (6, {yes := false}), (9, {yes := false}), (11, {want := false}), (12, {want := false}), (13, {want := false}), (16, {want := false}), (17, {want := false}), (18, {want := false})], .c true, .r []] [] 0 [] (aI (Zax.snd c1) (aI (Zax.snd c2) (aI c3 (aI c3 (aI c4 (aI c4 (aI c5 (aI c5 (aI c6 (aI c6 (aI c6 (aI c6 (aI (eB true) (aI (eB true) (aI (eB true) (aI (eB true) (eB true)))))))))))))))))
        · refine iteB h10 (fun c7 h11 => ?_) (fun c7 h12 => ?_) <;> clear h10
          · obtain rfl := Zad h11
            exact af fol hE [.r [], .r [(1, {rs := [.agg [L.arr .u64 4 x1], .one (L.bool x2), .one (L.bool x3)], m := 1})], .r [(1, {rs := [.agg [L.arr .u64 4 x4], .one (L.bool x5), .one (L.bool x6)], m := 1})], .r [(3, {yes := false}), (6, {yes := false}), (9, {yes := false}), (14, {yes := false}), (16, {want := false}), (17, {want := false}), (18, {want := false})], .c true, .r []] [] 0 [] (aI (Zax.snd c1) (aI (Zax.snd c2) (aI c3 (aI c3 (aI c4 (aI c4 (aI c5 (aI c5 (aI c6 (aI c6 (aI c6 (aI c6 (aI c7 (aI c7 (aI c7 (aI c7 (eB true)))))))))))))))))
          · obtain ⟨x7, c8, h13⟩ := Zan h12; clear h12
            refine iteB h13 (fun c9 h14 => ?_) (fun c9 h15 => ?_) <;> clear h13
            · obtain rfl := Zad h14
              exact af fol hE [.r [], .r [(1, {rs := [.agg [L.arr .u64 4 x1], .one (L.bool x2), .one (L.bool x3)], m := 1})], .r [(1, {rs := [.agg [L.arr .u64 4 x4], .one (L.bool x5), .one (L.bool x6)], m := 1})], .r [(3, {yes := false}), (6, {yes := false}), (9, {yes := false}), (14, {yes := false}), (18, {rs := [.one (L.bool x7)], m := 1}), (19, {yes := false})], .c true, .r []] [] 0 [] (aI (Zax.snd c1) (aI (Zax.snd c2) (aI c3 (aI c3 (aI c4 (aI c4 (aI c5 (aI c5 (aI c6 (aI c6 (aI c6 (aI c6 (aI c7 (aI c7 (aI c7 (aI (ZaX.snd c8) (aI c7 c9)))))))))))))))))
            · obtain rfl := Zad h15
              exact af fol hE [.r [], .r [(1, {rs := [.agg [L.arr .u64 4 x1], .one (L.bool x2), .one (L.bool x3)], m := 1})], .r [(1, {rs := [.agg [L.arr .u64 4 x4], .one (L.bool x5), .one (L.bool x6)], m := 1})], .r [(3, {yes := false}), (6, {yes := false}), (9, {yes := false}), (14, {yes := false}), (18, {rs := [.one (L.bool x7)], m := 1}), (19, {yes := false})], .c false, .r []] [] 0 [] (aI (Zax.snd c1) (aI (Zax.snd c2) (aI c3 (aI c3 (aI c4 (aI c4 (aI c5 (aI c5 (aI c6 (aI c6 (aI c6 (aI c6 (aI c7 (aI c7 (aI c7 (aI (ZaX.snd c8) (aI c7 c9)))))))))))))))))
noncomputable def ZbT.B : Code := Tryz.f65.body.getD .skip
noncomputable def ZbT.rs (r : Bool) : List CV := [.one (L.bool r)]
noncomputable def ZbT (N : Nat) (p_0 : Zac) : Option Bool :=
 optE (ZaR N p_0.Limit p_0.Limit) fun (x1, x2) =>
 if x2 = true then
  if (decide (p_0.Interval ≥ 2)) = true then
   if (decide (p_0.Interval ≤ 64)) = true then
    if (decide (p_0.Spacing ≥ 1)) = true then
     if (decide (p_0.Spacing ≤ 10000)) = true then
      if (decide (p_0.Future ≥ 0)) = true then
       some (decide (p_0.Future < 4294967296))
      else
      some false
     else
     some false
    else
    some false
   else
   some false
  else
  some false
 else
 some false
theorem ZbT.snd {p_0 : Zac} {r : Bool} (h : ZbT N p_0 = some r) : SndQ Tryz.prog 65 [.agg p_0.ls] (ZbT.rs r) := fun st =>
 sO ZbT.B Tryz.func65 fun g0 w0 R hE => by
  unfold ZbT at h
  obtain ⟨⟨x1, x2⟩, c1, h1⟩ := Zan h; clear h
  refine iteB h1 (fun c2 h2 => ?_) (fun c2 h3 => ?_) <;> clear h1
  · refine iteB h2 (fun c3 h4 => ?_) (fun c3 h5 => ?_) <;> clear h2
    · refine iteB h4 (fun c4 h6 => ?_) (fun c4 h7 => ?_) <;> clear h4
      · refine iteB h6 (fun c5 h8 => ?_) (fun c5 h9 => ?_) <;> clear h6
        · refine iteB h8 (fun c6 h10 => ?_) (fun c6 h11 => ?_) <;> clear h8
          · refine iteB h10 (fun c7 h12 => ?_) (fun c7 h13 => ?_) <;> clear h10
            · obtain rfl := Zad h12
              exact af fol hE [.r [], .r [(4, {rs := [.agg [L.arr .u64 4 x1], .one (L.bool x2)], m := 1})], .r []] [] 0 [] (aI (ZaR.snd c1) (aI c2 (aI c2 (aI c2 (aI c2 (aI c3 (aI c3 (aI c3 (aI c3 (aI c4 (aI c4 (aI c4 (aI c4 (aI c5 (aI c5 (aI c5 (aI c5 (aI c6 (aI c6 (aI c6 (aI c6 (aI c7 (aI c7 (aI c7 c7))))))))))))))))))))))))
            · obtain rfl := Zad h13
              exact af fol hE [.r [], .r [(4, {rs := [.agg [L.arr .u64 4 x1], .one (L.bool x2)], m := 1})], .r [(27, {want := false}), (28, {want := false}), (29, {want := false}), (30, {yes := false})]] [] 0 [] (aI (ZaR.snd c1) (aI c2 (aI c2 (aI c2 (aI c2 (aI c3 (aI c3 (aI c3 (aI c3 (aI c4 (aI c4 (aI c4 (aI c4 (aI c5 (aI c5 (aI c5 (aI c5 (aI c6 (aI c6 (aI c6 (aI c6 (aI c7 (aI c7 (aI c7 c7))))))))))))))))))))))))
          · obtain rfl := Zad h11
            exact af fol hE [.r [], .r [(4, {rs := [.agg [L.arr .u64 4 x1], .one (L.bool x2)], m := 1})], .r [(22, {want := false}), (23, {want := false}), (24, {want := false}), (25, {yes := false}), (27, {want := false}), (28, {want := false}), (29, {want := false}), (30, {yes := false})]] [] 0 [] (aI (ZaR.snd c1) (aI c2 (aI c2 (aI c2 (aI c2 (aI c3 (aI c3 (aI c3 (aI c3 (aI c4 (aI c4 (aI c4 (aI c4 (aI c5 (aI c5 (aI c5 (aI c5 (aI c6 (aI c6 (aI c6 (aI c6 (aI (eB false) (aI (eB false) (aI (eB false) (eB false)))))))))))))))))))))))))
        · obtain rfl := Zad h9
          exact af fol hE [.r [], .r [(4, {rs := [.agg [L.arr .u64 4 x1], .one (L.bool x2)], m := 1})], .r [(17, {want := false}), (18, {want := false}), (19, {want := false}), (20, {yes := false}), (22, {want := false}), (23, {want := false}), (24, {want := false}), (25, {yes := false}), (27, {want := false}), (28, {want := false}), (29, {want := false}), (30, {yes := false})]] [] 0 [] (aI (ZaR.snd c1) (aI c2 (aI c2 (aI c2 (aI c2 (aI c3 (aI c3 (aI c3 (aI c3 (aI c4 (aI c4 (aI c4 (aI c4 (aI c5 (aI c5 (aI c5 (aI c5 (aI (eB false) (aI (eB false) (aI (eB false) (aI (eB false) (aI (eB false) (aI (eB false) (aI (eB false) (eB false)))))))))))))))))))))))))
      · obtain rfl := Zad h7
        exact af fol hE [.r [], .r [(4, {rs := [.agg [L.arr .u64 4 x1], .one (L.bool x2)], m := 1})], .r [(12, {want := false}), (13, {want := false}), (14, {want := false}), (15, {yes := false}), (17, {want := false}), (18, {want := false}), (19, {want := false}), (20, {yes := false}), (22, {want := false}), (23, {want := false}), (24, {want := false}), (25, {yes := false}), (27, {want := false}), (28, {want := false}), (29, {want := false}), (30, {yes := false})]] [] 0 [] (aI (ZaR.snd c1) (aI c2 (aI c2 (aI c2 (aI c2 (aI c3 (aI c3 (aI c3 (aI c3 (aI c4 (aI c4 (aI c4 (aI c4 (aI (eB false) (aI (eB false) (aI (eB false) (aI (eB false) (aI (eB false) (aI (eB false) (aI (eB false) (aI (eB false) (aI (eB false) (aI (eB false) (aI (eB false) (eB false)))))))))))))))))))))))))
    · obtain rfl := Zad h5
      exact af fol hE [.r [], .r [(4, {rs := [.agg [L.arr .u64 4 x1], .one (L.bool x2)], m := 1})], .r [(7, {want := false}), (8, {want := false}), (9, {want := false}), (10, {yes := false}), (12, {want := false}), (13, {want := false}), (14, {want := false}), (15, {yes := false}), (17, {want := false}), (18, {want := false}), (19, {want := false}), (20, {yes := false}), (22, {want := false}), (23, {want := false}), (24, {want := false}), (25, {yes := false}), (27, {want := false}), (28, {want := false}), (29, {want := false}), (30, {yes := false})]] [] 0 [] (aI (ZaR.snd c1) (aI c2 (aI c2 (aI c2 (aI c2 (aI c3 (aI c3 (aI c3 (aI c3 (aI (eB false) (aI (eB false) (aI (eB false) (aI (eB false) (aI (eB false) (aI (eB false) (aI (eB false) (aI (eB false) (aI (eB false) (aI (eB false) (aI (eB false) (aI (eB false) (aI (eB false) (aI (eB false) (aI (eB false) (eB false)))))))))))))))))))))))))
  · obtain rfl := Zad h3
    exact af fol hE [.r [], .r [(4, {rs := [.agg [L.arr .u64 4 x1], .one (L.bool x2)], m := 1})], .r [(2, {want := false}), (3, {want := false}), (4, {want := false}), (5, {yes := false}), (7, {want := false}), (8, {want := false}), (9, {want := false}), (10, {yes := false}), (12, {want := false}), (13, {want := false}), (14, {want := false}), (15, {yes := false}), (17, {want := false}), (18, {want := false}), (19, {want := false}), (20, {yes := false}), (22, {want := false}), (23, {want := false}), (24, {want := false}), (25, {yes := false}), (27, {want := false}), (28, {want := false}), (29, {want := false}), (30, {yes := false})]] [] 0 [] (aI (ZaR.snd c1) (aI c2 (aI c2 (aI c2 (aI c2 (aI (eB false) (aI (eB false) (aI (eB false) (aI (eB false) (aI (eB false) (aI (eB false) (aI (eB false) (aI (eB false) (aI (eB false) (aI (eB false) (aI (eB false) (aI (eB false) (aI (eB false) (aI (eB false) (aI (eB false) (aI (eB false) (aI (eB false) (aI (eB false) (aI (eB false) (eB false)))))))))))))))))))))))))
noncomputable def Zao.B : Code := Tryz.f148.body.getD .skip
noncomputable def Zao.rs (r : (List Int) × Bool) : List CV := [.agg [L.arr .u64 4 r.1], .one (L.bool r.2)]
noncomputable def Zao.p2 (N : Nat) (c1_ : (Int × Int × (List Int)) → Option ((List Int) × Bool)) (by_1 over_2 c_1 i_2 w_12 : Int) (n_0_0 d_11 : List Int) : Option ((List Int) × Bool) :=
 chk (0 ≤ i_2) <|
 chk (i_2 < 10) <|
 c1_ (w64 (Int.tdiv (w64 ((w64 (w_12 * by_1)) + c_1)) 4294967296), w64 (i_2 + 1), List.set d_11 (Int.toNat i_2) (Int.tmod (w64 ((w64 (w_12 * by_1)) + c_1)) 4294967296))
noncomputable def Zao.p4 (N : Nat) (q_17 : List Int) (c4_ : (Int × (List Int)) → Option ((List Int) × Bool)) : (Int × (List Int)) → Option ((List Int) × Bool) := fun (i_18, out_19) =>
 if (decide (i_18 < 8)) = true then
  chk (0 ≤ (w64 (Int.tdiv i_18 2))) <|
  chk ((w64 (Int.tdiv i_18 2)) < 4) <|
  chk (0 ≤ i_18) <|
  chk (i_18 < 10) <|
  chk (0 ≤ (v64 (w64 (32 * (Int.tmod i_18 2))))) <|
  c4_ (w64 (i_18 + 1), List.set out_19 (Int.toNat (w64 (Int.tdiv i_18 2))) (v64 ((List.getD out_19 (Int.toNat (w64 (Int.tdiv i_18 2))) 0) + (shlOf .u64 (v64 (List.getD q_17 (Int.toNat i_18) 0)) (v64 (w64 (32 * (Int.tmod i_18 2))))))))
 else
 if ((List.getD q_17 8 0) == 0) = true then
  some (out_19, (List.getD q_17 9 0) == 0)
 else
 some (out_19, false)
noncomputable def Zao.p3 (N : Nat) (over_2 : Int) (d_11 : List Int) (c3_ : (Int × Int × (List Int)) → Option ((List Int) × Bool)) : (Int × Int × (List Int)) → Option ((List Int) × Bool) := fun (rest_13, i_14, q_17) =>
 if (decide (i_14 ≥ 0)) = true then
  chk (0 ≤ i_14) <|
  chk (i_14 < 10) <|
  chk (over_2 ≠ 0) <|
  c3_ (Int.tmod (w64 ((w64 (rest_13 * 4294967296)) + (List.getD d_11 (Int.toNat i_14) 0))) over_2, w64 (i_14 - 1), List.set q_17 (Int.toNat i_14) (w64 (Int.tdiv (w64 ((w64 (rest_13 * 4294967296)) + (List.getD d_11 (Int.toNat i_14) 0))) over_2)))
 else
 loopN (Zao.p4 N q_17) N (0, List.replicate 4 0)
noncomputable def Zao.p1 (N : Nat) (by_1 over_2 : Int) (n_0_0 : List Int) (c1_ : (Int × Int × (List Int)) → Option ((List Int) × Bool)) : (Int × Int × (List Int)) → Option ((List Int) × Bool) := fun (c_1, i_2, d_11) =>
 if (decide (i_2 < 10)) = true then
  if (decide (i_2 < 8)) = true then
   chk (0 ≤ (w64 (Int.tdiv i_2 2))) <|
   chk ((w64 (Int.tdiv i_2 2)) < 4) <|
   chk (0 ≤ (v64 (w64 (32 * (Int.tmod i_2 2))))) <|
   Zao.p2 N c1_ by_1 over_2 c_1 i_2 (w64 (Int.tmod (shrOf .u64 (List.getD n_0_0 (Int.toNat (w64 (Int.tdiv i_2 2))) 0) (v64 (w64 (32 * (Int.tmod i_2 2))))) 4294967296)) n_0_0 d_11
  else
  Zao.p2 N c1_ by_1 over_2 c_1 i_2 0 n_0_0 d_11
 else
 loopN (Zao.p3 N over_2 d_11) N (0, 9, List.replicate 10 0)
noncomputable def Zao (N : Nat) (n_0_0 : List Int) (by_1 over_2 : Int) : Option ((List Int) × Bool) :=
 loopN (Zao.p1 N by_1 over_2 n_0_0) N (0, 0, List.replicate 10 0)
noncomputable def Zao.p2.S (by_1 over_2 c_1 i_2 w_12 : Int) (n_0_0 d_11 : List Int) (st : LL) : S := mkS 96 [(1, .one (.l (L.int .i64 by_1))), (2, .one (.l (L.int .i64 over_2))), (3, .one (.adr (.site 3) 0)), (6, .one (.adr (.site 6) 0)), (8, .one (.adr (.site 8) 0)), (9, .one (.l (L.int .i64 c_1))), (10, .one (.l (L.int .i64 i_2))), (11, .one (.l (L.int .i64 w_12)))] [(3, .cells [L.arr .u64 4 n_0_0]), (6, .cells [L.arr .u64 4 (List.replicate 4 0)]), (8, .cells [L.arr .i64 10 d_11])] st
noncomputable def Zao.p4.S (i_18 : Int) (q_17 out_19 : List Int) (st : LL) : S := mkS 96 [(6, .one (.adr (.site 6) 0)), (14, .one (.adr (.site 14) 0)), (17, .one (.adr (.site 17) 0)), (18, .one (.l (L.int .i64 i_18)))] [(6, .cells [L.arr .u64 4 (List.replicate 4 0)]), (14, .cells [L.arr .i64 10 q_17]), (17, .cells [L.arr .u64 4 out_19])] st
noncomputable def Zao.p3.S (over_2 rest_13 i_14 : Int) (d_11 q_17 : List Int) (st : LL) : S := mkS 96 [(2, .one (.l (L.int .i64 over_2))), (6, .one (.adr (.site 6) 0)), (8, .one (.adr (.site 8) 0)), (13, .one (.l (L.int .i64 rest_13))), (14, .one (.adr (.site 14) 0)), (15, .one (.l (L.int .i64 i_14)))] [(6, .cells [L.arr .u64 4 (List.replicate 4 0)]), (8, .cells [L.arr .i64 10 d_11]), (14, .cells [L.arr .i64 10 q_17])] st
noncomputable def Zao.p1.S (by_1 over_2 c_1 i_2 : Int) (n_0_0 d_11 : List Int) (st : LL) : S := mkS 96 [(1, .one (.l (L.int .i64 by_1))), (2, .one (.l (L.int .i64 over_2))), (3, .one (.adr (.site 3) 0)), (6, .one (.adr (.site 6) 0)), (8, .one (.adr (.site 8) 0)), (9, .one (.l (L.int .i64 c_1))), (10, .one (.l (L.int .i64 i_2)))] [(3, .cells [L.arr .u64 4 n_0_0]), (6, .cells [L.arr .u64 4 (List.replicate 4 0)]), (8, .cells [L.arr .i64 10 d_11])] st
theorem Zao.p2_ok (by_1 over_2 c_1 i_2 w_12 : Int) (n_0_0 d_11 : List Int) (st : LL) {r : (List Int) × Bool} {c1_ : (Int × Int × (List Int)) → Option ((List Int) × Bool)} {J1 : Act → World → Prop} (hE : En Tryz.f148 g0 w0 (Zao.rs r) st R) (hc1 : ∀ (c_1 i_2 : Int) (d_11 : List Int), c1_ (c_1, i_2, d_11) = some r → At g0 w0 (Zao.p1.S by_1 over_2 c_1 i_2 n_0_0 d_11 st) J1) (h : Zao.p2 N c1_ by_1 over_2 c_1 i_2 w_12 n_0_0 d_11 = some r) : At g0 w0 (Zao.p2.S by_1 over_2 c_1 i_2 w_12 n_0_0 d_11 st) (XK Tryz.prog R [.c (csub Zao.B [1, 1, 1, 0, 1, 0, 0, 1, 0, 0, 1, 1]), .b 1, .c (csub Zao.B [1, 1, 1, 0, 1, 0, 0, 1, 1]), .h J1, .b 0, .c (csub Zao.B [1, 1, 1, 1])]) := by
 unfold Zao.p2 at h
 obtain ⟨c49, c50, h1⟩ := ck2 h; clear h
 exact an fol [.r [], .r [], .r [], .r []] [1, 2, 3, 6, 8, 9, 10] [3, 6, 8] (aI (neI 4294967296) (aI c49 (aI c50 (neI 4294967296)))) (hc1 (w64 (Int.tdiv (w64 ((w64 (w_12 * by_1)) + c_1)) 4294967296)) (w64 (i_2 + 1)) (List.set d_11 (Int.toNat i_2) (Int.tmod (w64 ((w64 (w_12 * by_1)) + c_1)) 4294967296)) h1)
theorem Zao.p4_ok (i_18 : Int) (q_17 out_19 : List Int) (st : LL) {r : (List Int) × Bool} {c4_ : (Int × (List Int)) → Option ((List Int) × Bool)} {J4 : Act → World → Prop} (hE : En Tryz.f148 g0 w0 (Zao.rs r) st R) (hc4 : ∀ (i_18 : Int) (out_19 : List Int), c4_ (i_18, out_19) = some r → At g0 w0 (Zao.p4.S i_18 q_17 out_19 st) J4) (h : Zao.p4 N q_17 c4_ (i_18, out_19) = some r) : At g0 w0 (Zao.p4.S i_18 q_17 out_19 st) (XK Tryz.prog R (.c (csub Zao.B [1, 1, 1, 1, 1, 1, 1, 1, 0, 1, 0, 0]) :: .h J4 :: [.b 4, .c (csub Zao.B [1, 1, 1, 1, 1, 1, 1, 1, 1])])) := by
 unfold Zao.p4 at h
 refine iteB h (fun c80 h2 => ?_) (fun c80 h3 => ?_) <;> clear h
 · obtain ⟨c81, c82, c83, c84, c85, h4⟩ := ck5 h2; clear h2
   exact and_ fol [.r [], .c true, .d {ds := [], hv := 131072, Hs := [131072]}, .r []] [6, 14, 17, 18] [6, 14, 17] (aI c80 (aI (neI 2) (aI (neI 2) (aI c81 (aI c82 (aI c83 (aI c84 (aI (neI 2) (aI c85 (aI c81 c82)))))))))) (hc4 (w64 (i_18 + 1)) (List.set out_19 (Int.toNat (w64 (Int.tdiv i_18 2))) (v64 ((List.getD out_19 (Int.toNat (w64 (Int.tdiv i_18 2))) 0) + (shlOf .u64 (v64 (List.getD q_17 (Int.toNat i_18) 0)) (v64 (w64 (32 * (Int.tmod i_18 2)))))))) h4)
 · refine iteB h3 (fun c86 h5 => ?_) (fun c86 h6 => ?_) <;> clear h3
   · obtain rfl := Zad h5
     exact afd fol hE [.r [], .c false, .d {ds := [], hv := 512, Hs := [512]}] [] 0 [] (aI c80 (ix 8 10 (aI c86 (ix 9 10 (aI c86 (ix 9 10 (aI c86 (aI c86 (aI c86 (aI c86 (aI c86 c86)))))))))))
   · obtain rfl := Zad h6
     exact afd fol hE [.r [], .c false, .d {ds := [(5, {want := false}), (6, {want := false}), (7, {want := false}), (8, {yes := false})], hv := 512, Hs := [512]}] [] 0 [] (aI c80 (ix 8 10 (aI c86 (aI c86 (aI c86 (aI c86 (aI c86 (aI c86 (aI c86 c86)))))))))
theorem Zao.p3_ok (over_2 rest_13 i_14 : Int) (d_11 q_17 : List Int) (st : LL) {r : (List Int) × Bool} {c3_ : (Int × Int × (List Int)) → Option ((List Int) × Bool)} {J3 : Act → World → Prop} (hE : En Tryz.f148 g0 w0 (Zao.rs r) st R) (hc3 : ∀ (rest_13 i_14 : Int) (q_17 : List Int), c3_ (rest_13, i_14, q_17) = some r → At g0 w0 (Zao.p3.S over_2 rest_13 i_14 d_11 q_17 st) J3) (h : Zao.p3 N over_2 d_11 c3_ (rest_13, i_14, q_17) = some r) : At g0 w0 (Zao.p3.S over_2 rest_13 i_14 d_11 q_17 st) (XK Tryz.prog R (.c (csub Zao.B [1, 1, 1, 1, 1, 1, 0, 1, 0, 0]) :: .h J3 :: [.b 2, .c (csub Zao.B [1, 1, 1, 1, 1, 1, 1])])) := by
 unfold Zao.p3 at h
 refine iteB h (fun c69 h7 => ?_) (fun c69 h8 => ?_) <;> clear h
 · obtain ⟨c70, c71, c72, h9⟩ := ck3 h7; clear h7
   exact an fol [.r [], .c true, .r [], .r [], .r [], .r []] [2, 6, 8, 13, 14, 15] [6, 8, 14] (aI c69 (aI c70 (aI c71 (aI c72 (aI c70 (aI c71 c72)))))) (hc3 (Int.tmod (w64 ((w64 (rest_13 * 4294967296)) + (List.getD d_11 (Int.toNat i_14) 0))) over_2) (w64 (i_14 - 1)) (List.set q_17 (Int.toNat i_14) (w64 (Int.tdiv (w64 ((w64 (rest_13 * 4294967296)) + (List.getD d_11 (Int.toNat i_14) 0))) over_2))) h9)
 · exact aq fol [.r [], .c false, .r [], .r []] [6, 14, 17, 18] [6, 14, 17] c69 (At.loop N (At.loopN (fun y : Int × (List Int) => Zao.p4.S y.1 q_17 y.2 st) (fun c J hc y h => Zao.p4_ok y.1 q_17 y.2 st hE (fun i_18 out_19 hh => hc (i_18, out_19) hh) h) N (0, List.replicate 4 0) h8))
theorem Zao.p1_ok (by_1 over_2 c_1 i_2 : Int) (n_0_0 d_11 : List Int) (st : LL) {r : (List Int) × Bool} {c1_ : (Int × Int × (List Int)) → Option ((List Int) × Bool)} {J1 : Act → World → Prop} (hE : En Tryz.f148 g0 w0 (Zao.rs r) st R) (hc1 : ∀ (c_1 i_2 : Int) (d_11 : List Int), c1_ (c_1, i_2, d_11) = some r → At g0 w0 (Zao.p1.S by_1 over_2 c_1 i_2 n_0_0 d_11 st) J1) (h : Zao.p1 N by_1 over_2 n_0_0 c1_ (c_1, i_2, d_11) = some r) : At g0 w0 (Zao.p1.S by_1 over_2 c_1 i_2 n_0_0 d_11 st) (XK Tryz.prog R (.c (csub Zao.B [1, 1, 1, 0, 1, 0, 0]) :: .h J1 :: [.b 0, .c (csub Zao.B [1, 1, 1, 1])])) := by
 unfold Zao.p1 at h
 refine iteB h (fun c44 h10 => ?_) (fun c44 h11 => ?_) <;> clear h
 · refine iteB h10 (fun c45 h12 => ?_) (fun c45 h13 => ?_) <;> clear h10
   · obtain ⟨c46, c47, c48, h14⟩ := ck3 h12; clear h12
     exact aq fol [.r [], .c true, .r [], .r [], .c true, .r [], .s 6] [1, 2, 3, 6, 8, 9, 10, 11] [3, 6, 8] (aI c44 (aI c45 (aI (neI 2) (aI c46 (aI c47 (aI (neI 2) (aI c48 (neI 4294967296)))))))) (Zao.p2_ok by_1 over_2 c_1 i_2 (w64 (Int.tmod (shrOf .u64 (List.getD n_0_0 (Int.toNat (w64 (Int.tdiv i_2 2))) 0) (v64 (w64 (32 * (Int.tmod i_2 2))))) 4294967296)) n_0_0 d_11 st hE hc1 h14)
   · exact aq fol [.r [], .c true, .r [], .r [], .c false, .s 6] [1, 2, 3, 6, 8, 9, 10, 11] [3, 6, 8] (aI c44 c45) (Zao.p2_ok by_1 over_2 c_1 i_2 0 n_0_0 d_11 st hE hc1 h13)
 · exact aq fol [.r [], .c false, .r [], .r [], .r []] [2, 6, 8, 13, 14, 15] [6, 8, 14] c44 (At.loop N (At.loopN (fun y : Int × Int × (List Int) => Zao.p3.S over_2 y.1 y.2.1 d_11 y.2.2 st) (fun c J hc y h => Zao.p3_ok over_2 y.1 y.2.1 d_11 y.2.2 st hE (fun rest_13 i_14 q_17 hh => hc (rest_13, i_14, q_17) hh) h) N (0, 9, List.replicate 10 0) h11))
theorem Zao.snd {n_0_0 : List Int} {by_1 over_2 : Int} {r : (List Int) × Bool} (h : Zao N n_0_0 by_1 over_2 = some r) : SndQ Tryz.prog 148 [.agg [L.arr .u64 4 n_0_0], .one (L.int .i64 by_1), .one (L.int .i64 over_2)] (Zao.rs r) := fun st =>
 sO Zao.B Tryz.func148 fun g0 w0 R hE => by
  unfold Zao at h
  exact aq fol [.r [], .r [], .r [], .r []] [1, 2, 3, 6, 8, 9, 10] [3, 6, 8] trivial (At.loop N (At.loopN (fun y : Int × Int × (List Int) => Zao.p1.S by_1 over_2 y.1 y.2.1 n_0_0 y.2.2 st) (fun c J hc y h => Zao.p1_ok by_1 over_2 y.1 y.2.1 n_0_0 y.2.2 st hE (fun c_1 i_2 d_11 hh => hc (c_1, i_2, d_11) hh) h) N (0, 0, List.replicate 10 0) h))
noncomputable def Zap.B : Code := Tryz.f149.body.getD .skip
noncomputable def Zap.rs (r : Int) : List CV := [.one (L.int .i64 r)]
noncomputable def Zap.p2 (N : Nat) (c1_ : (Int × Int) → Option Int) (size_4 i_2 : Int) (n_0_0 : List Int) : Option Int :=
 c1_ (size_4, w64 (i_2 + 1))
noncomputable def Zap.p4 (N : Nat) (size_8 word_9 : Int) : Option Int :=
 some (w64 ((w64 (size_8 * 16777216)) + word_9))
noncomputable def Zap.p3 (N : Nat) (size_1 word_7 : Int) : Option Int :=
 if (decide (word_7 ≥ 8388608)) = true then
  Zap.p4 N (w64 (size_1 + 1)) (w64 (Int.tdiv word_7 256))
 else
 Zap.p4 N size_1 word_7
noncomputable def Zap.p1 (N : Nat) (n_0_0 : List Int) (c1_ : (Int × Int) → Option Int) : (Int × Int) → Option Int := fun (size_1, i_2) =>
 if (decide (i_2 < 32)) = true then
  optE (Zah N n_0_0 (w64 ((-8) * i_2))) fun x3 =>
  if (decide ((Int.tmod (List.getD x3 0 0) 256) > 0)) = true then
   Zap.p2 N c1_ (w64 (i_2 + 1)) i_2 n_0_0
  else
  Zap.p2 N c1_ size_1 i_2 n_0_0
 else
 optE (Zah N n_0_0 (w64 (8 * (w64 (3 - size_1))))) fun x5 =>
 if (decide (size_1 > 3)) = true then
  optE (Zah N n_0_0 (w64 ((-8) * (w64 (size_1 - 3))))) fun x6 =>
  Zap.p3 N size_1 (w64 (Int.tmod (List.getD x6 0 0) 16777216))
 else
 Zap.p3 N size_1 (w64 (Int.tmod (List.getD x5 0 0) 16777216))
noncomputable def Zap (N : Nat) (n_0_0 : List Int) : Option Int :=
 loopN (Zap.p1 N n_0_0) N (0, 0)
noncomputable def Zap.p2.S (size_4 i_2 : Int) (n_0_0 : List Int) (st : LL) : S := mkS 49 [(1, .one (.adr (.site 1) 0)), (3, .one (.l (L.int .i64 size_4))), (4, .one (.l (L.int .i64 i_2)))] [(1, .cells [L.arr .u64 4 n_0_0])] st
noncomputable def Zap.p4.S (size_8 word_9 : Int) (st : LL) : S := mkS 49 [(3, .one (.l (L.int .i64 size_8))), (6, .one (.l (L.int .i64 word_9)))] [] st
noncomputable def Zap.p3.S (size_1 word_7 : Int) (st : LL) : S := mkS 49 [(3, .one (.l (L.int .i64 size_1))), (6, .one (.l (L.int .i64 word_7)))] [] st
noncomputable def Zap.p1.S (size_1 i_2 : Int) (n_0_0 : List Int) (st : LL) : S := mkS 49 [(1, .one (.adr (.site 1) 0)), (3, .one (.l (L.int .i64 size_1))), (4, .one (.l (L.int .i64 i_2)))] [(1, .cells [L.arr .u64 4 n_0_0])] st
theorem Zap.p2_ok (size_4 i_2 : Int) (n_0_0 : List Int) (st : LL) {r : Int} {c1_ : (Int × Int) → Option Int} {J1 : Act → World → Prop} (hE : En Tryz.f149 g0 w0 (Zap.rs r) st R) (hc1 : ∀ (size_1 i_2 : Int), c1_ (size_1, i_2) = some r → At g0 w0 (Zap.p1.S size_1 i_2 n_0_0 st) J1) (h : Zap.p2 N c1_ size_4 i_2 n_0_0 = some r) : At g0 w0 (Zap.p2.S size_4 i_2 n_0_0 st) (XK Tryz.prog R [.c (csub Zap.B [1, 1, 0, 1, 0, 0, 1, 1]), .h J1, .b 0, .c (csub Zap.B [1, 1, 1])]) := by
 unfold Zap.p2 at h
 exact an fol [.r []] [1, 3, 4] [1] trivial (hc1 size_4 (w64 (i_2 + 1)) h)
theorem Zap.p4_ok (size_8 word_9 : Int) (st : LL) {r : Int} (hE : En Tryz.f149 g0 w0 (Zap.rs r) st R) (h : Zap.p4 N size_8 word_9 = some r) : At g0 w0 (Zap.p4.S size_8 word_9 st) (XK Tryz.prog R [.c (csub Zap.B [1, 1, 1, 1, 1, 1])]) := by
 unfold Zap.p4 at h
 obtain rfl := Zad h
 exact af fol hE [.r []] [] 0 [] trivial
theorem Zap.p3_ok (size_1 word_7 : Int) (st : LL) {r : Int} (hE : En Tryz.f149 g0 w0 (Zap.rs r) st R) (h : Zap.p3 N size_1 word_7 = some r) : At g0 w0 (Zap.p3.S size_1 word_7 st) (XK Tryz.prog R [.c (csub Zap.B [1, 1, 1, 1, 1])]) := by
 unfold Zap.p3 at h
 refine iteB h (fun c7 h1 => ?_) (fun c7 h2 => ?_) <;> clear h
 · exact aq fol [.r [], .c true, .r [], .r [], .s 1] [3, 6] [] (aI c7 (neI 256)) (Zap.p4_ok (w64 (size_1 + 1)) (w64 (Int.tdiv word_7 256)) st hE h1)
 · exact aq fol [.r [], .c false, .s 1] [3, 6] [] c7 (Zap.p4_ok size_1 word_7 st hE h2)
theorem Zap.p1_ok (size_1 i_2 : Int) (n_0_0 : List Int) (st : LL) {r : Int} {c1_ : (Int × Int) → Option Int} {J1 : Act → World → Prop} (hE : En Tryz.f149 g0 w0 (Zap.rs r) st R) (hc1 : ∀ (size_1 i_2 : Int), c1_ (size_1, i_2) = some r → At g0 w0 (Zap.p1.S size_1 i_2 n_0_0 st) J1) (h : Zap.p1 N n_0_0 c1_ (size_1, i_2) = some r) : At g0 w0 (Zap.p1.S size_1 i_2 n_0_0 st) (XK Tryz.prog R (.c (csub Zap.B [1, 1, 0, 1, 0, 0]) :: .h J1 :: [.b 0, .c (csub Zap.B [1, 1, 1])])) := by
 unfold Zap.p1 at h
 refine iteB h (fun c1 h3 => ?_) (fun c1 h4 => ?_) <;> clear h
 · obtain ⟨x3, c2, h5⟩ := Zan h3; clear h3
   refine iteB h5 (fun c3 h6 => ?_) (fun c3 h7 => ?_) <;> clear h5
   · exact aq fol [.r [], .c true, .r [(3, {rs := [.agg [L.arr .u64 4 x3]], m := 1})], .r [], .c true, .r [], .s 4] [1, 3, 4] [1] (aI c1 (aI (Zah.snd c2) (ix 0 4 (aI (neI 256) c3)))) (Zap.p2_ok (w64 (i_2 + 1)) i_2 n_0_0 st hE hc1 h6)
   · exact aq fol [.r [], .c true, .r [(3, {rs := [.agg [L.arr .u64 4 x3]], m := 1})], .r [], .c false, .s 4] [1, 3, 4] [1] (aI c1 (aI (Zah.snd c2) (ix 0 4 (aI (neI 256) c3)))) (Zap.p2_ok size_1 i_2 n_0_0 st hE hc1 h7)
 · obtain ⟨x5, c4, h8⟩ := Zan h4; clear h4
   refine iteB h8 (fun c5 h9 => ?_) (fun c5 h10 => ?_) <;> clear h8
   · obtain ⟨x6, c6, h11⟩ := Zan h9; clear h9
     exact aq fol [.r [], .c false, .r [(4, {rs := [.agg [L.arr .u64 4 x5]], m := 1})], .r [], .c true, .r [(4, {rs := [.agg [L.arr .u64 4 x6]], m := 1})], .s 1] [3, 6] [] (aI c1 (aI (Zah.snd c4) (ix 0 4 (aI (neI 16777216) (aI c5 (aI (Zah.snd c6) (ix 0 4 (neI 16777216)))))))) (Zap.p3_ok size_1 (w64 (Int.tmod (List.getD x6 0 0) 16777216)) st hE h11)
   · exact aq fol [.r [], .c false, .r [(4, {rs := [.agg [L.arr .u64 4 x5]], m := 1})], .r [], .c false, .s 1] [3, 6] [] (aI c1 (aI (Zah.snd c4) (ix 0 4 (aI (neI 16777216) c5)))) (Zap.p3_ok size_1 (w64 (Int.tmod (List.getD x5 0 0) 16777216)) st hE h10)
theorem Zap.snd {n_0_0 : List Int} {r : Int} (h : Zap N n_0_0 = some r) : SndQ Tryz.prog 149 [.agg [L.arr .u64 4 n_0_0]] (Zap.rs r) := fun st =>
 sO Zap.B Tryz.func149 fun g0 w0 R hE => by
  unfold Zap at h
  exact aq fol [.r [], .r [], .r []] [1, 3, 4] [1] trivial (At.loop N (At.loopN (fun y : Int × Int => Zap.p1.S y.1 y.2 n_0_0 st) (fun c J hc y h => Zap.p1_ok y.1 y.2 n_0_0 st hE (fun size_1 i_2 hh => hc (size_1, i_2) hh) h) N (0, 0) h))
noncomputable def Zar.B : Code := Tryz.f123.body.getD .skip
noncomputable def Zar.rs (r : Int) : List CV := [.one (L.int .i64 r)]
noncomputable def Zar.p3 (N : Nat) (n_11 : List Int) : Option Int :=
 optE (Zap N n_11) fun x12 =>
 some x12
noncomputable def Zar.p2 (N : Nat) (p_0 : Zac) (took_5 : Int) (x1 : List Int) : Option Int :=
 optE (Zao N x1 took_5 (w64 (p_0.Interval * p_0.Spacing))) fun (x6, x7) =>
 optE (ZaR N p_0.Limit p_0.Limit) fun (x8, x9) =>
 if (!x7) = true then
  some p_0.Limit
 else
 optE (ZaX N x8 x6) fun x10 =>
 if x10 = true then
  some p_0.Limit
 else
 if (x6 == (List.replicate 4 0)) = true then
  Zar.p3 N [1, 0, 0, 0]
 else
 Zar.p3 N x6
noncomputable def Zar.p1 (N : Nat) (p_0 : Zac) (took_4 : Int) (x1 : List Int) : Option Int :=
 if (decide (took_4 > (w64 ((w64 (p_0.Interval * p_0.Spacing)) * 4)))) = true then
  Zar.p2 N p_0 (w64 ((w64 (p_0.Interval * p_0.Spacing)) * 4)) x1
 else
 Zar.p2 N p_0 took_4 x1
noncomputable def Zar (N : Nat) (p_0 : Zac) (bits_1 from_2 to_3 : Int) : Option Int :=
 optE (ZaR N bits_1 p_0.Limit) fun (x1, x2) =>
 optE (ZbT N p_0) fun x3 =>
 if (!x3) = true then
  some p_0.Limit
 else
 if (!x2) = true then
  some p_0.Limit
 else
 if (decide ((w64 (to_3 - from_2)) < (w64 (Int.tdiv (w64 (p_0.Interval * p_0.Spacing)) 4)))) = true then
  Zar.p1 N p_0 (w64 (Int.tdiv (w64 (p_0.Interval * p_0.Spacing)) 4)) x1
 else
 Zar.p1 N p_0 (w64 (to_3 - from_2)) x1
noncomputable def Zar.p3.S (n_11 : List Int) (st : LL) : S := mkS 83 [(13, .one (.adr (.site 13) 0))] [(13, .cells [L.arr .u64 4 n_11])] st
noncomputable def Zar.p2.S (p_0 : Zac) (took_5 : Int) (x1 : List Int) (st : LL) : S := mkS 83 [(4, .one (.adr (.site 4) 0)), (9, .one (.adr (.site 9) 0)), (11, .one (.l (L.int .i64 (w64 (p_0.Interval * p_0.Spacing))))), (12, .one (.l (L.int .i64 took_5)))] [(4, .cells p_0.ls), (9, .cells [L.arr .u64 4 x1])] st
noncomputable def Zar.p1.S (p_0 : Zac) (took_4 : Int) (x1 : List Int) (st : LL) : S := mkS 83 [(4, .one (.adr (.site 4) 0)), (9, .one (.adr (.site 9) 0)), (11, .one (.l (L.int .i64 (w64 (p_0.Interval * p_0.Spacing))))), (12, .one (.l (L.int .i64 took_4)))] [(4, .cells p_0.ls), (9, .cells [L.arr .u64 4 x1])] st
theorem Zar.p3_ok (n_11 : List Int) (st : LL) {r : Int} (hE : En Tryz.f123 g0 w0 (Zar.rs r) st R) (h : Zar.p3 N n_11 = some r) : At g0 w0 (Zar.p3.S n_11 st) (XK Tryz.prog R [.c (csub Zar.B [1, 1, 1, 1, 1, 1, 1, 1, 1, 1, 1])]) := by
 unfold Zar.p3 at h
 obtain ⟨x12, c13, h1⟩ := Zan h; clear h
 obtain rfl := Zad h1
 exact af fol hE [.r [(1, {rs := [.one (L.int .i64 x12)], m := 1})]] [] 0 [] (Zap.snd c13)
theorem Zar.p2_ok (p_0 : Zac) (took_5 : Int) (x1 : List Int) (st : LL) {r : Int} (hE : En Tryz.f123 g0 w0 (Zar.rs r) st R) (h : Zar.p2 N p_0 took_5 x1 = some r) : At g0 w0 (Zar.p2.S p_0 took_5 x1 st) (XK Tryz.prog R [.c (csub Zar.B [1, 1, 1, 1, 1, 1, 1])]) := by
 unfold Zar.p2 at h
 obtain ⟨⟨x6, x7⟩, c7, h2⟩ := Zan h; clear h
 obtain ⟨⟨x8, x9⟩, c8, h3⟩ := Zan h2; clear h2
 refine iteB h3 (fun c9 h4 => ?_) (fun c9 h5 => ?_) <;> clear h3
 · obtain rfl := Zad h4
   exact af fol hE [.r [(3, {rs := [.agg [L.arr .u64 4 x6], .one (L.bool x7)], m := 1})], .r [(4, {rs := [.agg [L.arr .u64 4 x8], .one (L.bool x9)], m := 1})], .r [(3, {want := false}), (4, {want := false}), (5, {want := false})], .c true, .r []] [] 0 [] (aI (Zao.snd c7) (aI (ZaR.snd c8) (aI (not_false (Zbv c9)) (aI (not_false (Zbv c9)) (aI (not_false (Zbv c9)) (aI (not_false (Zbv c9)) (eB true)))))))
 · obtain ⟨x10, c10, h6⟩ := Zan h5; clear h5
   refine iteB h6 (fun c11 h7 => ?_) (fun c11 h8 => ?_) <;> clear h6
   · obtain rfl := Zad h7
     exact af fol hE [.r [(3, {rs := [.agg [L.arr .u64 4 x6], .one (L.bool x7)], m := 1})], .r [(4, {rs := [.agg [L.arr .u64 4 x8], .one (L.bool x9)], m := 1})], .r [(5, {rs := [.one (L.bool x10)], m := 1}), (6, {yes := false})], .c true, .r []] [] 0 [] (aI (Zao.snd c7) (aI (ZaR.snd c8) (aI (not_true (ZaA c9)) (aI (not_true (ZaA c9)) (aI (not_true (ZaA c9)) (aI (ZaX.snd c10) (aI (not_true (ZaA c9)) c11)))))))
   · refine iteB h8 (fun c12 h9 => ?_) (fun c12 h10 => ?_) <;> clear h8
     · exact aq fol [.r [(3, {rs := [.agg [L.arr .u64 4 x6], .one (L.bool x7)], m := 1})], .r [(4, {rs := [.agg [L.arr .u64 4 x8], .one (L.bool x9)], m := 1})], .r [(5, {rs := [.one (L.bool x10)], m := 1}), (6, {yes := false})], .c false, .r [], .c true, .r [(0, {m := 3})], .s 1] [13] [13] (aI (Zao.snd c7) (aI (ZaR.snd c8) (aI (not_true (ZaA c9)) (aI (not_true (ZaA c9)) (aI (not_true (ZaA c9)) (aI (ZaX.snd c10) (aI (not_true (ZaA c9)) (aI c11 c12)))))))) (Zar.p3_ok [1, 0, 0, 0] st hE h9)
     · exact aq fol [.r [(3, {rs := [.agg [L.arr .u64 4 x6], .one (L.bool x7)], m := 1})], .r [(4, {rs := [.agg [L.arr .u64 4 x8], .one (L.bool x9)], m := 1})], .r [(5, {rs := [.one (L.bool x10)], m := 1}), (6, {yes := false})], .c false, .r [], .c false, .s 1] [13] [13] (aI (Zao.snd c7) (aI (ZaR.snd c8) (aI (not_true (ZaA c9)) (aI (not_true (ZaA c9)) (aI (not_true (ZaA c9)) (aI (ZaX.snd c10) (aI (not_true (ZaA c9)) (aI c11 c12)))))))) (Zar.p3_ok x6 st hE h10)
theorem Zar.p1_ok (p_0 : Zac) (took_4 : Int) (x1 : List Int) (st : LL) {r : Int} (hE : En Tryz.f123 g0 w0 (Zar.rs r) st R) (h : Zar.p1 N p_0 took_4 x1 = some r) : At g0 w0 (Zar.p1.S p_0 took_4 x1 st) (XK Tryz.prog R [.c (csub Zar.B [1, 1, 1, 1, 1, 1])]) := by
 unfold Zar.p1 at h
 refine iteB h (fun c6 h11 => ?_) (fun c6 h12 => ?_) <;> clear h
 · exact aq fol [.r [], .c true, .r [], .s 1] [4, 9, 11, 12] [4, 9] c6 (Zar.p2_ok p_0 (w64 ((w64 (p_0.Interval * p_0.Spacing)) * 4)) x1 st hE h11)
 · exact aq fol [.r [], .c false, .s 1] [4, 9, 11, 12] [4, 9] c6 (Zar.p2_ok p_0 took_4 x1 st hE h12)
theorem Zar.snd {p_0 : Zac} {bits_1 from_2 to_3 : Int} {r : Int} (h : Zar N p_0 bits_1 from_2 to_3 = some r) : SndQ Tryz.prog 123 [.agg p_0.ls, .one (L.int .i64 bits_1), .one (L.int .i64 from_2), .one (L.int .i64 to_3)] (Zar.rs r) := fun st =>
 sO Zar.B Tryz.func123 fun g0 w0 R hE => by
  unfold Zar at h
  obtain ⟨⟨x1, x2⟩, c1, h13⟩ := Zan h; clear h
  obtain ⟨x3, c2, h14⟩ := Zan h13; clear h13
  refine iteB h14 (fun c3 h15 => ?_) (fun c3 h16 => ?_) <;> clear h14
  · obtain rfl := Zad h15
    exact af fol hE [.r [], .r [(3, {rs := [.agg [L.arr .u64 4 x1], .one (L.bool x2)], m := 1})], .r [(1, {rs := [.one (L.bool x3)], m := 1}), (4, {want := false}), (5, {want := false})], .c true, .r []] [] 0 [] (aI (ZaR.snd c1) (aI (ZbT.snd c2) (aI (not_false (Zbv c3)) (aI (not_false (Zbv c3)) (aI (not_false (Zbv c3)) (eB true))))))
  · refine iteB h16 (fun c4 h17 => ?_) (fun c4 h18 => ?_) <;> clear h16
    · obtain rfl := Zad h17
      exact af fol hE [.r [], .r [(3, {rs := [.agg [L.arr .u64 4 x1], .one (L.bool x2)], m := 1})], .r [(1, {rs := [.one (L.bool x3)], m := 1}), (6, {yes := false})], .c true, .r []] [] 0 [] (aI (ZaR.snd c1) (aI (ZbT.snd c2) (aI (not_true (ZaA c3)) (aI (not_true (ZaA c3)) (aI (not_true (ZaA c3)) c4)))))
    · refine iteB h18 (fun c5 h19 => ?_) (fun c5 h20 => ?_) <;> clear h18
      · exact aq fol [.r [], .r [(3, {rs := [.agg [L.arr .u64 4 x1], .one (L.bool x2)], m := 1})], .r [(1, {rs := [.one (L.bool x3)], m := 1}), (6, {yes := false})], .c false, .r [], .r [], .r [], .c true, .r [], .s 1] [4, 9, 11, 12] [4, 9] (aI (ZaR.snd c1) (aI (ZbT.snd c2) (aI (not_true (ZaA c3)) (aI (not_true (ZaA c3)) (aI (not_true (ZaA c3)) (aI c4 (aI (neI 4) (aI c5 (neI 4))))))))) (Zar.p1_ok p_0 (w64 (Int.tdiv (w64 (p_0.Interval * p_0.Spacing)) 4)) x1 st hE h19)
      · exact aq fol [.r [], .r [(3, {rs := [.agg [L.arr .u64 4 x1], .one (L.bool x2)], m := 1})], .r [(1, {rs := [.one (L.bool x3)], m := 1}), (6, {yes := false})], .c false, .r [], .r [], .r [], .c false, .s 1] [4, 9, 11, 12] [4, 9] (aI (ZaR.snd c1) (aI (ZbT.snd c2) (aI (not_true (ZaA c3)) (aI (not_true (ZaA c3)) (aI (not_true (ZaA c3)) (aI c4 (aI (neI 4) c5))))))) (Zar.p1_ok p_0 (w64 (to_3 - from_2)) x1 st hE h20)
end Go.Dn.F
