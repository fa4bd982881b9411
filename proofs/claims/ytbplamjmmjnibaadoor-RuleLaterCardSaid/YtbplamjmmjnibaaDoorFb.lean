/- Contracts of functions of the program, as shallow functions, and their proofs. -/
import Derived.Test.YtbplamjmmjnibaaDoorFa
import Derived.Test.YtbplamjmmjnibaaDoorFaP
set_option linter.all false
set_option maxRecDepth 100000
namespace Go.Dn.F
open Go.Proofs
variable {N : Nat} {g0 : G} {w0 : World} {R : Exit → Act → World → Prop}
structure api_Gate where
  Height : Int
  Version : Int
noncomputable def api_Gate.ls (x : api_Gate) : List L := [L.int .i64 x.Height, L.int .i64 x.Version]
noncomputable def dec_api_Gate {α : Type} (l : List L) (k : api_Gate → Option α) : Option α := match l with
  | [L.int .i64 x0, L.int .i64 x1] => k ⟨x0, x1⟩
  | _ => none
theorem dec_api_Gate_get {α : Type} {o : Option (List L)} {k : api_Gate → Option α} {r : α} (h : getE o dec_api_Gate k = some r) : ∃ x : api_Gate, o = some x.ls ∧ k x = some r := by
  obtain ⟨l, e, k1⟩ := optE_inv h; subst e; unfold dec_api_Gate at k1; split at k1
  · exact ⟨_, rfl, k1⟩
  · cases k1
@[simp] theorem dec_api_Gate_ls {α : Type} (x : api_Gate) (k : api_Gate → Option α) : dec_api_Gate x.ls k = k x := rfl
theorem api_Gate.bv {st : LL} (x : api_Gate) : BVs st x.ls x.ls := (bP (bP bN))
structure api_Check where
  Height : Int
  Id : List Int
noncomputable def api_Check.ls (x : api_Check) : List L := [L.int .i64 x.Height, L.arr .u8 32 x.Id]
noncomputable def dec_api_Check {α : Type} (l : List L) (k : api_Check → Option α) : Option α := match l with
  | [L.int .i64 x0, L.arr .u8 32 x1] => k ⟨x0, x1⟩
  | _ => none
theorem dec_api_Check_get {α : Type} {o : Option (List L)} {k : api_Check → Option α} {r : α} (h : getE o dec_api_Check k = some r) : ∃ x : api_Check, o = some x.ls ∧ k x = some r := by
  obtain ⟨l, e, k1⟩ := optE_inv h; subst e; unfold dec_api_Check at k1; split at k1
  · exact ⟨_, rfl, k1⟩
  · cases k1
@[simp] theorem dec_api_Check_ls {α : Type} (x : api_Check) (k : api_Check → Option α) : dec_api_Check x.ls k = k x := rfl
theorem api_Check.bv {st : LL} (x : api_Check) : BVs st x.ls x.ls := (bP (bP bN))
theorem slices_Sort_int.snd : SortC Tryd.prog 55 := slices_Sort_int.holds
theorem bits_Add64.snd {x y z : Int} {r : Int × Int} (h : bits_Add64 N x y z = some r) : ExtI Tryd.prog 63 [(.u64, x), (.u64, y), (.u64, z)] [(.u64, r.1), (.u64, r.2)] := bits_Add64_ext Tryd.func63 (by kernel_rfl) (by kernel_rfl) (by kernel_rfl) (by kernel_rfl) h
/-! trailhead/whole.Of -/
noncomputable def whole_Of.B : Code := Tryd.f49.body.getD .skip
noncomputable def whole_Of.rs (r : (List Int)) : List CV := [.agg [L.arr .u64 4 r]]
noncomputable def whole_Of (N : Nat) (n_0 : Int) : Option (List Int) :=
 some [n_0, 0, 0, 0]
theorem whole_Of.snd {n_0 : Int} {r : (List Int)} (h : whole_Of N n_0 = some r) : SndQ Tryd.prog 49 [.one (L.int .u64 n_0)] (whole_Of.rs r) := fun st =>
 sO whole_Of.B Tryd.func49 fun g0 w0 R hE => by
  unfold whole_Of at h
  obtain rfl := some_inv h
  exact af fol hE [.r [], .r [(1, {m := 3})]] [] 0 [] trivial
/-! trailhead/whole.Down -/
noncomputable def whole_Down.B : Code := Tryd.f67.body.getD .skip
noncomputable def whole_Down.rs (r : (List Int)) : List CV := [.agg [L.arr .u64 4 r]]
noncomputable def whole_Down.p2 (N : Nat) (c1_ : (Int × (List Int)) → Option (List Int)) (n_1 v1 : Int) (a_0_0 out_4 : List Int) : Option (List Int) :=
 c1_ (w64 (v1 + 1), out_4)
noncomputable def whole_Down.p1 (N : Nat) (n_1 : Int) (a_0_0 : List Int) (c1_ : (Int × (List Int)) → Option (List Int)) : (Int × (List Int)) → Option (List Int) := fun (v1, out_3) =>
 if (decide (v1 < (w64 (4 - (w64 (Int.tdiv (if (0 : Int) > n_1 then 0 else n_1) 64)))))) = true then
  chk (0 ≤ (w64 (v1 + (w64 (Int.tdiv (if (0 : Int) > n_1 then 0 else n_1) 64))))) <|
  chk ((w64 (v1 + (w64 (Int.tdiv (if (0 : Int) > n_1 then 0 else n_1) 64)))) < 4) <|
  chk (0 ≤ (Int.tmod (if (0 : Int) > n_1 then 0 else n_1) 64)) <|
  chk (0 ≤ v1) <|
  chk (v1 < 4) <|
  if (decide ((w64 ((w64 (v1 + (w64 (Int.tdiv (if (0 : Int) > n_1 then 0 else n_1) 64)))) + 1)) < 4)) = true then
   chk (0 ≤ (w64 ((w64 (v1 + (w64 (Int.tdiv (if (0 : Int) > n_1 then 0 else n_1) 64)))) + 1))) <|
   chk (0 ≤ (w64 (64 - (Int.tmod (if (0 : Int) > n_1 then 0 else n_1) 64)))) <|
   whole_Down.p2 N c1_ n_1 v1 a_0_0 (List.set (List.set out_3 (Int.toNat v1) (shrOf .u64 (List.getD a_0_0 (Int.toNat (w64 (v1 + (w64 (Int.tdiv (if (0 : Int) > n_1 then 0 else n_1) 64))))) 0) (Int.tmod (if (0 : Int) > n_1 then 0 else n_1) 64))) (Int.toNat v1) (bitsOf .or .u64 (List.getD (List.set out_3 (Int.toNat v1) (shrOf .u64 (List.getD a_0_0 (Int.toNat (w64 (v1 + (w64 (Int.tdiv (if (0 : Int) > n_1 then 0 else n_1) 64))))) 0) (Int.tmod (if (0 : Int) > n_1 then 0 else n_1) 64))) (Int.toNat v1) 0) (shlOf .u64 (List.getD a_0_0 (Int.toNat (w64 ((w64 (v1 + (w64 (Int.tdiv (if (0 : Int) > n_1 then 0 else n_1) 64)))) + 1))) 0) (w64 (64 - (Int.tmod (if (0 : Int) > n_1 then 0 else n_1) 64))))))
  else
  whole_Down.p2 N c1_ n_1 v1 a_0_0 (List.set out_3 (Int.toNat v1) (shrOf .u64 (List.getD a_0_0 (Int.toNat (w64 (v1 + (w64 (Int.tdiv (if (0 : Int) > n_1 then 0 else n_1) 64))))) 0) (Int.tmod (if (0 : Int) > n_1 then 0 else n_1) 64)))
 else
 some out_3
noncomputable def whole_Down (N : Nat) (a_0_0 : List Int) (n_1 : Int) : Option (List Int) :=
 if (decide (n_1 ≥ 256)) = true then
  some (List.replicate 4 0)
 else
 loopN (whole_Down.p1 N n_1 a_0_0) N (0, List.replicate 4 0)
noncomputable def whole_Down.p2.S (n_1 v1 : Int) (a_0_0 out_4 : List Int) (st : LL) : S := mkS 53 [(2, .one (.adr (.site 2) 0)), (4, .one (.adr (.site 4) 0)), (5, .one (.adr (.site 5) 0)), (6, .one (.l (L.int .i64 (w64 (Int.tdiv (if (0 : Int) > n_1 then 0 else n_1) 64))))), (7, .one (.l (L.int .i64 (Int.tmod (if (0 : Int) > n_1 then 0 else n_1) 64)))), (19, .one (.l (L.int .i64 (w64 (4 - (w64 (Int.tdiv (if (0 : Int) > n_1 then 0 else n_1) 64))))))), (20, .one (.l (L.int .i64 v1)))] [(2, .cells [L.arr .u64 4 a_0_0]), (4, .cells [L.arr .u64 4 (List.replicate 4 0)]), (5, .cells [L.arr .u64 4 out_4])] st
noncomputable def whole_Down.p1.S (n_1 v1 : Int) (a_0_0 out_3 : List Int) (st : LL) : S := mkS 53 [(2, .one (.adr (.site 2) 0)), (4, .one (.adr (.site 4) 0)), (5, .one (.adr (.site 5) 0)), (6, .one (.l (L.int .i64 (w64 (Int.tdiv (if (0 : Int) > n_1 then 0 else n_1) 64))))), (7, .one (.l (L.int .i64 (Int.tmod (if (0 : Int) > n_1 then 0 else n_1) 64)))), (19, .one (.l (L.int .i64 (w64 (4 - (w64 (Int.tdiv (if (0 : Int) > n_1 then 0 else n_1) 64))))))), (20, .one (.l (L.int .i64 v1)))] [(2, .cells [L.arr .u64 4 a_0_0]), (4, .cells [L.arr .u64 4 (List.replicate 4 0)]), (5, .cells [L.arr .u64 4 out_3])] st
theorem whole_Down.p2_ok (n_1 v1 : Int) (a_0_0 out_4 : List Int) (st : LL) {r : (List Int)} {c1_ : (Int × (List Int)) → Option (List Int)} {J1 : Act → World → Prop} (hE : En Tryd.f67 g0 w0 (whole_Down.rs r) st R) (hc1 : ∀ (v1 : Int) (out_3 : List Int), c1_ (v1, out_3) = some r → At g0 w0 (whole_Down.p1.S n_1 v1 a_0_0 out_3 st) J1) (h : whole_Down.p2 N c1_ n_1 v1 a_0_0 out_4 = some r) : At g0 w0 (whole_Down.p2.S n_1 v1 a_0_0 out_4 st) (XK Tryd.prog R [.c (csub whole_Down.B [1, 1, 1, 1, 0, 1, 0, 0, 1, 1, 1]), .h J1, .b 0, .c (csub whole_Down.B [1, 1, 1, 1, 1])]) := by
 unfold whole_Down.p2 at h
 exact an fol [.r []] [2, 4, 5, 6, 7, 19, 20] [2, 4, 5] trivial (hc1 (w64 (v1 + 1)) out_4 h)
theorem whole_Down.p1_ok (n_1 v1 : Int) (a_0_0 out_3 : List Int) (st : LL) {r : (List Int)} {c1_ : (Int × (List Int)) → Option (List Int)} {J1 : Act → World → Prop} (hE : En Tryd.f67 g0 w0 (whole_Down.rs r) st R) (hc1 : ∀ (v1 : Int) (out_3 : List Int), c1_ (v1, out_3) = some r → At g0 w0 (whole_Down.p1.S n_1 v1 a_0_0 out_3 st) J1) (h : whole_Down.p1 N n_1 a_0_0 c1_ (v1, out_3) = some r) : At g0 w0 (whole_Down.p1.S n_1 v1 a_0_0 out_3 st) (XK Tryd.prog R (.c (csub whole_Down.B [1, 1, 1, 1, 0, 1, 0, 0]) :: .h J1 :: [.b 0, .c (csub whole_Down.B [1, 1, 1, 1, 1])])) := by
 unfold whole_Down.p1 at h
 refine iteB h (fun c11 h1 => ?_) (fun c11 h2 => ?_) <;> clear h
 · obtain ⟨c12, c13, c14, c15, c16, h3⟩ := ck5 h1; clear h1
   refine iteB h3 (fun c17 h4 => ?_) (fun c17 h5 => ?_) <;> clear h3
   · obtain ⟨c18, c19, h6⟩ := ck2 h4; clear h4
     exact aqd fol [.r [], .c true, .r [], .r [], .r [], .c true, .d {ds := [], hv := 16384, Hs := [16384]}, .s 4] [2, 4, 5, 6, 7, 19, 20] [2, 4, 5] (aI c11 (aI c12 (aI c13 (aI c14 (aI c15 (aI c16 (aI c17 (aI c15 (aI c16 (aI c18 (aI (oD c17) (aI c19 (aI c15 c16))))))))))))) (whole_Down.p2_ok n_1 v1 a_0_0 (List.set (List.set out_3 (Int.toNat v1) (shrOf .u64 (List.getD a_0_0 (Int.toNat (w64 (v1 + (w64 (Int.tdiv (if (0 : Int) > n_1 then 0 else n_1) 64))))) 0) (Int.tmod (if (0 : Int) > n_1 then 0 else n_1) 64))) (Int.toNat v1) (bitsOf .or .u64 (List.getD (List.set out_3 (Int.toNat v1) (shrOf .u64 (List.getD a_0_0 (Int.toNat (w64 (v1 + (w64 (Int.tdiv (if (0 : Int) > n_1 then 0 else n_1) 64))))) 0) (Int.tmod (if (0 : Int) > n_1 then 0 else n_1) 64))) (Int.toNat v1) 0) (shlOf .u64 (List.getD a_0_0 (Int.toNat (w64 ((w64 (v1 + (w64 (Int.tdiv (if (0 : Int) > n_1 then 0 else n_1) 64)))) + 1))) 0) (w64 (64 - (Int.tmod (if (0 : Int) > n_1 then 0 else n_1) 64)))))) st hE hc1 h6)
   · exact aq fol [.r [], .c true, .r [], .r [], .r [], .c false, .s 4] [2, 4, 5, 6, 7, 19, 20] [2, 4, 5] (aI c11 (aI c12 (aI c13 (aI c14 (aI c15 (aI c16 c17)))))) (whole_Down.p2_ok n_1 v1 a_0_0 (List.set out_3 (Int.toNat v1) (shrOf .u64 (List.getD a_0_0 (Int.toNat (w64 (v1 + (w64 (Int.tdiv (if (0 : Int) > n_1 then 0 else n_1) 64))))) 0) (Int.tmod (if (0 : Int) > n_1 then 0 else n_1) 64))) st hE hc1 h5)
 · obtain rfl := some_inv h2
   exact af fol hE [.r [], .c false, .r []] [] 0 [] c11
theorem whole_Down.snd {a_0_0 : List Int} {n_1 : Int} {r : (List Int)} (h : whole_Down N a_0_0 n_1 = some r) : SndQ Tryd.prog 67 [.agg [L.arr .u64 4 a_0_0], .one (L.int .i64 n_1)] (whole_Down.rs r) := fun st =>
 sO whole_Down.B Tryd.func67 fun g0 w0 R hE => by
  unfold whole_Down at h
  refine iteB h (fun c1 h7 => ?_) (fun c1 h8 => ?_) <;> clear h
  · obtain rfl := some_inv h7
    exact af fol hE [.r [], .r [], .c true, .r []] [] 0 [] c1
  · exact aq fol [.r [], .r [], .c false, .r [], .r [], .r []] [2, 4, 5, 6, 7, 19, 20] [2, 4, 5] (aI c1 (aI (neI 64) (neI 64))) (At.loop N (At.loopN (fun y : Int × (List Int) => whole_Down.p1.S n_1 y.1 a_0_0 y.2 st) (fun c J hc y h => whole_Down.p1_ok n_1 y.1 a_0_0 y.2 st hE (fun v1 out_3 hh => hc (v1, out_3) hh) h) N (0, List.replicate 4 0) h8))
/-! trailhead/whole.Up -/
noncomputable def whole_Up.B : Code := Tryd.f66.body.getD .skip
noncomputable def whole_Up.rs (r : (List Int)) : List CV := [.agg [L.arr .u64 4 r]]
noncomputable def whole_Up.p2 (N : Nat) (c1_ : (Int × (List Int)) → Option (List Int)) (n_1 i_1 : Int) (a_0_0 out_4 : List Int) : Option (List Int) :=
 c1_ (w64 (i_1 + 1), out_4)
noncomputable def whole_Up.p1 (N : Nat) (n_1 : Int) (a_0_0 : List Int) (c1_ : (Int × (List Int)) → Option (List Int)) : (Int × (List Int)) → Option (List Int) := fun (i_1, out_3) =>
 if (decide (i_1 < 4)) = true then
  chk (0 ≤ (w64 (i_1 - (w64 (Int.tdiv (if (0 : Int) > n_1 then 0 else n_1) 64))))) <|
  chk ((w64 (i_1 - (w64 (Int.tdiv (if (0 : Int) > n_1 then 0 else n_1) 64)))) < 4) <|
  chk (0 ≤ (Int.tmod (if (0 : Int) > n_1 then 0 else n_1) 64)) <|
  chk (0 ≤ i_1) <|
  if (decide (i_1 > (w64 (Int.tdiv (if (0 : Int) > n_1 then 0 else n_1) 64)))) = true then
   chk (0 ≤ (w64 ((w64 (i_1 - (w64 (Int.tdiv (if (0 : Int) > n_1 then 0 else n_1) 64)))) - 1))) <|
   chk ((w64 ((w64 (i_1 - (w64 (Int.tdiv (if (0 : Int) > n_1 then 0 else n_1) 64)))) - 1)) < 4) <|
   chk (0 ≤ (w64 (64 - (Int.tmod (if (0 : Int) > n_1 then 0 else n_1) 64)))) <|
   whole_Up.p2 N c1_ n_1 i_1 a_0_0 (List.set (List.set out_3 (Int.toNat i_1) (shlOf .u64 (List.getD a_0_0 (Int.toNat (w64 (i_1 - (w64 (Int.tdiv (if (0 : Int) > n_1 then 0 else n_1) 64))))) 0) (Int.tmod (if (0 : Int) > n_1 then 0 else n_1) 64))) (Int.toNat i_1) (bitsOf .or .u64 (List.getD (List.set out_3 (Int.toNat i_1) (shlOf .u64 (List.getD a_0_0 (Int.toNat (w64 (i_1 - (w64 (Int.tdiv (if (0 : Int) > n_1 then 0 else n_1) 64))))) 0) (Int.tmod (if (0 : Int) > n_1 then 0 else n_1) 64))) (Int.toNat i_1) 0) (shrOf .u64 (List.getD a_0_0 (Int.toNat (w64 ((w64 (i_1 - (w64 (Int.tdiv (if (0 : Int) > n_1 then 0 else n_1) 64)))) - 1))) 0) (w64 (64 - (Int.tmod (if (0 : Int) > n_1 then 0 else n_1) 64))))))
  else
  whole_Up.p2 N c1_ n_1 i_1 a_0_0 (List.set out_3 (Int.toNat i_1) (shlOf .u64 (List.getD a_0_0 (Int.toNat (w64 (i_1 - (w64 (Int.tdiv (if (0 : Int) > n_1 then 0 else n_1) 64))))) 0) (Int.tmod (if (0 : Int) > n_1 then 0 else n_1) 64)))
 else
 some out_3
noncomputable def whole_Up (N : Nat) (a_0_0 : List Int) (n_1 : Int) : Option (List Int) :=
 if (decide (n_1 ≥ 256)) = true then
  some (List.replicate 4 0)
 else
 loopN (whole_Up.p1 N n_1 a_0_0) N (w64 (Int.tdiv (if (0 : Int) > n_1 then 0 else n_1) 64), List.replicate 4 0)
noncomputable def whole_Up.p2.S (n_1 i_1 : Int) (a_0_0 out_4 : List Int) (st : LL) : S := mkS 50 [(2, .one (.adr (.site 2) 0)), (4, .one (.adr (.site 4) 0)), (5, .one (.adr (.site 5) 0)), (6, .one (.l (L.int .i64 (w64 (Int.tdiv (if (0 : Int) > n_1 then 0 else n_1) 64))))), (7, .one (.l (L.int .i64 (Int.tmod (if (0 : Int) > n_1 then 0 else n_1) 64)))), (8, .one (.l (L.int .i64 i_1)))] [(2, .cells [L.arr .u64 4 a_0_0]), (4, .cells [L.arr .u64 4 (List.replicate 4 0)]), (5, .cells [L.arr .u64 4 out_4])] st
noncomputable def whole_Up.p1.S (n_1 i_1 : Int) (a_0_0 out_3 : List Int) (st : LL) : S := mkS 50 [(2, .one (.adr (.site 2) 0)), (4, .one (.adr (.site 4) 0)), (5, .one (.adr (.site 5) 0)), (6, .one (.l (L.int .i64 (w64 (Int.tdiv (if (0 : Int) > n_1 then 0 else n_1) 64))))), (7, .one (.l (L.int .i64 (Int.tmod (if (0 : Int) > n_1 then 0 else n_1) 64)))), (8, .one (.l (L.int .i64 i_1)))] [(2, .cells [L.arr .u64 4 a_0_0]), (4, .cells [L.arr .u64 4 (List.replicate 4 0)]), (5, .cells [L.arr .u64 4 out_3])] st
theorem whole_Up.p2_ok (n_1 i_1 : Int) (a_0_0 out_4 : List Int) (st : LL) {r : (List Int)} {c1_ : (Int × (List Int)) → Option (List Int)} {J1 : Act → World → Prop} (hE : En Tryd.f66 g0 w0 (whole_Up.rs r) st R) (hc1 : ∀ (i_1 : Int) (out_3 : List Int), c1_ (i_1, out_3) = some r → At g0 w0 (whole_Up.p1.S n_1 i_1 a_0_0 out_3 st) J1) (h : whole_Up.p2 N c1_ n_1 i_1 a_0_0 out_4 = some r) : At g0 w0 (whole_Up.p2.S n_1 i_1 a_0_0 out_4 st) (XK Tryd.prog R [.c (csub whole_Up.B [1, 1, 1, 1, 0, 1, 0, 0, 1, 1]), .h J1, .b 0, .c (csub whole_Up.B [1, 1, 1, 1, 1])]) := by
 unfold whole_Up.p2 at h
 exact an fol [.r []] [2, 4, 5, 6, 7, 8] [2, 4, 5] trivial (hc1 (w64 (i_1 + 1)) out_4 h)
theorem whole_Up.p1_ok (n_1 i_1 : Int) (a_0_0 out_3 : List Int) (st : LL) {r : (List Int)} {c1_ : (Int × (List Int)) → Option (List Int)} {J1 : Act → World → Prop} (hE : En Tryd.f66 g0 w0 (whole_Up.rs r) st R) (hc1 : ∀ (i_1 : Int) (out_3 : List Int), c1_ (i_1, out_3) = some r → At g0 w0 (whole_Up.p1.S n_1 i_1 a_0_0 out_3 st) J1) (h : whole_Up.p1 N n_1 a_0_0 c1_ (i_1, out_3) = some r) : At g0 w0 (whole_Up.p1.S n_1 i_1 a_0_0 out_3 st) (XK Tryd.prog R (.c (csub whole_Up.B [1, 1, 1, 1, 0, 1, 0, 0]) :: .h J1 :: [.b 0, .c (csub whole_Up.B [1, 1, 1, 1, 1])])) := by
 unfold whole_Up.p1 at h
 refine iteB h (fun c11 h1 => ?_) (fun c11 h2 => ?_) <;> clear h
 · obtain ⟨c12, c13, c14, c15, h3⟩ := ck4 h1; clear h1
   refine iteB h3 (fun c16 h4 => ?_) (fun c16 h5 => ?_) <;> clear h3
   · obtain ⟨c17, c18, c19, h6⟩ := ck3 h4; clear h4
     exact aqd fol [.r [], .c true, .r [], .r [], .c true, .d {ds := [], hv := 16384, Hs := [16384]}, .s 4] [2, 4, 5, 6, 7, 8] [2, 4, 5] (aI c11 (aI c12 (aI c13 (aI c14 (aI c15 (aI (oD c11) (aI c16 (aI c15 (aI (oD c11) (aI c17 (aI c18 (aI c19 (aI c15 (oD c11)))))))))))))) (whole_Up.p2_ok n_1 i_1 a_0_0 (List.set (List.set out_3 (Int.toNat i_1) (shlOf .u64 (List.getD a_0_0 (Int.toNat (w64 (i_1 - (w64 (Int.tdiv (if (0 : Int) > n_1 then 0 else n_1) 64))))) 0) (Int.tmod (if (0 : Int) > n_1 then 0 else n_1) 64))) (Int.toNat i_1) (bitsOf .or .u64 (List.getD (List.set out_3 (Int.toNat i_1) (shlOf .u64 (List.getD a_0_0 (Int.toNat (w64 (i_1 - (w64 (Int.tdiv (if (0 : Int) > n_1 then 0 else n_1) 64))))) 0) (Int.tmod (if (0 : Int) > n_1 then 0 else n_1) 64))) (Int.toNat i_1) 0) (shrOf .u64 (List.getD a_0_0 (Int.toNat (w64 ((w64 (i_1 - (w64 (Int.tdiv (if (0 : Int) > n_1 then 0 else n_1) 64)))) - 1))) 0) (w64 (64 - (Int.tmod (if (0 : Int) > n_1 then 0 else n_1) 64)))))) st hE hc1 h6)
   · exact aq fol [.r [], .c true, .r [], .r [], .c false, .s 4] [2, 4, 5, 6, 7, 8] [2, 4, 5] (aI c11 (aI c12 (aI c13 (aI c14 (aI c15 (aI (oD c11) c16)))))) (whole_Up.p2_ok n_1 i_1 a_0_0 (List.set out_3 (Int.toNat i_1) (shlOf .u64 (List.getD a_0_0 (Int.toNat (w64 (i_1 - (w64 (Int.tdiv (if (0 : Int) > n_1 then 0 else n_1) 64))))) 0) (Int.tmod (if (0 : Int) > n_1 then 0 else n_1) 64))) st hE hc1 h5)
 · obtain rfl := some_inv h2
   exact af fol hE [.r [], .c false, .r []] [] 0 [] c11
theorem whole_Up.snd {a_0_0 : List Int} {n_1 : Int} {r : (List Int)} (h : whole_Up N a_0_0 n_1 = some r) : SndQ Tryd.prog 66 [.agg [L.arr .u64 4 a_0_0], .one (L.int .i64 n_1)] (whole_Up.rs r) := fun st =>
 sO whole_Up.B Tryd.func66 fun g0 w0 R hE => by
  unfold whole_Up at h
  refine iteB h (fun c1 h7 => ?_) (fun c1 h8 => ?_) <;> clear h
  · obtain rfl := some_inv h7
    exact af fol hE [.r [], .r [], .c true, .r []] [] 0 [] c1
  · exact aq fol [.r [], .r [], .c false, .r [], .r [], .r []] [2, 4, 5, 6, 7, 8] [2, 4, 5] (aI c1 (aI (neI 64) (neI 64))) (At.loop N (At.loopN (fun y : Int × (List Int) => whole_Up.p1.S n_1 y.1 a_0_0 y.2 st) (fun c J hc y h => whole_Up.p1_ok n_1 y.1 a_0_0 y.2 st hE (fun i_1 out_3 hh => hc (i_1, out_3) hh) h) N (w64 (Int.tdiv (if (0 : Int) > n_1 then 0 else n_1) 64), List.replicate 4 0) h8))
/-! trailhead/compact.Decode -/
noncomputable def compact_Decode.B : Code := Tryd.f53.body.getD .skip
noncomputable def compact_Decode.rs (r : (List Int) × Bool × Bool) : List CV := [.agg [L.arr .u64 4 r.1], .one (L.bool r.2.1), .one (L.bool r.2.2)]
noncomputable def compact_Decode.p2 (N : Nat) (bits_0 : Int) (below_6 : Bool) (n_5 : List Int) : Option ((List Int) × Bool × Bool) :=
 if ((bitsOf .and .i64 bits_0 8388607) != 0) = true then
  if (decide ((shrOf .i64 bits_0 24) > 34)) = true then
   some (n_5, below_6, true)
  else
  if (decide ((bitsOf .and .i64 bits_0 8388607) > 255)) = true then
   if (decide ((shrOf .i64 bits_0 24) > 33)) = true then
    some (n_5, below_6, true)
   else
   if (decide ((bitsOf .and .i64 bits_0 8388607) > 65535)) = true then
    some (n_5, below_6, decide ((shrOf .i64 bits_0 24) > 32))
   else
   some (n_5, below_6, false)
  else
  if (decide ((bitsOf .and .i64 bits_0 8388607) > 65535)) = true then
   some (n_5, below_6, decide ((shrOf .i64 bits_0 24) > 32))
  else
  some (n_5, below_6, false)
 else
 some (n_5, below_6, false)
noncomputable def compact_Decode.p1 (N : Nat) (bits_0 : Int) (n_5 : List Int) : Option ((List Int) × Bool × Bool) :=
 if ((bitsOf .and .i64 bits_0 8388607) != 0) = true then
  compact_Decode.p2 N bits_0 ((bitsOf .and .i64 bits_0 8388608) != 0) n_5
 else
 compact_Decode.p2 N bits_0 false n_5
noncomputable def compact_Decode (N : Nat) (bits_0 : Int) : Option ((List Int) × Bool × Bool) :=
 optE (compact_Good N bits_0) fun x1 =>
 if (!x1) = true then
  some (List.replicate 4 0, false, false)
 else
 optE (whole_Of N (v64 (bitsOf .and .i64 bits_0 8388607))) fun x2 =>
 if (decide ((shrOf .i64 bits_0 24) ≤ 3)) = true then
  optE (whole_Down N x2 (w64 (8 * (w64 (3 - (shrOf .i64 bits_0 24)))))) fun x3 =>
  compact_Decode.p1 N bits_0 x3
 else
 optE (whole_Up N x2 (w64 (8 * (w64 ((shrOf .i64 bits_0 24) - 3))))) fun x4 =>
 compact_Decode.p1 N bits_0 x4
noncomputable def compact_Decode.p2.S (bits_0 : Int) (below_6 : Bool) (n_5 : List Int) (st : LL) : S := mkS 65 [(2, .one (.adr (.site 2) 0)), (5, .one (.l (L.int .i64 (shrOf .i64 bits_0 24)))), (6, .one (.l (L.int .i64 (bitsOf .and .i64 bits_0 8388607)))), (7, .one (.adr (.site 7) 0)), (8, .one (.l (L.bool below_6)))] [(2, .cells [L.arr .u64 4 (List.replicate 4 0)]), (7, .cells [L.arr .u64 4 n_5])] st
noncomputable def compact_Decode.p1.S (bits_0 : Int) (n_5 : List Int) (st : LL) : S := mkS 65 [(0, .one (.l (L.int .i64 bits_0))), (2, .one (.adr (.site 2) 0)), (5, .one (.l (L.int .i64 (shrOf .i64 bits_0 24)))), (6, .one (.l (L.int .i64 (bitsOf .and .i64 bits_0 8388607)))), (7, .one (.adr (.site 7) 0))] [(2, .cells [L.arr .u64 4 (List.replicate 4 0)]), (7, .cells [L.arr .u64 4 n_5])] st
theorem compact_Decode.p2_ok (bits_0 : Int) (below_6 : Bool) (n_5 : List Int) (st : LL) {r : (List Int) × Bool × Bool} (hE : En Tryd.f53 g0 w0 (compact_Decode.rs r) st R) (h : compact_Decode.p2 N bits_0 below_6 n_5 = some r) : At g0 w0 (compact_Decode.p2.S bits_0 below_6 n_5 st) (XK Tryd.prog R [.c (csub compact_Decode.B [1, 1, 1, 1, 1, 1])]) := by
 unfold compact_Decode.p2 at h
 refine iteB h (fun c8 h1 => ?_) (fun c8 h2 => ?_) <;> clear h
 · refine iteB h1 (fun c9 h3 => ?_) (fun c9 h4 => ?_) <;> clear h1
   · obtain rfl := some_inv h3
     exact af fol hE [.r [(6, {want := false}), (7, {want := false}), (8, {want := false}), (11, {want := false}), (14, {want := false}), (15, {want := false}), (16, {want := false}), (19, {want := false})], .r []] [] 0 [] (aI c8 (aI c8 (aI c8 (aI c9 (aI c9 (aI c9 (aI c9 (aI c8 (aI c9 (aI c8 (aI (eB true) (aI (eB true) (aI (eB true) (aI (eB true) (aI c8 (aI (eB true) c8))))))))))))))))
   · refine iteB h4 (fun c10 h5 => ?_) (fun c10 h6 => ?_) <;> clear h4
     · refine iteB h5 (fun c11 h7 => ?_) (fun c11 h8 => ?_) <;> clear h5
       · obtain rfl := some_inv h7
         exact af fol hE [.r [(12, {yes := false}), (14, {want := false}), (15, {want := false}), (16, {want := false}), (19, {want := false})], .r []] [] 0 [] (aI c8 (aI c8 (aI c8 (aI c9 (aI c9 (aI c9 (aI c10 (aI c10 (aI c9 (aI c10 (aI c8 (aI c9 (aI c8 (aI c11 (aI c11 (aI c11 (aI c11 (aI c8 (aI c11 c8)))))))))))))))))))
       · refine iteB h8 (fun c12 h9 => ?_) (fun c12 h10 => ?_) <;> clear h8
         · obtain rfl := some_inv h9
           exact af fol hE [.r [(12, {yes := false}), (20, {yes := false})], .r []] [] 0 [] (aI c8 (aI c8 (aI c8 (aI c9 (aI c9 (aI c9 (aI c10 (aI c10 (aI c9 (aI c10 (aI c8 (aI c9 (aI c8 (aI c11 (aI c11 (aI c11 (aI c12 (aI c12 (aI c11 (aI c12 (aI c8 (aI c11 c8))))))))))))))))))))))
         · obtain rfl := some_inv h10
           exact af fol hE [.r [(12, {yes := false}), (17, {want := false}), (18, {want := false}), (19, {yes := false}), (20, {yes := false})], .r []] [] 0 [] (aI c8 (aI c8 (aI c8 (aI c9 (aI c9 (aI c9 (aI c10 (aI c10 (aI c9 (aI c10 (aI c8 (aI c9 (aI c8 (aI c11 (aI c11 (aI c11 (aI c12 (aI c12 (aI c11 (aI c12 (aI c8 (aI c11 c8))))))))))))))))))))))
     · refine iteB h6 (fun c13 h11 => ?_) (fun c13 h12 => ?_) <;> clear h6
       · obtain rfl := some_inv h11
         exact af fol hE [.r [(9, {want := false}), (10, {want := false}), (11, {yes := false}), (12, {yes := false}), (20, {yes := false})], .r []] [] 0 [] (aI c8 (aI c8 (aI c8 (aI c9 (aI c9 (aI c9 (aI c10 (aI c10 (aI c9 (aI c10 (aI c8 (aI c9 (aI c8 (aI (eB false) (aI (eB false) (aI (eB false) (aI c13 (aI c13 (aI (eB false) (aI c13 (aI c8 (aI (eB false) c8))))))))))))))))))))))
       · obtain rfl := some_inv h12
         exact af fol hE [.r [(9, {want := false}), (10, {want := false}), (11, {yes := false}), (12, {yes := false}), (17, {want := false}), (18, {want := false}), (19, {yes := false}), (20, {yes := false})], .r []] [] 0 [] (aI c8 (aI c8 (aI c8 (aI c9 (aI c9 (aI c9 (aI c10 (aI c10 (aI c9 (aI c10 (aI c8 (aI c9 (aI c8 (aI (eB false) (aI (eB false) (aI (eB false) (aI c13 (aI c13 (aI (eB false) (aI c13 (aI c8 (aI (eB false) c8))))))))))))))))))))))
 · obtain rfl := some_inv h2
   exact af fol hE [.r [(3, {want := false}), (4, {want := false}), (5, {want := false}), (12, {want := false}), (13, {want := false}), (20, {want := false}), (21, {yes := false})], .r []] [] 0 [] (aI c8 (aI c8 (aI c8 (aI c8 (aI c8 (aI c8 c8))))))
theorem compact_Decode.p1_ok (bits_0 : Int) (n_5 : List Int) (st : LL) {r : (List Int) × Bool × Bool} (hE : En Tryd.f53 g0 w0 (compact_Decode.rs r) st R) (h : compact_Decode.p1 N bits_0 n_5 = some r) : At g0 w0 (compact_Decode.p1.S bits_0 n_5 st) (XK Tryd.prog R [.c (csub compact_Decode.B [1, 1, 1, 1, 1])]) := by
 unfold compact_Decode.p1 at h
 refine iteB h (fun c7 h13 => ?_) (fun c7 h14 => ?_) <;> clear h
 · exact aq fol [.r [], .s 1] [2, 5, 6, 7, 8] [2, 7] (aI c7 (aI c7 (aI c7 c7))) (compact_Decode.p2_ok bits_0 ((bitsOf .and .i64 bits_0 8388608) != 0) n_5 st hE h13)
 · exact aq fol [.r [(3, {want := false}), (4, {want := false}), (5, {want := false}), (6, {yes := false})], .s 1] [2, 5, 6, 7, 8] [2, 7] (aI c7 (aI c7 (aI c7 c7))) (compact_Decode.p2_ok bits_0 false n_5 st hE h14)
theorem compact_Decode.snd {bits_0 : Int} {r : (List Int) × Bool × Bool} (h : compact_Decode N bits_0 = some r) : SndQ Tryd.prog 53 [.one (L.int .i64 bits_0)] (compact_Decode.rs r) := fun st =>
 sO compact_Decode.B Tryd.func53 fun g0 w0 R hE => by
  unfold compact_Decode at h
  obtain ⟨x1, c1, h15⟩ := optE_inv h; clear h
  refine iteB h15 (fun c2 h16 => ?_) (fun c2 h17 => ?_) <;> clear h15
  · obtain rfl := some_inv h16
    exact af fol hE [.r [], .r [(1, {rs := [.one (L.bool x1)], m := 1})], .c true, .r []] [] 0 [] (aI (compact_Good.snd c1) c2)
  · obtain ⟨x2, c3, h18⟩ := optE_inv h17; clear h17
    refine iteB h18 (fun c4 h19 => ?_) (fun c4 h20 => ?_) <;> clear h18
    · obtain ⟨x3, c5, h21⟩ := optE_inv h19; clear h19
      exact aq fol [.r [], .r [(1, {rs := [.one (L.bool x1)], m := 1})], .c false, .r [], .r [(2, {rs := [.agg [L.arr .u64 4 x2]], m := 1})], .r [], .c true, .r [(4, {rs := [.agg [L.arr .u64 4 x3]], m := 1})], .s 1] [0, 2, 5, 6, 7] [2, 7] (aI (compact_Good.snd c1) (aI c2 (aI (leI 0 24) (aI (whole_Of.snd c3) (aI c4 (whole_Down.snd c5)))))) (compact_Decode.p1_ok bits_0 x3 st hE h21)
    · obtain ⟨x4, c6, h22⟩ := optE_inv h20; clear h20
      exact aq fol [.r [], .r [(1, {rs := [.one (L.bool x1)], m := 1})], .c false, .r [], .r [(2, {rs := [.agg [L.arr .u64 4 x2]], m := 1})], .r [], .c false, .r [(4, {rs := [.agg [L.arr .u64 4 x4]], m := 1})], .s 1] [0, 2, 5, 6, 7] [2, 7] (aI (compact_Good.snd c1) (aI c2 (aI (leI 0 24) (aI (whole_Of.snd c3) (aI c4 (whole_Up.snd c6)))))) (compact_Decode.p1_ok bits_0 x4 st hE h22)
/-! trailhead/whole.Zero -/
noncomputable def whole_Zero.B : Code := Tryd.f51.body.getD .skip
noncomputable def whole_Zero.rs (r : Bool) : List CV := [.one (L.bool r)]
noncomputable def whole_Zero (N : Nat) (a_0_0 : List Int) : Option Bool :=
 some (a_0_0 == (List.replicate 4 0))
theorem whole_Zero.snd {a_0_0 : List Int} {r : Bool} (h : whole_Zero N a_0_0 = some r) : SndQ Tryd.prog 51 [.agg [L.arr .u64 4 a_0_0]] (whole_Zero.rs r) := fun st =>
 sO whole_Zero.B Tryd.func51 fun g0 w0 R hE => by
  unfold whole_Zero at h
  obtain rfl := some_inv h
  exact af fol hE [.r [], .r []] [] 0 [] trivial
/-! trailhead/whole.Compare -/
noncomputable def whole_Compare.B : Code := Tryd.f64.body.getD .skip
noncomputable def whole_Compare.rs (r : Int) : List CV := [.one (L.int .i64 r)]
noncomputable def whole_Compare.p1 (N : Nat) (a_0_0 b_1_0 : List Int) (c1_ : Int → Option Int) : Int → Option Int := fun i_1 =>
 if (decide (i_1 ≥ 0)) = true then
  chk (0 ≤ i_1) <|
  chk (i_1 < 4) <|
  if (decide ((List.getD a_0_0 (Int.toNat i_1) 0) < (List.getD b_1_0 (Int.toNat i_1) 0))) = true then
   some (-1)
  else
  if (decide ((List.getD a_0_0 (Int.toNat i_1) 0) > (List.getD b_1_0 (Int.toNat i_1) 0))) = true then
   some 1
  else
  c1_ (w64 (i_1 - 1))
 else
 some 0
noncomputable def whole_Compare (N : Nat) (a_0_0 b_1_0 : List Int) : Option Int :=
 loopN (whole_Compare.p1 N a_0_0 b_1_0) N 3
noncomputable def whole_Compare.p1.S (i_1 : Int) (a_0_0 b_1_0 : List Int) (st : LL) : S := mkS 26 [(2, .one (.adr (.site 2) 0)), (3, .one (.adr (.site 3) 0)), (5, .one (.l (L.int .i64 i_1)))] [(2, .cells [L.arr .u64 4 a_0_0]), (3, .cells [L.arr .u64 4 b_1_0])] st
theorem whole_Compare.p1_ok (i_1 : Int) (a_0_0 b_1_0 : List Int) (st : LL) {r : Int} {c1_ : Int → Option Int} {J1 : Act → World → Prop} (hE : En Tryd.f64 g0 w0 (whole_Compare.rs r) st R) (hc1 : ∀ (i_1 : Int), c1_ i_1 = some r → At g0 w0 (whole_Compare.p1.S i_1 a_0_0 b_1_0 st) J1) (h : whole_Compare.p1 N a_0_0 b_1_0 c1_ i_1 = some r) : At g0 w0 (whole_Compare.p1.S i_1 a_0_0 b_1_0 st) (XK Tryd.prog R (.c (csub whole_Compare.B [1, 0, 1, 0, 0]) :: .h J1 :: [.b 0, .c (csub whole_Compare.B [1, 1])])) := by
 unfold whole_Compare.p1 at h
 refine iteB h (fun c1 h1 => ?_) (fun c1 h2 => ?_) <;> clear h
 · obtain ⟨c2, c3, h3⟩ := ck2 h1; clear h1
   refine iteB h3 (fun c4 h4 => ?_) (fun c4 h5 => ?_) <;> clear h3
   · obtain rfl := some_inv h4
     exact afd fol hE [.r [], .c true, .d {ds := [], hv := 0, Hs := []}, .c true, .r []] [] 0 [] (aI c1 (aI c2 (aI c3 (aI c2 (aI c3 c4)))))
   · refine iteB h5 (fun c5 h6 => ?_) (fun c5 h7 => ?_) <;> clear h5
     · obtain rfl := some_inv h6
       exact afd fol hE [.r [], .c true, .d {ds := [], hv := 0, Hs := []}, .c false, .d {ds := [], hv := 0, Hs := []}, .c true, .r []] [] 0 [] (aI c1 (aI c2 (aI c3 (aI c2 (aI c3 (aI c4 (aI c2 (aI c3 (aI c2 (aI c3 c5))))))))))
     · exact and_ fol [.r [], .c true, .d {ds := [], hv := 0, Hs := []}, .c false, .d {ds := [], hv := 0, Hs := []}, .c false, .r []] [2, 3, 5] [2, 3] (aI c1 (aI c2 (aI c3 (aI c2 (aI c3 (aI c4 (aI c2 (aI c3 (aI c2 (aI c3 c5)))))))))) (hc1 (w64 (i_1 - 1)) h7)
 · obtain rfl := some_inv h2
   exact af fol hE [.r [], .c false, .r []] [] 0 [] c1
theorem whole_Compare.snd {a_0_0 b_1_0 : List Int} {r : Int} (h : whole_Compare N a_0_0 b_1_0 = some r) : SndQ Tryd.prog 64 [.agg [L.arr .u64 4 a_0_0], .agg [L.arr .u64 4 b_1_0]] (whole_Compare.rs r) := fun st =>
 sO whole_Compare.B Tryd.func64 fun g0 w0 R hE => by
  unfold whole_Compare at h
  exact aq fol [.r [], .r []] [2, 3, 5] [2, 3] trivial (At.loop N (At.loopN (fun y : Int => whole_Compare.p1.S y a_0_0 b_1_0 st) (fun c J hc y h => whole_Compare.p1_ok y a_0_0 b_1_0 st hE (fun i_1 hh => hc i_1 hh) h) N 3 h))
/-! trailhead/whole.Less -/
noncomputable def whole_Less.B : Code := Tryd.f50.body.getD .skip
noncomputable def whole_Less.rs (r : Bool) : List CV := [.one (L.bool r)]
noncomputable def whole_Less (N : Nat) (a_0_0 b_1_0 : List Int) : Option Bool :=
 optE (whole_Compare N a_0_0 b_1_0) fun x1 =>
 some (decide (x1 < 0))
theorem whole_Less.snd {a_0_0 b_1_0 : List Int} {r : Bool} (h : whole_Less N a_0_0 b_1_0 = some r) : SndQ Tryd.prog 50 [.agg [L.arr .u64 4 a_0_0], .agg [L.arr .u64 4 b_1_0]] (whole_Less.rs r) := fun st =>
 sO whole_Less.B Tryd.func50 fun g0 w0 R hE => by
  unfold whole_Less at h
  obtain ⟨x1, c1, h1⟩ := optE_inv h; clear h
  obtain rfl := some_inv h1
  exact af fol hE [.r [], .r [(2, {rs := [.one (L.int .i64 x1)], m := 1})]] [] 0 [] (whole_Compare.snd c1)
/-! trailhead/compact.Target -/
noncomputable def compact_Target.B : Code := Tryd.f36.body.getD .skip
noncomputable def compact_Target.rs (r : (List Int) × Bool) : List CV := [.agg [L.arr .u64 4 r.1], .one (L.bool r.2)]
noncomputable def compact_Target (N : Nat) (bits_0 limit_1 : Int) : Option ((List Int) × Bool) :=
 optE (compact_Decode N bits_0) fun (x1, x2, x3) =>
 optE (compact_Decode N limit_1) fun (x4, x5, x6) =>
 if x2 = true then
  some (List.replicate 4 0, false)
 else
 if x3 = true then
  some (List.replicate 4 0, false)
 else
 if x5 = true then
  some (List.replicate 4 0, false)
 else
 if x6 = true then
  some (List.replicate 4 0, false)
 else
 optE (whole_Zero N x1) fun x7 =>
 if x7 = true then
  some (List.replicate 4 0, false)
 else
 optE (whole_Less N x4 x1) fun x8 =>
 if x8 = true then
  some (List.replicate 4 0, false)
 else
 some (x1, true)
theorem compact_Target.snd {bits_0 limit_1 : Int} {r : (List Int) × Bool} (h : compact_Target N bits_0 limit_1 = some r) : SndQ Tryd.prog 36 [.one (L.int .i64 bits_0), .one (L.int .i64 limit_1)] (compact_Target.rs r) := fun st =>
 sO compact_Target.B Tryd.func36 fun g0 w0 R hE => by
  unfold compact_Target at h
  obtain ⟨⟨x1, x2, x3⟩, c1, h1⟩ := optE_inv h; clear h
  obtain ⟨⟨x4, x5, x6⟩, c2, h2⟩ := optE_inv h1; clear h1
  refine iteB h2 (fun c3 h3 => ?_) (fun c3 h4 => ?_) <;> clear h2
  · obtain rfl := some_inv h3
    exact af fol hE [.r [], .r [(1, {rs := [.agg [L.arr .u64 4 x1], .one (L.bool x2), .one (L.bool x3)], m := 1})], .r [(1, {rs := [.agg [L.arr .u64 4 x4], .one (L.bool x5), .one (L.bool x6)], m := 1})], .r [(2, {want := false}), (5, {want := false}), (8, {want := false}), (11, {want := false}), (12, {want := false}), (15, {want := false}), (16, {want := false}), (17, {want := false})], .c true, .r []] [] 0 [] (aI (compact_Decode.snd c1) (aI (compact_Decode.snd c2) (aI c3 (aI c3 (aI (eB true) (aI (eB true) (aI (eB true) (aI (eB true) (aI (eB true) (aI (eB true) (aI (eB true) (aI (eB true) (aI (eB true) (aI (eB true) (aI (eB true) (eB true))))))))))))))))
  · refine iteB h4 (fun c4 h5 => ?_) (fun c4 h6 => ?_) <;> clear h4
    · obtain rfl := some_inv h5
      exact af fol hE [.r [], .r [(1, {rs := [.agg [L.arr .u64 4 x1], .one (L.bool x2), .one (L.bool x3)], m := 1})], .r [(1, {rs := [.agg [L.arr .u64 4 x4], .one (L.bool x5), .one (L.bool x6)], m := 1})], .r [(3, {yes := false}), (5, {want := false}), (8, {want := false}), (11, {want := false}), (12, {want := false}), (15, {want := false}), (16, {want := false}), (17, {want := false})], .c true, .r []] [] 0 [] (aI (compact_Decode.snd c1) (aI (compact_Decode.snd c2) (aI c3 (aI c3 (aI c4 (aI c4 (aI (eB true) (aI (eB true) (aI (eB true) (aI (eB true) (aI (eB true) (aI (eB true) (aI (eB true) (aI (eB true) (aI (eB true) (eB true))))))))))))))))
    · refine iteB h6 (fun c5 h7 => ?_) (fun c5 h8 => ?_) <;> clear h6
      · obtain rfl := some_inv h7
        exact af fol hE [.r [], .r [(1, {rs := [.agg [L.arr .u64 4 x1], .one (L.bool x2), .one (L.bool x3)], m := 1})], .r [(1, {rs := [.agg [L.arr .u64 4 x4], .one (L.bool x5), .one (L.bool x6)], m := 1})], .r [(3, {yes := false}), (6, {yes := false}), (8, {want := false}), (11, {want := false}), (12, {want := false}), (15, {want := false}), (16, {want := false}), (17, {want := false})], .c true, .r []] [] 0 [] (aI (compact_Decode.snd c1) (aI (compact_Decode.snd c2) (aI c3 (aI c3 (aI c4 (aI c4 (aI c5 (aI c5 (aI (eB true) (aI (eB true) (aI (eB true) (aI (eB true) (aI (eB true) (aI (eB true) (aI (eB true) (eB true))))))))))))))))
      · refine iteB h8 (fun c6 h9 => ?_) (fun c6 h10 => ?_) <;> clear h8
        · obtain rfl := some_inv h9
          exact af fol hE [.r [], .r [(1, {rs := [.agg [L.arr .u64 4 x1], .one (L.bool x2), .one (L.bool x3)], m := 1})], .r [(1, {rs := [.agg [L.arr .u64 4 x4], .one (L.bool x5), .one (L.bool x6)], m := 1})], .r [(3, {yes := false}), (6, {yes := false}), (9, {yes := false}), (11, {want := false}), (12, {want := false}), (15, {want := false}), (16, {want := false}), (17, {want := false})], .c true, .r []] [] 0 [] (aI (compact_Decode.snd c1) (aI (compact_Decode.snd c2) (aI c3 (aI c3 (aI c4 (aI c4 (aI c5 (aI c5 (aI c6 (aI c6 (aI c6 (aI (eB true) (aI (eB true) (aI (eB true) (aI (eB true) (eB true))))))))))))))))
        · obtain ⟨x7, c7, h11⟩ := optE_inv h10; clear h10
          refine iteB h11 (fun c8 h12 => ?_) (fun c8 h13 => ?_) <;> clear h11
          · obtain rfl := some_inv h12
            exact af fol hE [.r [], .r [(1, {rs := [.agg [L.arr .u64 4 x1], .one (L.bool x2), .one (L.bool x3)], m := 1})], .r [(1, {rs := [.agg [L.arr .u64 4 x4], .one (L.bool x5), .one (L.bool x6)], m := 1})], .r [(3, {yes := false}), (6, {yes := false}), (9, {yes := false}), (12, {rs := [.one (L.bool x7)], m := 1}), (13, {yes := false}), (15, {want := false}), (16, {want := false}), (17, {want := false})], .c true, .r []] [] 0 [] (aI (compact_Decode.snd c1) (aI (compact_Decode.snd c2) (aI c3 (aI c3 (aI c4 (aI c4 (aI c5 (aI c5 (aI c6 (aI c6 (aI (whole_Zero.snd c7) (aI c6 (aI c8 (aI c8 (aI c8 (aI c8 (eB true)))))))))))))))))
          · obtain ⟨x8, c9, h14⟩ := optE_inv h13; clear h13
            refine iteB h14 (fun c10 h15 => ?_) (fun c10 h16 => ?_) <;> clear h14
            · obtain rfl := some_inv h15
              exact af fol hE [.r [], .r [(1, {rs := [.agg [L.arr .u64 4 x1], .one (L.bool x2), .one (L.bool x3)], m := 1})], .r [(1, {rs := [.agg [L.arr .u64 4 x4], .one (L.bool x5), .one (L.bool x6)], m := 1})], .r [(3, {yes := false}), (6, {yes := false}), (9, {yes := false}), (12, {rs := [.one (L.bool x7)], m := 1}), (13, {yes := false}), (17, {rs := [.one (L.bool x8)], m := 1}), (18, {yes := false})], .c true, .r []] [] 0 [] (aI (compact_Decode.snd c1) (aI (compact_Decode.snd c2) (aI c3 (aI c3 (aI c4 (aI c4 (aI c5 (aI c5 (aI c6 (aI c6 (aI (whole_Zero.snd c7) (aI c6 (aI c8 (aI c8 (aI c8 (aI (whole_Less.snd c9) (aI c8 c10)))))))))))))))))
            · obtain rfl := some_inv h16
              exact af fol hE [.r [], .r [(1, {rs := [.agg [L.arr .u64 4 x1], .one (L.bool x2), .one (L.bool x3)], m := 1})], .r [(1, {rs := [.agg [L.arr .u64 4 x4], .one (L.bool x5), .one (L.bool x6)], m := 1})], .r [(3, {yes := false}), (6, {yes := false}), (9, {yes := false}), (12, {rs := [.one (L.bool x7)], m := 1}), (13, {yes := false}), (17, {rs := [.one (L.bool x8)], m := 1}), (18, {yes := false})], .c false, .r []] [] 0 [] (aI (compact_Decode.snd c1) (aI (compact_Decode.snd c2) (aI c3 (aI c3 (aI c4 (aI c4 (aI c5 (aI c5 (aI c6 (aI c6 (aI (whole_Zero.snd c7) (aI c6 (aI c8 (aI c8 (aI c8 (aI (whole_Less.snd c9) (aI c8 c10)))))))))))))))))
/-! trailhead/pace.Good -/
noncomputable def pace_Good.B : Code := Tryd.f27.body.getD .skip
noncomputable def pace_Good.rs (r : Bool) : List CV := [.one (L.bool r)]
noncomputable def pace_Good (N : Nat) (p_0 : api_Params) : Option Bool :=
 optE (compact_Target N p_0.Limit p_0.Limit) fun (x1, x2) =>
 if x2 = true then
  if (decide (p_0.Interval ≥ 2)) = true then
   if (decide (p_0.Interval ≤ 64)) = true then
    if (decide (p_0.Spacing ≥ 1)) = true then
     if (decide (p_0.Spacing ≤ 10000)) = true then
      if (decide (p_0.Future ≥ 0)) = true then
       some (decide (p_0.Future < 4294967296))
      else
      some false
     else
     some false
    else
    some false
   else
   some false
  else
  some false
 else
 some false
theorem pace_Good.snd {p_0 : api_Params} {r : Bool} (h : pace_Good N p_0 = some r) : SndQ Tryd.prog 27 [.agg p_0.ls] (pace_Good.rs r) := fun st =>
 sO pace_Good.B Tryd.func27 fun g0 w0 R hE => by
  unfold pace_Good at h
  obtain ⟨⟨x1, x2⟩, c1, h1⟩ := optE_inv h; clear h
  refine iteB h1 (fun c2 h2 => ?_) (fun c2 h3 => ?_) <;> clear h1
  · refine iteB h2 (fun c3 h4 => ?_) (fun c3 h5 => ?_) <;> clear h2
    · refine iteB h4 (fun c4 h6 => ?_) (fun c4 h7 => ?_) <;> clear h4
      · refine iteB h6 (fun c5 h8 => ?_) (fun c5 h9 => ?_) <;> clear h6
        · refine iteB h8 (fun c6 h10 => ?_) (fun c6 h11 => ?_) <;> clear h8
          · refine iteB h10 (fun c7 h12 => ?_) (fun c7 h13 => ?_) <;> clear h10
            · obtain rfl := some_inv h12
              exact af fol hE [.r [], .r [(4, {rs := [.agg [L.arr .u64 4 x1], .one (L.bool x2)], m := 1})], .r []] [] 0 [] (aI (compact_Target.snd c1) (aI c2 (aI c2 (aI c2 (aI c2 (aI c3 (aI c3 (aI c3 (aI c3 (aI c4 (aI c4 (aI c4 (aI c4 (aI c5 (aI c5 (aI c5 (aI c5 (aI c6 (aI c6 (aI c6 (aI c6 (aI c7 (aI c7 (aI c7 c7))))))))))))))))))))))))
            · obtain rfl := some_inv h13
              exact af fol hE [.r [], .r [(4, {rs := [.agg [L.arr .u64 4 x1], .one (L.bool x2)], m := 1})], .r [(27, {want := false}), (28, {want := false}), (29, {want := false}), (30, {yes := false})]] [] 0 [] (aI (compact_Target.snd c1) (aI c2 (aI c2 (aI c2 (aI c2 (aI c3 (aI c3 (aI c3 (aI c3 (aI c4 (aI c4 (aI c4 (aI c4 (aI c5 (aI c5 (aI c5 (aI c5 (aI c6 (aI c6 (aI c6 (aI c6 (aI c7 (aI c7 (aI c7 c7))))))))))))))))))))))))
          · obtain rfl := some_inv h11
            exact af fol hE [.r [], .r [(4, {rs := [.agg [L.arr .u64 4 x1], .one (L.bool x2)], m := 1})], .r [(22, {want := false}), (23, {want := false}), (24, {want := false}), (25, {yes := false}), (27, {want := false}), (28, {want := false}), (29, {want := false}), (30, {yes := false})]] [] 0 [] (aI (compact_Target.snd c1) (aI c2 (aI c2 (aI c2 (aI c2 (aI c3 (aI c3 (aI c3 (aI c3 (aI c4 (aI c4 (aI c4 (aI c4 (aI c5 (aI c5 (aI c5 (aI c5 (aI c6 (aI c6 (aI c6 (aI c6 (aI (eB false) (aI (eB false) (aI (eB false) (eB false)))))))))))))))))))))))))
        · obtain rfl := some_inv h9
          exact af fol hE [.r [], .r [(4, {rs := [.agg [L.arr .u64 4 x1], .one (L.bool x2)], m := 1})], .r [(17, {want := false}), (18, {want := false}), (19, {want := false}), (20, {yes := false}), (22, {want := false}), (23, {want := false}), (24, {want := false}), (25, {yes := false}), (27, {want := false}), (28, {want := false}), (29, {want := false}), (30, {yes := false})]] [] 0 [] (aI (compact_Target.snd c1) (aI c2 (aI c2 (aI c2 (aI c2 (aI c3 (aI c3 (aI c3 (aI c3 (aI c4 (aI c4 (aI c4 (aI c4 (aI c5 (aI c5 (aI c5 (aI c5 (aI (eB false) (aI (eB false) (aI (eB false) (aI (eB false) (aI (eB false) (aI (eB false) (aI (eB false) (eB false)))))))))))))))))))))))))
      · obtain rfl := some_inv h7
        exact af fol hE [.r [], .r [(4, {rs := [.agg [L.arr .u64 4 x1], .one (L.bool x2)], m := 1})], .r [(12, {want := false}), (13, {want := false}), (14, {want := false}), (15, {yes := false}), (17, {want := false}), (18, {want := false}), (19, {want := false}), (20, {yes := false}), (22, {want := false}), (23, {want := false}), (24, {want := false}), (25, {yes := false}), (27, {want := false}), (28, {want := false}), (29, {want := false}), (30, {yes := false})]] [] 0 [] (aI (compact_Target.snd c1) (aI c2 (aI c2 (aI c2 (aI c2 (aI c3 (aI c3 (aI c3 (aI c3 (aI c4 (aI c4 (aI c4 (aI c4 (aI (eB false) (aI (eB false) (aI (eB false) (aI (eB false) (aI (eB false) (aI (eB false) (aI (eB false) (aI (eB false) (aI (eB false) (aI (eB false) (aI (eB false) (eB false)))))))))))))))))))))))))
    · obtain rfl := some_inv h5
      exact af fol hE [.r [], .r [(4, {rs := [.agg [L.arr .u64 4 x1], .one (L.bool x2)], m := 1})], .r [(7, {want := false}), (8, {want := false}), (9, {want := false}), (10, {yes := false}), (12, {want := false}), (13, {want := false}), (14, {want := false}), (15, {yes := false}), (17, {want := false}), (18, {want := false}), (19, {want := false}), (20, {yes := false}), (22, {want := false}), (23, {want := false}), (24, {want := false}), (25, {yes := false}), (27, {want := false}), (28, {want := false}), (29, {want := false}), (30, {yes := false})]] [] 0 [] (aI (compact_Target.snd c1) (aI c2 (aI c2 (aI c2 (aI c2 (aI c3 (aI c3 (aI c3 (aI c3 (aI (eB false) (aI (eB false) (aI (eB false) (aI (eB false) (aI (eB false) (aI (eB false) (aI (eB false) (aI (eB false) (aI (eB false) (aI (eB false) (aI (eB false) (aI (eB false) (aI (eB false) (aI (eB false) (aI (eB false) (eB false)))))))))))))))))))))))))
  · obtain rfl := some_inv h3
    exact af fol hE [.r [], .r [(4, {rs := [.agg [L.arr .u64 4 x1], .one (L.bool x2)], m := 1})], .r [(2, {want := false}), (3, {want := false}), (4, {want := false}), (5, {yes := false}), (7, {want := false}), (8, {want := false}), (9, {want := false}), (10, {yes := false}), (12, {want := false}), (13, {want := false}), (14, {want := false}), (15, {yes := false}), (17, {want := false}), (18, {want := false}), (19, {want := false}), (20, {yes := false}), (22, {want := false}), (23, {want := false}), (24, {want := false}), (25, {yes := false}), (27, {want := false}), (28, {want := false}), (29, {want := false}), (30, {yes := false})]] [] 0 [] (aI (compact_Target.snd c1) (aI c2 (aI c2 (aI c2 (aI c2 (aI (eB false) (aI (eB false) (aI (eB false) (aI (eB false) (aI (eB false) (aI (eB false) (aI (eB false) (aI (eB false) (aI (eB false) (aI (eB false) (aI (eB false) (aI (eB false) (aI (eB false) (aI (eB false) (aI (eB false) (aI (eB false) (aI (eB false) (aI (eB false) (aI (eB false) (eB false)))))))))))))))))))))))))
/-! trailhead/rule.Good -/
noncomputable def rule_Good.B : Code := Tryd.f11.body.getD .skip
noncomputable def rule_Good.rs (r : Bool) : List CV := [.one (L.bool r)]
noncomputable def rule_Good.p2 (N : Nat) (p_0 : api_Params) (c2_ : Int → Option Bool) : Int → Option Bool := fun v6 =>
 if (decide (v6 < (len p_0.Checks))) = true then
  chk (0 ≤ v6) <|
  getE (p_0.Checks[Int.toNat v6]?) dec_api_Check fun x7 =>
  if (decide (x7.Height < 1)) = true then
   some false
  else
  if (decide (v6 > 0)) = true then
   chk (0 ≤ (w64 (v6 - 1))) <|
   chk ((w64 (v6 - 1)) < (len p_0.Checks)) <|
   getE (p_0.Checks[Int.toNat (w64 (v6 - 1))]?) dec_api_Check fun x8 =>
   if (decide (x7.Height ≤ x8.Height)) = true then
    some false
   else
   c2_ (w64 (v6 + 1))
  else
  c2_ (w64 (v6 + 1))
 else
 some true
noncomputable def rule_Good.p1 (N : Nat) (p_0 : api_Params) (c1_ : Int → Option Bool) : Int → Option Bool := fun v3 =>
 if (decide (v3 < (len p_0.Gates))) = true then
  chk (0 ≤ v3) <|
  getE (p_0.Gates[Int.toNat v3]?) dec_api_Gate fun x4 =>
  if (decide (x4.Height < 0)) = true then
   some false
  else
  if (decide (v3 > 0)) = true then
   chk (0 ≤ (w64 (v3 - 1))) <|
   chk ((w64 (v3 - 1)) < (len p_0.Gates)) <|
   getE (p_0.Gates[Int.toNat (w64 (v3 - 1))]?) dec_api_Gate fun x5 =>
   if (decide (x4.Height ≤ x5.Height)) = true then
    some false
   else
   c1_ (w64 (v3 + 1))
  else
  c1_ (w64 (v3 + 1))
 else
 loopN (rule_Good.p2 N p_0) N 0
noncomputable def rule_Good (N : Nat) (p_0 : api_Params) : Option Bool :=
 optE (pace_Good N p_0) fun x1 =>
 if (!x1) = true then
  some false
 else
 optE (header_Good N p_0.Genesis) fun x2 =>
 if (!x2) = true then
  some false
 else
 loopN (rule_Good.p1 N p_0) N 0
noncomputable def rule_Good.p2.S (p_0 : api_Params) (v6 : Int) (st : LL) : S := mkS 72 [(1, .one (.adr (.site 1) 0)), (45, .one (.l (L.sl 33 p_0.Checks))), (46, .one (.l (L.int .i64 (len p_0.Checks)))), (47, .one (.l (L.int .i64 v6)))] [(1, .cells p_0.ls)] st
noncomputable def rule_Good.p1.S (p_0 : api_Params) (v3 : Int) (st : LL) : S := mkS 72 [(1, .one (.adr (.site 1) 0)), (17, .one (.l (L.sl 2 p_0.Gates))), (18, .one (.l (L.int .i64 (len p_0.Gates)))), (19, .one (.l (L.int .i64 v3)))] [(1, .cells p_0.ls)] st
theorem rule_Good.p2_ok (p_0 : api_Params) (v6 : Int) (st : LL) {r : Bool} {c2_ : Int → Option Bool} {J2 : Act → World → Prop} (hE : En Tryd.f11 g0 w0 (rule_Good.rs r) st R) (hc2 : ∀ (v6 : Int), c2_ v6 = some r → At g0 w0 (rule_Good.p2.S p_0 v6 st) J2) (h : rule_Good.p2 N p_0 c2_ v6 = some r) : At g0 w0 (rule_Good.p2.S p_0 v6 st) (XK Tryd.prog R (.c (csub rule_Good.B [1, 1, 1, 0, 1, 0, 0]) :: .h J2 :: [.b 2, .c (csub rule_Good.B [1, 1, 1, 1])])) := by
 unfold rule_Good.p2 at h
 refine iteB h (fun c14 h1 => ?_) (fun c14 h2 => ?_) <;> clear h
 · obtain ⟨c15, h3⟩ := chk_inv h1; clear h1
   obtain ⟨x7, c16, h4⟩ := dec_api_Check_get h3; clear h3
   refine iteB h4 (fun c17 h5 => ?_) (fun c17 h6 => ?_) <;> clear h4
   · obtain rfl := some_inv h5
     exact afd fol hE [.r [], .c true, .r [(2, {oe := x7.ls})], .d {ds := [(4, {want := false}), (5, {want := false}), (6, {want := false}), (17, {want := false})], hv := 0, Hs := []}, .c true, .r []] [] 0 [] (aI c14 (aI c15 (aI (oD c14) (aI c16 (aI c17 (aI c17 (aI c17 (aI c17 (aI c17 (eB true))))))))))
   · refine iteB h6 (fun c18 h7 => ?_) (fun c18 h8 => ?_) <;> clear h6
     · obtain ⟨c19, c20, h9⟩ := ck2 h7; clear h7
       obtain ⟨x8, c21, h10⟩ := dec_api_Check_get h9; clear h9
       refine iteB h10 (fun c22 h11 => ?_) (fun c22 h12 => ?_) <;> clear h10
       · obtain rfl := some_inv h11
         exact afd fol hE [.r [], .c true, .r [(2, {oe := x7.ls})], .d {ds := [(15, {oe := x8.ls}), (18, {yes := false})], hv := 0, Hs := []}, .c true, .r []] [] 0 [] (aI c14 (aI c15 (aI (oD c14) (aI c16 (aI c17 (aI c17 (aI c17 (aI c18 (aI c18 (aI c18 (aI c18 (aI c18 (aI c18 (aI c18 (aI c19 (aI c20 (aI c18 (aI c18 (aI c21 (aI c18 (aI c17 (aI c18 (aI c17 c22)))))))))))))))))))))))
       · exact and_ fol [.r [], .c true, .r [(2, {oe := x7.ls})], .d {ds := [(15, {oe := x8.ls}), (18, {yes := false})], hv := 0, Hs := []}, .c false, .r []] [1, 45, 46, 47] [1] (aI c14 (aI c15 (aI (oD c14) (aI c16 (aI c17 (aI c17 (aI c17 (aI c18 (aI c18 (aI c18 (aI c18 (aI c18 (aI c18 (aI c18 (aI c19 (aI c20 (aI c18 (aI c18 (aI c21 (aI c18 (aI c17 (aI c18 (aI c17 c22))))))))))))))))))))))) (hc2 (w64 (v6 + 1)) h12)
     · exact and_ fol [.r [], .c true, .r [(2, {oe := x7.ls})], .d {ds := [(7, {want := false}), (8, {want := false}), (9, {want := false}), (10, {want := false}), (11, {want := false}), (12, {want := false}), (13, {want := false}), (14, {want := false}), (15, {want := false}), (16, {want := false}), (17, {yes := false}), (18, {yes := false})], hv := 0, Hs := []}, .c false, .r []] [1, 45, 46, 47] [1] (aI c14 (aI c15 (aI (oD c14) (aI c16 (aI c17 (aI c17 (aI c17 (aI c18 (aI c18 (aI c18 (aI c18 (aI c18 (aI c18 (aI c18 (aI c18 (aI c18 (aI c18 (aI c17 (aI c18 (aI c17 (eB false))))))))))))))))))))) (hc2 (w64 (v6 + 1)) h8)
 · obtain rfl := some_inv h2
   exact af fol hE [.r [], .c false, .r []] [] 0 [] c14
theorem rule_Good.p1_ok (p_0 : api_Params) (v3 : Int) (st : LL) {r : Bool} {c1_ : Int → Option Bool} {J1 : Act → World → Prop} (hE : En Tryd.f11 g0 w0 (rule_Good.rs r) st R) (hc1 : ∀ (v3 : Int), c1_ v3 = some r → At g0 w0 (rule_Good.p1.S p_0 v3 st) J1) (h : rule_Good.p1 N p_0 c1_ v3 = some r) : At g0 w0 (rule_Good.p1.S p_0 v3 st) (XK Tryd.prog R (.c (csub rule_Good.B [1, 1, 0, 1, 0, 0]) :: .h J1 :: [.b 0, .c (csub rule_Good.B [1, 1, 1])])) := by
 unfold rule_Good.p1 at h
 refine iteB h (fun c5 h13 => ?_) (fun c5 h14 => ?_) <;> clear h
 · obtain ⟨c6, h15⟩ := chk_inv h13; clear h13
   obtain ⟨x4, c7, h16⟩ := dec_api_Gate_get h15; clear h15
   refine iteB h16 (fun c8 h17 => ?_) (fun c8 h18 => ?_) <;> clear h16
   · obtain rfl := some_inv h17
     exact afd fol hE [.r [], .c true, .r [(2, {oe := x4.ls})], .d {ds := [(4, {want := false}), (5, {want := false}), (6, {want := false}), (17, {want := false})], hv := 0, Hs := []}, .c true, .r []] [] 0 [] (aI c5 (aI c6 (aI (oD c5) (aI c7 (aI c8 (aI c8 (aI c8 (aI c8 (aI c8 (eB true))))))))))
   · refine iteB h18 (fun c9 h19 => ?_) (fun c9 h20 => ?_) <;> clear h18
     · obtain ⟨c10, c11, h21⟩ := ck2 h19; clear h19
       obtain ⟨x5, c12, h22⟩ := dec_api_Gate_get h21; clear h21
       refine iteB h22 (fun c13 h23 => ?_) (fun c13 h24 => ?_) <;> clear h22
       · obtain rfl := some_inv h23
         exact afd fol hE [.r [], .c true, .r [(2, {oe := x4.ls})], .d {ds := [(15, {oe := x5.ls}), (18, {yes := false})], hv := 0, Hs := []}, .c true, .r []] [] 0 [] (aI c5 (aI c6 (aI (oD c5) (aI c7 (aI c8 (aI c8 (aI c8 (aI c9 (aI c9 (aI c9 (aI c9 (aI c9 (aI c9 (aI c9 (aI c10 (aI c11 (aI c9 (aI c9 (aI c12 (aI c9 (aI c8 (aI c9 (aI c8 c13)))))))))))))))))))))))
       · exact and_ fol [.r [], .c true, .r [(2, {oe := x4.ls})], .d {ds := [(15, {oe := x5.ls}), (18, {yes := false})], hv := 0, Hs := []}, .c false, .r []] [1, 17, 18, 19] [1] (aI c5 (aI c6 (aI (oD c5) (aI c7 (aI c8 (aI c8 (aI c8 (aI c9 (aI c9 (aI c9 (aI c9 (aI c9 (aI c9 (aI c9 (aI c10 (aI c11 (aI c9 (aI c9 (aI c12 (aI c9 (aI c8 (aI c9 (aI c8 c13))))))))))))))))))))))) (hc1 (w64 (v3 + 1)) h24)
     · exact and_ fol [.r [], .c true, .r [(2, {oe := x4.ls})], .d {ds := [(7, {want := false}), (8, {want := false}), (9, {want := false}), (10, {want := false}), (11, {want := false}), (12, {want := false}), (13, {want := false}), (14, {want := false}), (15, {want := false}), (16, {want := false}), (17, {yes := false}), (18, {yes := false})], hv := 0, Hs := []}, .c false, .r []] [1, 17, 18, 19] [1] (aI c5 (aI c6 (aI (oD c5) (aI c7 (aI c8 (aI c8 (aI c8 (aI c9 (aI c9 (aI c9 (aI c9 (aI c9 (aI c9 (aI c9 (aI c9 (aI c9 (aI c9 (aI c8 (aI c9 (aI c8 (eB false))))))))))))))))))))) (hc1 (w64 (v3 + 1)) h20)
 · exact aq fol [.r [], .c false, .r []] [1, 45, 46, 47] [1] c5 (At.loop N (At.loopN (fun y : Int => rule_Good.p2.S p_0 y st) (fun c J hc y h => rule_Good.p2_ok p_0 y st hE (fun v6 hh => hc v6 hh) h) N 0 h14))
theorem rule_Good.snd {p_0 : api_Params} {r : Bool} (h : rule_Good N p_0 = some r) : SndQ Tryd.prog 11 [.agg p_0.ls] (rule_Good.rs r) := fun st =>
 sO rule_Good.B Tryd.func11 fun g0 w0 R hE => by
  unfold rule_Good at h
  obtain ⟨x1, c1, h25⟩ := optE_inv h; clear h
  refine iteB h25 (fun c2 h26 => ?_) (fun c2 h27 => ?_) <;> clear h25
  · obtain rfl := some_inv h26
    exact af fol hE [.r [], .r [(1, {rs := [.one (L.bool x1)], m := 1}), (4, {want := false}), (5, {want := false}), (6, {want := false}), (7, {want := false})], .c true, .r []] [] 0 [] (aI (pace_Good.snd c1) (aI (not_false (not_inv_t c2)) (aI (not_false (not_inv_t c2)) (aI (not_false (not_inv_t c2)) (aI (not_false (not_inv_t c2)) (aI (not_false (not_inv_t c2)) (eB true)))))))
  · obtain ⟨x2, c3, h28⟩ := optE_inv h27; clear h27
    refine iteB h28 (fun c4 h29 => ?_) (fun c4 h30 => ?_) <;> clear h28
    · obtain rfl := some_inv h29
      exact af fol hE [.r [], .r [(1, {rs := [.one (L.bool x1)], m := 1}), (6, {rs := [.one (L.bool x2)], m := 1}), (8, {yes := false})], .c true, .r []] [] 0 [] (aI (pace_Good.snd c1) (aI (not_true (not_inv_f c2)) (aI (not_true (not_inv_f c2)) (aI (not_true (not_inv_f c2)) (aI (header_Good.snd c3) (aI (not_true (not_inv_f c2)) (aI (not_true (not_inv_f c2)) c4)))))))
    · exact aq fol [.r [], .r [(1, {rs := [.one (L.bool x1)], m := 1}), (6, {rs := [.one (L.bool x2)], m := 1}), (8, {yes := false})], .c false, .r []] [1, 17, 18, 19] [1] (aI (pace_Good.snd c1) (aI (not_true (not_inv_f c2)) (aI (not_true (not_inv_f c2)) (aI (not_true (not_inv_f c2)) (aI (header_Good.snd c3) (aI (not_true (not_inv_f c2)) (aI (not_true (not_inv_f c2)) c4))))))) (At.loop N (At.loopN (fun y : Int => rule_Good.p1.S p_0 y st) (fun c J hc y h => rule_Good.p1_ok p_0 y st hE (fun v3 hh => hc v3 hh) h) N 0 h30))
/-! trailhead/pace.span -/
noncomputable def pace_span.B : Code := Tryd.f45.body.getD .skip
noncomputable def pace_span.rs (r : Int) : List CV := [.one (L.int .i64 r)]
noncomputable def pace_span (N : Nat) (p_0 : api_Params) (from_1 to_2 : Int) : Option Int :=
 some (if (w64 ((w64 (p_0.Interval * p_0.Spacing)) * 4)) < (if (w64 (Int.tdiv (w64 (p_0.Interval * p_0.Spacing)) 4)) > (w64 (to_2 - from_1)) then (w64 (Int.tdiv (w64 (p_0.Interval * p_0.Spacing)) 4)) else (w64 (to_2 - from_1))) then (w64 ((w64 (p_0.Interval * p_0.Spacing)) * 4)) else (if (w64 (Int.tdiv (w64 (p_0.Interval * p_0.Spacing)) 4)) > (w64 (to_2 - from_1)) then (w64 (Int.tdiv (w64 (p_0.Interval * p_0.Spacing)) 4)) else (w64 (to_2 - from_1))))
theorem pace_span.snd {p_0 : api_Params} {from_1 to_2 : Int} {r : Int} (h : pace_span N p_0 from_1 to_2 = some r) : SndQ Tryd.prog 45 [.agg p_0.ls, .one (L.int .i64 from_1), .one (L.int .i64 to_2)] (pace_span.rs r) := fun st =>
 sO pace_span.B Tryd.func45 fun g0 w0 R hE => by
  unfold pace_span at h
  obtain rfl := some_inv h
  exact af fol hE [.r [], .r [], .r []] [] 0 [] (neI 4)
/-! math/bits.Len64 -/
noncomputable def math_bits_Len64.B : Code := Tryd.f72.body.getD .skip
noncomputable def math_bits_Len64.rs (r : Int) : List CV := [.one (L.int .i64 r)]
noncomputable def math_bits_Len64.p3 (N : Nat) (x_5 n_6 : Int) : Option Int :=
 chk (0 ≤ (v8 (x_5))) <|
 chk ((v8 (x_5)) < ((ByteArray.size (ByteArray.mk #[0, 1, 2, 2, 3, 3, 3, 3, 4, 4, 4, 4, 4, 4, 4, 4, 5, 5, 5, 5, 5, 5, 5, 5, 5, 5, 5, 5, 5, 5, 5, 5, 6, 6, 6, 6, 6, 6, 6, 6, 6, 6, 6, 6, 6, 6, 6, 6, 6, 6, 6, 6, 6, 6, 6, 6, 6, 6, 6, 6, 6, 6, 6, 6, 7, 7, 7, 7, 7, 7, 7, 7, 7, 7, 7, 7, 7, 7, 7, 7, 7, 7, 7, 7, 7, 7, 7, 7, 7, 7, 7, 7, 7, 7, 7, 7, 7, 7, 7, 7, 7, 7, 7, 7, 7, 7, 7, 7, 7, 7, 7, 7, 7, 7, 7, 7, 7, 7, 7, 7, 7, 7, 7, 7, 7, 7, 7, 7, 8, 8, 8, 8, 8, 8, 8, 8, 8, 8, 8, 8, 8, 8, 8, 8, 8, 8, 8, 8, 8, 8, 8, 8, 8, 8, 8, 8, 8, 8, 8, 8, 8, 8, 8, 8, 8, 8, 8, 8, 8, 8, 8, 8, 8, 8, 8, 8, 8, 8, 8, 8, 8, 8, 8, 8, 8, 8, 8, 8, 8, 8, 8, 8, 8, 8, 8, 8, 8, 8, 8, 8, 8, 8, 8, 8, 8, 8, 8, 8, 8, 8, 8, 8, 8, 8, 8, 8, 8, 8, 8, 8, 8, 8, 8, 8, 8, 8, 8, 8, 8, 8, 8, 8, 8, 8, 8, 8, 8, 8, 8, 8, 8, 8, 8, 8, 8, 8, 8, 8, 8, 8, 8, 8, 8, 8, 8, 8]) : Nat) : Int)) <|
 some (w64 (n_6 + (w64 (((UInt8.toNat (List.getD (Array.toList (ByteArray.data (ByteArray.mk #[0, 1, 2, 2, 3, 3, 3, 3, 4, 4, 4, 4, 4, 4, 4, 4, 5, 5, 5, 5, 5, 5, 5, 5, 5, 5, 5, 5, 5, 5, 5, 5, 6, 6, 6, 6, 6, 6, 6, 6, 6, 6, 6, 6, 6, 6, 6, 6, 6, 6, 6, 6, 6, 6, 6, 6, 6, 6, 6, 6, 6, 6, 6, 6, 7, 7, 7, 7, 7, 7, 7, 7, 7, 7, 7, 7, 7, 7, 7, 7, 7, 7, 7, 7, 7, 7, 7, 7, 7, 7, 7, 7, 7, 7, 7, 7, 7, 7, 7, 7, 7, 7, 7, 7, 7, 7, 7, 7, 7, 7, 7, 7, 7, 7, 7, 7, 7, 7, 7, 7, 7, 7, 7, 7, 7, 7, 7, 7, 8, 8, 8, 8, 8, 8, 8, 8, 8, 8, 8, 8, 8, 8, 8, 8, 8, 8, 8, 8, 8, 8, 8, 8, 8, 8, 8, 8, 8, 8, 8, 8, 8, 8, 8, 8, 8, 8, 8, 8, 8, 8, 8, 8, 8, 8, 8, 8, 8, 8, 8, 8, 8, 8, 8, 8, 8, 8, 8, 8, 8, 8, 8, 8, 8, 8, 8, 8, 8, 8, 8, 8, 8, 8, 8, 8, 8, 8, 8, 8, 8, 8, 8, 8, 8, 8, 8, 8, 8, 8, 8, 8, 8, 8, 8, 8, 8, 8, 8, 8, 8, 8, 8, 8, 8, 8, 8, 8, 8, 8, 8, 8, 8, 8, 8, 8, 8, 8, 8, 8, 8, 8, 8, 8, 8, 8, 8, 8]))) (Int.toNat (v8 (x_5))) 0) : Nat) : Int)))))
noncomputable def math_bits_Len64.p2 (N : Nat) (x_3 n_4 : Int) : Option Int :=
 if (decide (x_3 ≥ 256)) = true then
  math_bits_Len64.p3 N (shrOf .u64 x_3 8) (w64 (n_4 + 8))
 else
 math_bits_Len64.p3 N x_3 n_4
noncomputable def math_bits_Len64.p1 (N : Nat) (x_1 n_2 : Int) : Option Int :=
 if (decide (x_1 ≥ 65536)) = true then
  math_bits_Len64.p2 N (shrOf .u64 x_1 16) (w64 (n_2 + 16))
 else
 math_bits_Len64.p2 N x_1 n_2
noncomputable def math_bits_Len64 (N : Nat) (x_0 : Int) : Option Int :=
 if (decide (x_0 ≥ 4294967296)) = true then
  math_bits_Len64.p1 N (shrOf .u64 x_0 32) 32
 else
 math_bits_Len64.p1 N x_0 0
noncomputable def math_bits_Len64.p3.S (x_5 n_6 : Int) (st : LL) : S := mkS 25 [(0, .one (.l (L.int .u64 x_5))), (2, .one (.l (L.int .i64 n_6)))] [] st
noncomputable def math_bits_Len64.p2.S (x_3 n_4 : Int) (st : LL) : S := mkS 25 [(0, .one (.l (L.int .u64 x_3))), (2, .one (.l (L.int .i64 n_4)))] [] st
noncomputable def math_bits_Len64.p1.S (x_1 n_2 : Int) (st : LL) : S := mkS 25 [(0, .one (.l (L.int .u64 x_1))), (2, .one (.l (L.int .i64 n_2)))] [] st
theorem math_bits_Len64.p3_ok (x_5 n_6 : Int) (st : LL) {r : Int} (hE : En Tryd.f72 g0 w0 (math_bits_Len64.rs r) st R) (h : math_bits_Len64.p3 N x_5 n_6 = some r) : At g0 w0 (math_bits_Len64.p3.S x_5 n_6 st) (XK Tryd.prog R [.c (csub math_bits_Len64.B [1, 1, 1, 1])]) := by
 unfold math_bits_Len64.p3 at h
 obtain ⟨c4, c5, h1⟩ := ck2 h; clear h
 obtain rfl := some_inv h1
 exact af fol hE [.r []] [] 0 [] (aI c4 c5)
theorem math_bits_Len64.p2_ok (x_3 n_4 : Int) (st : LL) {r : Int} (hE : En Tryd.f72 g0 w0 (math_bits_Len64.rs r) st R) (h : math_bits_Len64.p2 N x_3 n_4 = some r) : At g0 w0 (math_bits_Len64.p2.S x_3 n_4 st) (XK Tryd.prog R [.c (csub math_bits_Len64.B [1, 1, 1])]) := by
 unfold math_bits_Len64.p2 at h
 refine iteB h (fun c3 h2 => ?_) (fun c3 h3 => ?_) <;> clear h
 · exact aq fol [.r [], .c true, .r [], .r [], .s 1] [0, 2] [] (aI c3 (leI 0 8)) (math_bits_Len64.p3_ok (shrOf .u64 x_3 8) (w64 (n_4 + 8)) st hE h2)
 · exact aq fol [.r [], .c false, .s 1] [0, 2] [] c3 (math_bits_Len64.p3_ok x_3 n_4 st hE h3)
theorem math_bits_Len64.p1_ok (x_1 n_2 : Int) (st : LL) {r : Int} (hE : En Tryd.f72 g0 w0 (math_bits_Len64.rs r) st R) (h : math_bits_Len64.p1 N x_1 n_2 = some r) : At g0 w0 (math_bits_Len64.p1.S x_1 n_2 st) (XK Tryd.prog R [.c (csub math_bits_Len64.B [1, 1])]) := by
 unfold math_bits_Len64.p1 at h
 refine iteB h (fun c2 h4 => ?_) (fun c2 h5 => ?_) <;> clear h
 · exact aq fol [.r [], .c true, .r [], .r [], .s 1] [0, 2] [] (aI c2 (leI 0 16)) (math_bits_Len64.p2_ok (shrOf .u64 x_1 16) (w64 (n_2 + 16)) st hE h4)
 · exact aq fol [.r [], .c false, .s 1] [0, 2] [] c2 (math_bits_Len64.p2_ok x_1 n_2 st hE h5)
theorem math_bits_Len64.snd {x_0 : Int} {r : Int} (h : math_bits_Len64 N x_0 = some r) : SndQ Tryd.prog 72 [.one (L.int .u64 x_0)] (math_bits_Len64.rs r) := fun st =>
 sO math_bits_Len64.B Tryd.func72 fun g0 w0 R hE => by
  unfold math_bits_Len64 at h
  refine iteB h (fun c1 h6 => ?_) (fun c1 h7 => ?_) <;> clear h
  · exact aq fol [.r [], .r [], .c true, .r [], .r [], .s 1] [0, 2] [] (aI c1 (leI 0 32)) (math_bits_Len64.p1_ok (shrOf .u64 x_0 32) 32 st hE h6)
  · exact aq fol [.r [], .r [], .c false, .s 1] [0, 2] [] c1 (math_bits_Len64.p1_ok x_0 0 st hE h7)
/-! math/bits.LeadingZeros64 -/
noncomputable def math_bits_LeadingZeros64.B : Code := Tryd.f71.body.getD .skip
noncomputable def math_bits_LeadingZeros64.rs (r : Int) : List CV := [.one (L.int .i64 r)]
noncomputable def math_bits_LeadingZeros64 (N : Nat) (x_0 : Int) : Option Int :=
 optE (math_bits_Len64 N x_0) fun x1 =>
 some (w64 (64 - x1))
theorem math_bits_LeadingZeros64.snd {x_0 : Int} {r : Int} (h : math_bits_LeadingZeros64 N x_0 = some r) : SndQ Tryd.prog 71 [.one (L.int .u64 x_0)] (math_bits_LeadingZeros64.rs r) := fun st =>
 sO math_bits_LeadingZeros64.B Tryd.func71 fun g0 w0 R hE => by
  unfold math_bits_LeadingZeros64 at h
  obtain ⟨x1, c1, h1⟩ := optE_inv h; clear h
  obtain rfl := some_inv h1
  exact af fol hE [.r [], .r [(1, {rs := [.one (L.int .i64 x1)], m := 1})]] [] 0 [] (math_bits_Len64.snd c1)
/-! math/bits.Div64 -/
noncomputable def math_bits_Div64.B : Code := Tryd.f61.body.getD .skip
noncomputable def math_bits_Div64.rs (r : Int × Int) : List CV := [.one (L.int .u64 r.1), .one (L.int .u64 r.2)]
noncomputable def math_bits_Div64.p6 (N : Nat) (y_2 x1 lo_1 q1_4 hi_0 q0_7 : Int) : Option (Int × Int) :=
 chk (0 ≤ (v64 (x1))) <|
 some (v64 ((v64 (q1_4 * 4294967296)) + q0_7), shrOf .u64 (v64 ((v64 ((v64 ((v64 ((v64 ((v64 ((bitsOf .or .u64 (shlOf .u64 hi_0 (v64 (x1))) (shrOf .u64 lo_1 (v64 (64 - (v64 (x1)))))) * 4294967296)) + (shrOf .u64 (shlOf .u64 lo_1 (v64 (x1))) 32))) - (v64 (q1_4 * (shlOf .u64 y_2 (v64 (x1))))))) * 4294967296)) + (bitsOf .and .u64 (shlOf .u64 lo_1 (v64 (x1))) 4294967295))) - (v64 (q0_7 * (shlOf .u64 y_2 (v64 (x1))))))) (v64 (x1)))
noncomputable def math_bits_Div64.p5 (N : Nat) (c4_ : (Int × Int) → Option (Int × Int)) (y_2 x1 lo_1 q1_4 rhat_5 hi_0 q0_6 : Int) : Option (Int × Int) :=
 if (decide ((v64 (rhat_5 + (shrOf .u64 (shlOf .u64 y_2 (v64 (x1))) 32))) ≥ 4294967296)) = true then
  math_bits_Div64.p6 N y_2 x1 lo_1 q1_4 hi_0 (v64 (q0_6 - 1))
 else
 c4_ (v64 (rhat_5 + (shrOf .u64 (shlOf .u64 y_2 (v64 (x1))) 32)), v64 (q0_6 - 1))
noncomputable def math_bits_Div64.p4 (N : Nat) (y_2 x1 lo_1 q1_4 hi_0 : Int) (c4_ : (Int × Int) → Option (Int × Int)) : (Int × Int) → Option (Int × Int) := fun (rhat_5, q0_6) =>
 if (decide (q0_6 ≥ 4294967296)) = true then
  math_bits_Div64.p5 N c4_ y_2 x1 lo_1 q1_4 rhat_5 hi_0 q0_6
 else
 if (decide ((v64 (q0_6 * (bitsOf .and .u64 (shlOf .u64 y_2 (v64 (x1))) 4294967295))) > (v64 ((v64 (4294967296 * rhat_5)) + (bitsOf .and .u64 (shlOf .u64 lo_1 (v64 (x1))) 4294967295))))) = true then
  math_bits_Div64.p5 N c4_ y_2 x1 lo_1 q1_4 rhat_5 hi_0 q0_6
 else
 math_bits_Div64.p6 N y_2 x1 lo_1 q1_4 hi_0 q0_6
noncomputable def math_bits_Div64.p3 (N : Nat) (y_2 x1 hi_0 lo_1 q1_4 : Int) : Option (Int × Int) :=
 chk ((shrOf .u64 (shlOf .u64 y_2 (v64 (x1))) 32) ≠ 0) <|
 loopN (math_bits_Div64.p4 N y_2 x1 lo_1 q1_4 hi_0) N (v64 ((v64 ((v64 ((v64 ((bitsOf .or .u64 (shlOf .u64 hi_0 (v64 (x1))) (shrOf .u64 lo_1 (v64 (64 - (v64 (x1)))))) * 4294967296)) + (shrOf .u64 (shlOf .u64 lo_1 (v64 (x1))) 32))) - (v64 (q1_4 * (shlOf .u64 y_2 (v64 (x1))))))) - (v64 ((v64 (Int.tdiv (v64 ((v64 ((v64 ((bitsOf .or .u64 (shlOf .u64 hi_0 (v64 (x1))) (shrOf .u64 lo_1 (v64 (64 - (v64 (x1)))))) * 4294967296)) + (shrOf .u64 (shlOf .u64 lo_1 (v64 (x1))) 32))) - (v64 (q1_4 * (shlOf .u64 y_2 (v64 (x1))))))) (shrOf .u64 (shlOf .u64 y_2 (v64 (x1))) 32))) * (shrOf .u64 (shlOf .u64 y_2 (v64 (x1))) 32)))), v64 (Int.tdiv (v64 ((v64 ((v64 ((bitsOf .or .u64 (shlOf .u64 hi_0 (v64 (x1))) (shrOf .u64 lo_1 (v64 (64 - (v64 (x1)))))) * 4294967296)) + (shrOf .u64 (shlOf .u64 lo_1 (v64 (x1))) 32))) - (v64 (q1_4 * (shlOf .u64 y_2 (v64 (x1))))))) (shrOf .u64 (shlOf .u64 y_2 (v64 (x1))) 32)))
noncomputable def math_bits_Div64.p2 (N : Nat) (c1_ : (Int × Int) → Option (Int × Int)) (y_2 x1 hi_0 lo_1 q1_2 rhat_3 : Int) : Option (Int × Int) :=
 if (decide ((v64 (rhat_3 + (shrOf .u64 (shlOf .u64 y_2 (v64 (x1))) 32))) ≥ 4294967296)) = true then
  math_bits_Div64.p3 N y_2 x1 hi_0 lo_1 (v64 (q1_2 - 1))
 else
 c1_ (v64 (q1_2 - 1), v64 (rhat_3 + (shrOf .u64 (shlOf .u64 y_2 (v64 (x1))) 32)))
noncomputable def math_bits_Div64.p1 (N : Nat) (y_2 x1 hi_0 lo_1 : Int) (c1_ : (Int × Int) → Option (Int × Int)) : (Int × Int) → Option (Int × Int) := fun (q1_2, rhat_3) =>
 if (decide (q1_2 ≥ 4294967296)) = true then
  math_bits_Div64.p2 N c1_ y_2 x1 hi_0 lo_1 q1_2 rhat_3
 else
 if (decide ((v64 (q1_2 * (bitsOf .and .u64 (shlOf .u64 y_2 (v64 (x1))) 4294967295))) > (v64 ((v64 (4294967296 * rhat_3)) + (shrOf .u64 (shlOf .u64 lo_1 (v64 (x1))) 32))))) = true then
  math_bits_Div64.p2 N c1_ y_2 x1 hi_0 lo_1 q1_2 rhat_3
 else
 math_bits_Div64.p3 N y_2 x1 hi_0 lo_1 q1_2
noncomputable def math_bits_Div64 (N : Nat) (hi_0 lo_1 y_2 : Int) : Option (Int × Int) :=
 if (y_2 == 0) = true then
  none
 else
 if (decide (y_2 ≤ hi_0)) = true then
  none
 else
 if (hi_0 == 0) = true then
  chk (y_2 ≠ 0) <|
  some (v64 (Int.tdiv lo_1 y_2), Int.tmod lo_1 y_2)
 else
 optE (math_bits_LeadingZeros64 N y_2) fun x1 =>
 chk (0 ≤ (v64 (x1))) <|
 chk (0 ≤ (v64 (64 - (v64 (x1))))) <|
 chk ((shrOf .u64 (shlOf .u64 y_2 (v64 (x1))) 32) ≠ 0) <|
 loopN (math_bits_Div64.p1 N y_2 x1 hi_0 lo_1) N (v64 (Int.tdiv (bitsOf .or .u64 (shlOf .u64 hi_0 (v64 (x1))) (shrOf .u64 lo_1 (v64 (64 - (v64 (x1)))))) (shrOf .u64 (shlOf .u64 y_2 (v64 (x1))) 32)), v64 ((bitsOf .or .u64 (shlOf .u64 hi_0 (v64 (x1))) (shrOf .u64 lo_1 (v64 (64 - (v64 (x1)))))) - (v64 ((v64 (Int.tdiv (bitsOf .or .u64 (shlOf .u64 hi_0 (v64 (x1))) (shrOf .u64 lo_1 (v64 (64 - (v64 (x1)))))) (shrOf .u64 (shlOf .u64 y_2 (v64 (x1))) 32))) * (shrOf .u64 (shlOf .u64 y_2 (v64 (x1))) 32)))))
noncomputable def math_bits_Div64.p6.S (y_2 x1 lo_1 q1_4 hi_0 q0_7 : Int) (st : LL) : S := mkS 135 [(2, .one (.l (L.int .u64 (shlOf .u64 y_2 (v64 (x1)))))), (8, .one (.l (L.int .u64 (v64 (x1))))), (14, .one (.l (L.int .u64 (bitsOf .and .u64 (shlOf .u64 lo_1 (v64 (x1))) 4294967295)))), (15, .one (.l (L.int .u64 q1_4))), (17, .one (.l (L.int .u64 (v64 ((v64 ((v64 ((bitsOf .or .u64 (shlOf .u64 hi_0 (v64 (x1))) (shrOf .u64 lo_1 (v64 (64 - (v64 (x1)))))) * 4294967296)) + (shrOf .u64 (shlOf .u64 lo_1 (v64 (x1))) 32))) - (v64 (q1_4 * (shlOf .u64 y_2 (v64 (x1)))))))))), (18, .one (.l (L.int .u64 q0_7)))] [] st
noncomputable def math_bits_Div64.p5.S (y_2 x1 lo_1 q1_4 rhat_5 hi_0 q0_6 : Int) (st : LL) : S := mkS 135 [(2, .one (.l (L.int .u64 (shlOf .u64 y_2 (v64 (x1)))))), (8, .one (.l (L.int .u64 (v64 (x1))))), (9, .one (.l (L.int .u64 (shrOf .u64 (shlOf .u64 y_2 (v64 (x1))) 32)))), (10, .one (.l (L.int .u64 (bitsOf .and .u64 (shlOf .u64 y_2 (v64 (x1))) 4294967295)))), (14, .one (.l (L.int .u64 (bitsOf .and .u64 (shlOf .u64 lo_1 (v64 (x1))) 4294967295)))), (15, .one (.l (L.int .u64 q1_4))), (16, .one (.l (L.int .u64 rhat_5))), (17, .one (.l (L.int .u64 (v64 ((v64 ((v64 ((bitsOf .or .u64 (shlOf .u64 hi_0 (v64 (x1))) (shrOf .u64 lo_1 (v64 (64 - (v64 (x1)))))) * 4294967296)) + (shrOf .u64 (shlOf .u64 lo_1 (v64 (x1))) 32))) - (v64 (q1_4 * (shlOf .u64 y_2 (v64 (x1)))))))))), (18, .one (.l (L.int .u64 q0_6)))] [] st
noncomputable def math_bits_Div64.p4.S (y_2 x1 lo_1 q1_4 rhat_5 hi_0 q0_6 : Int) (st : LL) : S := mkS 135 [(2, .one (.l (L.int .u64 (shlOf .u64 y_2 (v64 (x1)))))), (8, .one (.l (L.int .u64 (v64 (x1))))), (9, .one (.l (L.int .u64 (shrOf .u64 (shlOf .u64 y_2 (v64 (x1))) 32)))), (10, .one (.l (L.int .u64 (bitsOf .and .u64 (shlOf .u64 y_2 (v64 (x1))) 4294967295)))), (14, .one (.l (L.int .u64 (bitsOf .and .u64 (shlOf .u64 lo_1 (v64 (x1))) 4294967295)))), (15, .one (.l (L.int .u64 q1_4))), (16, .one (.l (L.int .u64 rhat_5))), (17, .one (.l (L.int .u64 (v64 ((v64 ((v64 ((bitsOf .or .u64 (shlOf .u64 hi_0 (v64 (x1))) (shrOf .u64 lo_1 (v64 (64 - (v64 (x1)))))) * 4294967296)) + (shrOf .u64 (shlOf .u64 lo_1 (v64 (x1))) 32))) - (v64 (q1_4 * (shlOf .u64 y_2 (v64 (x1)))))))))), (18, .one (.l (L.int .u64 q0_6)))] [] st
noncomputable def math_bits_Div64.p3.S (y_2 x1 hi_0 lo_1 q1_4 : Int) (st : LL) : S := mkS 135 [(2, .one (.l (L.int .u64 (shlOf .u64 y_2 (v64 (x1)))))), (8, .one (.l (L.int .u64 (v64 (x1))))), (9, .one (.l (L.int .u64 (shrOf .u64 (shlOf .u64 y_2 (v64 (x1))) 32)))), (10, .one (.l (L.int .u64 (bitsOf .and .u64 (shlOf .u64 y_2 (v64 (x1))) 4294967295)))), (11, .one (.l (L.int .u64 (bitsOf .or .u64 (shlOf .u64 hi_0 (v64 (x1))) (shrOf .u64 lo_1 (v64 (64 - (v64 (x1))))))))), (13, .one (.l (L.int .u64 (shrOf .u64 (shlOf .u64 lo_1 (v64 (x1))) 32)))), (14, .one (.l (L.int .u64 (bitsOf .and .u64 (shlOf .u64 lo_1 (v64 (x1))) 4294967295)))), (15, .one (.l (L.int .u64 q1_4)))] [] st
noncomputable def math_bits_Div64.p2.S (y_2 x1 hi_0 lo_1 q1_2 rhat_3 : Int) (st : LL) : S := mkS 135 [(2, .one (.l (L.int .u64 (shlOf .u64 y_2 (v64 (x1)))))), (8, .one (.l (L.int .u64 (v64 (x1))))), (9, .one (.l (L.int .u64 (shrOf .u64 (shlOf .u64 y_2 (v64 (x1))) 32)))), (10, .one (.l (L.int .u64 (bitsOf .and .u64 (shlOf .u64 y_2 (v64 (x1))) 4294967295)))), (11, .one (.l (L.int .u64 (bitsOf .or .u64 (shlOf .u64 hi_0 (v64 (x1))) (shrOf .u64 lo_1 (v64 (64 - (v64 (x1))))))))), (13, .one (.l (L.int .u64 (shrOf .u64 (shlOf .u64 lo_1 (v64 (x1))) 32)))), (14, .one (.l (L.int .u64 (bitsOf .and .u64 (shlOf .u64 lo_1 (v64 (x1))) 4294967295)))), (15, .one (.l (L.int .u64 q1_2))), (16, .one (.l (L.int .u64 rhat_3)))] [] st
noncomputable def math_bits_Div64.p1.S (y_2 x1 hi_0 lo_1 q1_2 rhat_3 : Int) (st : LL) : S := mkS 135 [(2, .one (.l (L.int .u64 (shlOf .u64 y_2 (v64 (x1)))))), (8, .one (.l (L.int .u64 (v64 (x1))))), (9, .one (.l (L.int .u64 (shrOf .u64 (shlOf .u64 y_2 (v64 (x1))) 32)))), (10, .one (.l (L.int .u64 (bitsOf .and .u64 (shlOf .u64 y_2 (v64 (x1))) 4294967295)))), (11, .one (.l (L.int .u64 (bitsOf .or .u64 (shlOf .u64 hi_0 (v64 (x1))) (shrOf .u64 lo_1 (v64 (64 - (v64 (x1))))))))), (13, .one (.l (L.int .u64 (shrOf .u64 (shlOf .u64 lo_1 (v64 (x1))) 32)))), (14, .one (.l (L.int .u64 (bitsOf .and .u64 (shlOf .u64 lo_1 (v64 (x1))) 4294967295)))), (15, .one (.l (L.int .u64 q1_2))), (16, .one (.l (L.int .u64 rhat_3)))] [] st
theorem math_bits_Div64.p6_ok (y_2 x1 lo_1 q1_4 hi_0 q0_7 : Int) (st : LL) {r : Int × Int} (hE : En Tryd.f61 g0 w0 (math_bits_Div64.rs r) st R) (h : math_bits_Div64.p6 N y_2 x1 lo_1 q1_4 hi_0 q0_7 = some r) : At g0 w0 (math_bits_Div64.p6.S y_2 x1 lo_1 q1_4 hi_0 q0_7 st) (XK Tryd.prog R [.c (csub math_bits_Div64.B [1, 1, 1, 1, 1, 1, 1, 1, 1, 1, 1, 1, 1, 1, 1, 1, 1, 1, 1])]) := by
 unfold math_bits_Div64.p6 at h
 obtain ⟨c16, h1⟩ := chk_inv h; clear h
 obtain rfl := some_inv h1
 exact af fol hE [.r []] [] 0 [] c16
theorem math_bits_Div64.p5_ok (y_2 x1 lo_1 q1_4 rhat_5 hi_0 q0_6 : Int) (st : LL) {r : Int × Int} {c4_ : (Int × Int) → Option (Int × Int)} {J4 : Act → World → Prop} (hE : En Tryd.f61 g0 w0 (math_bits_Div64.rs r) st R) (hc4 : ∀ (rhat_5 q0_6 : Int), c4_ (rhat_5, q0_6) = some r → At g0 w0 (math_bits_Div64.p4.S y_2 x1 lo_1 q1_4 rhat_5 hi_0 q0_6 st) J4) (h : math_bits_Div64.p5 N c4_ y_2 x1 lo_1 q1_4 rhat_5 hi_0 q0_6 = some r) : At g0 w0 (math_bits_Div64.p5.S y_2 x1 lo_1 q1_4 rhat_5 hi_0 q0_6 st) (XK Tryd.prog R [.c (csub math_bits_Div64.B [1, 1, 1, 1, 1, 1, 1, 1, 1, 1, 1, 1, 1, 1, 1, 1, 1, 1, 0, 0, 0, 1]), .h J4, .b 2, .c (csub math_bits_Div64.B [1, 1, 1, 1, 1, 1, 1, 1, 1, 1, 1, 1, 1, 1, 1, 1, 1, 1, 1])]) := by
 unfold math_bits_Div64.p5 at h
 refine iteB h (fun c15 h2 => ?_) (fun c15 h3 => ?_) <;> clear h
 · exact aq fol [.r [], .r [], .r [], .c true, .s 1] [2, 8, 14, 15, 17, 18] [] c15 (math_bits_Div64.p6_ok y_2 x1 lo_1 q1_4 hi_0 (v64 (q0_6 - 1)) st hE h2)
 · exact an fol [.r [], .r [], .r [], .c false] [2, 8, 9, 10, 14, 15, 16, 17, 18] [] c15 (hc4 (v64 (rhat_5 + (shrOf .u64 (shlOf .u64 y_2 (v64 (x1))) 32))) (v64 (q0_6 - 1)) h3)
theorem math_bits_Div64.p4_ok (y_2 x1 lo_1 q1_4 rhat_5 hi_0 q0_6 : Int) (st : LL) {r : Int × Int} {c4_ : (Int × Int) → Option (Int × Int)} {J4 : Act → World → Prop} (hE : En Tryd.f61 g0 w0 (math_bits_Div64.rs r) st R) (hc4 : ∀ (rhat_5 q0_6 : Int), c4_ (rhat_5, q0_6) = some r → At g0 w0 (math_bits_Div64.p4.S y_2 x1 lo_1 q1_4 rhat_5 hi_0 q0_6 st) J4) (h : math_bits_Div64.p4 N y_2 x1 lo_1 q1_4 hi_0 c4_ (rhat_5, q0_6) = some r) : At g0 w0 (math_bits_Div64.p4.S y_2 x1 lo_1 q1_4 rhat_5 hi_0 q0_6 st) (XK Tryd.prog R (.c (csub math_bits_Div64.B [1, 1, 1, 1, 1, 1, 1, 1, 1, 1, 1, 1, 1, 1, 1, 1, 1, 1, 0, 0, 0]) :: .h J4 :: [.b 2, .c (csub math_bits_Div64.B [1, 1, 1, 1, 1, 1, 1, 1, 1, 1, 1, 1, 1, 1, 1, 1, 1, 1, 1])])) := by
 unfold math_bits_Div64.p4 at h
 refine iteB h (fun c13 h4 => ?_) (fun c13 h5 => ?_) <;> clear h
 · exact aq fol [.r [(3, {want := false}), (4, {want := false}), (5, {want := false}), (6, {want := false}), (7, {want := false}), (8, {want := false}), (9, {want := false}), (10, {want := false})], .c true, .s 4] [2, 8, 9, 10, 14, 15, 16, 17, 18] [] (aI c13 (aI c13 (aI c13 (aI c13 (aI c13 (aI c13 (aI c13 (aI c13 (aI c13 (eB true)))))))))) (math_bits_Div64.p5_ok y_2 x1 lo_1 q1_4 rhat_5 hi_0 q0_6 st hE hc4 h4)
 · refine iteB h5 (fun c14 h6 => ?_) (fun c14 h7 => ?_) <;> clear h5
   · exact aq fol [.r [(11, {yes := false})], .c true, .s 4] [2, 8, 9, 10, 14, 15, 16, 17, 18] [] (aI c13 (aI c13 (aI c13 (aI c13 (aI c13 (aI c13 (aI c13 (aI c13 (aI c13 c14))))))))) (math_bits_Div64.p5_ok y_2 x1 lo_1 q1_4 rhat_5 hi_0 q0_6 st hE hc4 h6)
   · exact aq fol [.r [(11, {yes := false})], .c false, .s 1] [2, 8, 14, 15, 17, 18] [] (aI c13 (aI c13 (aI c13 (aI c13 (aI c13 (aI c13 (aI c13 (aI c13 (aI c13 c14))))))))) (math_bits_Div64.p6_ok y_2 x1 lo_1 q1_4 hi_0 q0_6 st hE h7)
theorem math_bits_Div64.p3_ok (y_2 x1 hi_0 lo_1 q1_4 : Int) (st : LL) {r : Int × Int} (hE : En Tryd.f61 g0 w0 (math_bits_Div64.rs r) st R) (h : math_bits_Div64.p3 N y_2 x1 hi_0 lo_1 q1_4 = some r) : At g0 w0 (math_bits_Div64.p3.S y_2 x1 hi_0 lo_1 q1_4 st) (XK Tryd.prog R [.c (csub math_bits_Div64.B [1, 1, 1, 1, 1, 1, 1, 1, 1, 1, 1, 1, 1, 1, 1])]) := by
 unfold math_bits_Div64.p3 at h
 obtain ⟨c12, h8⟩ := chk_inv h; clear h
 exact aq fol [.r [], .r [], .r []] [2, 8, 9, 10, 14, 15, 16, 17, 18] [] c12 (At.loop N (At.loopN (fun y : Int × Int => math_bits_Div64.p4.S y_2 x1 lo_1 q1_4 y.1 hi_0 y.2 st) (fun c J hc y h => math_bits_Div64.p4_ok y_2 x1 lo_1 q1_4 y.1 hi_0 y.2 st hE (fun rhat_5 q0_6 hh => hc (rhat_5, q0_6) hh) h) N (v64 ((v64 ((v64 ((v64 ((bitsOf .or .u64 (shlOf .u64 hi_0 (v64 (x1))) (shrOf .u64 lo_1 (v64 (64 - (v64 (x1)))))) * 4294967296)) + (shrOf .u64 (shlOf .u64 lo_1 (v64 (x1))) 32))) - (v64 (q1_4 * (shlOf .u64 y_2 (v64 (x1))))))) - (v64 ((v64 (Int.tdiv (v64 ((v64 ((v64 ((bitsOf .or .u64 (shlOf .u64 hi_0 (v64 (x1))) (shrOf .u64 lo_1 (v64 (64 - (v64 (x1)))))) * 4294967296)) + (shrOf .u64 (shlOf .u64 lo_1 (v64 (x1))) 32))) - (v64 (q1_4 * (shlOf .u64 y_2 (v64 (x1))))))) (shrOf .u64 (shlOf .u64 y_2 (v64 (x1))) 32))) * (shrOf .u64 (shlOf .u64 y_2 (v64 (x1))) 32)))), v64 (Int.tdiv (v64 ((v64 ((v64 ((bitsOf .or .u64 (shlOf .u64 hi_0 (v64 (x1))) (shrOf .u64 lo_1 (v64 (64 - (v64 (x1)))))) * 4294967296)) + (shrOf .u64 (shlOf .u64 lo_1 (v64 (x1))) 32))) - (v64 (q1_4 * (shlOf .u64 y_2 (v64 (x1))))))) (shrOf .u64 (shlOf .u64 y_2 (v64 (x1))) 32))) h8))
theorem math_bits_Div64.p2_ok (y_2 x1 hi_0 lo_1 q1_2 rhat_3 : Int) (st : LL) {r : Int × Int} {c1_ : (Int × Int) → Option (Int × Int)} {J1 : Act → World → Prop} (hE : En Tryd.f61 g0 w0 (math_bits_Div64.rs r) st R) (hc1 : ∀ (q1_2 rhat_3 : Int), c1_ (q1_2, rhat_3) = some r → At g0 w0 (math_bits_Div64.p1.S y_2 x1 hi_0 lo_1 q1_2 rhat_3 st) J1) (h : math_bits_Div64.p2 N c1_ y_2 x1 hi_0 lo_1 q1_2 rhat_3 = some r) : At g0 w0 (math_bits_Div64.p2.S y_2 x1 hi_0 lo_1 q1_2 rhat_3 st) (XK Tryd.prog R [.c (csub math_bits_Div64.B [1, 1, 1, 1, 1, 1, 1, 1, 1, 1, 1, 1, 1, 1, 0, 0, 0, 1]), .h J1, .b 0, .c (csub math_bits_Div64.B [1, 1, 1, 1, 1, 1, 1, 1, 1, 1, 1, 1, 1, 1, 1])]) := by
 unfold math_bits_Div64.p2 at h
 refine iteB h (fun c11 h9 => ?_) (fun c11 h10 => ?_) <;> clear h
 · exact aq fol [.r [], .r [], .r [], .c true, .s 1] [2, 8, 9, 10, 11, 13, 14, 15] [] c11 (math_bits_Div64.p3_ok y_2 x1 hi_0 lo_1 (v64 (q1_2 - 1)) st hE h9)
 · exact an fol [.r [], .r [], .r [], .c false] [2, 8, 9, 10, 11, 13, 14, 15, 16] [] c11 (hc1 (v64 (q1_2 - 1)) (v64 (rhat_3 + (shrOf .u64 (shlOf .u64 y_2 (v64 (x1))) 32))) h10)
theorem math_bits_Div64.p1_ok (y_2 x1 hi_0 lo_1 q1_2 rhat_3 : Int) (st : LL) {r : Int × Int} {c1_ : (Int × Int) → Option (Int × Int)} {J1 : Act → World → Prop} (hE : En Tryd.f61 g0 w0 (math_bits_Div64.rs r) st R) (hc1 : ∀ (q1_2 rhat_3 : Int), c1_ (q1_2, rhat_3) = some r → At g0 w0 (math_bits_Div64.p1.S y_2 x1 hi_0 lo_1 q1_2 rhat_3 st) J1) (h : math_bits_Div64.p1 N y_2 x1 hi_0 lo_1 c1_ (q1_2, rhat_3) = some r) : At g0 w0 (math_bits_Div64.p1.S y_2 x1 hi_0 lo_1 q1_2 rhat_3 st) (XK Tryd.prog R (.c (csub math_bits_Div64.B [1, 1, 1, 1, 1, 1, 1, 1, 1, 1, 1, 1, 1, 1, 0, 0, 0]) :: .h J1 :: [.b 0, .c (csub math_bits_Div64.B [1, 1, 1, 1, 1, 1, 1, 1, 1, 1, 1, 1, 1, 1, 1])])) := by
 unfold math_bits_Div64.p1 at h
 refine iteB h (fun c9 h11 => ?_) (fun c9 h12 => ?_) <;> clear h
 · exact aq fol [.r [(3, {want := false}), (4, {want := false}), (5, {want := false}), (6, {want := false}), (7, {want := false}), (8, {want := false}), (9, {want := false}), (10, {want := false})], .c true, .s 4] [2, 8, 9, 10, 11, 13, 14, 15, 16] [] (aI c9 (aI c9 (aI c9 (aI c9 (aI c9 (aI c9 (aI c9 (aI c9 (aI c9 (eB true)))))))))) (math_bits_Div64.p2_ok y_2 x1 hi_0 lo_1 q1_2 rhat_3 st hE hc1 h11)
 · refine iteB h12 (fun c10 h13 => ?_) (fun c10 h14 => ?_) <;> clear h12
   · exact aq fol [.r [(11, {yes := false})], .c true, .s 4] [2, 8, 9, 10, 11, 13, 14, 15, 16] [] (aI c9 (aI c9 (aI c9 (aI c9 (aI c9 (aI c9 (aI c9 (aI c9 (aI c9 c10))))))))) (math_bits_Div64.p2_ok y_2 x1 hi_0 lo_1 q1_2 rhat_3 st hE hc1 h13)
   · exact aq fol [.r [(11, {yes := false})], .c false, .s 1] [2, 8, 9, 10, 11, 13, 14, 15] [] (aI c9 (aI c9 (aI c9 (aI c9 (aI c9 (aI c9 (aI c9 (aI c9 (aI c9 c10))))))))) (math_bits_Div64.p3_ok y_2 x1 hi_0 lo_1 q1_2 st hE h14)
theorem math_bits_Div64.snd {hi_0 lo_1 y_2 : Int} {r : Int × Int} (h : math_bits_Div64 N hi_0 lo_1 y_2 = some r) : SndQ Tryd.prog 61 [.one (L.int .u64 hi_0), .one (L.int .u64 lo_1), .one (L.int .u64 y_2)] (math_bits_Div64.rs r) := fun st =>
 sO math_bits_Div64.B Tryd.func61 fun g0 w0 R hE => by
  unfold math_bits_Div64 at h
  refine iteB h (fun c1 h15 => ?_) (fun c1 h16 => ?_) <;> clear h
  · cases h15
  · refine iteB h16 (fun c2 h17 => ?_) (fun c2 h18 => ?_) <;> clear h16
    · cases h17
    · refine iteB h18 (fun c3 h19 => ?_) (fun c3 h20 => ?_) <;> clear h18
      · obtain ⟨c4, h21⟩ := chk_inv h19; clear h19
        obtain rfl := some_inv h21
        exact afd fol hE [.r [], .r [], .c false, .r [], .c false, .r [], .c true, .d {ds := [], hv := 0, Hs := []}] [] 0 [] (aI c1 (aI c2 (aI c3 (aI c4 c4))))
      · obtain ⟨x1, c5, h22⟩ := optE_inv h20; clear h20
        obtain ⟨c6, c7, c8, h23⟩ := ck3 h22; clear h22
        exact aq fol [.r [], .r [], .c false, .r [], .c false, .r [], .c false, .r [(1, {rs := [.one (L.int .i64 x1)], m := 1})], .r [], .r [], .r [], .r [], .r [], .r [], .r [], .r [], .r []] [2, 8, 9, 10, 11, 13, 14, 15, 16] [] (aI c1 (aI c2 (aI c3 (aI (math_bits_LeadingZeros64.snd c5) (aI c6 (aI (leI 0 32) (aI c6 (aI c7 (aI c6 (aI (leI 0 32) c8)))))))))) (At.loop N (At.loopN (fun y : Int × Int => math_bits_Div64.p1.S y_2 x1 hi_0 lo_1 y.1 y.2 st) (fun c J hc y h => math_bits_Div64.p1_ok y_2 x1 hi_0 lo_1 y.1 y.2 st hE (fun q1_2 rhat_3 hh => hc (q1_2, rhat_3) hh) h) N (v64 (Int.tdiv (bitsOf .or .u64 (shlOf .u64 hi_0 (v64 (x1))) (shrOf .u64 lo_1 (v64 (64 - (v64 (x1)))))) (shrOf .u64 (shlOf .u64 y_2 (v64 (x1))) 32)), v64 ((bitsOf .or .u64 (shlOf .u64 hi_0 (v64 (x1))) (shrOf .u64 lo_1 (v64 (64 - (v64 (x1)))))) - (v64 ((v64 (Int.tdiv (bitsOf .or .u64 (shlOf .u64 hi_0 (v64 (x1))) (shrOf .u64 lo_1 (v64 (64 - (v64 (x1)))))) (shrOf .u64 (shlOf .u64 y_2 (v64 (x1))) 32))) * (shrOf .u64 (shlOf .u64 y_2 (v64 (x1))) 32))))) h23))
/-! trailhead/whole.Over -/
noncomputable def whole_Over.B : Code := Tryd.f46.body.getD .skip
noncomputable def whole_Over.rs (r : (List Int) × Int) : List CV := [.agg [L.arr .u64 4 r.1], .one (L.int .u64 r.2)]
noncomputable def whole_Over.p1 (N : Nat) (by_1 : Int) (c1_ : (Int × Int × (List Int)) → Option ((List Int) × Int)) : (Int × Int × (List Int)) → Option ((List Int) × Int) := fun (r_1, i_2, a_5) =>
 if (decide (i_2 ≥ 0)) = true then
  chk (0 ≤ i_2) <|
  chk (i_2 < 4) <|
  optE (math_bits_Div64 N r_1 (List.getD a_5 (Int.toNat i_2) 0) by_1) fun (x6, x7) =>
  c1_ (x7, w64 (i_2 - 1), List.set a_5 (Int.toNat i_2) x6)
 else
 some (a_5, r_1)
noncomputable def whole_Over (N : Nat) (a_0_0 : List Int) (by_1 : Int) : Option ((List Int) × Int) :=
 if (by_1 == 0) = true then
  some (List.replicate 4 0, 0)
 else
 loopN (whole_Over.p1 N by_1) N (0, 3, a_0_0)
noncomputable def whole_Over.p1.S (by_1 r_1 i_2 : Int) (a_5 : List Int) (st : LL) : S := mkS 28 [(1, .one (.l (L.int .u64 by_1))), (2, .one (.adr (.site 2) 0)), (4, .one (.adr (.site 4) 0)), (6, .one (.l (L.int .u64 r_1))), (7, .one (.l (L.int .i64 i_2)))] [(2, .cells [L.arr .u64 4 a_5]), (4, .cells [L.arr .u64 4 (List.replicate 4 0)])] st
theorem whole_Over.p1_ok (by_1 r_1 i_2 : Int) (a_5 : List Int) (st : LL) {r : (List Int) × Int} {c1_ : (Int × Int × (List Int)) → Option ((List Int) × Int)} {J1 : Act → World → Prop} (hE : En Tryd.f46 g0 w0 (whole_Over.rs r) st R) (hc1 : ∀ (r_1 i_2 : Int) (a_5 : List Int), c1_ (r_1, i_2, a_5) = some r → At g0 w0 (whole_Over.p1.S by_1 r_1 i_2 a_5 st) J1) (h : whole_Over.p1 N by_1 c1_ (r_1, i_2, a_5) = some r) : At g0 w0 (whole_Over.p1.S by_1 r_1 i_2 a_5 st) (XK Tryd.prog R (.c (csub whole_Over.B [1, 1, 1, 0, 1, 0, 0]) :: .h J1 :: [.b 0, .c (csub whole_Over.B [1, 1, 1, 1])])) := by
 unfold whole_Over.p1 at h
 refine iteB h (fun c6 h1 => ?_) (fun c6 h2 => ?_) <;> clear h
 · obtain ⟨c7, c8, h3⟩ := ck2 h1; clear h1
   obtain ⟨⟨x6, x7⟩, c9, h4⟩ := optE_inv h3; clear h3
   exact an fol [.r [], .c true, .r [(6, {rs := [.one (L.int .u64 x6), .one (L.int .u64 x7)], m := 1})], .r []] [1, 2, 4, 6, 7] [2, 4] (aI c6 (aI c7 (aI c8 (aI (math_bits_Div64.snd c9) (aI c7 c8))))) (hc1 x7 (w64 (i_2 - 1)) (List.set a_5 (Int.toNat i_2) x6) h4)
 · obtain rfl := some_inv h2
   exact af fol hE [.r [], .c false, .r []] [] 0 [] c6
theorem whole_Over.snd {a_0_0 : List Int} {by_1 : Int} {r : (List Int) × Int} (h : whole_Over N a_0_0 by_1 = some r) : SndQ Tryd.prog 46 [.agg [L.arr .u64 4 a_0_0], .one (L.int .u64 by_1)] (whole_Over.rs r) := fun st =>
 sO whole_Over.B Tryd.func46 fun g0 w0 R hE => by
  unfold whole_Over at h
  refine iteB h (fun c1 h5 => ?_) (fun c1 h6 => ?_) <;> clear h
  · obtain rfl := some_inv h5
    exact af fol hE [.r [], .r [], .c true, .r []] [] 0 [] c1
  · exact aq fol [.r [], .r [], .c false, .r [], .r []] [1, 2, 4, 6, 7] [2, 4] c1 (At.loop N (At.loopN (fun y : Int × Int × (List Int) => whole_Over.p1.S by_1 y.1 y.2.1 y.2.2 st) (fun c J hc y h => whole_Over.p1_ok by_1 y.1 y.2.1 y.2.2 st hE (fun r_1 i_2 a_5 hh => hc (r_1, i_2, a_5) hh) h) N (0, 3, a_0_0) h6))
/-! math/bits.Mul64 -/
noncomputable def math_bits_Mul64.B : Code := Tryd.f62.body.getD .skip
noncomputable def math_bits_Mul64.rs (r : Int × Int) : List CV := [.one (L.int .u64 r.1), .one (L.int .u64 r.2)]
noncomputable def math_bits_Mul64 (N : Nat) (x_0 y_1 : Int) : Option (Int × Int) :=
 some (v64 ((v64 ((v64 ((shrOf .u64 x_0 32) * (shrOf .u64 y_1 32))) + (shrOf .u64 (v64 ((v64 ((shrOf .u64 x_0 32) * (bitsOf .and .u64 y_1 4294967295))) + (shrOf .u64 (v64 ((bitsOf .and .u64 x_0 4294967295) * (bitsOf .and .u64 y_1 4294967295))) 32))) 32))) + (shrOf .u64 (v64 ((bitsOf .and .u64 (v64 ((v64 ((shrOf .u64 x_0 32) * (bitsOf .and .u64 y_1 4294967295))) + (shrOf .u64 (v64 ((bitsOf .and .u64 x_0 4294967295) * (bitsOf .and .u64 y_1 4294967295))) 32))) 4294967295) + (v64 ((bitsOf .and .u64 x_0 4294967295) * (shrOf .u64 y_1 32))))) 32)), v64 (x_0 * y_1))
theorem math_bits_Mul64.snd {x_0 y_1 : Int} {r : Int × Int} (h : math_bits_Mul64 N x_0 y_1 = some r) : SndQ Tryd.prog 62 [.one (L.int .u64 x_0), .one (L.int .u64 y_1)] (math_bits_Mul64.rs r) := fun st =>
 sO math_bits_Mul64.B Tryd.func62 fun g0 w0 R hE => by
  unfold math_bits_Mul64 at h
  obtain rfl := some_inv h
  exact af fol hE [.r [], .r [], .r [], .r [], .r [], .r [], .r [], .r [], .r [], .r [], .r [], .r []] [] 0 [] (aI (leI 0 32) (aI (leI 0 32) (aI (leI 0 32) (aI (leI 0 32) (leI 0 32)))))
/-! trailhead/whole.Times -/
noncomputable def whole_Times.B : Code := Tryd.f47.body.getD .skip
noncomputable def whole_Times.rs (r : (List Int) × Bool) : List CV := [.agg [L.arr .u64 4 r.1], .one (L.bool r.2)]
noncomputable def whole_Times.p1 (N : Nat) (by_1 : Int) (c1_ : (Int × Int × (List Int)) → Option ((List Int) × Bool)) : (Int × Int × (List Int)) → Option ((List Int) × Bool) := fun (c_1, v2, a_7) =>
 if (decide (v2 < 4)) = true then
  chk (0 ≤ v2) <|
  optE (math_bits_Mul64 N (List.getD a_7 (Int.toNat v2) 0) by_1) fun (x8, x9) =>
  optE (bits_Add64 N x9 c_1 0) fun (x10, x11) =>
  c1_ (v64 (x8 + x11), w64 (v2 + 1), List.set a_7 (Int.toNat v2) x10)
 else
 some (a_7, c_1 != 0)
noncomputable def whole_Times (N : Nat) (a_0_0 : List Int) (by_1 : Int) : Option ((List Int) × Bool) :=
 loopN (whole_Times.p1 N by_1) N (0, 0, a_0_0)
noncomputable def whole_Times.p1.S (by_1 c_1 v2 : Int) (a_7 : List Int) (st : LL) : S := mkS 37 [(1, .one (.l (L.int .u64 by_1))), (2, .one (.adr (.site 2) 0)), (4, .one (.adr (.site 4) 0)), (6, .one (.l (L.int .u64 c_1))), (11, .one (.l (L.int .i64 v2)))] [(2, .cells [L.arr .u64 4 a_7]), (4, .cells [L.arr .u64 4 (List.replicate 4 0)])] st
theorem whole_Times.p1_ok (by_1 c_1 v2 : Int) (a_7 : List Int) (st : LL) {r : (List Int) × Bool} {c1_ : (Int × Int × (List Int)) → Option ((List Int) × Bool)} {J1 : Act → World → Prop} (hE : En Tryd.f47 g0 w0 (whole_Times.rs r) st R) (hc1 : ∀ (c_1 v2 : Int) (a_7 : List Int), c1_ (c_1, v2, a_7) = some r → At g0 w0 (whole_Times.p1.S by_1 c_1 v2 a_7 st) J1) (h : whole_Times.p1 N by_1 c1_ (c_1, v2, a_7) = some r) : At g0 w0 (whole_Times.p1.S by_1 c_1 v2 a_7 st) (XK Tryd.prog R (.c (csub whole_Times.B [1, 1, 0, 1, 0, 0]) :: .h J1 :: [.b 0, .c (csub whole_Times.B [1, 1, 1])])) := by
 unfold whole_Times.p1 at h
 refine iteB h (fun c5 h1 => ?_) (fun c5 h2 => ?_) <;> clear h
 · obtain ⟨c6, h3⟩ := chk_inv h1; clear h1
   obtain ⟨⟨x8, x9⟩, c7, h4⟩ := optE_inv h3; clear h3
   obtain ⟨⟨x10, x11⟩, c8, h5⟩ := optE_inv h4; clear h4
   exact an fol [.r [], .c true, .r [], .r [(4, {rs := [.one (L.int .u64 x8), .one (L.int .u64 x9)], m := 1})], .r [], .r [(3, {rs := [.one (L.int .u64 x10), .one (L.int .u64 x11)], m := 4})], .r [], .r []] [1, 2, 4, 6, 11] [2, 4] (aI c5 (aI c6 (aI (oD c5) (aI (math_bits_Mul64.snd c7) (aI (bits_Add64.snd c8) (aI c6 (oD c5))))))) (hc1 (v64 (x8 + x11)) (w64 (v2 + 1)) (List.set a_7 (Int.toNat v2) x10) h5)
 · obtain rfl := some_inv h2
   exact af fol hE [.r [], .c false, .r []] [] 0 [] c5
theorem whole_Times.snd {a_0_0 : List Int} {by_1 : Int} {r : (List Int) × Bool} (h : whole_Times N a_0_0 by_1 = some r) : SndQ Tryd.prog 47 [.agg [L.arr .u64 4 a_0_0], .one (L.int .u64 by_1)] (whole_Times.rs r) := fun st =>
 sO whole_Times.B Tryd.func47 fun g0 w0 R hE => by
  unfold whole_Times at h
  exact aq fol [.r [], .r [], .r []] [1, 2, 4, 6, 11] [2, 4] trivial (At.loop N (At.loopN (fun y : Int × Int × (List Int) => whole_Times.p1.S by_1 y.1 y.2.1 y.2.2 st) (fun c J hc y h => whole_Times.p1_ok by_1 y.1 y.2.1 y.2.2 st hE (fun c_1 v2 a_7 hh => hc (c_1, v2, a_7) hh) h) N (0, 0, a_0_0) h))
/-! trailhead/whole.Add -/
noncomputable def whole_Add.B : Code := Tryd.f48.body.getD .skip
noncomputable def whole_Add.rs (r : (List Int) × Bool) : List CV := [.agg [L.arr .u64 4 r.1], .one (L.bool r.2)]
noncomputable def whole_Add.p1 (N : Nat) (b_1_0 : List Int) (c1_ : (Int × Int × (List Int)) → Option ((List Int) × Bool)) : (Int × Int × (List Int)) → Option ((List Int) × Bool) := fun (c_1, v2, a_5) =>
 if (decide (v2 < 4)) = true then
  chk (0 ≤ v2) <|
  optE (bits_Add64 N (List.getD a_5 (Int.toNat v2) 0) (List.getD b_1_0 (Int.toNat v2) 0) c_1) fun (x6, x7) =>
  c1_ (x7, w64 (v2 + 1), List.set a_5 (Int.toNat v2) x6)
 else
 some (a_5, c_1 != 0)
noncomputable def whole_Add (N : Nat) (a_0_0 b_1_0 : List Int) : Option ((List Int) × Bool) :=
 loopN (whole_Add.p1 N b_1_0) N (0, 0, a_0_0)
noncomputable def whole_Add.p1.S (c_1 v2 : Int) (a_5 b_1_0 : List Int) (st : LL) : S := mkS 28 [(2, .one (.adr (.site 2) 0)), (3, .one (.adr (.site 3) 0)), (4, .one (.adr (.site 4) 0)), (6, .one (.l (L.int .u64 c_1))), (8, .one (.l (L.int .i64 v2)))] [(2, .cells [L.arr .u64 4 a_5]), (3, .cells [L.arr .u64 4 b_1_0]), (4, .cells [L.arr .u64 4 (List.replicate 4 0)])] st
theorem whole_Add.p1_ok (c_1 v2 : Int) (a_5 b_1_0 : List Int) (st : LL) {r : (List Int) × Bool} {c1_ : (Int × Int × (List Int)) → Option ((List Int) × Bool)} {J1 : Act → World → Prop} (hE : En Tryd.f48 g0 w0 (whole_Add.rs r) st R) (hc1 : ∀ (c_1 v2 : Int) (a_5 : List Int), c1_ (c_1, v2, a_5) = some r → At g0 w0 (whole_Add.p1.S c_1 v2 a_5 b_1_0 st) J1) (h : whole_Add.p1 N b_1_0 c1_ (c_1, v2, a_5) = some r) : At g0 w0 (whole_Add.p1.S c_1 v2 a_5 b_1_0 st) (XK Tryd.prog R (.c (csub whole_Add.B [1, 1, 0, 1, 0, 0]) :: .h J1 :: [.b 0, .c (csub whole_Add.B [1, 1, 1])])) := by
 unfold whole_Add.p1 at h
 refine iteB h (fun c4 h1 => ?_) (fun c4 h2 => ?_) <;> clear h
 · obtain ⟨c5, h3⟩ := chk_inv h1; clear h1
   obtain ⟨⟨x6, x7⟩, c6, h4⟩ := optE_inv h3; clear h3
   exact and_ fol [.r [], .c true, .r [], .d {ds := [(8, {rs := [.one (L.int .u64 x6), .one (L.int .u64 x7)], m := 4})], hv := 8192, Hs := [8192]}, .r []] [2, 3, 4, 6, 8] [2, 3, 4] (aI c4 (aI c5 (aI (oD c4) (aI c5 (aI (oD c4) (aI (bits_Add64.snd c6) (aI c5 (oD c4)))))))) (hc1 x7 (w64 (v2 + 1)) (List.set a_5 (Int.toNat v2) x6) h4)
 · obtain rfl := some_inv h2
   exact af fol hE [.r [], .c false, .r []] [] 0 [] c4
theorem whole_Add.snd {a_0_0 b_1_0 : List Int} {r : (List Int) × Bool} (h : whole_Add N a_0_0 b_1_0 = some r) : SndQ Tryd.prog 48 [.agg [L.arr .u64 4 a_0_0], .agg [L.arr .u64 4 b_1_0]] (whole_Add.rs r) := fun st =>
 sO whole_Add.B Tryd.func48 fun g0 w0 R hE => by
  unfold whole_Add at h
  exact aq fol [.r [], .r [], .r []] [2, 3, 4, 6, 8] [2, 3, 4] trivial (At.loop N (At.loopN (fun y : Int × Int × (List Int) => whole_Add.p1.S y.1 y.2.1 y.2.2 b_1_0 st) (fun c J hc y h => whole_Add.p1_ok y.1 y.2.1 y.2.2 b_1_0 st hE (fun c_1 v2 a_5 hh => hc (c_1, v2, a_5) hh) h) N (0, 0, a_0_0) h))
/-! trailhead/whole.Len -/
noncomputable def whole_Len.B : Code := Tryd.f65.body.getD .skip
noncomputable def whole_Len.rs (r : Int) : List CV := [.one (L.int .i64 r)]
noncomputable def whole_Len.p1 (N : Nat) (a_0_0 : List Int) (c1_ : Int → Option Int) : Int → Option Int := fun i_1 =>
 if (decide (i_1 ≥ 0)) = true then
  chk (0 ≤ i_1) <|
  chk (i_1 < 4) <|
  if ((List.getD a_0_0 (Int.toNat i_1) 0) != 0) = true then
   optE (math_bits_Len64 N (List.getD a_0_0 (Int.toNat i_1) 0)) fun x2 =>
   some (w64 ((w64 (64 * i_1)) + x2))
  else
  c1_ (w64 (i_1 - 1))
 else
 some 0
noncomputable def whole_Len (N : Nat) (a_0_0 : List Int) : Option Int :=
 loopN (whole_Len.p1 N a_0_0) N 3
noncomputable def whole_Len.p1.S (i_1 : Int) (a_0_0 : List Int) (st : LL) : S := mkS 19 [(1, .one (.adr (.site 1) 0)), (3, .one (.l (L.int .i64 i_1)))] [(1, .cells [L.arr .u64 4 a_0_0])] st
theorem whole_Len.p1_ok (i_1 : Int) (a_0_0 : List Int) (st : LL) {r : Int} {c1_ : Int → Option Int} {J1 : Act → World → Prop} (hE : En Tryd.f65 g0 w0 (whole_Len.rs r) st R) (hc1 : ∀ (i_1 : Int), c1_ i_1 = some r → At g0 w0 (whole_Len.p1.S i_1 a_0_0 st) J1) (h : whole_Len.p1 N a_0_0 c1_ i_1 = some r) : At g0 w0 (whole_Len.p1.S i_1 a_0_0 st) (XK Tryd.prog R (.c (csub whole_Len.B [1, 0, 1, 0, 0]) :: .h J1 :: [.b 0, .c (csub whole_Len.B [1, 1])])) := by
 unfold whole_Len.p1 at h
 refine iteB h (fun c1 h1 => ?_) (fun c1 h2 => ?_) <;> clear h
 · obtain ⟨c2, c3, h3⟩ := ck2 h1; clear h1
   refine iteB h3 (fun c4 h4 => ?_) (fun c4 h5 => ?_) <;> clear h3
   · obtain ⟨x2, c5, h6⟩ := optE_inv h4; clear h4
     obtain rfl := some_inv h6
     exact af fol hE [.r [], .c true, .r [], .c true, .r [(5, {rs := [.one (L.int .i64 x2)], m := 1})]] [] 0 [] (aI c1 (aI c2 (aI c3 (aI c4 (aI c2 (aI c3 (math_bits_Len64.snd c5)))))))
   · exact an fol [.r [], .c true, .r [], .c false, .r []] [1, 3] [1] (aI c1 (aI c2 (aI c3 c4))) (hc1 (w64 (i_1 - 1)) h5)
 · obtain rfl := some_inv h2
   exact af fol hE [.r [], .c false, .r []] [] 0 [] c1
theorem whole_Len.snd {a_0_0 : List Int} {r : Int} (h : whole_Len N a_0_0 = some r) : SndQ Tryd.prog 65 [.agg [L.arr .u64 4 a_0_0]] (whole_Len.rs r) := fun st =>
 sO whole_Len.B Tryd.func65 fun g0 w0 R hE => by
  unfold whole_Len at h
  exact aq fol [.r [], .r []] [1, 3] [1] trivial (At.loop N (At.loopN (fun y : Int => whole_Len.p1.S y a_0_0 st) (fun c J hc y h => whole_Len.p1_ok y a_0_0 st hE (fun i_1 hh => hc i_1 hh) h) N 3 h))
/-! trailhead/compact.Encode -/
noncomputable def compact_Encode.B : Code := Tryd.f52.body.getD .skip
noncomputable def compact_Encode.rs (r : Int) : List CV := [.one (L.int .i64 r)]
noncomputable def compact_Encode.p2 (N : Nat) (size_5 word_6 : Int) : Option Int :=
 some (bitsOf .or .i64 (shlOf .i64 size_5 24) word_6)
noncomputable def compact_Encode.p1 (N : Nat) (x1 word_4 : Int) : Option Int :=
 if ((bitsOf .and .i64 word_4 8388608) != 0) = true then
  compact_Encode.p2 N (w64 ((w64 (Int.tdiv (w64 (x1 + 7)) 8)) + 1)) (shrOf .i64 word_4 8)
 else
 compact_Encode.p2 N (w64 (Int.tdiv (w64 (x1 + 7)) 8)) word_4
noncomputable def compact_Encode (N : Nat) (n_0_0 : List Int) : Option Int :=
 optE (whole_Len N n_0_0) fun x1 =>
 if (decide ((w64 (Int.tdiv (w64 (x1 + 7)) 8)) ≤ 3)) = true then
  optE (whole_Up N n_0_0 (w64 (8 * (w64 (3 - (w64 (Int.tdiv (w64 (x1 + 7)) 8))))))) fun x2 =>
  compact_Encode.p1 N x1 (w64 (List.getD x2 0 0))
 else
 optE (whole_Down N n_0_0 (w64 (8 * (w64 ((w64 (Int.tdiv (w64 (x1 + 7)) 8)) - 3))))) fun x3 =>
 compact_Encode.p1 N x1 (w64 (List.getD x3 0 0))
noncomputable def compact_Encode.p2.S (size_5 word_6 : Int) (st : LL) : S := mkS 36 [(3, .one (.l (L.int .i64 size_5))), (4, .one (.l (L.int .i64 word_6)))] [] st
noncomputable def compact_Encode.p1.S (x1 word_4 : Int) (st : LL) : S := mkS 36 [(3, .one (.l (L.int .i64 (w64 (Int.tdiv (w64 (x1 + 7)) 8))))), (4, .one (.l (L.int .i64 word_4)))] [] st
theorem compact_Encode.p2_ok (size_5 word_6 : Int) (st : LL) {r : Int} (hE : En Tryd.f52 g0 w0 (compact_Encode.rs r) st R) (h : compact_Encode.p2 N size_5 word_6 = some r) : At g0 w0 (compact_Encode.p2.S size_5 word_6 st) (XK Tryd.prog R [.c (csub compact_Encode.B [1, 1, 1, 1, 1])]) := by
 unfold compact_Encode.p2 at h
 obtain rfl := some_inv h
 exact af fol hE [.r []] [] 0 [] (leI 0 24)
theorem compact_Encode.p1_ok (x1 word_4 : Int) (st : LL) {r : Int} (hE : En Tryd.f52 g0 w0 (compact_Encode.rs r) st R) (h : compact_Encode.p1 N x1 word_4 = some r) : At g0 w0 (compact_Encode.p1.S x1 word_4 st) (XK Tryd.prog R [.c (csub compact_Encode.B [1, 1, 1, 1])]) := by
 unfold compact_Encode.p1 at h
 refine iteB h (fun c5 h1 => ?_) (fun c5 h2 => ?_) <;> clear h
 · exact aq fol [.r [], .c true, .r [], .r [], .s 1] [3, 4] [] (aI c5 (leI 0 8)) (compact_Encode.p2_ok (w64 ((w64 (Int.tdiv (w64 (x1 + 7)) 8)) + 1)) (shrOf .i64 word_4 8) st hE h1)
 · exact aq fol [.r [], .c false, .s 1] [3, 4] [] c5 (compact_Encode.p2_ok (w64 (Int.tdiv (w64 (x1 + 7)) 8)) word_4 st hE h2)
theorem compact_Encode.snd {n_0_0 : List Int} {r : Int} (h : compact_Encode N n_0_0 = some r) : SndQ Tryd.prog 52 [.agg [L.arr .u64 4 n_0_0]] (compact_Encode.rs r) := fun st =>
 sO compact_Encode.B Tryd.func52 fun g0 w0 R hE => by
  unfold compact_Encode at h
  obtain ⟨x1, c1, h3⟩ := optE_inv h; clear h
  refine iteB h3 (fun c2 h4 => ?_) (fun c2 h5 => ?_) <;> clear h3
  · obtain ⟨x2, c3, h6⟩ := optE_inv h4; clear h4
    exact aq fol [.r [], .r [(1, {rs := [.one (L.int .i64 x1)], m := 1})], .r [], .r [], .c true, .r [(4, {rs := [.agg [L.arr .u64 4 x2]], m := 1})], .s 1] [3, 4] [] (aI (whole_Len.snd c1) (aI (neI 8) (aI c2 (aI (whole_Up.snd c3) (aI (leI 0 0) (ltI 0 4)))))) (compact_Encode.p1_ok x1 (w64 (List.getD x2 0 0)) st hE h6)
  · obtain ⟨x3, c4, h7⟩ := optE_inv h5; clear h5
    exact aq fol [.r [], .r [(1, {rs := [.one (L.int .i64 x1)], m := 1})], .r [], .r [], .c false, .r [(4, {rs := [.agg [L.arr .u64 4 x3]], m := 1})], .s 1] [3, 4] [] (aI (whole_Len.snd c1) (aI (neI 8) (aI c2 (aI (whole_Down.snd c4) (aI (leI 0 0) (ltI 0 4)))))) (compact_Encode.p1_ok x1 (w64 (List.getD x3 0 0)) st hE h7)
/-! trailhead/pace.Retarget -/
noncomputable def pace_Retarget.B : Code := Tryd.f35.body.getD .skip
noncomputable def pace_Retarget.rs (r : Int) : List CV := [.one (L.int .i64 r)]
noncomputable def pace_Retarget.p1 (N : Nat) (n_17 : List Int) : Option Int :=
 optE (compact_Encode N n_17) fun x18 =>
 some x18
noncomputable def pace_Retarget (N : Nat) (p_0 : api_Params) (bits_1 from_2 to_3 : Int) : Option Int :=
 optE (compact_Target N bits_1 p_0.Limit) fun (x1, x2) =>
 optE (pace_Good N p_0) fun x3 =>
 if (!x3) = true then
  some p_0.Limit
 else
 if (!x2) = true then
  some p_0.Limit
 else
 optE (pace_span N p_0 from_2 to_3) fun x4 =>
 optE (whole_Over N x1 (v64 (w64 (p_0.Interval * p_0.Spacing)))) fun (x5, x6) =>
 optE (whole_Times N x5 (v64 (x4))) fun (x7, x8) =>
 chk ((v64 (w64 (p_0.Interval * p_0.Spacing))) ≠ 0) <|
 optE (whole_Of N (v64 (Int.tdiv (v64 (x6 * (v64 (x4)))) (v64 (w64 (p_0.Interval * p_0.Spacing)))))) fun x9 =>
 optE (whole_Add N x7 x9) fun (x10, x11) =>
 optE (compact_Target N p_0.Limit p_0.Limit) fun (x12, x13) =>
 if x8 = true then
  some p_0.Limit
 else
 if x11 = true then
  some p_0.Limit
 else
 optE (whole_Less N x12 x10) fun x14 =>
 if x14 = true then
  some p_0.Limit
 else
 optE (whole_Zero N x10) fun x15 =>
 if x15 = true then
  optE (whole_Of N 1) fun x16 =>
  pace_Retarget.p1 N x16
 else
 pace_Retarget.p1 N x10
noncomputable def pace_Retarget.p1.S (n_17 : List Int) (st : LL) : S := mkS 94 [(15, .one (.adr (.site 15) 0))] [(15, .cells [L.arr .u64 4 n_17])] st
theorem pace_Retarget.p1_ok (n_17 : List Int) (st : LL) {r : Int} (hE : En Tryd.f35 g0 w0 (pace_Retarget.rs r) st R) (h : pace_Retarget.p1 N n_17 = some r) : At g0 w0 (pace_Retarget.p1.S n_17 st) (XK Tryd.prog R [.c (csub pace_Retarget.B [1, 1, 1, 1, 1, 1, 1, 1, 1, 1, 1])]) := by
 unfold pace_Retarget.p1 at h
 obtain ⟨x18, c19, h1⟩ := optE_inv h; clear h
 obtain rfl := some_inv h1
 exact af fol hE [.r [(1, {rs := [.one (L.int .i64 x18)], m := 1})]] [] 0 [] (compact_Encode.snd c19)
theorem pace_Retarget.snd {p_0 : api_Params} {bits_1 from_2 to_3 : Int} {r : Int} (h : pace_Retarget N p_0 bits_1 from_2 to_3 = some r) : SndQ Tryd.prog 35 [.agg p_0.ls, .one (L.int .i64 bits_1), .one (L.int .i64 from_2), .one (L.int .i64 to_3)] (pace_Retarget.rs r) := fun st =>
 sO pace_Retarget.B Tryd.func35 fun g0 w0 R hE => by
  unfold pace_Retarget at h
  obtain ⟨⟨x1, x2⟩, c1, h2⟩ := optE_inv h; clear h
  obtain ⟨x3, c2, h3⟩ := optE_inv h2; clear h2
  refine iteB h3 (fun c3 h4 => ?_) (fun c3 h5 => ?_) <;> clear h3
  · obtain rfl := some_inv h4
    exact af fol hE [.r [], .r [(3, {rs := [.agg [L.arr .u64 4 x1], .one (L.bool x2)], m := 1})], .r [(1, {rs := [.one (L.bool x3)], m := 1}), (4, {want := false}), (5, {want := false})], .c true, .r []] [] 0 [] (aI (compact_Target.snd c1) (aI (pace_Good.snd c2) (aI (not_false (not_inv_t c3)) (aI (not_false (not_inv_t c3)) (aI (not_false (not_inv_t c3)) (eB true))))))
  · refine iteB h5 (fun c4 h6 => ?_) (fun c4 h7 => ?_) <;> clear h5
    · obtain rfl := some_inv h6
      exact af fol hE [.r [], .r [(3, {rs := [.agg [L.arr .u64 4 x1], .one (L.bool x2)], m := 1})], .r [(1, {rs := [.one (L.bool x3)], m := 1}), (6, {yes := false})], .c true, .r []] [] 0 [] (aI (compact_Target.snd c1) (aI (pace_Good.snd c2) (aI (not_true (not_inv_f c3)) (aI (not_true (not_inv_f c3)) (aI (not_true (not_inv_f c3)) c4)))))
    · obtain ⟨x4, c5, h8⟩ := optE_inv h7; clear h7
      obtain ⟨⟨x5, x6⟩, c6, h9⟩ := optE_inv h8; clear h8
      obtain ⟨⟨x7, x8⟩, c7, h10⟩ := optE_inv h9; clear h9
      obtain ⟨c8, h11⟩ := chk_inv h10; clear h10
      obtain ⟨x9, c9, h12⟩ := optE_inv h11; clear h11
      obtain ⟨⟨x10, x11⟩, c10, h13⟩ := optE_inv h12; clear h12
      obtain ⟨⟨x12, x13⟩, c11, h14⟩ := optE_inv h13; clear h13
      refine iteB h14 (fun c12 h15 => ?_) (fun c12 h16 => ?_) <;> clear h14
      · obtain rfl := some_inv h15
        exact afd fol hE [.r [], .r [(3, {rs := [.agg [L.arr .u64 4 x1], .one (L.bool x2)], m := 1})], .r [(1, {rs := [.one (L.bool x3)], m := 1}), (6, {yes := false})], .c false, .r [], .r [(3, {rs := [.one (L.int .i64 x4)], m := 1})], .r [(2, {rs := [.agg [L.arr .u64 4 x5], .one (L.int .u64 x6)], m := 1})], .r [(2, {rs := [.agg [L.arr .u64 4 x7], .one (L.bool x8)], m := 1})], .d {ds := [(6, {rs := [.agg [L.arr .u64 4 x9]], m := 1}), (7, {rs := [.agg [L.arr .u64 4 x10], .one (L.bool x11)], m := 1})], hv := 2048, Hs := [2048]}, .r [(4, {rs := [.agg [L.arr .u64 4 x12], .one (L.bool x13)], m := 1})], .r [(2, {want := false}), (5, {want := false}), (6, {want := false}), (7, {want := false})], .c true, .r []] [] 0 [] (aI (compact_Target.snd c1) (aI (pace_Good.snd c2) (aI (not_true (not_inv_f c3)) (aI (not_true (not_inv_f c3)) (aI (not_true (not_inv_f c3)) (aI c4 (aI (pace_span.snd c5) (aI (whole_Over.snd c6) (aI (whole_Times.snd c7) (aI c8 (aI (whole_Of.snd c9) (aI (whole_Add.snd c10) (aI (compact_Target.snd c11) (aI c12 (aI c12 (aI (eB true) (aI (eB true) (aI (eB true) (aI (eB true) (eB true))))))))))))))))))))
      · refine iteB h16 (fun c13 h17 => ?_) (fun c13 h18 => ?_) <;> clear h16
        · obtain rfl := some_inv h17
          exact afd fol hE [.r [], .r [(3, {rs := [.agg [L.arr .u64 4 x1], .one (L.bool x2)], m := 1})], .r [(1, {rs := [.one (L.bool x3)], m := 1}), (6, {yes := false})], .c false, .r [], .r [(3, {rs := [.one (L.int .i64 x4)], m := 1})], .r [(2, {rs := [.agg [L.arr .u64 4 x5], .one (L.int .u64 x6)], m := 1})], .r [(2, {rs := [.agg [L.arr .u64 4 x7], .one (L.bool x8)], m := 1})], .d {ds := [(6, {rs := [.agg [L.arr .u64 4 x9]], m := 1}), (7, {rs := [.agg [L.arr .u64 4 x10], .one (L.bool x11)], m := 1})], hv := 2048, Hs := [2048]}, .r [(4, {rs := [.agg [L.arr .u64 4 x12], .one (L.bool x13)], m := 1})], .r [(3, {yes := false}), (5, {want := false}), (6, {want := false}), (7, {want := false})], .c true, .r []] [] 0 [] (aI (compact_Target.snd c1) (aI (pace_Good.snd c2) (aI (not_true (not_inv_f c3)) (aI (not_true (not_inv_f c3)) (aI (not_true (not_inv_f c3)) (aI c4 (aI (pace_span.snd c5) (aI (whole_Over.snd c6) (aI (whole_Times.snd c7) (aI c8 (aI (whole_Of.snd c9) (aI (whole_Add.snd c10) (aI (compact_Target.snd c11) (aI c12 (aI c12 (aI c13 (aI c13 (aI c13 (aI c13 (eB true))))))))))))))))))))
        · obtain ⟨x14, c14, h19⟩ := optE_inv h18; clear h18
          refine iteB h19 (fun c15 h20 => ?_) (fun c15 h21 => ?_) <;> clear h19
          · obtain rfl := some_inv h20
            exact afd fol hE [.r [], .r [(3, {rs := [.agg [L.arr .u64 4 x1], .one (L.bool x2)], m := 1})], .r [(1, {rs := [.one (L.bool x3)], m := 1}), (6, {yes := false})], .c false, .r [], .r [(3, {rs := [.one (L.int .i64 x4)], m := 1})], .r [(2, {rs := [.agg [L.arr .u64 4 x5], .one (L.int .u64 x6)], m := 1})], .r [(2, {rs := [.agg [L.arr .u64 4 x7], .one (L.bool x8)], m := 1})], .d {ds := [(6, {rs := [.agg [L.arr .u64 4 x9]], m := 1}), (7, {rs := [.agg [L.arr .u64 4 x10], .one (L.bool x11)], m := 1})], hv := 2048, Hs := [2048]}, .r [(4, {rs := [.agg [L.arr .u64 4 x12], .one (L.bool x13)], m := 1})], .r [(3, {yes := false}), (7, {rs := [.one (L.bool x14)], m := 1}), (8, {yes := false})], .c true, .r []] [] 0 [] (aI (compact_Target.snd c1) (aI (pace_Good.snd c2) (aI (not_true (not_inv_f c3)) (aI (not_true (not_inv_f c3)) (aI (not_true (not_inv_f c3)) (aI c4 (aI (pace_span.snd c5) (aI (whole_Over.snd c6) (aI (whole_Times.snd c7) (aI c8 (aI (whole_Of.snd c9) (aI (whole_Add.snd c10) (aI (compact_Target.snd c11) (aI c12 (aI c12 (aI c13 (aI c13 (aI c13 (aI (whole_Less.snd c14) (aI c13 c15))))))))))))))))))))
          · obtain ⟨x15, c16, h22⟩ := optE_inv h21; clear h21
            refine iteB h22 (fun c17 h23 => ?_) (fun c17 h24 => ?_) <;> clear h22
            · obtain ⟨x16, c18, h25⟩ := optE_inv h23; clear h23
              exact aqd fol [.r [], .r [(3, {rs := [.agg [L.arr .u64 4 x1], .one (L.bool x2)], m := 1})], .r [(1, {rs := [.one (L.bool x3)], m := 1}), (6, {yes := false})], .c false, .r [], .r [(3, {rs := [.one (L.int .i64 x4)], m := 1})], .r [(2, {rs := [.agg [L.arr .u64 4 x5], .one (L.int .u64 x6)], m := 1})], .r [(2, {rs := [.agg [L.arr .u64 4 x7], .one (L.bool x8)], m := 1})], .d {ds := [(6, {rs := [.agg [L.arr .u64 4 x9]], m := 1}), (7, {rs := [.agg [L.arr .u64 4 x10], .one (L.bool x11)], m := 1})], hv := 2048, Hs := [2048]}, .r [(4, {rs := [.agg [L.arr .u64 4 x12], .one (L.bool x13)], m := 1})], .r [(3, {yes := false}), (7, {rs := [.one (L.bool x14)], m := 1}), (8, {yes := false})], .c false, .r [(1, {rs := [.one (L.bool x15)], m := 1})], .c true, .r [(0, {rs := [.agg [L.arr .u64 4 x16]], m := 1})], .s 1] [15] [15] (aI (compact_Target.snd c1) (aI (pace_Good.snd c2) (aI (not_true (not_inv_f c3)) (aI (not_true (not_inv_f c3)) (aI (not_true (not_inv_f c3)) (aI c4 (aI (pace_span.snd c5) (aI (whole_Over.snd c6) (aI (whole_Times.snd c7) (aI c8 (aI (whole_Of.snd c9) (aI (whole_Add.snd c10) (aI (compact_Target.snd c11) (aI c12 (aI c12 (aI c13 (aI c13 (aI c13 (aI (whole_Less.snd c14) (aI c13 (aI c15 (aI (whole_Zero.snd c16) (aI c17 (whole_Of.snd c18)))))))))))))))))))))))) (pace_Retarget.p1_ok x16 st hE h25)
            · exact aqd fol [.r [], .r [(3, {rs := [.agg [L.arr .u64 4 x1], .one (L.bool x2)], m := 1})], .r [(1, {rs := [.one (L.bool x3)], m := 1}), (6, {yes := false})], .c false, .r [], .r [(3, {rs := [.one (L.int .i64 x4)], m := 1})], .r [(2, {rs := [.agg [L.arr .u64 4 x5], .one (L.int .u64 x6)], m := 1})], .r [(2, {rs := [.agg [L.arr .u64 4 x7], .one (L.bool x8)], m := 1})], .d {ds := [(6, {rs := [.agg [L.arr .u64 4 x9]], m := 1}), (7, {rs := [.agg [L.arr .u64 4 x10], .one (L.bool x11)], m := 1})], hv := 2048, Hs := [2048]}, .r [(4, {rs := [.agg [L.arr .u64 4 x12], .one (L.bool x13)], m := 1})], .r [(3, {yes := false}), (7, {rs := [.one (L.bool x14)], m := 1}), (8, {yes := false})], .c false, .r [(1, {rs := [.one (L.bool x15)], m := 1})], .c false, .s 1] [15] [15] (aI (compact_Target.snd c1) (aI (pace_Good.snd c2) (aI (not_true (not_inv_f c3)) (aI (not_true (not_inv_f c3)) (aI (not_true (not_inv_f c3)) (aI c4 (aI (pace_span.snd c5) (aI (whole_Over.snd c6) (aI (whole_Times.snd c7) (aI c8 (aI (whole_Of.snd c9) (aI (whole_Add.snd c10) (aI (compact_Target.snd c11) (aI c12 (aI c12 (aI c13 (aI c13 (aI c13 (aI (whole_Less.snd c14) (aI c13 (aI c15 (aI (whole_Zero.snd c16) c17)))))))))))))))))))))) (pace_Retarget.p1_ok x10 st hE h24)
/-! trailhead/pace.Next -/
noncomputable def pace_Next.B : Code := Tryd.f21.body.getD .skip
noncomputable def pace_Next.rs (r : Int) : List CV := [.one (L.int .i64 r)]
noncomputable def pace_Next (N : Nat) (p_0 : api_Params) (at_1 : pace_Point) (time_2 : Int) : Option Int :=
 if (decide (at_1.Height ≤ 0)) = true then
  some p_0.Limit
 else
 optE (pace_Starts N p_0 at_1.Height) fun x1 =>
 if x1 = true then
  optE (pace_Retarget N p_0 at_1.Bits at_1.First at_1.Time) fun x2 =>
  some x2
 else
 if (!p_0.Easy) = true then
  some at_1.Bits
 else
 if (decide ((w64 (time_2 - at_1.Time)) > (w64 (2 * p_0.Spacing)))) = true then
  some p_0.Limit
 else
 some at_1.Hard
theorem pace_Next.snd {p_0 : api_Params} {at_1 : pace_Point} {time_2 : Int} {r : Int} (h : pace_Next N p_0 at_1 time_2 = some r) : SndQ Tryd.prog 21 [.agg p_0.ls, .agg at_1.ls, .one (L.int .i64 time_2)] (pace_Next.rs r) := fun st =>
 sO pace_Next.B Tryd.func21 fun g0 w0 R hE => by
  unfold pace_Next at h
  refine iteB h (fun c1 h1 => ?_) (fun c1 h2 => ?_) <;> clear h
  · obtain rfl := some_inv h1
    exact af fol hE [.r [], .r [], .c true, .r []] [] 0 [] c1
  · obtain ⟨x1, c2, h3⟩ := optE_inv h2; clear h2
    refine iteB h3 (fun c3 h4 => ?_) (fun c3 h5 => ?_) <;> clear h3
    · obtain ⟨x2, c4, h6⟩ := optE_inv h4; clear h4
      obtain rfl := some_inv h6
      exact af fol hE [.r [], .r [], .c false, .r [(3, {rs := [.one (L.bool x1)], m := 1})], .c true, .r [(7, {rs := [.one (L.int .i64 x2)], m := 1})]] [] 0 [] (aI c1 (aI (pace_Starts.snd c2) (aI c3 (pace_Retarget.snd c4))))
    · refine iteB h5 (fun c5 h7 => ?_) (fun c5 h8 => ?_) <;> clear h5
      · obtain rfl := some_inv h7
        exact af fol hE [.r [], .r [], .c false, .r [(3, {rs := [.one (L.bool x1)], m := 1})], .c false, .r [], .c true, .r []] [] 0 [] (aI c1 (aI (pace_Starts.snd c2) (aI c3 c5)))
      · refine iteB h8 (fun c6 h9 => ?_) (fun c6 h10 => ?_) <;> clear h8
        · obtain rfl := some_inv h9
          exact af fol hE [.r [], .r [], .c false, .r [(3, {rs := [.one (L.bool x1)], m := 1})], .c false, .r [], .c false, .r [], .c true, .r []] [] 0 [] (aI c1 (aI (pace_Starts.snd c2) (aI c3 (aI c5 c6))))
        · obtain rfl := some_inv h10
          exact af fol hE [.r [], .r [], .c false, .r [(3, {rs := [.one (L.bool x1)], m := 1})], .c false, .r [], .c false, .r [], .c false, .r []] [] 0 [] (aI c1 (aI (pace_Starts.snd c2) (aI c3 (aI c5 c6))))
/-! trailhead/whole.FromHash -/
noncomputable def whole_FromHash.B : Code := Tryd.f54.body.getD .skip
noncomputable def whole_FromHash.rs (r : (List Int)) : List CV := [.agg [L.arr .u64 4 r]]
noncomputable def whole_FromHash.p1 (N : Nat) (h_0_0 : List Int) (c1_ : (Int × (List Int)) → Option (List Int)) : (Int × (List Int)) → Option (List Int) := fun (v1, out_2) =>
 if (decide (v1 < 32)) = true then
  chk (0 ≤ v1) <|
  chk (0 ≤ (w64 (Int.tdiv v1 8))) <|
  chk ((w64 (Int.tdiv v1 8)) < 4) <|
  chk (0 ≤ (w64 (8 * (Int.tmod v1 8)))) <|
  c1_ (w64 (v1 + 1), List.set out_2 (Int.toNat (w64 (Int.tdiv v1 8))) (bitsOf .or .u64 (List.getD out_2 (Int.toNat (w64 (Int.tdiv v1 8))) 0) (shlOf .u64 (v64 (List.getD h_0_0 (Int.toNat v1) 0)) (w64 (8 * (Int.tmod v1 8))))))
 else
 some out_2
noncomputable def whole_FromHash (N : Nat) (h_0_0 : List Int) : Option (List Int) :=
 loopN (whole_FromHash.p1 N h_0_0) N (0, List.replicate 4 0)
noncomputable def whole_FromHash.p1.S (h_0_0 : List Int) (v1 : Int) (out_2 : List Int) (st : LL) : S := mkS 25 [(2, .one (.adr (.site 2) 0)), (3, .one (.adr (.site 3) 0)), (6, .agg [.l (L.arr .u8 32 h_0_0)]), (7, .one (.l (L.int .i64 v1)))] [(2, .cells [L.arr .u64 4 (List.replicate 4 0)]), (3, .cells [L.arr .u64 4 out_2])] st
theorem whole_FromHash.p1_ok (h_0_0 : List Int) (v1 : Int) (out_2 : List Int) (st : LL) {r : (List Int)} {c1_ : (Int × (List Int)) → Option (List Int)} {J1 : Act → World → Prop} (hE : En Tryd.f54 g0 w0 (whole_FromHash.rs r) st R) (hc1 : ∀ (v1 : Int) (out_2 : List Int), c1_ (v1, out_2) = some r → At g0 w0 (whole_FromHash.p1.S h_0_0 v1 out_2 st) J1) (h : whole_FromHash.p1 N h_0_0 c1_ (v1, out_2) = some r) : At g0 w0 (whole_FromHash.p1.S h_0_0 v1 out_2 st) (XK Tryd.prog R (.c (csub whole_FromHash.B [1, 1, 0, 1, 0, 0]) :: .h J1 :: [.b 0, .c (csub whole_FromHash.B [1, 1, 1])])) := by
 unfold whole_FromHash.p1 at h
 refine iteB h (fun c6 h1 => ?_) (fun c6 h2 => ?_) <;> clear h
 · obtain ⟨c7, c8, c9, c10, h3⟩ := ck4 h1; clear h1
   exact and_ fol [.r [], .c true, .r [], .d {ds := [], hv := 4096, Hs := [4096]}, .r []] [2, 3, 6, 7] [2, 3] (aI c6 (aI c7 (aI (oD c6) (aI (neI 8) (aI c8 (aI c9 (aI (neI 8) (aI c10 (aI c8 c9))))))))) (hc1 (w64 (v1 + 1)) (List.set out_2 (Int.toNat (w64 (Int.tdiv v1 8))) (bitsOf .or .u64 (List.getD out_2 (Int.toNat (w64 (Int.tdiv v1 8))) 0) (shlOf .u64 (v64 (List.getD h_0_0 (Int.toNat v1) 0)) (w64 (8 * (Int.tmod v1 8)))))) h3)
 · obtain rfl := some_inv h2
   exact af fol hE [.r [], .c false, .r []] [] 0 [] c6
theorem whole_FromHash.snd {h_0_0 : List Int} {r : (List Int)} (h : whole_FromHash N h_0_0 = some r) : SndQ Tryd.prog 54 [.agg [L.arr .u8 32 h_0_0]] (whole_FromHash.rs r) := fun st =>
 sO whole_FromHash.B Tryd.func54 fun g0 w0 R hE => by
  unfold whole_FromHash at h
  exact aq fol [.r [], .r [], .r []] [2, 3, 6, 7] [2, 3] trivial (At.loop N (At.loopN (fun y : Int × (List Int) => whole_FromHash.p1.S h_0_0 y.1 y.2 st) (fun c J hc y h => whole_FromHash.p1_ok h_0_0 y.1 y.2 st hE (fun v1 out_2 hh => hc (v1, out_2) hh) h) N (0, List.replicate 4 0) h))
/-! trailhead/compact.Meets -/
noncomputable def compact_Meets.B : Code := Tryd.f37.body.getD .skip
noncomputable def compact_Meets.rs (r : Bool) : List CV := [.one (L.bool r)]
noncomputable def compact_Meets (N : Nat) (h_0_0 target_1_0 : List Int) : Option Bool :=
 optE (whole_FromHash N h_0_0) fun x1 =>
 optE (whole_Less N target_1_0 x1) fun x2 =>
 some (!x2)
theorem compact_Meets.snd {h_0_0 target_1_0 : List Int} {r : Bool} (h : compact_Meets N h_0_0 target_1_0 = some r) : SndQ Tryd.prog 37 [.agg [L.arr .u8 32 h_0_0], .agg [L.arr .u64 4 target_1_0]] (compact_Meets.rs r) := fun st =>
 sO compact_Meets.B Tryd.func37 fun g0 w0 R hE => by
  unfold compact_Meets at h
  obtain ⟨x1, c1, h1⟩ := optE_inv h; clear h
  obtain ⟨x2, c2, h2⟩ := optE_inv h1; clear h1
  obtain rfl := some_inv h2
  exact afd fol hE [.r [], .d {ds := [(2, {rs := [.agg [L.arr .u64 4 x1]], m := 1}), (3, {rs := [.one (L.bool x2)], m := 1})], hv := 0, Hs := []}] [] 0 [] (aI (whole_FromHash.snd c1) (whole_Less.snd c2))
/-! trailhead/rule.Itself -/
noncomputable def rule_Itself.B : Code := Tryd.f22.body.getD .skip
noncomputable def rule_Itself.rs (r : Int) : List CV := [.one (L.int .i64 r)]
noncomputable def rule_Itself (N : Nat) (p_0 : api_Params) (h_1 : api_Header) : Option Int :=
 optE (header_Good N h_1) fun x1 =>
 if (!x1) = true then
  some 1
 else
 optE (compact_Target N h_1.Bits p_0.Limit) fun (x2, x3) =>
 if (!x3) = true then
  some 4
 else
 optE (header_IdP N h_1) fun x4 =>
 optE (compact_Meets N x4 x2) fun x5 =>
 if (!x5) = true then
  some 4
 else
 some 0
theorem rule_Itself.snd {p_0 : api_Params} {h_1 : api_Header} {r : Int} (h : rule_Itself N p_0 h_1 = some r) : SndQ Tryd.prog 22 [.agg p_0.ls, .agg h_1.ls] (rule_Itself.rs r) := fun st =>
 sO rule_Itself.B Tryd.func22 fun g0 w0 R hE => by
  unfold rule_Itself at h
  obtain ⟨x1, c1, h1⟩ := optE_inv h; clear h
  refine iteB h1 (fun c2 h2 => ?_) (fun c2 h3 => ?_) <;> clear h1
  · obtain rfl := some_inv h2
    exact af fol hE [.r [], .r [(1, {rs := [.one (L.bool x1)], m := 1})], .c true, .r []] [] 0 [] (aI (header_Good.snd c1) c2)
  · obtain ⟨⟨x2, x3⟩, c3, h4⟩ := optE_inv h3; clear h3
    refine iteB h4 (fun c4 h5 => ?_) (fun c4 h6 => ?_) <;> clear h4
    · obtain rfl := some_inv h5
      exact afd fol hE [.r [], .r [(1, {rs := [.one (L.bool x1)], m := 1})], .c false, .r [(4, {rs := [.agg [L.arr .u64 4 x2], .one (L.bool x3)], m := 1})], .d {ds := [(3, {want := false}), (4, {want := false}), (5, {want := false}), (6, {want := false}), (7, {want := false})], hv := 0, Hs := []}, .c true, .r []] [] 0 [] (aI (header_Good.snd c1) (aI c2 (aI (compact_Target.snd c3) (aI (not_false (not_inv_t c4)) (aI (not_false (not_inv_t c4)) (aI (not_false (not_inv_t c4)) (aI (not_false (not_inv_t c4)) (aI (not_false (not_inv_t c4)) (aI (not_false (not_inv_t c4)) (eB true))))))))))
    · obtain ⟨x4, c5, h7⟩ := optE_inv h6; clear h6
      obtain ⟨x5, c6, h8⟩ := optE_inv h7; clear h7
      refine iteB h8 (fun c7 h9 => ?_) (fun c7 h10 => ?_) <;> clear h8
      · obtain rfl := some_inv h9
        exact afd fol hE [.r [], .r [(1, {rs := [.one (L.bool x1)], m := 1})], .c false, .r [(4, {rs := [.agg [L.arr .u64 4 x2], .one (L.bool x3)], m := 1})], .d {ds := [(4, {rs := [.agg [L.arr .u8 32 x4]], m := 1}), (6, {rs := [.one (L.bool x5)], m := 1}), (8, {yes := false})], hv := 0, Hs := []}, .c true, .r []] [] 0 [] (aI (header_Good.snd c1) (aI c2 (aI (compact_Target.snd c3) (aI (not_true (not_inv_f c4)) (aI (not_true (not_inv_f c4)) (aI (header_IdP.snd c5) (aI (not_true (not_inv_f c4)) (aI (not_true (not_inv_f c4)) (aI (compact_Meets.snd c6) (aI (not_true (not_inv_f c4)) (aI (not_true (not_inv_f c4)) c7)))))))))))
      · obtain rfl := some_inv h10
        exact afd fol hE [.r [], .r [(1, {rs := [.one (L.bool x1)], m := 1})], .c false, .r [(4, {rs := [.agg [L.arr .u64 4 x2], .one (L.bool x3)], m := 1})], .d {ds := [(4, {rs := [.agg [L.arr .u8 32 x4]], m := 1}), (6, {rs := [.one (L.bool x5)], m := 1}), (8, {yes := false})], hv := 0, Hs := []}, .c false, .r []] [] 0 [] (aI (header_Good.snd c1) (aI c2 (aI (compact_Target.snd c3) (aI (not_true (not_inv_f c4)) (aI (not_true (not_inv_f c4)) (aI (header_IdP.snd c5) (aI (not_true (not_inv_f c4)) (aI (not_true (not_inv_f c4)) (aI (compact_Meets.snd c6) (aI (not_true (not_inv_f c4)) (aI (not_true (not_inv_f c4)) c7)))))))))))
/-! trailhead/median.Of -/
noncomputable def median_Of.B : Code := Tryd.f38.body.getD .skip
noncomputable def median_Of.rs (r : Int) : List CV := [.one (L.int .i64 r)]
noncomputable def median_Of (N : Nat) (times_0 : LL) : Option Int :=
 chk (0 ≤ (if (11 : Int) < (len times_0) then 11 else (len times_0))) <|
 chk ((Int.toNat (if (11 : Int) < (len times_0) then 11 else (len times_0))) ≤ (List.length times_0)) <|
 optE (slices_Clone_int N (List.take (Int.toNat (if (11 : Int) < (len times_0) then 11 else (len times_0))) (List.drop 0 times_0))) fun x1 =>
 if ((len x1) == 0) = true then
  some 0
 else
 chk (isI x1 = true) <|
 chk (List.length x1 < 4611686018427387904) <|
 chk (0 ≤ (w64 (Int.tdiv (len x1) 2))) <|
 chk ((w64 (Int.tdiv (len x1) 2)) < (len x1)) <|
 getE ((sortR x1)[0 + (Int.toNat (w64 (Int.tdiv (len x1) 2)))]?) dec_i64 fun x2 =>
 some x2
theorem median_Of.snd {times_0 : LL} {r : Int} (h : median_Of N times_0 = some r) : SndQ Tryd.prog 38 [.one (L.sl 1 times_0)] (median_Of.rs r) := fun st =>
 sO median_Of.B Tryd.func38 fun g0 w0 R hE => by
  unfold median_Of at h
  obtain ⟨c1, c2, h1⟩ := ck2 h; clear h
  obtain ⟨x1, c3, h2⟩ := optE_inv h1; clear h1
  refine iteB h2 (fun c4 h3 => ?_) (fun c4 h4 => ?_) <;> clear h2
  · obtain rfl := some_inv h3
    exact af fol hE [.r [], .r [(5, {rs := [.row true 1 x1], ns := [9], m := 1})], .r [], .c true, .r []] [] 0 [] (aI c1 (aI (Nat.zero_le (Int.toNat (if (11 : Int) < (len times_0) then 11 else (len times_0)))) (aI c2 (aI (slices_Clone_int.snd c3) c4))))
  · obtain ⟨c5, c6, c7, c8, h5⟩ := ck4 h4; clear h4
    obtain ⟨x2, c9, h6⟩ := dec_i64_get h5; clear h5
    obtain rfl := some_inv h6
    exact af fol hE [.r [], .r [(5, {rs := [.row true 1 x1], ns := [9], m := 1})], .r [], .c false, .r [(1, {m := 7})], .r [(5, {oe := [L.int .i64 x2]})]] [] 0 [] (aI c1 (aI (Nat.zero_le (Int.toNat (if (11 : Int) < (len times_0) then 11 else (len times_0)))) (aI c2 (aI (slices_Clone_int.snd c3) (aI c4 (aI z0 (aI (@rfl _ (List.length x1) : (List.length x1) = (List.length x1)) (aI c5 (aI c6 (aI slices_Sort_int.snd (aI (neI 2) (aI c7 (aI c8 c9)))))))))))))
/-! trailhead/median.Late -/
noncomputable def median_Late.B : Code := Tryd.f23.body.getD .skip
noncomputable def median_Late.rs (r : Bool) : List CV := [.one (L.bool r)]
noncomputable def median_Late (N : Nat) (time_0 : Int) (times_1 : LL) : Option Bool :=
 if ((len times_1) == 0) = true then
  some true
 else
 optE (median_Of N times_1) fun x1 =>
 some (decide (time_0 > x1))
theorem median_Late.snd {time_0 : Int} {times_1 : LL} {r : Bool} (h : median_Late N time_0 times_1 = some r) : SndQ Tryd.prog 23 [.one (L.int .i64 time_0), .one (L.sl 1 times_1)] (median_Late.rs r) := fun st =>
 sO median_Late.B Tryd.func23 fun g0 w0 R hE => by
  unfold median_Late at h
  refine iteB h (fun c1 h1 => ?_) (fun c1 h2 => ?_) <;> clear h
  · obtain rfl := some_inv h1
    exact af fol hE [.r [], .r [(4, {want := false}), (5, {want := false}), (6, {want := false}), (7, {want := false})]] [] 0 [] (aI c1 (aI c1 (aI c1 (aI c1 c1))))
  · obtain ⟨x1, c2, h3⟩ := optE_inv h2; clear h2
    obtain rfl := some_inv h3
    exact af fol hE [.r [], .r [(6, {rs := [.one (L.int .i64 x1)], m := 1}), (8, {yes := false})]] [] 0 [] (aI c1 (aI c1 (aI c1 (aI (median_Of.snd c2) (aI c1 c1)))))
/-! trailhead/median.Near -/
noncomputable def median_Near.B : Code := Tryd.f24.body.getD .skip
noncomputable def median_Near.rs (r : Bool) : List CV := [.one (L.bool r)]
noncomputable def median_Near (N : Nat) (time_0 now_1 future_2 : Int) : Option Bool :=
 if (decide (future_2 ≥ 0)) = true then
  if (decide (time_0 ≤ now_1)) = true then
   some true
  else
  some (decide ((w64 (time_0 - now_1)) ≤ future_2))
 else
 some false
theorem median_Near.snd {time_0 now_1 future_2 : Int} {r : Bool} (h : median_Near N time_0 now_1 future_2 = some r) : SndQ Tryd.prog 24 [.one (L.int .i64 time_0), .one (L.int .i64 now_1), .one (L.int .i64 future_2)] (median_Near.rs r) := fun st =>
 sO median_Near.B Tryd.func24 fun g0 w0 R hE => by
  unfold median_Near at h
  refine iteB h (fun c1 h1 => ?_) (fun c1 h2 => ?_) <;> clear h
  · refine iteB h1 (fun c2 h3 => ?_) (fun c2 h4 => ?_) <;> clear h1
    · obtain rfl := some_inv h3
      exact af fol hE [.r [], .r [(7, {want := false}), (8, {want := false}), (9, {want := false}), (10, {want := false}), (11, {want := false})]] [] 0 [] (aI c1 (aI c1 (aI c1 (aI c1 (aI c2 (aI c2 (aI c2 (aI c2 (aI c2 (aI c1 (aI c2 c1)))))))))))
    · obtain rfl := some_inv h4
      exact af fol hE [.r [], .r [(12, {yes := false})]] [] 0 [] (aI c1 (aI c1 (aI c1 (aI c1 (aI c2 (aI c2 (aI c2 (aI c2 (aI c2 (aI c1 (aI c2 c1)))))))))))
  · obtain rfl := some_inv h2
    exact af fol hE [.r [], .r [(3, {want := false}), (4, {want := false}), (5, {want := false}), (6, {want := false}), (12, {want := false}), (13, {yes := false})]] [] 0 [] (aI c1 (aI c1 (aI c1 (aI c1 (aI c1 c1)))))
/-! trailhead/rule.Version -/
noncomputable def rule_Version.B : Code := Tryd.f25.body.getD .skip
noncomputable def rule_Version.rs (r : Int) : List CV := [.one (L.int .i64 r)]
noncomputable def rule_Version.p2 (N : Nat) (c1_ : (Int × Int) → Option Int) (height_0 least_4 : Int) (gates_1 : LL) (v2 : Int) : Option Int :=
 c1_ (least_4, w64 (v2 + 1))
noncomputable def rule_Version.p1 (N : Nat) (height_0 : Int) (gates_1 : LL) (c1_ : (Int × Int) → Option Int) : (Int × Int) → Option Int := fun (least_1, v2) =>
 if (decide (v2 < (len gates_1))) = true then
  chk (0 ≤ v2) <|
  getE (gates_1[Int.toNat v2]?) dec_api_Gate fun x3 =>
  if (decide (height_0 ≥ x3.Height)) = true then
   rule_Version.p2 N c1_ height_0 (if x3.Version > least_1 then x3.Version else least_1) gates_1 v2
  else
  rule_Version.p2 N c1_ height_0 least_1 gates_1 v2
 else
 some least_1
noncomputable def rule_Version (N : Nat) (height_0 : Int) (gates_1 : LL) : Option Int :=
 loopN (rule_Version.p1 N height_0 gates_1) N ((-2147483648), 0)
noncomputable def rule_Version.p2.S (height_0 least_4 : Int) (gates_1 : LL) (v2 : Int) (st : LL) : S := mkS 24 [(0, .one (.l (L.int .i64 height_0))), (5, .one (.l (L.int .i64 least_4))), (8, .one (.l (L.sl 2 gates_1))), (9, .one (.l (L.int .i64 (len gates_1)))), (10, .one (.l (L.int .i64 v2)))] [] st
noncomputable def rule_Version.p1.S (height_0 least_1 : Int) (gates_1 : LL) (v2 : Int) (st : LL) : S := mkS 24 [(0, .one (.l (L.int .i64 height_0))), (5, .one (.l (L.int .i64 least_1))), (8, .one (.l (L.sl 2 gates_1))), (9, .one (.l (L.int .i64 (len gates_1)))), (10, .one (.l (L.int .i64 v2)))] [] st
theorem rule_Version.p2_ok (height_0 least_4 : Int) (gates_1 : LL) (v2 : Int) (st : LL) {r : Int} {c1_ : (Int × Int) → Option Int} {J1 : Act → World → Prop} (hE : En Tryd.f25 g0 w0 (rule_Version.rs r) st R) (hc1 : ∀ (least_1 v2 : Int), c1_ (least_1, v2) = some r → At g0 w0 (rule_Version.p1.S height_0 least_1 gates_1 v2 st) J1) (h : rule_Version.p2 N c1_ height_0 least_4 gates_1 v2 = some r) : At g0 w0 (rule_Version.p2.S height_0 least_4 gates_1 v2 st) (XK Tryd.prog R [.c (csub rule_Version.B [1, 1, 0, 1, 0, 0, 1, 1, 1]), .h J1, .b 0, .c (csub rule_Version.B [1, 1, 1])]) := by
 unfold rule_Version.p2 at h
 exact an fol [.r []] [0, 5, 8, 9, 10] [] trivial (hc1 least_4 (w64 (v2 + 1)) h)
theorem rule_Version.p1_ok (height_0 least_1 : Int) (gates_1 : LL) (v2 : Int) (st : LL) {r : Int} {c1_ : (Int × Int) → Option Int} {J1 : Act → World → Prop} (hE : En Tryd.f25 g0 w0 (rule_Version.rs r) st R) (hc1 : ∀ (least_1 v2 : Int), c1_ (least_1, v2) = some r → At g0 w0 (rule_Version.p1.S height_0 least_1 gates_1 v2 st) J1) (h : rule_Version.p1 N height_0 gates_1 c1_ (least_1, v2) = some r) : At g0 w0 (rule_Version.p1.S height_0 least_1 gates_1 v2 st) (XK Tryd.prog R (.c (csub rule_Version.B [1, 1, 0, 1, 0, 0]) :: .h J1 :: [.b 0, .c (csub rule_Version.B [1, 1, 1])])) := by
 unfold rule_Version.p1 at h
 refine iteB h (fun c1 h1 => ?_) (fun c1 h2 => ?_) <;> clear h
 · obtain ⟨c2, h3⟩ := chk_inv h1; clear h1
   obtain ⟨x3, c3, h4⟩ := dec_api_Gate_get h3; clear h3
   refine iteB h4 (fun c4 h5 => ?_) (fun c4 h6 => ?_) <;> clear h4
   · exact aq fol [.r [], .c true, .r [(1, {oe := x3.ls})], .r [], .c true, .r [], .s 4] [0, 5, 8, 9, 10] [] (aI c1 (aI c2 (aI (oD c1) (aI c3 c4)))) (rule_Version.p2_ok height_0 (if x3.Version > least_1 then x3.Version else least_1) gates_1 v2 st hE hc1 h5)
   · exact aq fol [.r [], .c true, .r [(1, {oe := x3.ls})], .r [], .c false, .s 4] [0, 5, 8, 9, 10] [] (aI c1 (aI c2 (aI (oD c1) (aI c3 c4)))) (rule_Version.p2_ok height_0 least_1 gates_1 v2 st hE hc1 h6)
 · obtain rfl := some_inv h2
   exact af fol hE [.r [], .c false, .r []] [] 0 [] c1
theorem rule_Version.snd {height_0 : Int} {gates_1 : LL} {r : Int} (h : rule_Version N height_0 gates_1 = some r) : SndQ Tryd.prog 25 [.one (L.int .i64 height_0), .one (L.sl 2 gates_1)] (rule_Version.rs r) := fun st =>
 sO rule_Version.B Tryd.func25 fun g0 w0 R hE => by
  unfold rule_Version at h
  exact aq fol [.r [], .r [], .r []] [0, 5, 8, 9, 10] [] trivial (At.loop N (At.loopN (fun y : Int × Int => rule_Version.p1.S height_0 y.1 gates_1 y.2 st) (fun c J hc y h => rule_Version.p1_ok height_0 y.1 gates_1 y.2 st hE (fun least_1 v2 hh => hc (least_1, v2) hh) h) N ((-2147483648), 0) h))
/-! trailhead/rule.Tracked -/
noncomputable def rule_Tracked.B : Code := Tryd.f26.body.getD .skip
noncomputable def rule_Tracked.rs (r : Bool) : List CV := [.one (L.bool r)]
noncomputable def rule_Tracked.p1 (N : Nat) (height_0 : Int) (checks_2 : LL) (id_1_0 : List Int) (c1_ : Int → Option Bool) : Int → Option Bool := fun v1 =>
 if (decide (v1 < (len checks_2))) = true then
  chk (0 ≤ v1) <|
  getE (checks_2[Int.toNat v1]?) dec_api_Check fun x2 =>
  if (x2.Height == height_0) = true then
   if (!(x2.Id == id_1_0)) = true then
    some false
   else
   c1_ (w64 (v1 + 1))
  else
  c1_ (w64 (v1 + 1))
 else
 some true
noncomputable def rule_Tracked (N : Nat) (height_0 : Int) (id_1_0 : List Int) (checks_2 : LL) : Option Bool :=
 loopN (rule_Tracked.p1 N height_0 checks_2 id_1_0) N 0
noncomputable def rule_Tracked.p1.S (height_0 : Int) (checks_2 : LL) (v1 : Int) (id_1_0 : List Int) (st : LL) : S := mkS 26 [(0, .one (.l (L.int .i64 height_0))), (4, .one (.adr (.site 4) 0)), (9, .one (.l (L.sl 33 checks_2))), (10, .one (.l (L.int .i64 (len checks_2)))), (11, .one (.l (L.int .i64 v1)))] [(4, .cells [L.arr .u8 32 id_1_0])] st
theorem rule_Tracked.p1_ok (height_0 : Int) (checks_2 : LL) (v1 : Int) (id_1_0 : List Int) (st : LL) {r : Bool} {c1_ : Int → Option Bool} {J1 : Act → World → Prop} (hE : En Tryd.f26 g0 w0 (rule_Tracked.rs r) st R) (hc1 : ∀ (v1 : Int), c1_ v1 = some r → At g0 w0 (rule_Tracked.p1.S height_0 checks_2 v1 id_1_0 st) J1) (h : rule_Tracked.p1 N height_0 checks_2 id_1_0 c1_ v1 = some r) : At g0 w0 (rule_Tracked.p1.S height_0 checks_2 v1 id_1_0 st) (XK Tryd.prog R (.c (csub rule_Tracked.B [1, 0, 1, 0, 0]) :: .h J1 :: [.b 0, .c (csub rule_Tracked.B [1, 1])])) := by
 unfold rule_Tracked.p1 at h
 refine iteB h (fun c1 h1 => ?_) (fun c1 h2 => ?_) <;> clear h
 · obtain ⟨c2, h3⟩ := chk_inv h1; clear h1
   obtain ⟨x2, c3, h4⟩ := dec_api_Check_get h3; clear h3
   refine iteB h4 (fun c4 h5 => ?_) (fun c4 h6 => ?_) <;> clear h4
   · refine iteB h5 (fun c5 h7 => ?_) (fun c5 h8 => ?_) <;> clear h5
     · obtain rfl := some_inv h7
       exact af fol hE [.r [], .c true, .r [(1, {oe := x2.ls})], .r [], .c true, .r []] [] 0 [] (aI c1 (aI c2 (aI (oD c1) (aI c3 (aI c4 (aI c4 (aI c4 (aI c4 (aI c4 c5)))))))))
     · exact an fol [.r [], .c true, .r [(1, {oe := x2.ls})], .r [], .c false, .r []] [0, 4, 9, 10, 11] [4] (aI c1 (aI c2 (aI (oD c1) (aI c3 (aI c4 (aI c4 (aI c4 (aI c4 (aI c4 c5))))))))) (hc1 (w64 (v1 + 1)) h8)
   · exact an fol [.r [], .c true, .r [(1, {oe := x2.ls})], .r [(5, {want := false}), (6, {want := false}), (7, {want := false}), (8, {want := false}), (9, {yes := false})], .c false, .r []] [0, 4, 9, 10, 11] [4] (aI c1 (aI c2 (aI (oD c1) (aI c3 (aI c4 (aI c4 (aI c4 (aI c4 (aI c4 (eB false)))))))))) (hc1 (w64 (v1 + 1)) h6)
 · obtain rfl := some_inv h2
   exact af fol hE [.r [], .c false, .r []] [] 0 [] c1
theorem rule_Tracked.snd {height_0 : Int} {id_1_0 : List Int} {checks_2 : LL} {r : Bool} (h : rule_Tracked N height_0 id_1_0 checks_2 = some r) : SndQ Tryd.prog 26 [.one (L.int .i64 height_0), .agg [L.arr .u8 32 id_1_0], .one (L.sl 33 checks_2)] (rule_Tracked.rs r) := fun st =>
 sO rule_Tracked.B Tryd.func26 fun g0 w0 R hE => by
  unfold rule_Tracked at h
  exact aq fol [.r [], .r []] [0, 4, 9, 10, 11] [4] trivial (At.loop N (At.loopN (fun y : Int => rule_Tracked.p1.S height_0 checks_2 y id_1_0 st) (fun c J hc y h => rule_Tracked.p1_ok height_0 checks_2 y id_1_0 st hE (fun v1 hh => hc v1 hh) h) N 0 h))
/-! trailhead/rule.Check -/
noncomputable def rule_Check.B : Code := Tryd.f10.body.getD .skip
noncomputable def rule_Check.rs (r : Int) : List CV := [.one (L.int .i64 r)]
noncomputable def rule_Check (N : Nat) (p_0 : api_Params) (at_1 : rule_Spot) (h_2 : api_Header) (now_3 : Int) : Option Int :=
 optE (header_Good N h_2) fun x1 =>
 if (!x1) = true then
  some 1
 else
 if (!(h_2.Prev == at_1.Prev)) = true then
  some 2
 else
 optE (pace_Next N p_0 at_1.Point h_2.Time) fun x2 =>
 if (h_2.Bits != x2) = true then
  some 3
 else
 optE (rule_Itself N p_0 h_2) fun x3 =>
 if (x3 != 0) = true then
  some 4
 else
 optE (median_Late N h_2.Time at_1.Times) fun x4 =>
 if (!x4) = true then
  some 5
 else
 optE (median_Near N h_2.Time now_3 p_0.Future) fun x5 =>
 if (!x5) = true then
  some 6
 else
 optE (rule_Version N at_1.Point.Height p_0.Gates) fun x6 =>
 if (decide (h_2.Version < x6)) = true then
  some 7
 else
 optE (header_IdP N h_2) fun x7 =>
 optE (rule_Tracked N at_1.Point.Height x7 p_0.Checks) fun x8 =>
 if (!x8) = true then
  some 8
 else
 some 0
theorem rule_Check.snd {p_0 : api_Params} {at_1 : rule_Spot} {h_2 : api_Header} {now_3 : Int} {r : Int} (h : rule_Check N p_0 at_1 h_2 now_3 = some r) : SndQ Tryd.prog 10 [.agg p_0.ls, .agg at_1.ls, .agg h_2.ls, .one (L.int .i64 now_3)] (rule_Check.rs r) := fun st =>
 sO rule_Check.B Tryd.func10 fun g0 w0 R hE => by
  unfold rule_Check at h
  obtain ⟨x1, c1, h1⟩ := optE_inv h; clear h
  refine iteB h1 (fun c2 h2 => ?_) (fun c2 h3 => ?_) <;> clear h1
  · obtain rfl := some_inv h2
    exact af fol hE [.r [], .r [(1, {rs := [.one (L.bool x1)], m := 1})], .c true, .r []] [] 0 [] (aI (header_Good.snd c1) c2)
  · refine iteB h3 (fun c3 h4 => ?_) (fun c3 h5 => ?_) <;> clear h3
    · obtain rfl := some_inv h4
      exact af fol hE [.r [], .r [(1, {rs := [.one (L.bool x1)], m := 1})], .c false, .r [], .c true, .r []] [] 0 [] (aI (header_Good.snd c1) (aI c2 c3))
    · obtain ⟨x2, c4, h6⟩ := optE_inv h5; clear h5
      refine iteB h6 (fun c5 h7 => ?_) (fun c5 h8 => ?_) <;> clear h6
      · obtain rfl := some_inv h7
        exact afd fol hE [.r [], .r [(1, {rs := [.one (L.bool x1)], m := 1})], .c false, .r [], .c false, .d {ds := [(7, {rs := [.one (L.int .i64 x2)], m := 1})], hv := 0, Hs := []}, .c true, .r []] [] 0 [] (aI (header_Good.snd c1) (aI c2 (aI c3 (aI (pace_Next.snd c4) c5))))
      · obtain ⟨x3, c6, h9⟩ := optE_inv h8; clear h8
        refine iteB h9 (fun c7 h10 => ?_) (fun c7 h11 => ?_) <;> clear h9
        · obtain rfl := some_inv h10
          exact afd fol hE [.r [], .r [(1, {rs := [.one (L.bool x1)], m := 1})], .c false, .r [], .c false, .d {ds := [(7, {rs := [.one (L.int .i64 x2)], m := 1})], hv := 0, Hs := []}, .c false, .r [(2, {rs := [.one (L.int .i64 x3)], m := 1})], .c true, .r []] [] 0 [] (aI (header_Good.snd c1) (aI c2 (aI c3 (aI (pace_Next.snd c4) (aI c5 (aI (rule_Itself.snd c6) c7))))))
        · obtain ⟨x4, c8, h12⟩ := optE_inv h11; clear h11
          refine iteB h12 (fun c9 h13 => ?_) (fun c9 h14 => ?_) <;> clear h12
          · obtain rfl := some_inv h13
            exact afd fol hE [.r [], .r [(1, {rs := [.one (L.bool x1)], m := 1})], .c false, .r [], .c false, .d {ds := [(7, {rs := [.one (L.int .i64 x2)], m := 1})], hv := 0, Hs := []}, .c false, .r [(2, {rs := [.one (L.int .i64 x3)], m := 1})], .c false, .r [(4, {rs := [.one (L.bool x4)], m := 1})], .c true, .r []] [] 0 [] (aI (header_Good.snd c1) (aI c2 (aI c3 (aI (pace_Next.snd c4) (aI c5 (aI (rule_Itself.snd c6) (aI c7 (aI (median_Late.snd c8) c9))))))))
          · obtain ⟨x5, c10, h15⟩ := optE_inv h14; clear h14
            refine iteB h15 (fun c11 h16 => ?_) (fun c11 h17 => ?_) <;> clear h15
            · obtain rfl := some_inv h16
              exact afd fol hE [.r [], .r [(1, {rs := [.one (L.bool x1)], m := 1})], .c false, .r [], .c false, .d {ds := [(7, {rs := [.one (L.int .i64 x2)], m := 1})], hv := 0, Hs := []}, .c false, .r [(2, {rs := [.one (L.int .i64 x3)], m := 1})], .c false, .r [(4, {rs := [.one (L.bool x4)], m := 1})], .c false, .r [(5, {rs := [.one (L.bool x5)], m := 1})], .c true, .r []] [] 0 [] (aI (header_Good.snd c1) (aI c2 (aI c3 (aI (pace_Next.snd c4) (aI c5 (aI (rule_Itself.snd c6) (aI c7 (aI (median_Late.snd c8) (aI c9 (aI (median_Near.snd c10) c11))))))))))
            · obtain ⟨x6, c12, h18⟩ := optE_inv h17; clear h17
              refine iteB h18 (fun c13 h19 => ?_) (fun c13 h20 => ?_) <;> clear h18
              · obtain rfl := some_inv h19
                exact afd fol hE [.r [], .r [(1, {rs := [.one (L.bool x1)], m := 1})], .c false, .r [], .c false, .d {ds := [(7, {rs := [.one (L.int .i64 x2)], m := 1})], hv := 0, Hs := []}, .c false, .r [(2, {rs := [.one (L.int .i64 x3)], m := 1})], .c false, .r [(4, {rs := [.one (L.bool x4)], m := 1})], .c false, .r [(5, {rs := [.one (L.bool x5)], m := 1})], .c false, .d {ds := [(7, {rs := [.one (L.int .i64 x6)], m := 1})], hv := 0, Hs := []}, .c true, .r []] [] 0 [] (aI (header_Good.snd c1) (aI c2 (aI c3 (aI (pace_Next.snd c4) (aI c5 (aI (rule_Itself.snd c6) (aI c7 (aI (median_Late.snd c8) (aI c9 (aI (median_Near.snd c10) (aI c11 (aI (rule_Version.snd c12) c13))))))))))))
              · obtain ⟨x7, c14, h21⟩ := optE_inv h20; clear h20
                obtain ⟨x8, c15, h22⟩ := optE_inv h21; clear h21
                refine iteB h22 (fun c16 h23 => ?_) (fun c16 h24 => ?_) <;> clear h22
                · obtain rfl := some_inv h23
                  exact afd fol hE [.r [], .r [(1, {rs := [.one (L.bool x1)], m := 1})], .c false, .r [], .c false, .d {ds := [(7, {rs := [.one (L.int .i64 x2)], m := 1})], hv := 0, Hs := []}, .c false, .r [(2, {rs := [.one (L.int .i64 x3)], m := 1})], .c false, .r [(4, {rs := [.one (L.bool x4)], m := 1})], .c false, .r [(5, {rs := [.one (L.bool x5)], m := 1})], .c false, .d {ds := [(7, {rs := [.one (L.int .i64 x6)], m := 1})], hv := 0, Hs := []}, .c false, .d {ds := [(4, {rs := [.agg [L.arr .u8 32 x7]], m := 1}), (7, {rs := [.one (L.bool x8)], m := 1})], hv := 0, Hs := []}, .c true, .r []] [] 0 [] (aI (header_Good.snd c1) (aI c2 (aI c3 (aI (pace_Next.snd c4) (aI c5 (aI (rule_Itself.snd c6) (aI c7 (aI (median_Late.snd c8) (aI c9 (aI (median_Near.snd c10) (aI c11 (aI (rule_Version.snd c12) (aI c13 (aI (header_IdP.snd c14) (aI (rule_Tracked.snd c15) c16)))))))))))))))
                · obtain rfl := some_inv h24
                  exact afd fol hE [.r [], .r [(1, {rs := [.one (L.bool x1)], m := 1})], .c false, .r [], .c false, .d {ds := [(7, {rs := [.one (L.int .i64 x2)], m := 1})], hv := 0, Hs := []}, .c false, .r [(2, {rs := [.one (L.int .i64 x3)], m := 1})], .c false, .r [(4, {rs := [.one (L.bool x4)], m := 1})], .c false, .r [(5, {rs := [.one (L.bool x5)], m := 1})], .c false, .d {ds := [(7, {rs := [.one (L.int .i64 x6)], m := 1})], hv := 0, Hs := []}, .c false, .d {ds := [(4, {rs := [.agg [L.arr .u8 32 x7]], m := 1}), (7, {rs := [.one (L.bool x8)], m := 1})], hv := 0, Hs := []}, .c false, .r []] [] 0 [] (aI (header_Good.snd c1) (aI c2 (aI c3 (aI (pace_Next.snd c4) (aI c5 (aI (rule_Itself.snd c6) (aI c7 (aI (median_Late.snd c8) (aI c9 (aI (median_Near.snd c10) (aI c11 (aI (rule_Version.snd c12) (aI c13 (aI (header_IdP.snd c14) (aI (rule_Tracked.snd c15) c16)))))))))))))))
/-! trailhead/trailheadlaw11.alive -/
noncomputable def Tlaw11_alive.B : Code := Tryd.f5.body.getD .skip
noncomputable def Tlaw11_alive.rs (r : Bool) : List CV := [.one (L.bool r)]
noncomputable def Tlaw11_alive (N : Nat) : Option Bool :=
 optE (rule_Good N (api_Params.mk 545259519 4 10 0 false [] [] (List.replicate 4 0) (List.replicate 4 0) (api_Header.mk 0 (List.replicate 32 0) (List.replicate 32 0) 0 0 0))) fun x1 =>
 if x1 = true then
  optE (rule_BeginP N (api_Params.mk 545259519 4 10 0 false [] [] (List.replicate 4 0) (List.replicate 4 0) (api_Header.mk 0 (List.replicate 32 0) (List.replicate 32 0) 0 0 0))) fun x2 =>
  optE (rule_Check N (api_Params.mk 545259519 4 10 0 false [] [] (List.replicate 4 0) (List.replicate 4 0) (api_Header.mk 0 (List.replicate 32 0) (List.replicate 32 0) 0 0 0)) x2 (api_Header.mk 0 (List.replicate 32 0) (List.replicate 32 0) 5 545259519 0) 9) fun x3 =>
  some (x3 == 2)
 else
 some false
theorem Tlaw11_alive.snd {r : Bool} (h : Tlaw11_alive N = some r) : SndQ Tryd.prog 5 [] (Tlaw11_alive.rs r) := fun st =>
 sO Tlaw11_alive.B Tryd.func5 fun g0 w0 R hE => by
  unfold Tlaw11_alive at h
  obtain ⟨x1, c1, h1⟩ := optE_inv h; clear h
  refine iteB h1 (fun c2 h2 => ?_) (fun c2 h3 => ?_) <;> clear h1
  · obtain ⟨x2, c3, h4⟩ := optE_inv h2; clear h2
    obtain ⟨x3, c4, h5⟩ := optE_inv h4; clear h4
    obtain rfl := some_inv h5
    exact afd fol hE [.r [], .r [], .r [], .d {ds := [(1, {rs := [.one (L.bool x1)], m := 1}), (5, {rs := [.agg x2.ls], m := 1}), (7, {rs := [.one (L.int .i64 x3)], m := 1})], hv := 0, Hs := []}] [] 0 [] (aI (rule_Good.snd c1) (aI c2 (aI c2 (aI c2 (aI (rule_BeginP.snd c3) (aI c2 (aI c2 (aI (rule_Check.snd c4) (aI c2 c2)))))))))
  · obtain rfl := some_inv h3
    exact afd fol hE [.r [], .r [], .r [], .d {ds := [(1, {rs := [.one (L.bool x1)], m := 1}), (3, {want := false}), (4, {want := false}), (5, {want := false}), (6, {want := false}), (7, {want := false}), (8, {want := false}), (9, {yes := false})], hv := 0, Hs := []}] [] 0 [] (aI (rule_Good.snd c1) (aI c2 (aI c2 (aI c2 (aI c2 (aI c2 (aI c2 c2)))))))
/-! trailhead/trailheadlaw11.great -/
noncomputable def Tlaw11_great.B : Code := Tryd.f6.body.getD .skip
noncomputable def Tlaw11_great.rs (r : Bool) : List CV := [.one (L.bool r)]
noncomputable def Tlaw11_great (N : Nat) (p_0 : api_Params) (chain_1 : LL) : Option Bool :=
 if (decide ((len p_0.Gates) > 20)) = true then
  some true
 else
 if (decide ((len p_0.Checks) > 20)) = true then
  some true
 else
 some (decide ((len chain_1) > 40))
theorem Tlaw11_great.snd {p_0 : api_Params} {chain_1 : LL} {r : Bool} (h : Tlaw11_great N p_0 chain_1 = some r) : SndQ Tryd.prog 6 [.agg p_0.ls, .one (L.sl 68 chain_1)] (Tlaw11_great.rs r) := fun st =>
 sO Tlaw11_great.B Tryd.func6 fun g0 w0 R hE => by
  unfold Tlaw11_great at h
  refine iteB h (fun c1 h1 => ?_) (fun c1 h2 => ?_) <;> clear h
  · obtain rfl := some_inv h1
    exact af fol hE [.r [], .r [(5, {want := false}), (6, {want := false}), (7, {want := false}), (8, {want := false}), (11, {want := false}), (12, {want := false}), (13, {want := false})]] [] 0 [] (aI c1 (aI c1 (aI c1 (aI c1 (aI c1 (aI (eB true) (aI (eB true) (aI (eB true) (eB true)))))))))
  · refine iteB h2 (fun c2 h3 => ?_) (fun c2 h4 => ?_) <;> clear h2
    · obtain rfl := some_inv h3
      exact af fol hE [.r [], .r [(9, {yes := false}), (11, {want := false}), (12, {want := false}), (13, {want := false})]] [] 0 [] (aI c1 (aI c1 (aI c1 (aI c1 (aI c1 (aI c2 (aI c2 (aI c2 c2))))))))
    · obtain rfl := some_inv h4
      exact af fol hE [.r [], .r [(9, {yes := false}), (14, {yes := false})]] [] 0 [] (aI c1 (aI c1 (aI c1 (aI c1 (aI c1 (aI c2 (aI c2 (aI c2 c2))))))))
/-! trailhead/trailheadlaw11.spot -/
noncomputable def Tlaw11_spot.B : Code := Tryd.f7.body.getD .skip
noncomputable def Tlaw11_spot.rs (r : rule_Spot) : List CV := [.agg r.ls]
noncomputable def Tlaw11_spot.p1 (N : Nat) (chain_1 : LL) (p_0 : api_Params) (c1_ : (Int × rule_Spot) → Option rule_Spot) : (Int × rule_Spot) → Option rule_Spot := fun (v2, at_5) =>
 if (decide (v2 < (len chain_1))) = true then
  chk (0 ≤ v2) <|
  getE (chain_1[Int.toNat v2]?) dec_api_Header fun x6 =>
  optE (rule_BehindP N p_0 at_5 x6) fun x7 =>
  c1_ (w64 (v2 + 1), x7)
 else
 some at_5
noncomputable def Tlaw11_spot (N : Nat) (p_0 : api_Params) (chain_1 : LL) : Option rule_Spot :=
 optE (rule_BeginP N p_0) fun x1 =>
 loopN (Tlaw11_spot.p1 N chain_1 p_0) N (0, x1)
noncomputable def Tlaw11_spot.p1.S (chain_1 : LL) (v2 : Int) (p_0 : api_Params) (at_5 : rule_Spot) (st : LL) : S := mkS 22 [(2, .one (.adr (.site 2) 0)), (4, .one (.adr (.site 4) 0)), (5, .one (.adr (.site 5) 0)), (10, .one (.l (L.sl 68 chain_1))), (11, .one (.l (L.int .i64 (len chain_1)))), (12, .one (.l (L.int .i64 v2)))] [(2, .cells p_0.ls), (4, .cells [L.int .i64 0, L.int .i64 0, L.int .i64 0, L.int .i64 0, L.int .i64 0, L.arr .u8 32 (List.replicate 32 0), L.own true 1 []]), (5, .cells at_5.ls)] st
theorem Tlaw11_spot.p1_ok (chain_1 : LL) (v2 : Int) (p_0 : api_Params) (at_5 : rule_Spot) (st : LL) {r : rule_Spot} {c1_ : (Int × rule_Spot) → Option rule_Spot} {J1 : Act → World → Prop} (hE : En Tryd.f7 g0 w0 (Tlaw11_spot.rs r) st R) (hc1 : ∀ (v2 : Int) (at_5 : rule_Spot), c1_ (v2, at_5) = some r → At g0 w0 (Tlaw11_spot.p1.S chain_1 v2 p_0 at_5 st) J1) (h : Tlaw11_spot.p1 N chain_1 p_0 c1_ (v2, at_5) = some r) : At g0 w0 (Tlaw11_spot.p1.S chain_1 v2 p_0 at_5 st) (XK Tryd.prog R (.c (csub Tlaw11_spot.B [1, 1, 0, 1, 0, 0]) :: .h J1 :: [.b 0, .c (csub Tlaw11_spot.B [1, 1, 1])])) := by
 unfold Tlaw11_spot.p1 at h
 refine iteB h (fun c6 h1 => ?_) (fun c6 h2 => ?_) <;> clear h
 · obtain ⟨c7, h3⟩ := chk_inv h1; clear h1
   obtain ⟨x6, c8, h4⟩ := dec_api_Header_get h3; clear h3
   obtain ⟨x7, c9, h5⟩ := optE_inv h4; clear h4
   exact an fol [.r [], .c true, .r [(1, {oe := x6.ls})], .r [(3, {rs := [.agg x7.ls], m := 1})], .r []] [2, 4, 5, 10, 11, 12] [2, 4, 5] (aI c6 (aI c7 (aI (oD c6) (aI c8 (rule_BehindP.snd c9))))) (hc1 (w64 (v2 + 1)) x7 h5)
 · obtain rfl := some_inv h2
   exact af fol hE [.r [], .c false, .r []] [] 0 [] c6
theorem Tlaw11_spot.snd {p_0 : api_Params} {chain_1 : LL} {r : rule_Spot} (h : Tlaw11_spot N p_0 chain_1 = some r) : SndQ Tryd.prog 7 [.agg p_0.ls, .one (L.sl 68 chain_1)] (Tlaw11_spot.rs r) := fun st =>
 sO Tlaw11_spot.B Tryd.func7 fun g0 w0 R hE => by
  unfold Tlaw11_spot at h
  obtain ⟨x1, c1, h6⟩ := optE_inv h; clear h
  exact aq fol [.r [], .r [(1, {rs := [.agg x1.ls], m := 1})], .r []] [2, 4, 5, 10, 11, 12] [2, 4, 5] (rule_BeginP.snd c1) (At.loop N (At.loopN (fun y : Int × rule_Spot => Tlaw11_spot.p1.S chain_1 y.1 p_0 y.2 st) (fun c J hc y h => Tlaw11_spot.p1_ok chain_1 y.1 p_0 y.2 st hE (fun v2 at_5 hh => hc (v2, at_5) hh) h) N (0, x1) h6))
/-! trailhead/trailheadref06.Good -/
noncomputable def Tref06_Good.B : Code := Tryd.f17.body.getD .skip
noncomputable def Tref06_Good.rs (r : Bool) : List CV := [.one (L.bool r)]
noncomputable def Tref06_Good (N : Nat) (h_0 : api_Header) : Option Bool :=
 if (decide (h_0.Version ≥ (-2147483648))) = true then
  if (decide (h_0.Version ≤ 2147483647)) = true then
   if (decide (h_0.Time ≥ 0)) = true then
    if (decide (h_0.Time < 4294967296)) = true then
     if (decide (h_0.Bits ≥ 0)) = true then
      if (decide (h_0.Bits < 4294967296)) = true then
       if (decide (h_0.Nonce ≥ 0)) = true then
        some (decide (h_0.Nonce < 4294967296))
       else
       some false
      else
      some false
     else
     some false
    else
    some false
   else
   some false
  else
  some false
 else
 some false
theorem Tref06_Good.snd {h_0 : api_Header} {r : Bool} (h : Tref06_Good N h_0 = some r) : SndQ Tryd.prog 17 [.agg h_0.ls] (Tref06_Good.rs r) := fun st =>
 sO Tref06_Good.B Tryd.func17 fun g0 w0 R hE => by
  unfold Tref06_Good at h
  refine iteB h (fun c1 h1 => ?_) (fun c1 h2 => ?_) <;> clear h
  · refine iteB h1 (fun c2 h3 => ?_) (fun c2 h4 => ?_) <;> clear h1
    · refine iteB h3 (fun c3 h5 => ?_) (fun c3 h6 => ?_) <;> clear h3
      · refine iteB h5 (fun c4 h7 => ?_) (fun c4 h8 => ?_) <;> clear h5
        · refine iteB h7 (fun c5 h9 => ?_) (fun c5 h10 => ?_) <;> clear h7
          · refine iteB h9 (fun c6 h11 => ?_) (fun c6 h12 => ?_) <;> clear h9
            · refine iteB h11 (fun c7 h13 => ?_) (fun c7 h14 => ?_) <;> clear h11
              · obtain rfl := some_inv h13
                exact af fol hE [.r [], .r [], .r []] [] 0 [] (aI c1 (aI c1 (aI c1 (aI c1 (aI c2 (aI c2 (aI c2 (aI c2 (aI c3 (aI c3 (aI c3 (aI c3 (aI c3 (aI c4 (aI c4 (aI c4 (aI c4 (aI c5 (aI c5 (aI c5 (aI c5 (aI c5 (aI c6 (aI c6 (aI c6 (aI c6 (aI c7 (aI c7 (aI c7 (aI c7 c7))))))))))))))))))))))))))))))
              · obtain rfl := some_inv h14
                exact af fol hE [.r [], .r [], .r [(36, {want := false}), (37, {want := false}), (38, {want := false}), (39, {want := false}), (40, {yes := false})]] [] 0 [] (aI c1 (aI c1 (aI c1 (aI c1 (aI c2 (aI c2 (aI c2 (aI c2 (aI c3 (aI c3 (aI c3 (aI c3 (aI c3 (aI c4 (aI c4 (aI c4 (aI c4 (aI c5 (aI c5 (aI c5 (aI c5 (aI c5 (aI c6 (aI c6 (aI c6 (aI c6 (aI c7 (aI c7 (aI c7 (aI c7 c7))))))))))))))))))))))))))))))
            · obtain rfl := some_inv h12
              exact af fol hE [.r [], .r [], .r [(31, {want := false}), (32, {want := false}), (33, {want := false}), (34, {yes := false}), (36, {want := false}), (37, {want := false}), (38, {want := false}), (39, {want := false}), (40, {yes := false})]] [] 0 [] (aI c1 (aI c1 (aI c1 (aI c1 (aI c2 (aI c2 (aI c2 (aI c2 (aI c3 (aI c3 (aI c3 (aI c3 (aI c3 (aI c4 (aI c4 (aI c4 (aI c4 (aI c5 (aI c5 (aI c5 (aI c5 (aI c5 (aI c6 (aI c6 (aI c6 (aI c6 (aI (eB false) (aI (eB false) (aI (eB false) (aI (eB false) (eB false)))))))))))))))))))))))))))))))
          · obtain rfl := some_inv h10
            exact af fol hE [.r [], .r [], .r [(25, {want := false}), (26, {want := false}), (27, {want := false}), (28, {want := false}), (29, {yes := false}), (31, {want := false}), (32, {want := false}), (33, {want := false}), (34, {yes := false}), (36, {want := false}), (37, {want := false}), (38, {want := false}), (39, {want := false}), (40, {yes := false})]] [] 0 [] (aI c1 (aI c1 (aI c1 (aI c1 (aI c2 (aI c2 (aI c2 (aI c2 (aI c3 (aI c3 (aI c3 (aI c3 (aI c3 (aI c4 (aI c4 (aI c4 (aI c4 (aI c5 (aI c5 (aI c5 (aI c5 (aI c5 (aI (eB false) (aI (eB false) (aI (eB false) (aI (eB false) (aI (eB false) (aI (eB false) (aI (eB false) (aI (eB false) (eB false)))))))))))))))))))))))))))))))
        · obtain rfl := some_inv h8
          exact af fol hE [.r [], .r [], .r [(20, {want := false}), (21, {want := false}), (22, {want := false}), (23, {yes := false}), (25, {want := false}), (26, {want := false}), (27, {want := false}), (28, {want := false}), (29, {yes := false}), (31, {want := false}), (32, {want := false}), (33, {want := false}), (34, {yes := false}), (36, {want := false}), (37, {want := false}), (38, {want := false}), (39, {want := false}), (40, {yes := false})]] [] 0 [] (aI c1 (aI c1 (aI c1 (aI c1 (aI c2 (aI c2 (aI c2 (aI c2 (aI c3 (aI c3 (aI c3 (aI c3 (aI c3 (aI c4 (aI c4 (aI c4 (aI c4 (aI (eB false) (aI (eB false) (aI (eB false) (aI (eB false) (aI (eB false) (aI (eB false) (aI (eB false) (aI (eB false) (aI (eB false) (aI (eB false) (aI (eB false) (aI (eB false) (aI (eB false) (eB false)))))))))))))))))))))))))))))))
      · obtain rfl := some_inv h6
        exact af fol hE [.r [], .r [], .r [(14, {want := false}), (15, {want := false}), (16, {want := false}), (17, {want := false}), (18, {yes := false}), (20, {want := false}), (21, {want := false}), (22, {want := false}), (23, {yes := false}), (25, {want := false}), (26, {want := false}), (27, {want := false}), (28, {want := false}), (29, {yes := false}), (31, {want := false}), (32, {want := false}), (33, {want := false}), (34, {yes := false}), (36, {want := false}), (37, {want := false}), (38, {want := false}), (39, {want := false}), (40, {yes := false})]] [] 0 [] (aI c1 (aI c1 (aI c1 (aI c1 (aI c2 (aI c2 (aI c2 (aI c2 (aI c3 (aI c3 (aI c3 (aI c3 (aI c3 (aI (eB false) (aI (eB false) (aI (eB false) (aI (eB false) (aI (eB false) (aI (eB false) (aI (eB false) (aI (eB false) (aI (eB false) (aI (eB false) (aI (eB false) (aI (eB false) (aI (eB false) (aI (eB false) (aI (eB false) (aI (eB false) (aI (eB false) (eB false)))))))))))))))))))))))))))))))
    · obtain rfl := some_inv h4
      exact af fol hE [.r [], .r [], .r [(9, {want := false}), (10, {want := false}), (11, {want := false}), (12, {yes := false}), (14, {want := false}), (15, {want := false}), (16, {want := false}), (17, {want := false}), (18, {yes := false}), (20, {want := false}), (21, {want := false}), (22, {want := false}), (23, {yes := false}), (25, {want := false}), (26, {want := false}), (27, {want := false}), (28, {want := false}), (29, {yes := false}), (31, {want := false}), (32, {want := false}), (33, {want := false}), (34, {yes := false}), (36, {want := false}), (37, {want := false}), (38, {want := false}), (39, {want := false}), (40, {yes := false})]] [] 0 [] (aI c1 (aI c1 (aI c1 (aI c1 (aI c2 (aI c2 (aI c2 (aI c2 (aI (eB false) (aI (eB false) (aI (eB false) (aI (eB false) (aI (eB false) (aI (eB false) (aI (eB false) (aI (eB false) (aI (eB false) (aI (eB false) (aI (eB false) (aI (eB false) (aI (eB false) (aI (eB false) (aI (eB false) (aI (eB false) (aI (eB false) (aI (eB false) (aI (eB false) (aI (eB false) (aI (eB false) (aI (eB false) (eB false)))))))))))))))))))))))))))))))
  · obtain rfl := some_inv h2
    exact af fol hE [.r [], .r [], .r [(4, {want := false}), (5, {want := false}), (6, {want := false}), (7, {yes := false}), (9, {want := false}), (10, {want := false}), (11, {want := false}), (12, {yes := false}), (14, {want := false}), (15, {want := false}), (16, {want := false}), (17, {want := false}), (18, {yes := false}), (20, {want := false}), (21, {want := false}), (22, {want := false}), (23, {yes := false}), (25, {want := false}), (26, {want := false}), (27, {want := false}), (28, {want := false}), (29, {yes := false}), (31, {want := false}), (32, {want := false}), (33, {want := false}), (34, {yes := false}), (36, {want := false}), (37, {want := false}), (38, {want := false}), (39, {want := false}), (40, {yes := false})]] [] 0 [] (aI c1 (aI c1 (aI c1 (aI c1 (aI (eB false) (aI (eB false) (aI (eB false) (aI (eB false) (aI (eB false) (aI (eB false) (aI (eB false) (aI (eB false) (aI (eB false) (aI (eB false) (aI (eB false) (aI (eB false) (aI (eB false) (aI (eB false) (aI (eB false) (aI (eB false) (aI (eB false) (aI (eB false) (aI (eB false) (aI (eB false) (aI (eB false) (aI (eB false) (aI (eB false) (aI (eB false) (aI (eB false) (aI (eB false) (eB false)))))))))))))))))))))))))))))))
/-! trailhead/trailheadref05.Number -/
noncomputable def Tref05_Number.B : Code := Tryd.f32.body.getD .skip
noncomputable def Tref05_Number.rs (r : ByteArray) : List CV := [.one (L.str r)]
noncomputable def Tref05_Number.p1 (N : Nat) (size_0 : Int) (c1_ : (Int × ByteArray × Int) → Option ByteArray) : (Int × ByteArray × Int) → Option ByteArray := fun (u_1, s_3, i_2) =>
 if (decide (i_2 < (if (8 : Int) < (if (1 : Int) > size_0 then 1 else size_0) then 8 else (if (1 : Int) > size_0 then 1 else size_0)))) = true then
  chk (isB [[L.int .u8 (v8 (Int.tmod u_1 256))]] = true) <|
  chk (ByteArray.size s_3 + ByteArray.size (istr (List.map leafI [[L.int .u8 (v8 (Int.tmod u_1 256))]])) ≤ 9223372036854775807) <|
  c1_ (v64 (Int.tdiv u_1 256), s_3 ++ (istr (List.map leafI [[L.int .u8 (v8 (Int.tmod u_1 256))]])), w64 (i_2 + 1))
 else
 some s_3
noncomputable def Tref05_Number (N : Nat) (size_0 n_1 : Int) : Option ByteArray :=
 loopN (Tref05_Number.p1 N size_0) N (v64 (n_1), (ByteArray.mk #[]), 0)
noncomputable def Tref05_Number.p1.S (size_0 u_1 : Int) (s_3 : ByteArray) (i_2 : Int) (st : LL) : S := mkS 27 [(0, .one (.l (L.int .i64 size_0))), (5, .one (.l (L.int .u64 u_1))), (6, .one (.l (L.str s_3))), (7, .one (.l (L.int .i64 i_2)))] [] st
theorem Tref05_Number.p1_ok (size_0 u_1 : Int) (s_3 : ByteArray) (i_2 : Int) (st : LL) {r : ByteArray} {c1_ : (Int × ByteArray × Int) → Option ByteArray} {J1 : Act → World → Prop} (hE : En Tryd.f32 g0 w0 (Tref05_Number.rs r) st R) (hc1 : ∀ (u_1 : Int) (s_3 : ByteArray) (i_2 : Int), c1_ (u_1, s_3, i_2) = some r → At g0 w0 (Tref05_Number.p1.S size_0 u_1 s_3 i_2 st) J1) (h : Tref05_Number.p1 N size_0 c1_ (u_1, s_3, i_2) = some r) : At g0 w0 (Tref05_Number.p1.S size_0 u_1 s_3 i_2 st) (XK Tryd.prog R (.c (csub Tref05_Number.B [1, 1, 1, 0, 1, 0, 0]) :: .h J1 :: [.b 0, .c (csub Tref05_Number.B [1, 1, 1, 1])])) := by
 unfold Tref05_Number.p1 at h
 refine iteB h (fun c4 h1 => ?_) (fun c4 h2 => ?_) <;> clear h
 · obtain ⟨c5, c6, h3⟩ := ck2 h1; clear h1
   exact an fol [.r [], .c true, .r [], .r [], .r []] [0, 5, 6, 7] [] (aI c4 (aI (neI 256) (aI z0 (aI (eN (1)) (aI c5 (aI c6 (neI 256))))))) (hc1 (v64 (Int.tdiv u_1 256)) (s_3 ++ (istr (List.map leafI [[L.int .u8 (v8 (Int.tmod u_1 256))]]))) (w64 (i_2 + 1)) h3)
 · obtain rfl := some_inv h2
   exact af fol hE [.r [], .c false, .r []] [] 0 [] c4
theorem Tref05_Number.snd {size_0 n_1 : Int} {r : ByteArray} (h : Tref05_Number N size_0 n_1 = some r) : SndQ Tryd.prog 32 [.one (L.int .i64 size_0), .one (L.int .i64 n_1)] (Tref05_Number.rs r) := fun st =>
 sO Tref05_Number.B Tryd.func32 fun g0 w0 R hE => by
  unfold Tref05_Number at h
  exact aq fol [.r [], .r [], .r [], .r []] [0, 5, 6, 7] [] trivial (At.loop N (At.loopN (fun y : Int × ByteArray × Int => Tref05_Number.p1.S size_0 y.1 y.2.1 y.2.2 st) (fun c J hc y h => Tref05_Number.p1_ok size_0 y.1 y.2.1 y.2.2 st hE (fun u_1 s_3 i_2 hh => hc (u_1, s_3, i_2) hh) h) N (v64 (n_1), (ByteArray.mk #[]), 0) h))
/-! trailhead/trailheadref05.Name -/
noncomputable def Tref05_Name.B : Code := Tryd.f33.body.getD .skip
noncomputable def Tref05_Name.rs (r : ByteArray) : List CV := [.one (L.str r)]
noncomputable def Tref05_Name.p1 (N : Nat) (h_0_0 : List Int) (c1_ : (ByteArray × Int) → Option ByteArray) : (ByteArray × Int) → Option ByteArray := fun (s_2, i_1) =>
 if (decide (i_1 < 32)) = true then
  chk (0 ≤ i_1) <|
  chk (isB [[L.int .u8 (List.getD h_0_0 (Int.toNat i_1) 0)]] = true) <|
  chk (ByteArray.size s_2 + ByteArray.size (istr (List.map leafI [[L.int .u8 (List.getD h_0_0 (Int.toNat i_1) 0)]])) ≤ 9223372036854775807) <|
  c1_ (s_2 ++ (istr (List.map leafI [[L.int .u8 (List.getD h_0_0 (Int.toNat i_1) 0)]])), w64 (i_1 + 1))
 else
 some s_2
noncomputable def Tref05_Name (N : Nat) (h_0_0 : List Int) : Option ByteArray :=
 loopN (Tref05_Name.p1 N h_0_0) N ((ByteArray.mk #[]), 0)
noncomputable def Tref05_Name.p1.S (s_2 : ByteArray) (i_1 : Int) (h_0_0 : List Int) (st : LL) : S := mkS 17 [(1, .one (.adr (.site 1) 0)), (3, .one (.l (L.str s_2))), (4, .one (.l (L.int .i64 i_1)))] [(1, .cells [L.arr .u8 32 h_0_0])] st
theorem Tref05_Name.p1_ok (s_2 : ByteArray) (i_1 : Int) (h_0_0 : List Int) (st : LL) {r : ByteArray} {c1_ : (ByteArray × Int) → Option ByteArray} {J1 : Act → World → Prop} (hE : En Tryd.f33 g0 w0 (Tref05_Name.rs r) st R) (hc1 : ∀ (s_2 : ByteArray) (i_1 : Int), c1_ (s_2, i_1) = some r → At g0 w0 (Tref05_Name.p1.S s_2 i_1 h_0_0 st) J1) (h : Tref05_Name.p1 N h_0_0 c1_ (s_2, i_1) = some r) : At g0 w0 (Tref05_Name.p1.S s_2 i_1 h_0_0 st) (XK Tryd.prog R (.c (csub Tref05_Name.B [1, 1, 0, 1, 0, 0]) :: .h J1 :: [.b 0, .c (csub Tref05_Name.B [1, 1, 1])])) := by
 unfold Tref05_Name.p1 at h
 refine iteB h (fun c5 h1 => ?_) (fun c5 h2 => ?_) <;> clear h
 · obtain ⟨c6, c7, c8, h3⟩ := ck3 h1; clear h1
   exact an fol [.r [], .c true, .r [], .r []] [1, 3, 4] [1] (aI c5 (aI c6 (aI (oD c5) (aI z0 (aI (eN (1)) (aI c7 c8)))))) (hc1 (s_2 ++ (istr (List.map leafI [[L.int .u8 (List.getD h_0_0 (Int.toNat i_1) 0)]]))) (w64 (i_1 + 1)) h3)
 · obtain rfl := some_inv h2
   exact af fol hE [.r [], .c false, .r []] [] 0 [] c5
theorem Tref05_Name.snd {h_0_0 : List Int} {r : ByteArray} (h : Tref05_Name N h_0_0 = some r) : SndQ Tryd.prog 33 [.agg [L.arr .u8 32 h_0_0]] (Tref05_Name.rs r) := fun st =>
 sO Tref05_Name.B Tryd.func33 fun g0 w0 R hE => by
  unfold Tref05_Name at h
  exact aq fol [.r [], .r [], .r []] [1, 3, 4] [1] trivial (At.loop N (At.loopN (fun y : ByteArray × Int => Tref05_Name.p1.S y.1 y.2 h_0_0 st) (fun c J hc y h => Tref05_Name.p1_ok y.1 y.2 h_0_0 st hE (fun s_2 i_1 hh => hc (s_2, i_1) hh) h) N ((ByteArray.mk #[]), 0) h))
/-! trailhead/trailheadref06.Bytes -/
noncomputable def Tref06_Bytes.B : Code := Tryd.f19.body.getD .skip
noncomputable def Tref06_Bytes.rs (r : ByteArray) : List CV := [.one (L.str r)]
noncomputable def Tref06_Bytes (N : Nat) (h_0 : api_Header) : Option ByteArray :=
 optE (Tref05_Number N 4 h_0.Version) fun x1 =>
 optE (Tref05_Name N h_0.Prev) fun x2 =>
 chk (ByteArray.size x1 + ByteArray.size x2 ≤ 9223372036854775807) <|
 optE (Tref05_Name N h_0.Root) fun x3 =>
 chk (ByteArray.size (x1 ++ x2) + ByteArray.size x3 ≤ 9223372036854775807) <|
 optE (Tref05_Number N 4 h_0.Time) fun x4 =>
 chk (ByteArray.size ((x1 ++ x2) ++ x3) + ByteArray.size x4 ≤ 9223372036854775807) <|
 optE (Tref05_Number N 4 h_0.Bits) fun x5 =>
 chk (ByteArray.size (((x1 ++ x2) ++ x3) ++ x4) + ByteArray.size x5 ≤ 9223372036854775807) <|
 optE (Tref05_Number N 4 h_0.Nonce) fun x6 =>
 chk (ByteArray.size ((((x1 ++ x2) ++ x3) ++ x4) ++ x5) + ByteArray.size x6 ≤ 9223372036854775807) <|
 some (((((x1 ++ x2) ++ x3) ++ x4) ++ x5) ++ x6)
theorem Tref06_Bytes.snd {h_0 : api_Header} {r : ByteArray} (h : Tref06_Bytes N h_0 = some r) : SndQ Tryd.prog 19 [.agg h_0.ls] (Tref06_Bytes.rs r) := fun st =>
 sO Tref06_Bytes.B Tryd.func19 fun g0 w0 R hE => by
  unfold Tref06_Bytes at h
  obtain ⟨x1, c1, h1⟩ := optE_inv h; clear h
  obtain ⟨x2, c2, h2⟩ := optE_inv h1; clear h1
  obtain ⟨c3, h3⟩ := chk_inv h2; clear h2
  obtain ⟨x3, c4, h4⟩ := optE_inv h3; clear h3
  obtain ⟨c5, h5⟩ := chk_inv h4; clear h4
  obtain ⟨x4, c6, h6⟩ := optE_inv h5; clear h5
  obtain ⟨c7, h7⟩ := chk_inv h6; clear h6
  obtain ⟨x5, c8, h8⟩ := optE_inv h7; clear h7
  obtain ⟨c9, h9⟩ := chk_inv h8; clear h8
  obtain ⟨x6, c10, h10⟩ := optE_inv h9; clear h9
  obtain ⟨c11, h11⟩ := chk_inv h10; clear h10
  obtain rfl := some_inv h11
  exact afd fol hE [.r [], .d {ds := [(2, {rs := [.one (L.str x1)], m := 1}), (5, {rs := [.one (L.str x2)], m := 1}), (9, {rs := [.one (L.str x3)], m := 1})], hv := 0, Hs := []}, .d {ds := [(3, {rs := [.one (L.str x4)], m := 1}), (7, {rs := [.one (L.str x5)], m := 1}), (11, {rs := [.one (L.str x6)], m := 1})], hv := 0, Hs := []}] [] 0 [] (aI (Tref05_Number.snd c1) (aI (Tref05_Name.snd c2) (aI c3 (aI (Tref05_Name.snd c4) (aI c5 (aI (Tref05_Number.snd c6) (aI c7 (aI (Tref05_Number.snd c8) (aI c9 (aI (Tref05_Number.snd c10) c11))))))))))
/-! trailhead/trailheadref01.padded -/
noncomputable def Tref01_padded.B : Code := Tryd.f42.body.getD .skip
noncomputable def Tref01_padded.rs (r : ByteArray) : List CV := [.one (L.str r)]
noncomputable def Tref01_padded.p2 (N : Nat) (s_4 : ByteArray) (c2_ : (Int × ByteArray × Int) → Option ByteArray) : (Int × ByteArray × Int) → Option ByteArray := fun (n_5, tail_7, i_6) =>
 if (decide (i_6 < 8)) = true then
  chk (isB [[L.int .u8 (v8 (Int.tmod n_5 256))]] = true) <|
  chk (ByteArray.size (istr (List.map leafI [[L.int .u8 (v8 (Int.tmod n_5 256))]])) + ByteArray.size tail_7 ≤ 9223372036854775807) <|
  c2_ (w64 (Int.tdiv n_5 256), (istr (List.map leafI [[L.int .u8 (v8 (Int.tmod n_5 256))]])) ++ tail_7, w64 (i_6 + 1))
 else
 chk (ByteArray.size s_4 + ByteArray.size tail_7 ≤ 9223372036854775807) <|
 some (s_4 ++ tail_7)
noncomputable def Tref01_padded.p1 (N : Nat) (s_0 : ByteArray) (c1_ : ByteArray → Option ByteArray) : ByteArray → Option ByteArray := fun s_4 =>
 if ((Int.tmod ((ByteArray.size s_4 : Nat) : Int) 64) != 56) = true then
  chk (ByteArray.size s_4 + ByteArray.size (ByteArray.mk #[0]) ≤ 9223372036854775807) <|
  c1_ (s_4 ++ (ByteArray.mk #[0]))
 else
 loopN (Tref01_padded.p2 N s_4) N (w64 (8 * ((ByteArray.size s_0 : Nat) : Int)), (ByteArray.mk #[]), 0)
noncomputable def Tref01_padded (N : Nat) (s_0 : ByteArray) : Option ByteArray :=
 chk (ByteArray.size s_0 + ByteArray.size (ByteArray.mk #[128]) ≤ 9223372036854775807) <|
 loopN (Tref01_padded.p1 N s_0) N (s_0 ++ (ByteArray.mk #[128]))
noncomputable def Tref01_padded.p2.S (s_4 : ByteArray) (n_5 : Int) (tail_7 : ByteArray) (i_6 : Int) (st : LL) : S := mkS 34 [(0, .one (.l (L.str s_4))), (3, .one (.l (L.int .i64 n_5))), (4, .one (.l (L.str tail_7))), (5, .one (.l (L.int .i64 i_6)))] [] st
noncomputable def Tref01_padded.p1.S (s_4 s_0 : ByteArray) (st : LL) : S := mkS 34 [(0, .one (.l (L.str s_4))), (3, .one (.l (L.int .i64 ((ByteArray.size s_0 : Nat) : Int))))] [] st
theorem Tref01_padded.p2_ok (s_4 : ByteArray) (n_5 : Int) (tail_7 : ByteArray) (i_6 : Int) (st : LL) {r : ByteArray} {c2_ : (Int × ByteArray × Int) → Option ByteArray} {J2 : Act → World → Prop} (hE : En Tryd.f42 g0 w0 (Tref01_padded.rs r) st R) (hc2 : ∀ (n_5 : Int) (tail_7 : ByteArray) (i_6 : Int), c2_ (n_5, tail_7, i_6) = some r → At g0 w0 (Tref01_padded.p2.S s_4 n_5 tail_7 i_6 st) J2) (h : Tref01_padded.p2 N s_4 c2_ (n_5, tail_7, i_6) = some r) : At g0 w0 (Tref01_padded.p2.S s_4 n_5 tail_7 i_6 st) (XK Tryd.prog R (.c (csub Tref01_padded.B [1, 1, 1, 1, 1, 1, 0, 1, 0, 0]) :: .h J2 :: [.b 2, .c (csub Tref01_padded.B [1, 1, 1, 1, 1, 1, 1])])) := by
 unfold Tref01_padded.p2 at h
 refine iteB h (fun c18 h1 => ?_) (fun c18 h2 => ?_) <;> clear h
 · obtain ⟨c19, c20, h3⟩ := ck2 h1; clear h1
   exact an fol [.r [], .c true, .r [], .r [], .r []] [0, 3, 4, 5] [] (aI c18 (aI (neI 256) (aI z0 (aI (eN (1)) (aI c19 (aI c20 (neI 256))))))) (hc2 (w64 (Int.tdiv n_5 256)) ((istr (List.map leafI [[L.int .u8 (v8 (Int.tmod n_5 256))]])) ++ tail_7) (w64 (i_6 + 1)) h3)
 · obtain ⟨c21, h4⟩ := chk_inv h2; clear h2
   obtain rfl := some_inv h4
   exact af fol hE [.r [], .c false, .r []] [] 0 [] (aI c18 c21)
theorem Tref01_padded.p1_ok (s_4 s_0 : ByteArray) (st : LL) {r : ByteArray} {c1_ : ByteArray → Option ByteArray} {J1 : Act → World → Prop} (hE : En Tryd.f42 g0 w0 (Tref01_padded.rs r) st R) (hc1 : ∀ (s_4 : ByteArray), c1_ s_4 = some r → At g0 w0 (Tref01_padded.p1.S s_4 s_0 st) J1) (h : Tref01_padded.p1 N s_0 c1_ s_4 = some r) : At g0 w0 (Tref01_padded.p1.S s_4 s_0 st) (XK Tryd.prog R (.c (csub Tref01_padded.B [1, 1, 1, 0, 0, 0]) :: .h J1 :: [.b 0, .c (csub Tref01_padded.B [1, 1, 1, 1])])) := by
 unfold Tref01_padded.p1 at h
 refine iteB h (fun c12 h5 => ?_) (fun c12 h6 => ?_) <;> clear h
 · obtain ⟨c13, h7⟩ := chk_inv h5; clear h5
   exact an fol [.r [], .c true, .r []] [0, 3] [] (aI (neI 64) (aI c12 c13)) (hc1 (s_4 ++ (ByteArray.mk #[0])) h7)
 · exact aq fol [.r [], .c false, .r [], .r [], .r []] [0, 3, 4, 5] [] (aI (neI 64) c12) (At.loop N (At.loopN (fun y : Int × ByteArray × Int => Tref01_padded.p2.S s_4 y.1 y.2.1 y.2.2 st) (fun c J hc y h => Tref01_padded.p2_ok s_4 y.1 y.2.1 y.2.2 st hE (fun n_5 tail_7 i_6 hh => hc (n_5, tail_7, i_6) hh) h) N (w64 (8 * ((ByteArray.size s_0 : Nat) : Int)), (ByteArray.mk #[]), 0) h6))
theorem Tref01_padded.snd {s_0 : ByteArray} {r : ByteArray} (h : Tref01_padded N s_0 = some r) : SndQ Tryd.prog 42 [.one (L.str s_0)] (Tref01_padded.rs r) := fun st =>
 sO Tref01_padded.B Tryd.func42 fun g0 w0 R hE => by
  unfold Tref01_padded at h
  obtain ⟨c1, h8⟩ := chk_inv h; clear h
  exact aq fol [.r [], .r [], .r []] [0, 3] [] c1 (At.loop N (At.loopN (fun y : ByteArray => Tref01_padded.p1.S y s_0 st) (fun c J hc y h => Tref01_padded.p1_ok y s_0 st hE (fun s_4 hh => hc s_4 hh) h) N (s_0 ++ (ByteArray.mk #[128])) h8))
/-! trailhead/trailheadref01.right -/
noncomputable def Tref01_right.B : Code := Tryd.f43.body.getD .skip
noncomputable def Tref01_right.rs (r : Int) : List CV := [.one (L.int .u32 r)]
noncomputable def Tref01_right (N : Nat) (x_0 n_1 : Int) : Option Int :=
 chk (0 ≤ n_1) <|
 chk (0 ≤ (v64 (32 - n_1))) <|
 some (v32 ((shrOf .u32 x_0 n_1) + (shlOf .u32 x_0 (v64 (32 - n_1)))))
theorem Tref01_right.snd {x_0 n_1 : Int} {r : Int} (h : Tref01_right N x_0 n_1 = some r) : SndQ Tryd.prog 43 [.one (L.int .u32 x_0), .one (L.int .u64 n_1)] (Tref01_right.rs r) := fun st =>
 sO Tref01_right.B Tryd.func43 fun g0 w0 R hE => by
  unfold Tref01_right at h
  obtain ⟨c1, c2, h1⟩ := ck2 h; clear h
  obtain rfl := some_inv h1
  exact af fol hE [.r [], .r []] [] 0 [] (aI c1 c2)
/-! trailhead/trailheadref01.k -/
noncomputable def Tref01_k.B : Code := Tryd.f44.body.getD .skip
noncomputable def Tref01_k.rs (r : Int) : List CV := [.one (L.int .u32 r)]
noncomputable def Tref01_k (N : Nat) (i_0 : Int) : Option Int :=
 chk (0 ≤ i_0) <|
 chk (i_0 < 64) <|
 some (List.getD [1116352408, 1899447441, 3049323471, 3921009573, 961987163, 1508970993, 2453635748, 2870763221, 3624381080, 310598401, 607225278, 1426881987, 1925078388, 2162078206, 2614888103, 3248222580, 3835390401, 4022224774, 264347078, 604807628, 770255983, 1249150122, 1555081692, 1996064986, 2554220882, 2821834349, 2952996808, 3210313671, 3336571891, 3584528711, 113926993, 338241895, 666307205, 773529912, 1294757372, 1396182291, 1695183700, 1986661051, 2177026350, 2456956037, 2730485921, 2820302411, 3259730800, 3345764771, 3516065817, 3600352804, 4094571909, 275423344, 430227734, 506948616, 659060556, 883997877, 958139571, 1322822218, 1537002063, 1747873779, 1955562222, 2024104815, 2227730452, 2361852424, 2428436474, 2756734187, 3204031479, 3329325298] (Int.toNat i_0) 0)
theorem Tref01_k.snd {i_0 : Int} {r : Int} (h : Tref01_k N i_0 = some r) : SndQ Tryd.prog 44 [.one (L.int .i64 i_0)] (Tref01_k.rs r) := fun st =>
 sO Tref01_k.B Tryd.func44 fun g0 w0 R hE => by
  unfold Tref01_k at h
  obtain ⟨c1, c2, h1⟩ := ck2 h; clear h
  obtain rfl := some_inv h1
  exact af fol hE [.r [], .r [(0, {m := 3})]] [] 0 [] (aI c1 c2)
/-! trailhead/trailheadref01.Of -/
noncomputable def Tref01_Of.B : Code := Tryd.f31.body.getD .skip
noncomputable def Tref01_Of.rs (r : (List Int)) : List CV := [.agg [L.arr .u8 32 r]]
noncomputable def Tref01_Of.p3 (N : Nat) (c2_ : (Int × (List Int)) → Option (List Int)) (c1_ : (Int × (List Int)) → Option (List Int)) (x1 : ByteArray) (at_2 i_112 : Int) (h_111 : List Int) (c3_ : (Int × (List Int)) → Option (List Int)) : (Int × (List Int)) → Option (List Int) := fun (j_166, w_167) =>
 if (decide (j_166 < 4)) = true then
  chk (0 ≤ i_112) <|
  chk (i_112 < 64) <|
  chk (0 ≤ (w64 ((w64 (at_2 + (w64 (4 * i_112)))) + j_166))) <|
  chk ((w64 ((w64 (at_2 + (w64 (4 * i_112)))) + j_166)) < ((ByteArray.size x1 : Nat) : Int)) <|
  c3_ (w64 (j_166 + 1), List.set w_167 (Int.toNat i_112) (v32 ((v32 ((List.getD w_167 (Int.toNat i_112) 0) * 256)) + (v32 (((UInt8.toNat (List.getD (Array.toList (ByteArray.data x1)) (Int.toNat (w64 ((w64 (at_2 + (w64 (4 * i_112)))) + j_166))) 0) : Nat) : Int))))))
 else
 c2_ (w64 (i_112 + 1), w_167)
noncomputable def Tref01_Of.p6 (N : Nat) (c1_ : (Int × (List Int)) → Option (List Int)) (x1 : ByteArray) (at_2 : Int) (s_208 : List Int) (c6_ : (Int × (List Int)) → Option (List Int)) : (Int × (List Int)) → Option (List Int) := fun (i_216, h_217) =>
 if (decide (i_216 < 8)) = true then
  chk (0 ≤ i_216) <|
  c6_ (w64 (i_216 + 1), List.set h_217 (Int.toNat i_216) (v32 ((List.getD h_217 (Int.toNat i_216) 0) + (List.getD s_208 (Int.toNat i_216) 0))))
 else
 c1_ (w64 (at_2 + 64), h_217)
noncomputable def Tref01_Of.p5 (N : Nat) (c1_ : (Int × (List Int)) → Option (List Int)) (x1 : ByteArray) (at_2 : Int) (h_111 w_193 : List Int) (c5_ : (Int × (List Int)) → Option (List Int)) : (Int × (List Int)) → Option (List Int) := fun (i_198, s_208) =>
 if (decide (i_198 < 64)) = true then
  optE (Tref01_right N (List.getD s_208 4 0) 6) fun x209 =>
  optE (Tref01_right N (List.getD s_208 4 0) 11) fun x210 =>
  optE (Tref01_right N (List.getD s_208 4 0) 25) fun x211 =>
  optE (Tref01_k N i_198) fun x212 =>
  chk (0 ≤ i_198) <|
  optE (Tref01_right N (List.getD s_208 0 0) 2) fun x213 =>
  optE (Tref01_right N (List.getD s_208 0 0) 13) fun x214 =>
  optE (Tref01_right N (List.getD s_208 0 0) 22) fun x215 =>
  c5_ (w64 (i_198 + 1), [v32 ((v32 ((v32 ((v32 ((v32 ((List.getD s_208 7 0) + (bitsOf .xor .u32 (bitsOf .xor .u32 x209 x210) x211))) + (bitsOf .or .u32 (bitsOf .and .u32 (List.getD s_208 4 0) (List.getD s_208 5 0)) (bitsOf .and .u32 (v32 (4294967295 - (List.getD s_208 4 0))) (List.getD s_208 6 0))))) + x212)) + (List.getD w_193 (Int.toNat i_198) 0))) + (v32 ((bitsOf .xor .u32 (bitsOf .xor .u32 x213 x214) x215) + (bitsOf .or .u32 (bitsOf .or .u32 (bitsOf .and .u32 (List.getD s_208 0 0) (List.getD s_208 1 0)) (bitsOf .and .u32 (List.getD s_208 0 0) (List.getD s_208 2 0))) (bitsOf .and .u32 (List.getD s_208 1 0) (List.getD s_208 2 0)))))), List.getD s_208 0 0, List.getD s_208 1 0, List.getD s_208 2 0, v32 ((List.getD s_208 3 0) + (v32 ((v32 ((v32 ((v32 ((List.getD s_208 7 0) + (bitsOf .xor .u32 (bitsOf .xor .u32 x209 x210) x211))) + (bitsOf .or .u32 (bitsOf .and .u32 (List.getD s_208 4 0) (List.getD s_208 5 0)) (bitsOf .and .u32 (v32 (4294967295 - (List.getD s_208 4 0))) (List.getD s_208 6 0))))) + x212)) + (List.getD w_193 (Int.toNat i_198) 0)))), List.getD s_208 4 0, List.getD s_208 5 0, List.getD s_208 6 0])
 else
 loopN (Tref01_Of.p6 N c1_ x1 at_2 s_208) N (0, h_111)
noncomputable def Tref01_Of.p4 (N : Nat) (c1_ : (Int × (List Int)) → Option (List Int)) (x1 : ByteArray) (at_2 : Int) (h_111 : List Int) (c4_ : (Int × (List Int)) → Option (List Int)) : (Int × (List Int)) → Option (List Int) := fun (i_168, w_193) =>
 if (decide (i_168 < 64)) = true then
  chk (0 ≤ (w64 (i_168 - 15))) <|
  chk ((w64 (i_168 - 15)) < 64) <|
  optE (Tref01_right N (List.getD w_193 (Int.toNat (w64 (i_168 - 15))) 0) 7) fun x194 =>
  optE (Tref01_right N (List.getD w_193 (Int.toNat (w64 (i_168 - 15))) 0) 18) fun x195 =>
  chk (0 ≤ (w64 (i_168 - 2))) <|
  chk ((w64 (i_168 - 2)) < 64) <|
  optE (Tref01_right N (List.getD w_193 (Int.toNat (w64 (i_168 - 2))) 0) 17) fun x196 =>
  optE (Tref01_right N (List.getD w_193 (Int.toNat (w64 (i_168 - 2))) 0) 19) fun x197 =>
  chk (0 ≤ (w64 (i_168 - 16))) <|
  chk ((w64 (i_168 - 16)) < 64) <|
  chk (0 ≤ (w64 (i_168 - 7))) <|
  chk ((w64 (i_168 - 7)) < 64) <|
  chk (0 ≤ i_168) <|
  c4_ (w64 (i_168 + 1), List.set w_193 (Int.toNat i_168) (v32 ((v32 ((v32 ((List.getD w_193 (Int.toNat (w64 (i_168 - 16))) 0) + (bitsOf .xor .u32 (bitsOf .xor .u32 x194 x195) (v32 (Int.tdiv (List.getD w_193 (Int.toNat (w64 (i_168 - 15))) 0) 8))))) + (List.getD w_193 (Int.toNat (w64 (i_168 - 7))) 0))) + (bitsOf .xor .u32 (bitsOf .xor .u32 x196 x197) (v32 (Int.tdiv (List.getD w_193 (Int.toNat (w64 (i_168 - 2))) 0) 1024))))))
 else
 loopN (Tref01_Of.p5 N c1_ x1 at_2 h_111 w_193) N (0, h_111)
noncomputable def Tref01_Of.p2 (N : Nat) (c1_ : (Int × (List Int)) → Option (List Int)) (x1 : ByteArray) (at_2 : Int) (h_111 : List Int) (c2_ : (Int × (List Int)) → Option (List Int)) : (Int × (List Int)) → Option (List Int) := fun (i_112, w_165) =>
 if (decide (i_112 < 16)) = true then
  loopN (Tref01_Of.p3 N c2_ c1_ x1 at_2 i_112 h_111) N (0, w_165)
 else
 loopN (Tref01_Of.p4 N c1_ x1 at_2 h_111) N (16, w_165)
noncomputable def Tref01_Of.p7 (N : Nat) (h_111 : List Int) (c7_ : (Int × (List Int)) → Option (List Int)) : (Int × (List Int)) → Option (List Int) := fun (i_218, out_219) =>
 if (decide (i_218 < 32)) = true then
  chk (0 ≤ (w64 (Int.tdiv i_218 4))) <|
  chk ((w64 (Int.tdiv i_218 4)) < 8) <|
  chk (0 ≤ (v64 (w64 (24 - (w64 (8 * (Int.tmod i_218 4))))))) <|
  chk (0 ≤ i_218) <|
  c7_ (w64 (i_218 + 1), List.set out_219 (Int.toNat i_218) (v8 (Int.tmod (shrOf .u32 (List.getD h_111 (Int.toNat (w64 (Int.tdiv i_218 4))) 0) (v64 (w64 (24 - (w64 (8 * (Int.tmod i_218 4))))))) 256)))
 else
 some out_219
noncomputable def Tref01_Of.p1 (N : Nat) (x1 : ByteArray) (c1_ : (Int × (List Int)) → Option (List Int)) : (Int × (List Int)) → Option (List Int) := fun (at_2, h_111) =>
 if (decide (at_2 < ((ByteArray.size x1 : Nat) : Int))) = true then
  loopN (Tref01_Of.p2 N c1_ x1 at_2 h_111) N (0, List.replicate 64 0)
 else
 loopN (Tref01_Of.p7 N h_111) N (0, List.replicate 32 0)
noncomputable def Tref01_Of (N : Nat) (s_0 : ByteArray) : Option (List Int) :=
 optE (Tref01_padded N s_0) fun x1 =>
 loopN (Tref01_Of.p1 N x1) N (0, [1779033703, 3144134277, 1013904242, 2773480762, 1359893119, 2600822924, 528734635, 1541459225])
noncomputable def Tref01_Of.p3.S (x1 : ByteArray) (at_2 i_112 j_166 : Int) (h_111 w_167 : List Int) (st : LL) : S := mkS 225 [(2, .one (.adr (.site 2) 0)), (3, .one (.adr (.site 3) 0)), (4, .one (.l (L.str x1))), (5, .one (.l (L.int .i64 at_2))), (6, .one (.adr (.site 6) 0)), (7, .one (.l (L.int .i64 i_112))), (8, .one (.l (L.int .i64 j_166)))] [(2, .cells [L.arr .u8 32 (List.replicate 32 0)]), (3, .cells [L.arr .u32 8 h_111]), (6, .cells [L.arr .u32 64 w_167])] st
noncomputable def Tref01_Of.p6.S (x1 : ByteArray) (at_2 i_216 : Int) (h_217 s_208 : List Int) (st : LL) : S := mkS 225 [(2, .one (.adr (.site 2) 0)), (3, .one (.adr (.site 3) 0)), (4, .one (.l (L.str x1))), (5, .one (.l (L.int .i64 at_2))), (12, .one (.adr (.site 12) 0)), (16, .one (.l (L.int .i64 i_216)))] [(2, .cells [L.arr .u8 32 (List.replicate 32 0)]), (3, .cells [L.arr .u32 8 h_217]), (12, .cells [L.arr .u32 8 s_208])] st
noncomputable def Tref01_Of.p5.S (x1 : ByteArray) (at_2 i_198 : Int) (h_111 w_193 s_208 : List Int) (st : LL) : S := mkS 225 [(2, .one (.adr (.site 2) 0)), (3, .one (.adr (.site 3) 0)), (4, .one (.l (L.str x1))), (5, .one (.l (L.int .i64 at_2))), (6, .one (.adr (.site 6) 0)), (12, .one (.adr (.site 12) 0)), (13, .one (.l (L.int .i64 i_198)))] [(2, .cells [L.arr .u8 32 (List.replicate 32 0)]), (3, .cells [L.arr .u32 8 h_111]), (6, .cells [L.arr .u32 64 w_193]), (12, .cells [L.arr .u32 8 s_208])] st
noncomputable def Tref01_Of.p4.S (x1 : ByteArray) (at_2 i_168 : Int) (h_111 w_193 : List Int) (st : LL) : S := mkS 225 [(2, .one (.adr (.site 2) 0)), (3, .one (.adr (.site 3) 0)), (4, .one (.l (L.str x1))), (5, .one (.l (L.int .i64 at_2))), (6, .one (.adr (.site 6) 0)), (9, .one (.l (L.int .i64 i_168)))] [(2, .cells [L.arr .u8 32 (List.replicate 32 0)]), (3, .cells [L.arr .u32 8 h_111]), (6, .cells [L.arr .u32 64 w_193])] st
noncomputable def Tref01_Of.p2.S (x1 : ByteArray) (at_2 i_112 : Int) (h_111 w_165 : List Int) (st : LL) : S := mkS 225 [(2, .one (.adr (.site 2) 0)), (3, .one (.adr (.site 3) 0)), (4, .one (.l (L.str x1))), (5, .one (.l (L.int .i64 at_2))), (6, .one (.adr (.site 6) 0)), (7, .one (.l (L.int .i64 i_112)))] [(2, .cells [L.arr .u8 32 (List.replicate 32 0)]), (3, .cells [L.arr .u32 8 h_111]), (6, .cells [L.arr .u32 64 w_165])] st
noncomputable def Tref01_Of.p7.S (i_218 : Int) (h_111 out_219 : List Int) (st : LL) : S := mkS 225 [(2, .one (.adr (.site 2) 0)), (3, .one (.adr (.site 3) 0)), (17, .one (.adr (.site 17) 0)), (18, .one (.l (L.int .i64 i_218)))] [(2, .cells [L.arr .u8 32 (List.replicate 32 0)]), (3, .cells [L.arr .u32 8 h_111]), (17, .cells [L.arr .u8 32 out_219])] st
noncomputable def Tref01_Of.p1.S (x1 : ByteArray) (at_2 : Int) (h_111 : List Int) (st : LL) : S := mkS 225 [(2, .one (.adr (.site 2) 0)), (3, .one (.adr (.site 3) 0)), (4, .one (.l (L.str x1))), (5, .one (.l (L.int .i64 at_2)))] [(2, .cells [L.arr .u8 32 (List.replicate 32 0)]), (3, .cells [L.arr .u32 8 h_111])] st
theorem Tref01_Of.p3_ok (x1 : ByteArray) (at_2 i_112 j_166 : Int) (h_111 w_167 : List Int) (st : LL) {r : (List Int)} {c2_ : (Int × (List Int)) → Option (List Int)} {c1_ : (Int × (List Int)) → Option (List Int)} {c3_ : (Int × (List Int)) → Option (List Int)} {J2 : Act → World → Prop} {J1 : Act → World → Prop} {J3 : Act → World → Prop} (hE : En Tryd.f31 g0 w0 (Tref01_Of.rs r) st R) (hc2 : ∀ (i_112 : Int) (w_165 : List Int), c2_ (i_112, w_165) = some r → At g0 w0 (Tref01_Of.p2.S x1 at_2 i_112 h_111 w_165 st) J2) (hc1 : ∀ (at_2 : Int) (h_111 : List Int), c1_ (at_2, h_111) = some r → At g0 w0 (Tref01_Of.p1.S x1 at_2 h_111 st) J1) (hc3 : ∀ (j_166 : Int) (w_167 : List Int), c3_ (j_166, w_167) = some r → At g0 w0 (Tref01_Of.p3.S x1 at_2 i_112 j_166 h_111 w_167 st) J3) (h : Tref01_Of.p3 N c2_ c1_ x1 at_2 i_112 h_111 c3_ (j_166, w_167) = some r) : At g0 w0 (Tref01_Of.p3.S x1 at_2 i_112 j_166 h_111 w_167 st) (XK Tryd.prog R (.c (csub Tref01_Of.B [1, 1, 1, 0, 1, 0, 0, 1, 0, 0, 1, 0, 1, 0, 0, 1, 0, 0, 1, 0, 0]) :: .h J3 :: [.b 4, .b 3, .c (csub Tref01_Of.B [1, 1, 1, 0, 1, 0, 0, 1, 0, 0, 1, 0, 1, 0, 0, 1, 1]), .h J2, .b 2, .c (csub Tref01_Of.B [1, 1, 1, 0, 1, 0, 0, 1, 0, 0, 1, 1]), .b 1, .c (csub Tref01_Of.B [1, 1, 1, 0, 1, 0, 0, 1, 1]), .h J1, .b 0, .c (csub Tref01_Of.B [1, 1, 1, 1])])) := by
 unfold Tref01_Of.p3 at h
 refine iteB h (fun c293 h1 => ?_) (fun c293 h2 => ?_) <;> clear h
 · obtain ⟨c294, c295, c296, c297, h3⟩ := ck4 h1; clear h1
   exact and_ fol [.r [], .c true, .d {ds := [], hv := 65536, Hs := [65536]}, .r []] [2, 3, 4, 5, 6, 7, 8] [2, 3, 6] (aI c293 (aI c294 (aI c295 (aI c296 (aI c297 (aI c294 c295)))))) (hc3 (w64 (j_166 + 1)) (List.set w_167 (Int.toNat i_112) (v32 ((v32 ((List.getD w_167 (Int.toNat i_112) 0) * 256)) + (v32 (((UInt8.toNat (List.getD (Array.toList (ByteArray.data x1)) (Int.toNat (w64 ((w64 (at_2 + (w64 (4 * i_112)))) + j_166))) 0) : Nat) : Int)))))) h3)
 · exact an fol [.r [], .c false, .r []] [2, 3, 4, 5, 6, 7] [2, 3, 6] c293 (hc2 (w64 (i_112 + 1)) w_167 h2)
theorem Tref01_Of.p6_ok (x1 : ByteArray) (at_2 i_216 : Int) (h_217 s_208 : List Int) (st : LL) {r : (List Int)} {c1_ : (Int × (List Int)) → Option (List Int)} {c6_ : (Int × (List Int)) → Option (List Int)} {J1 : Act → World → Prop} {J6 : Act → World → Prop} (hE : En Tryd.f31 g0 w0 (Tref01_Of.rs r) st R) (hc1 : ∀ (at_2 : Int) (h_111 : List Int), c1_ (at_2, h_111) = some r → At g0 w0 (Tref01_Of.p1.S x1 at_2 h_111 st) J1) (hc6 : ∀ (i_216 : Int) (h_217 : List Int), c6_ (i_216, h_217) = some r → At g0 w0 (Tref01_Of.p6.S x1 at_2 i_216 h_217 s_208 st) J6) (h : Tref01_Of.p6 N c1_ x1 at_2 s_208 c6_ (i_216, h_217) = some r) : At g0 w0 (Tref01_Of.p6.S x1 at_2 i_216 h_217 s_208 st) (XK Tryd.prog R (.c (csub Tref01_Of.B [1, 1, 1, 0, 1, 0, 0, 1, 0, 0, 1, 1, 1, 1, 1, 1, 0, 0]) :: .h J6 :: [.b 10, .b 1, .c (csub Tref01_Of.B [1, 1, 1, 0, 1, 0, 0, 1, 1]), .h J1, .b 0, .c (csub Tref01_Of.B [1, 1, 1, 1])])) := by
 unfold Tref01_Of.p6 at h
 refine iteB h (fun c376 h4 => ?_) (fun c376 h5 => ?_) <;> clear h
 · obtain ⟨c377, h6⟩ := chk_inv h4; clear h4
   exact and_ fol [.r [], .c true, .d {ds := [], hv := 512, Hs := [512]}, .r []] [2, 3, 4, 5, 12, 16] [2, 3, 12] (aI c376 (aI c377 (aI (oD c376) (aI c377 (aI (oD c376) (aI c377 (oD c376))))))) (hc6 (w64 (i_216 + 1)) (List.set h_217 (Int.toNat i_216) (v32 ((List.getD h_217 (Int.toNat i_216) 0) + (List.getD s_208 (Int.toNat i_216) 0)))) h6)
 · exact an fol [.r [], .c false, .r []] [2, 3, 4, 5] [2, 3] c376 (hc1 (w64 (at_2 + 64)) h_217 h5)
theorem Tref01_Of.p5_ok (x1 : ByteArray) (at_2 i_198 : Int) (h_111 w_193 s_208 : List Int) (st : LL) {r : (List Int)} {c1_ : (Int × (List Int)) → Option (List Int)} {c5_ : (Int × (List Int)) → Option (List Int)} {J1 : Act → World → Prop} {J5 : Act → World → Prop} (hE : En Tryd.f31 g0 w0 (Tref01_Of.rs r) st R) (hc1 : ∀ (at_2 : Int) (h_111 : List Int), c1_ (at_2, h_111) = some r → At g0 w0 (Tref01_Of.p1.S x1 at_2 h_111 st) J1) (hc5 : ∀ (i_198 : Int) (s_208 : List Int), c5_ (i_198, s_208) = some r → At g0 w0 (Tref01_Of.p5.S x1 at_2 i_198 h_111 w_193 s_208 st) J5) (h : Tref01_Of.p5 N c1_ x1 at_2 h_111 w_193 c5_ (i_198, s_208) = some r) : At g0 w0 (Tref01_Of.p5.S x1 at_2 i_198 h_111 w_193 s_208 st) (XK Tryd.prog R (.c (csub Tref01_Of.B [1, 1, 1, 0, 1, 0, 0, 1, 0, 0, 1, 1, 1, 1, 0, 1, 0, 0]) :: .h J5 :: [.b 8, .c (csub Tref01_Of.B [1, 1, 1, 0, 1, 0, 0, 1, 0, 0, 1, 1, 1, 1, 1]), .b 1, .c (csub Tref01_Of.B [1, 1, 1, 0, 1, 0, 0, 1, 1]), .h J1, .b 0, .c (csub Tref01_Of.B [1, 1, 1, 1])])) := by
 unfold Tref01_Of.p5 at h
 refine iteB h (fun c365 h7 => ?_) (fun c365 h8 => ?_) <;> clear h
 · obtain ⟨x209, c366, h9⟩ := optE_inv h7; clear h7
   obtain ⟨x210, c367, h10⟩ := optE_inv h9; clear h9
   obtain ⟨x211, c368, h11⟩ := optE_inv h10; clear h10
   obtain ⟨x212, c369, h12⟩ := optE_inv h11; clear h11
   obtain ⟨c370, h13⟩ := chk_inv h12; clear h12
   obtain ⟨x213, c371, h14⟩ := optE_inv h13; clear h13
   obtain ⟨x214, c372, h15⟩ := optE_inv h14; clear h14
   obtain ⟨x215, c373, h16⟩ := optE_inv h15; clear h15
   exact and_ fol [.r [], .c true, .d {ds := [(4, {rs := [.one (L.int .u32 x209)], m := 1}), (7, {rs := [.one (L.int .u32 x210)], m := 1}), (11, {rs := [.one (L.int .u32 x211)], m := 1}), (28, {rs := [.one (L.int .u32 x212)], m := 1})], hv := 0, Hs := []}, .d {ds := [(2, {rs := [.one (L.int .u32 x213)], m := 1}), (5, {rs := [.one (L.int .u32 x214)], m := 1}), (9, {rs := [.one (L.int .u32 x215)], m := 1})], hv := 0, Hs := []}, .r [(19, {m := 3})], .r []] [2, 3, 4, 5, 6, 12, 13] [2, 3, 6, 12] (aI c365 (ix 7 8 (ix 4 8 (aI (Tref01_right.snd c366) (ix 4 8 (aI (Tref01_right.snd c367) (ix 4 8 (aI (Tref01_right.snd c368) (ix 4 8 (ix 5 8 (ix 4 8 (ix 6 8 (aI (Tref01_k.snd c369) (aI c370 (aI (oD c365) (ix 0 8 (aI (Tref01_right.snd c371) (ix 0 8 (aI (Tref01_right.snd c372) (ix 0 8 (aI (Tref01_right.snd c373) (ix 0 8 (ix 1 8 (ix 0 8 (ix 2 8 (ix 1 8 (ix 2 8 (ix 0 8 (ix 1 8 (ix 2 8 (ix 3 8 (ix 4 8 (ix 5 8 (aI (leI 0 6) (ltI 6 8))))))))))))))))))))))))))))))))))) (hc5 (w64 (i_198 + 1)) [v32 ((v32 ((v32 ((v32 ((v32 ((List.getD s_208 7 0) + (bitsOf .xor .u32 (bitsOf .xor .u32 x209 x210) x211))) + (bitsOf .or .u32 (bitsOf .and .u32 (List.getD s_208 4 0) (List.getD s_208 5 0)) (bitsOf .and .u32 (v32 (4294967295 - (List.getD s_208 4 0))) (List.getD s_208 6 0))))) + x212)) + (List.getD w_193 (Int.toNat i_198) 0))) + (v32 ((bitsOf .xor .u32 (bitsOf .xor .u32 x213 x214) x215) + (bitsOf .or .u32 (bitsOf .or .u32 (bitsOf .and .u32 (List.getD s_208 0 0) (List.getD s_208 1 0)) (bitsOf .and .u32 (List.getD s_208 0 0) (List.getD s_208 2 0))) (bitsOf .and .u32 (List.getD s_208 1 0) (List.getD s_208 2 0)))))), List.getD s_208 0 0, List.getD s_208 1 0, List.getD s_208 2 0, v32 ((List.getD s_208 3 0) + (v32 ((v32 ((v32 ((v32 ((List.getD s_208 7 0) + (bitsOf .xor .u32 (bitsOf .xor .u32 x209 x210) x211))) + (bitsOf .or .u32 (bitsOf .and .u32 (List.getD s_208 4 0) (List.getD s_208 5 0)) (bitsOf .and .u32 (v32 (4294967295 - (List.getD s_208 4 0))) (List.getD s_208 6 0))))) + x212)) + (List.getD w_193 (Int.toNat i_198) 0)))), List.getD s_208 4 0, List.getD s_208 5 0, List.getD s_208 6 0] h16)
 · exact aq fol [.r [], .c false, .r []] [2, 3, 4, 5, 12, 16] [2, 3, 12] c365 (At.loop N (At.loopN (fun y : Int × (List Int) => Tref01_Of.p6.S x1 at_2 y.1 y.2 s_208 st) (fun c J hc y h => Tref01_Of.p6_ok x1 at_2 y.1 y.2 s_208 st hE hc1 (fun i_216 h_217 hh => hc (i_216, h_217) hh) h) N (0, h_111) h8))
theorem Tref01_Of.p4_ok (x1 : ByteArray) (at_2 i_168 : Int) (h_111 w_193 : List Int) (st : LL) {r : (List Int)} {c1_ : (Int × (List Int)) → Option (List Int)} {c4_ : (Int × (List Int)) → Option (List Int)} {J1 : Act → World → Prop} {J4 : Act → World → Prop} (hE : En Tryd.f31 g0 w0 (Tref01_Of.rs r) st R) (hc1 : ∀ (at_2 : Int) (h_111 : List Int), c1_ (at_2, h_111) = some r → At g0 w0 (Tref01_Of.p1.S x1 at_2 h_111 st) J1) (hc4 : ∀ (i_168 : Int) (w_193 : List Int), c4_ (i_168, w_193) = some r → At g0 w0 (Tref01_Of.p4.S x1 at_2 i_168 h_111 w_193 st) J4) (h : Tref01_Of.p4 N c1_ x1 at_2 h_111 c4_ (i_168, w_193) = some r) : At g0 w0 (Tref01_Of.p4.S x1 at_2 i_168 h_111 w_193 st) (XK Tryd.prog R (.c (csub Tref01_Of.B [1, 1, 1, 0, 1, 0, 0, 1, 0, 0, 1, 1, 0, 1, 0, 0]) :: .h J4 :: [.b 6, .c (csub Tref01_Of.B [1, 1, 1, 0, 1, 0, 0, 1, 0, 0, 1, 1, 1]), .b 1, .c (csub Tref01_Of.B [1, 1, 1, 0, 1, 0, 0, 1, 1]), .h J1, .b 0, .c (csub Tref01_Of.B [1, 1, 1, 1])])) := by
 unfold Tref01_Of.p4 at h
 refine iteB h (fun c338 h17 => ?_) (fun c338 h18 => ?_) <;> clear h
 · obtain ⟨c339, c340, h19⟩ := ck2 h17; clear h17
   obtain ⟨x194, c341, h20⟩ := optE_inv h19; clear h19
   obtain ⟨x195, c342, h21⟩ := optE_inv h20; clear h20
   obtain ⟨c343, c344, h22⟩ := ck2 h21; clear h21
   obtain ⟨x196, c345, h23⟩ := optE_inv h22; clear h22
   obtain ⟨x197, c346, h24⟩ := optE_inv h23; clear h23
   obtain ⟨c347, c348, c349, c350, c351, h25⟩ := ck5 h24; clear h24
   exact and_ fol [.r [], .c true, .d {ds := [(4, {rs := [.one (L.int .u32 x194)], m := 1}), (9, {rs := [.one (L.int .u32 x195)], m := 1})], hv := 0, Hs := []}, .d {ds := [(4, {rs := [.one (L.int .u32 x196)], m := 1}), (9, {rs := [.one (L.int .u32 x197)], m := 1})], hv := 0, Hs := []}, .d {ds := [], hv := 32768, Hs := [32768]}, .r []] [2, 3, 4, 5, 6, 9] [2, 3, 6] (aI c338 (aI c339 (aI c340 (aI (Tref01_right.snd c341) (aI c339 (aI c340 (aI (Tref01_right.snd c342) (aI c339 (aI c340 (aI (neI 8) (aI c343 (aI c344 (aI (Tref01_right.snd c345) (aI c343 (aI c344 (aI (Tref01_right.snd c346) (aI c343 (aI c344 (aI (neI 1024) (aI c347 (aI c348 (aI c349 (aI c350 (aI c351 (oD c338))))))))))))))))))))))))) (hc4 (w64 (i_168 + 1)) (List.set w_193 (Int.toNat i_168) (v32 ((v32 ((v32 ((List.getD w_193 (Int.toNat (w64 (i_168 - 16))) 0) + (bitsOf .xor .u32 (bitsOf .xor .u32 x194 x195) (v32 (Int.tdiv (List.getD w_193 (Int.toNat (w64 (i_168 - 15))) 0) 8))))) + (List.getD w_193 (Int.toNat (w64 (i_168 - 7))) 0))) + (bitsOf .xor .u32 (bitsOf .xor .u32 x196 x197) (v32 (Int.tdiv (List.getD w_193 (Int.toNat (w64 (i_168 - 2))) 0) 1024)))))) h25)
 · exact aq fol [.r [], .c false, .r [], .r []] [2, 3, 4, 5, 6, 12, 13] [2, 3, 6, 12] c338 (At.loop N (At.loopN (fun y : Int × (List Int) => Tref01_Of.p5.S x1 at_2 y.1 h_111 w_193 y.2 st) (fun c J hc y h => Tref01_Of.p5_ok x1 at_2 y.1 h_111 w_193 y.2 st hE hc1 (fun i_198 s_208 hh => hc (i_198, s_208) hh) h) N (0, h_111) h18))
theorem Tref01_Of.p2_ok (x1 : ByteArray) (at_2 i_112 : Int) (h_111 w_165 : List Int) (st : LL) {r : (List Int)} {c1_ : (Int × (List Int)) → Option (List Int)} {c2_ : (Int × (List Int)) → Option (List Int)} {J1 : Act → World → Prop} {J2 : Act → World → Prop} (hE : En Tryd.f31 g0 w0 (Tref01_Of.rs r) st R) (hc1 : ∀ (at_2 : Int) (h_111 : List Int), c1_ (at_2, h_111) = some r → At g0 w0 (Tref01_Of.p1.S x1 at_2 h_111 st) J1) (hc2 : ∀ (i_112 : Int) (w_165 : List Int), c2_ (i_112, w_165) = some r → At g0 w0 (Tref01_Of.p2.S x1 at_2 i_112 h_111 w_165 st) J2) (h : Tref01_Of.p2 N c1_ x1 at_2 h_111 c2_ (i_112, w_165) = some r) : At g0 w0 (Tref01_Of.p2.S x1 at_2 i_112 h_111 w_165 st) (XK Tryd.prog R (.c (csub Tref01_Of.B [1, 1, 1, 0, 1, 0, 0, 1, 0, 0, 1, 0, 1, 0, 0]) :: .h J2 :: [.b 2, .c (csub Tref01_Of.B [1, 1, 1, 0, 1, 0, 0, 1, 0, 0, 1, 1]), .b 1, .c (csub Tref01_Of.B [1, 1, 1, 0, 1, 0, 0, 1, 1]), .h J1, .b 0, .c (csub Tref01_Of.B [1, 1, 1, 1])])) := by
 unfold Tref01_Of.p2 at h
 refine iteB h (fun c287 h26 => ?_) (fun c287 h27 => ?_) <;> clear h
 · exact aq fol [.r [], .c true, .r []] [2, 3, 4, 5, 6, 7, 8] [2, 3, 6] c287 (At.loop N (At.loopN (fun y : Int × (List Int) => Tref01_Of.p3.S x1 at_2 i_112 y.1 h_111 y.2 st) (fun c J hc y h => Tref01_Of.p3_ok x1 at_2 i_112 y.1 h_111 y.2 st hE hc2 hc1 (fun j_166 w_167 hh => hc (j_166, w_167) hh) h) N (0, w_165) h26))
 · exact aq fol [.r [], .c false, .r []] [2, 3, 4, 5, 6, 9] [2, 3, 6] c287 (At.loop N (At.loopN (fun y : Int × (List Int) => Tref01_Of.p4.S x1 at_2 y.1 h_111 y.2 st) (fun c J hc y h => Tref01_Of.p4_ok x1 at_2 y.1 h_111 y.2 st hE hc1 (fun i_168 w_193 hh => hc (i_168, w_193) hh) h) N (16, w_165) h27))
theorem Tref01_Of.p7_ok (i_218 : Int) (h_111 out_219 : List Int) (st : LL) {r : (List Int)} {c7_ : (Int × (List Int)) → Option (List Int)} {J7 : Act → World → Prop} (hE : En Tryd.f31 g0 w0 (Tref01_Of.rs r) st R) (hc7 : ∀ (i_218 : Int) (out_219 : List Int), c7_ (i_218, out_219) = some r → At g0 w0 (Tref01_Of.p7.S i_218 h_111 out_219 st) J7) (h : Tref01_Of.p7 N h_111 c7_ (i_218, out_219) = some r) : At g0 w0 (Tref01_Of.p7.S i_218 h_111 out_219 st) (XK Tryd.prog R (.c (csub Tref01_Of.B [1, 1, 1, 1, 1, 0, 1, 0, 0]) :: .h J7 :: [.b 12, .c (csub Tref01_Of.B [1, 1, 1, 1, 1, 1])])) := by
 unfold Tref01_Of.p7 at h
 refine iteB h (fun c383 h28 => ?_) (fun c383 h29 => ?_) <;> clear h
 · obtain ⟨c384, c385, c386, c387, h30⟩ := ck4 h28; clear h28
   exact an fol [.r [], .c true, .r [], .r []] [2, 3, 17, 18] [2, 3, 17] (aI c383 (aI (neI 4) (aI c384 (aI c385 (aI (neI 4) (aI c386 (aI (neI 256) (aI c387 (oD c383))))))))) (hc7 (w64 (i_218 + 1)) (List.set out_219 (Int.toNat i_218) (v8 (Int.tmod (shrOf .u32 (List.getD h_111 (Int.toNat (w64 (Int.tdiv i_218 4))) 0) (v64 (w64 (24 - (w64 (8 * (Int.tmod i_218 4))))))) 256))) h30)
 · obtain rfl := some_inv h29
   exact af fol hE [.r [], .c false, .r []] [] 0 [] c383
theorem Tref01_Of.p1_ok (x1 : ByteArray) (at_2 : Int) (h_111 : List Int) (st : LL) {r : (List Int)} {c1_ : (Int × (List Int)) → Option (List Int)} {J1 : Act → World → Prop} (hE : En Tryd.f31 g0 w0 (Tref01_Of.rs r) st R) (hc1 : ∀ (at_2 : Int) (h_111 : List Int), c1_ (at_2, h_111) = some r → At g0 w0 (Tref01_Of.p1.S x1 at_2 h_111 st) J1) (h : Tref01_Of.p1 N x1 c1_ (at_2, h_111) = some r) : At g0 w0 (Tref01_Of.p1.S x1 at_2 h_111 st) (XK Tryd.prog R (.c (csub Tref01_Of.B [1, 1, 1, 0, 1, 0, 0]) :: .h J1 :: [.b 0, .c (csub Tref01_Of.B [1, 1, 1, 1])])) := by
 unfold Tref01_Of.p1 at h
 refine iteB h (fun c195 h31 => ?_) (fun c195 h32 => ?_) <;> clear h
 · exact aq fol [.r [], .c true, .r [], .r []] [2, 3, 4, 5, 6, 7] [2, 3, 6] c195 (At.loop N (At.loopN (fun y : Int × (List Int) => Tref01_Of.p2.S x1 at_2 y.1 h_111 y.2 st) (fun c J hc y h => Tref01_Of.p2_ok x1 at_2 y.1 h_111 y.2 st hE hc1 (fun i_112 w_165 hh => hc (i_112, w_165) hh) h) N (0, List.replicate 64 0) h31))
 · exact aq fol [.r [], .c false, .r [], .r []] [2, 3, 17, 18] [2, 3, 17] c195 (At.loop N (At.loopN (fun y : Int × (List Int) => Tref01_Of.p7.S y.1 h_111 y.2 st) (fun c J hc y h => Tref01_Of.p7_ok y.1 h_111 y.2 st hE (fun i_218 out_219 hh => hc (i_218, out_219) hh) h) N (0, List.replicate 32 0) h32))
theorem Tref01_Of.snd {s_0 : ByteArray} {r : (List Int)} (h : Tref01_Of N s_0 = some r) : SndQ Tryd.prog 31 [.one (L.str s_0)] (Tref01_Of.rs r) := fun st =>
 sO Tref01_Of.B Tryd.func31 fun g0 w0 R hE => by
  unfold Tref01_Of at h
  obtain ⟨x1, c1, h33⟩ := optE_inv h; clear h
  exact aq fol [.r [], .r [(0, {m := 3})], .r [(1, {rs := [.one (L.str x1)], m := 1})], .r []] [2, 3, 4, 5] [2, 3] (Tref01_padded.snd c1) (At.loop N (At.loopN (fun y : Int × (List Int) => Tref01_Of.p1.S x1 y.1 y.2 st) (fun c J hc y h => Tref01_Of.p1_ok x1 y.1 y.2 st hE (fun at_2 h_111 hh => hc (at_2, h_111) hh) h) N (0, [1779033703, 3144134277, 1013904242, 2773480762, 1359893119, 2600822924, 528734635, 1541459225]) h33))
/-! trailhead/trailheadref01.Double -/
noncomputable def Tref01_Double.B : Code := Tryd.f18.body.getD .skip
noncomputable def Tref01_Double.rs (r : (List Int)) : List CV := [.agg [L.arr .u8 32 r]]
noncomputable def Tref01_Double.p1 (N : Nat) (x1 : List Int) (c1_ : (ByteArray × Int) → Option (List Int)) : (ByteArray × Int) → Option (List Int) := fun (b_4, i_2) =>
 if (decide (i_2 < 32)) = true then
  chk (0 ≤ i_2) <|
  chk (isB [[L.int .u8 (List.getD x1 (Int.toNat i_2) 0)]] = true) <|
  chk (ByteArray.size b_4 + ByteArray.size (istr (List.map leafI [[L.int .u8 (List.getD x1 (Int.toNat i_2) 0)]])) ≤ 9223372036854775807) <|
  c1_ (b_4 ++ (istr (List.map leafI [[L.int .u8 (List.getD x1 (Int.toNat i_2) 0)]])), w64 (i_2 + 1))
 else
 optE (Tref01_Of N b_4) fun x5 =>
 some x5
noncomputable def Tref01_Double (N : Nat) (s_0 : ByteArray) : Option (List Int) :=
 optE (Tref01_Of N s_0) fun x1 =>
 loopN (Tref01_Double.p1 N x1) N ((ByteArray.mk #[]), 0)
noncomputable def Tref01_Double.p1.S (b_4 : ByteArray) (i_2 : Int) (x1 : List Int) (st : LL) : S := mkS 21 [(2, .one (.adr (.site 2) 0)), (3, .one (.adr (.site 3) 0)), (4, .one (.l (L.str b_4))), (5, .one (.l (L.int .i64 i_2)))] [(2, .cells [L.arr .u8 32 (List.replicate 32 0)]), (3, .cells [L.arr .u8 32 x1])] st
theorem Tref01_Double.p1_ok (b_4 : ByteArray) (i_2 : Int) (x1 : List Int) (st : LL) {r : (List Int)} {c1_ : (ByteArray × Int) → Option (List Int)} {J1 : Act → World → Prop} (hE : En Tryd.f18 g0 w0 (Tref01_Double.rs r) st R) (hc1 : ∀ (b_4 : ByteArray) (i_2 : Int), c1_ (b_4, i_2) = some r → At g0 w0 (Tref01_Double.p1.S b_4 i_2 x1 st) J1) (h : Tref01_Double.p1 N x1 c1_ (b_4, i_2) = some r) : At g0 w0 (Tref01_Double.p1.S b_4 i_2 x1 st) (XK Tryd.prog R (.c (csub Tref01_Double.B [1, 1, 1, 0, 1, 0, 0]) :: .h J1 :: [.b 0, .c (csub Tref01_Double.B [1, 1, 1, 1])])) := by
 unfold Tref01_Double.p1 at h
 refine iteB h (fun c7 h1 => ?_) (fun c7 h2 => ?_) <;> clear h
 · obtain ⟨c8, c9, c10, h3⟩ := ck3 h1; clear h1
   exact an fol [.r [], .c true, .r [], .r []] [2, 3, 4, 5] [2, 3] (aI c7 (aI c8 (aI (oD c7) (aI z0 (aI (eN (1)) (aI c9 c10)))))) (hc1 (b_4 ++ (istr (List.map leafI [[L.int .u8 (List.getD x1 (Int.toNat i_2) 0)]]))) (w64 (i_2 + 1)) h3)
 · obtain ⟨x5, c11, h4⟩ := optE_inv h2; clear h2
   obtain rfl := some_inv h4
   exact af fol hE [.r [], .c false, .r [(1, {rs := [.agg [L.arr .u8 32 x5]], m := 1})]] [] 0 [] (aI c7 (Tref01_Of.snd c11))
theorem Tref01_Double.snd {s_0 : ByteArray} {r : (List Int)} (h : Tref01_Double N s_0 = some r) : SndQ Tryd.prog 18 [.one (L.str s_0)] (Tref01_Double.rs r) := fun st =>
 sO Tref01_Double.B Tryd.func18 fun g0 w0 R hE => by
  unfold Tref01_Double at h
  obtain ⟨x1, c1, h5⟩ := optE_inv h; clear h
  exact aq fol [.r [], .r [(1, {rs := [.agg [L.arr .u8 32 x1]], m := 1})], .r [], .r []] [2, 3, 4, 5] [2, 3] (Tref01_Of.snd c1) (At.loop N (At.loopN (fun y : ByteArray × Int => Tref01_Double.p1.S y.1 y.2 x1 st) (fun c J hc y h => Tref01_Double.p1_ok y.1 y.2 x1 st hE (fun b_4 i_2 hh => hc (b_4, i_2) hh) h) N ((ByteArray.mk #[]), 0) h5))
/-! trailhead/trailheadref06.Id -/
noncomputable def Tref06_Id.B : Code := Tryd.f9.body.getD .skip
noncomputable def Tref06_Id.rs (r : (List Int)) : List CV := [.agg [L.arr .u8 32 r]]
noncomputable def Tref06_Id (N : Nat) (h_0 : api_Header) : Option (List Int) :=
 optE (Tref06_Good N h_0) fun x1 =>
 if (!x1) = true then
  some (List.replicate 32 0)
 else
 optE (Tref06_Bytes N h_0) fun x2 =>
 optE (Tref01_Double N x2) fun x3 =>
 some x3
theorem Tref06_Id.snd {h_0 : api_Header} {r : (List Int)} (h : Tref06_Id N h_0 = some r) : SndQ Tryd.prog 9 [.agg h_0.ls] (Tref06_Id.rs r) := fun st =>
 sO Tref06_Id.B Tryd.func9 fun g0 w0 R hE => by
  unfold Tref06_Id at h
  obtain ⟨x1, c1, h1⟩ := optE_inv h; clear h
  refine iteB h1 (fun c2 h2 => ?_) (fun c2 h3 => ?_) <;> clear h1
  · obtain rfl := some_inv h2
    exact af fol hE [.r [], .r [(1, {rs := [.one (L.bool x1)], m := 1})], .c true, .r []] [] 0 [] (aI (Tref06_Good.snd c1) c2)
  · obtain ⟨x2, c3, h4⟩ := optE_inv h3; clear h3
    obtain ⟨x3, c4, h5⟩ := optE_inv h4; clear h4
    obtain rfl := some_inv h5
    exact af fol hE [.r [], .r [(1, {rs := [.one (L.bool x1)], m := 1})], .c false, .r [(1, {rs := [.one (L.str x2)], m := 1}), (2, {rs := [.agg [L.arr .u8 32 x3]], m := 1})]] [] 0 [] (aI (Tref06_Good.snd c1) (aI c2 (aI (Tref06_Bytes.snd c3) (Tref01_Double.snd c4))))
/-! trailhead/trailheadlaw11.RuleSpots -/
noncomputable def Tlaw11_RuleSpots.B : Code := Tryd.f3.body.getD .skip
noncomputable def Tlaw11_RuleSpots.rs (r : Bool) : List CV := [.one (L.bool r)]
noncomputable def Tlaw11_RuleSpots.p1 (N : Nat) (x3 x4 : rule_Spot) (c1_ : Int → Option Bool) : Int → Option Bool := fun v7 =>
 if (decide (v7 < (len ([] ++ x3.Times)))) = true then
  chk (0 ≤ v7) <|
  chk (v7 < (len x3.Times)) <|
  getE (x3.Times[Int.toNat v7]?) dec_i64 fun x8 =>
  getE (([] ++ x3.Times)[0 + (Int.toNat v7)]?) dec_i64 fun x9 =>
  if (x8 != x9) = true then
   some false
  else
  if (decide ((w64 (v7 + 1)) < (len x4.Times))) = true then
   chk (0 ≤ (w64 (v7 + 1))) <|
   getE (x4.Times[Int.toNat (w64 (v7 + 1))]?) dec_i64 fun x10 =>
   if (x10 != x9) = true then
    some false
   else
   c1_ (w64 (v7 + 1))
  else
  c1_ (w64 (v7 + 1))
 else
 some true
noncomputable def Tlaw11_RuleSpots (N : Nat) (p_0 : api_Params) (chain_1 : LL) (h_2 : api_Header) : Option Bool :=
 optE (Tlaw11_alive N ) fun x1 =>
 if (!x1) = true then
  some false
 else
 optE (Tlaw11_great N p_0 chain_1) fun x2 =>
 if x2 = true then
  some true
 else
 optE (Tlaw11_spot N p_0 chain_1) fun x3 =>
 chk (List.length ([] ++ x3.Times) * 8 ≤ 140737488355328) <|
 optE (rule_BehindP N p_0 x3 h_2) fun x4 =>
 if (x4.Point.Height != (w64 ((len chain_1) + 2))) = true then
  some false
 else
 if (x4.Point.Height != (w64 (x3.Point.Height + 1))) = true then
  some false
 else
 if (x4.Point.Bits != h_2.Bits) = true then
  some false
 else
 if (x4.Point.Time != h_2.Time) = true then
  some false
 else
 optE (Tref06_Id N h_2) fun x5 =>
 if (!(x4.Prev == x5)) = true then
  some false
 else
 if ((len x4.Times) != (if (11 : Int) < (w64 ((len ([] ++ x3.Times)) + 1)) then 11 else (w64 ((len ([] ++ x3.Times)) + 1)))) = true then
  some false
 else
 chk (0 < (len x4.Times)) <|
 getE (x4.Times[0]?) dec_i64 fun x6 =>
 if (x6 != h_2.Time) = true then
  some false
 else
 loopN (Tlaw11_RuleSpots.p1 N x3 x4) N 0
noncomputable def Tlaw11_RuleSpots.p1.S (x3 : rule_Spot) (v7 : Int) (x4 : rule_Spot) (st : LL) : S := mkS 123 [(7, .one (.adr (.site 7) 0)), (8, .one (.h (.row 19 0) 1 0 (List.length ([] ++ x3.Times)))), (9, .one (.adr (.site 9) 0)), (87, .one (.l (L.int .i64 (len ([] ++ x3.Times))))), (88, .one (.l (L.int .i64 v7)))] [(7, .cells x3.ls), (9, .cells x4.ls), (19, .row 0 true 1 ([] ++ x3.Times))] st
theorem Tlaw11_RuleSpots.p1_ok (x3 : rule_Spot) (v7 : Int) (x4 : rule_Spot) (st : LL) {r : Bool} {c1_ : Int → Option Bool} {J1 : Act → World → Prop} (hE : En Tryd.f3 g0 w0 (Tlaw11_RuleSpots.rs r) st R) (hc1 : ∀ (v7 : Int), c1_ v7 = some r → At g0 w0 (Tlaw11_RuleSpots.p1.S x3 v7 x4 st) J1) (h : Tlaw11_RuleSpots.p1 N x3 x4 c1_ v7 = some r) : At g0 w0 (Tlaw11_RuleSpots.p1.S x3 v7 x4 st) (XK Tryd.prog R (.c (csub Tlaw11_RuleSpots.B [1, 1, 1, 1, 1, 1, 1, 0, 1, 0, 0]) :: .h J1 :: [.b 0, .c (csub Tlaw11_RuleSpots.B [1, 1, 1, 1, 1, 1, 1, 1])])) := by
 unfold Tlaw11_RuleSpots.p1 at h
 refine iteB h (fun c18 h1 => ?_) (fun c18 h2 => ?_) <;> clear h
 · obtain ⟨c19, c20, h3⟩ := ck2 h1; clear h1
   obtain ⟨x8, c21, h4⟩ := dec_i64_get h3; clear h3
   obtain ⟨x9, c22, h5⟩ := dec_i64_get h4; clear h4
   refine iteB h5 (fun c23 h6 => ?_) (fun c23 h7 => ?_) <;> clear h5
   · obtain rfl := some_inv h6
     exact afd fol hE [.r [], .c true, .r [], .d {ds := [(4, {oe := [L.int .i64 x8]}), (8, {oe := [L.int .i64 x9]}), (11, {want := false}), (12, {want := false}), (13, {want := false}), (14, {want := false}), (15, {want := false}), (16, {want := false}), (17, {want := false}), (29, {want := false})], hv := 0, Hs := []}, .c true, .r []] [] 0 [] (aI c18 (aI c19 (aI c20 (aI c21 (aI c19 (aI (oD c18) (aI c22 (aI c23 (aI c23 (aI c23 (aI c23 (aI c23 (aI c23 (aI c23 (aI c23 (aI c23 (eB true)))))))))))))))))
   · refine iteB h7 (fun c24 h8 => ?_) (fun c24 h9 => ?_) <;> clear h7
     · obtain ⟨c25, h10⟩ := chk_inv h8; clear h8
       obtain ⟨x10, c26, h11⟩ := dec_i64_get h10; clear h10
       refine iteB h11 (fun c27 h12 => ?_) (fun c27 h13 => ?_) <;> clear h11
       · obtain rfl := some_inv h12
         exact afd fol hE [.r [], .c true, .r [], .d {ds := [(4, {oe := [L.int .i64 x8]}), (8, {oe := [L.int .i64 x9]}), (23, {oe := [L.int .i64 x10]}), (27, {oe := [L.int .i64 x9]}), (30, {yes := false})], hv := 0, Hs := []}, .c true, .r []] [] 0 [] (aI c18 (aI c19 (aI c20 (aI c21 (aI c19 (aI (oD c18) (aI c22 (aI c23 (aI c23 (aI c23 (aI c23 (aI c23 (aI c23 (aI c23 (aI c24 (aI c24 (aI c24 (aI c24 (aI c24 (aI c25 (aI (oD c24) (aI c24 (aI c26 (aI c24 (aI c24 (aI c24 (aI c19 (aI (oD c18) (aI c24 (aI c22 (aI c24 (aI c23 (aI c24 (aI c23 c27))))))))))))))))))))))))))))))))))
       · exact and_ fol [.r [], .c true, .r [], .d {ds := [(4, {oe := [L.int .i64 x8]}), (8, {oe := [L.int .i64 x9]}), (23, {oe := [L.int .i64 x10]}), (27, {oe := [L.int .i64 x9]}), (30, {yes := false})], hv := 0, Hs := []}, .c false, .r []] [7, 8, 9, 87, 88] [7, 9, 19] (aI c18 (aI c19 (aI c20 (aI c21 (aI c19 (aI (oD c18) (aI c22 (aI c23 (aI c23 (aI c23 (aI c23 (aI c23 (aI c23 (aI c23 (aI c24 (aI c24 (aI c24 (aI c24 (aI c24 (aI c25 (aI (oD c24) (aI c24 (aI c26 (aI c24 (aI c24 (aI c24 (aI c19 (aI (oD c18) (aI c24 (aI c22 (aI c24 (aI c23 (aI c24 (aI c23 c27)))))))))))))))))))))))))))))))))) (hc1 (w64 (v7 + 1)) h13)
     · exact and_ fol [.r [], .c true, .r [], .d {ds := [(4, {oe := [L.int .i64 x8]}), (8, {oe := [L.int .i64 x9]}), (18, {want := false}), (19, {want := false}), (20, {want := false}), (21, {want := false}), (22, {want := false}), (23, {want := false}), (24, {want := false}), (25, {want := false}), (26, {want := false}), (27, {want := false}), (28, {want := false}), (29, {yes := false}), (30, {yes := false})], hv := 0, Hs := []}, .c false, .r []] [7, 8, 9, 87, 88] [7, 9, 19] (aI c18 (aI c19 (aI c20 (aI c21 (aI c19 (aI (oD c18) (aI c22 (aI c23 (aI c23 (aI c23 (aI c23 (aI c23 (aI c23 (aI c23 (aI c24 (aI c24 (aI c24 (aI c24 (aI c24 (aI c24 (aI c24 (aI c24 (aI c24 (aI c24 (aI c24 (aI c23 (aI c24 (aI c23 (eB false))))))))))))))))))))))))))))) (hc1 (w64 (v7 + 1)) h9)
 · obtain rfl := some_inv h2
   exact af fol hE [.r [], .c false, .r []] [] 0 [] c18
theorem Tlaw11_RuleSpots.snd {p_0 : api_Params} {chain_1 : LL} {h_2 : api_Header} {r : Bool} (h : Tlaw11_RuleSpots N p_0 chain_1 h_2 = some r) : SndQ Tryd.prog 3 [.agg p_0.ls, .one (L.sl 68 chain_1), .agg h_2.ls] (Tlaw11_RuleSpots.rs r) := fun st =>
 sO Tlaw11_RuleSpots.B Tryd.func3 fun g0 w0 R hE => by
  unfold Tlaw11_RuleSpots at h
  obtain ⟨x1, c1, h14⟩ := optE_inv h; clear h
  refine iteB h14 (fun c2 h15 => ?_) (fun c2 h16 => ?_) <;> clear h14
  · obtain rfl := some_inv h15
    exact af fol hE [.r [], .r [(0, {rs := [.one (L.bool x1)], m := 1})], .c true, .r []] [] 0 [] (aI (Tlaw11_alive.snd c1) c2)
  · obtain ⟨x2, c3, h17⟩ := optE_inv h16; clear h16
    refine iteB h17 (fun c4 h18 => ?_) (fun c4 h19 => ?_) <;> clear h17
    · obtain rfl := some_inv h18
      exact af fol hE [.r [], .r [(0, {rs := [.one (L.bool x1)], m := 1})], .c false, .r [(2, {rs := [.one (L.bool x2)], m := 1})], .c true, .r []] [] 0 [] (aI (Tlaw11_alive.snd c1) (aI c2 (aI (Tlaw11_great.snd c3) c4)))
    · obtain ⟨x3, c5, h20⟩ := optE_inv h19; clear h19
      obtain ⟨c6, h21⟩ := chk_inv h20; clear h20
      obtain ⟨x4, c7, h22⟩ := optE_inv h21; clear h21
      refine iteB h22 (fun c8 h23 => ?_) (fun c8 h24 => ?_) <;> clear h22
      · obtain rfl := some_inv h23
        exact afd fol hE [.r [], .r [(0, {rs := [.one (L.bool x1)], m := 1})], .c false, .r [(2, {rs := [.one (L.bool x2)], m := 1})], .c false, .r [(2, {rs := [.agg x3.ls], m := 1})], .r [], .r [(3, {rs := [.agg x4.ls], m := 1})], .d {ds := [(8, {want := false}), (9, {want := false}), (10, {want := false}), (11, {want := false}), (12, {want := false}), (13, {want := false}), (14, {want := false}), (15, {want := false}), (18, {want := false}), (19, {want := false}), (20, {want := false}), (21, {want := false}), (22, {want := false}), (23, {want := false}), (26, {want := false}), (27, {want := false}), (28, {want := false}), (29, {want := false}), (30, {want := false}), (31, {want := false}), (34, {want := false}), (35, {want := false}), (36, {want := false}), (37, {want := false}), (38, {want := false}), (41, {want := false}), (42, {want := false}), (43, {want := false}), (44, {want := false}), (45, {want := false}), (46, {want := false}), (47, {want := false}), (48, {want := false}), (51, {want := false}), (52, {want := false}), (53, {want := false}), (54, {want := false}), (55, {want := false}), (56, {want := false}), (57, {want := false})], hv := 0, Hs := []}, .c true, .r []] [] 0 [] (aI (Tlaw11_alive.snd c1) (aI c2 (aI (Tlaw11_great.snd c3) (aI c4 (aI (Tlaw11_spot.snd c5) (aI z0 (aI (eN (0)) (aI c6 (aI (rule_BehindP.snd c7) (aI c8 (aI c8 (aI c8 (aI c8 (aI c8 (aI c8 (aI c8 (aI c8 (aI c8 (aI (eB true) (aI (eB true) (aI (eB true) (aI (eB true) (aI (eB true) (aI (eB true) (aI (eB true) (aI (eB true) (aI (eB true) (aI (eB true) (aI (eB true) (aI (eB true) (aI (eB true) (aI (eB true) (aI (eB true) (aI (eB true) (aI (eB true) (aI (eB true) (aI (eB true) (aI (eB true) (aI (eB true) (aI (eB true) (aI (eB true) (aI (eB true) (aI (eB true) (aI (eB true) (aI (eB true) (aI (eB true) (aI (eB true) (aI (eB true) (aI (eB true) (aI (eB true) (aI (eB true) (aI (eB true) (aI (eB true) (aI (eB true) (aI (eB true) (eB true))))))))))))))))))))))))))))))))))))))))))))))))))))))))
      · refine iteB h24 (fun c9 h25 => ?_) (fun c9 h26 => ?_) <;> clear h24
        · obtain rfl := some_inv h25
          exact afd fol hE [.r [], .r [(0, {rs := [.one (L.bool x1)], m := 1})], .c false, .r [(2, {rs := [.one (L.bool x2)], m := 1})], .c false, .r [(2, {rs := [.agg x3.ls], m := 1})], .r [], .r [(3, {rs := [.agg x4.ls], m := 1})], .d {ds := [(16, {yes := false}), (18, {want := false}), (19, {want := false}), (20, {want := false}), (21, {want := false}), (22, {want := false}), (23, {want := false}), (26, {want := false}), (27, {want := false}), (28, {want := false}), (29, {want := false}), (30, {want := false}), (31, {want := false}), (34, {want := false}), (35, {want := false}), (36, {want := false}), (37, {want := false}), (38, {want := false}), (41, {want := false}), (42, {want := false}), (43, {want := false}), (44, {want := false}), (45, {want := false}), (46, {want := false}), (47, {want := false}), (48, {want := false}), (51, {want := false}), (52, {want := false}), (53, {want := false}), (54, {want := false}), (55, {want := false}), (56, {want := false}), (57, {want := false})], hv := 0, Hs := []}, .c true, .r []] [] 0 [] (aI (Tlaw11_alive.snd c1) (aI c2 (aI (Tlaw11_great.snd c3) (aI c4 (aI (Tlaw11_spot.snd c5) (aI z0 (aI (eN (0)) (aI c6 (aI (rule_BehindP.snd c7) (aI c8 (aI c8 (aI c8 (aI c8 (aI c8 (aI c8 (aI c8 (aI c8 (aI c8 (aI c9 (aI c9 (aI c9 (aI c9 (aI c9 (aI c9 (aI c9 (aI (eB true) (aI (eB true) (aI (eB true) (aI (eB true) (aI (eB true) (aI (eB true) (aI (eB true) (aI (eB true) (aI (eB true) (aI (eB true) (aI (eB true) (aI (eB true) (aI (eB true) (aI (eB true) (aI (eB true) (aI (eB true) (aI (eB true) (aI (eB true) (aI (eB true) (aI (eB true) (aI (eB true) (aI (eB true) (aI (eB true) (aI (eB true) (aI (eB true) (aI (eB true) (aI (eB true) (aI (eB true) (aI (eB true) (aI (eB true) (eB true))))))))))))))))))))))))))))))))))))))))))))))))))))))))
        · refine iteB h26 (fun c10 h27 => ?_) (fun c10 h28 => ?_) <;> clear h26
          · obtain rfl := some_inv h27
            exact afd fol hE [.r [], .r [(0, {rs := [.one (L.bool x1)], m := 1})], .c false, .r [(2, {rs := [.one (L.bool x2)], m := 1})], .c false, .r [(2, {rs := [.agg x3.ls], m := 1})], .r [], .r [(3, {rs := [.agg x4.ls], m := 1})], .d {ds := [(16, {yes := false}), (24, {yes := false}), (26, {want := false}), (27, {want := false}), (28, {want := false}), (29, {want := false}), (30, {want := false}), (31, {want := false}), (34, {want := false}), (35, {want := false}), (36, {want := false}), (37, {want := false}), (38, {want := false}), (41, {want := false}), (42, {want := false}), (43, {want := false}), (44, {want := false}), (45, {want := false}), (46, {want := false}), (47, {want := false}), (48, {want := false}), (51, {want := false}), (52, {want := false}), (53, {want := false}), (54, {want := false}), (55, {want := false}), (56, {want := false}), (57, {want := false})], hv := 0, Hs := []}, .c true, .r []] [] 0 [] (aI (Tlaw11_alive.snd c1) (aI c2 (aI (Tlaw11_great.snd c3) (aI c4 (aI (Tlaw11_spot.snd c5) (aI z0 (aI (eN (0)) (aI c6 (aI (rule_BehindP.snd c7) (aI c8 (aI c8 (aI c8 (aI c8 (aI c8 (aI c8 (aI c8 (aI c8 (aI c8 (aI c9 (aI c9 (aI c9 (aI c9 (aI c9 (aI c9 (aI c9 (aI c10 (aI c10 (aI c10 (aI c10 (aI c10 (aI c10 (aI c10 (aI (eB true) (aI (eB true) (aI (eB true) (aI (eB true) (aI (eB true) (aI (eB true) (aI (eB true) (aI (eB true) (aI (eB true) (aI (eB true) (aI (eB true) (aI (eB true) (aI (eB true) (aI (eB true) (aI (eB true) (aI (eB true) (aI (eB true) (aI (eB true) (aI (eB true) (aI (eB true) (aI (eB true) (aI (eB true) (aI (eB true) (eB true))))))))))))))))))))))))))))))))))))))))))))))))))))))))
          · refine iteB h28 (fun c11 h29 => ?_) (fun c11 h30 => ?_) <;> clear h28
            · obtain rfl := some_inv h29
              exact afd fol hE [.r [], .r [(0, {rs := [.one (L.bool x1)], m := 1})], .c false, .r [(2, {rs := [.one (L.bool x2)], m := 1})], .c false, .r [(2, {rs := [.agg x3.ls], m := 1})], .r [], .r [(3, {rs := [.agg x4.ls], m := 1})], .d {ds := [(16, {yes := false}), (24, {yes := false}), (32, {yes := false}), (34, {want := false}), (35, {want := false}), (36, {want := false}), (37, {want := false}), (38, {want := false}), (41, {want := false}), (42, {want := false}), (43, {want := false}), (44, {want := false}), (45, {want := false}), (46, {want := false}), (47, {want := false}), (48, {want := false}), (51, {want := false}), (52, {want := false}), (53, {want := false}), (54, {want := false}), (55, {want := false}), (56, {want := false}), (57, {want := false})], hv := 0, Hs := []}, .c true, .r []] [] 0 [] (aI (Tlaw11_alive.snd c1) (aI c2 (aI (Tlaw11_great.snd c3) (aI c4 (aI (Tlaw11_spot.snd c5) (aI z0 (aI (eN (0)) (aI c6 (aI (rule_BehindP.snd c7) (aI c8 (aI c8 (aI c8 (aI c8 (aI c8 (aI c8 (aI c8 (aI c8 (aI c8 (aI c9 (aI c9 (aI c9 (aI c9 (aI c9 (aI c9 (aI c9 (aI c10 (aI c10 (aI c10 (aI c10 (aI c10 (aI c10 (aI c10 (aI c11 (aI c11 (aI c11 (aI c11 (aI c11 (aI c11 (aI (eB true) (aI (eB true) (aI (eB true) (aI (eB true) (aI (eB true) (aI (eB true) (aI (eB true) (aI (eB true) (aI (eB true) (aI (eB true) (aI (eB true) (aI (eB true) (aI (eB true) (aI (eB true) (aI (eB true) (aI (eB true) (aI (eB true) (eB true))))))))))))))))))))))))))))))))))))))))))))))))))))))))
            · obtain ⟨x5, c12, h31⟩ := optE_inv h30; clear h30
              refine iteB h31 (fun c13 h32 => ?_) (fun c13 h33 => ?_) <;> clear h31
              · obtain rfl := some_inv h32
                exact afd fol hE [.r [], .r [(0, {rs := [.one (L.bool x1)], m := 1})], .c false, .r [(2, {rs := [.one (L.bool x2)], m := 1})], .c false, .r [(2, {rs := [.agg x3.ls], m := 1})], .r [], .r [(3, {rs := [.agg x4.ls], m := 1})], .d {ds := [(16, {yes := false}), (24, {yes := false}), (32, {yes := false}), (37, {rs := [.agg [L.arr .u8 32 x5]], m := 1}), (39, {yes := false}), (41, {want := false}), (42, {want := false}), (43, {want := false}), (44, {want := false}), (45, {want := false}), (46, {want := false}), (47, {want := false}), (48, {want := false}), (51, {want := false}), (52, {want := false}), (53, {want := false}), (54, {want := false}), (55, {want := false}), (56, {want := false}), (57, {want := false})], hv := 0, Hs := []}, .c true, .r []] [] 0 [] (aI (Tlaw11_alive.snd c1) (aI c2 (aI (Tlaw11_great.snd c3) (aI c4 (aI (Tlaw11_spot.snd c5) (aI z0 (aI (eN (0)) (aI c6 (aI (rule_BehindP.snd c7) (aI c8 (aI c8 (aI c8 (aI c8 (aI c8 (aI c8 (aI c8 (aI c8 (aI c8 (aI c9 (aI c9 (aI c9 (aI c9 (aI c9 (aI c9 (aI c9 (aI c10 (aI c10 (aI c10 (aI c10 (aI c10 (aI c10 (aI c10 (aI c11 (aI c11 (aI c11 (aI c11 (aI (Tref06_Id.snd c12) (aI c11 (aI c11 (aI c13 (aI c13 (aI c13 (aI c13 (aI c13 (aI c13 (aI c13 (aI c13 (aI c13 (aI (eB true) (aI (eB true) (aI (eB true) (aI (eB true) (aI (eB true) (aI (eB true) (aI (eB true) (aI (eB true) (eB true)))))))))))))))))))))))))))))))))))))))))))))))))))))))))
              · refine iteB h33 (fun c14 h34 => ?_) (fun c14 h35 => ?_) <;> clear h33
                · obtain rfl := some_inv h34
                  exact afd fol hE [.r [], .r [(0, {rs := [.one (L.bool x1)], m := 1})], .c false, .r [(2, {rs := [.one (L.bool x2)], m := 1})], .c false, .r [(2, {rs := [.agg x3.ls], m := 1})], .r [], .r [(3, {rs := [.agg x4.ls], m := 1})], .d {ds := [(16, {yes := false}), (24, {yes := false}), (32, {yes := false}), (37, {rs := [.agg [L.arr .u8 32 x5]], m := 1}), (39, {yes := false}), (49, {yes := false}), (51, {want := false}), (52, {want := false}), (53, {want := false}), (54, {want := false}), (55, {want := false}), (56, {want := false}), (57, {want := false})], hv := 0, Hs := []}, .c true, .r []] [] 0 [] (aI (Tlaw11_alive.snd c1) (aI c2 (aI (Tlaw11_great.snd c3) (aI c4 (aI (Tlaw11_spot.snd c5) (aI z0 (aI (eN (0)) (aI c6 (aI (rule_BehindP.snd c7) (aI c8 (aI c8 (aI c8 (aI c8 (aI c8 (aI c8 (aI c8 (aI c8 (aI c8 (aI c9 (aI c9 (aI c9 (aI c9 (aI c9 (aI c9 (aI c9 (aI c10 (aI c10 (aI c10 (aI c10 (aI c10 (aI c10 (aI c10 (aI c11 (aI c11 (aI c11 (aI c11 (aI (Tref06_Id.snd c12) (aI c11 (aI c11 (aI c13 (aI c13 (aI c13 (aI c13 (aI c13 (aI c13 (aI c13 (aI c13 (aI c13 (aI c14 (aI c14 (aI c14 (aI c14 (aI c14 (aI c14 (aI c14 (aI c14 (eB true)))))))))))))))))))))))))))))))))))))))))))))))))))))))))
                · obtain ⟨c15, h36⟩ := chk_inv h35; clear h35
                  obtain ⟨x6, c16, h37⟩ := dec_i64_get h36; clear h36
                  refine iteB h37 (fun c17 h38 => ?_) (fun c17 h39 => ?_) <;> clear h37
                  · obtain rfl := some_inv h38
                    exact afd fol hE [.r [], .r [(0, {rs := [.one (L.bool x1)], m := 1})], .c false, .r [(2, {rs := [.one (L.bool x2)], m := 1})], .c false, .r [(2, {rs := [.agg x3.ls], m := 1})], .r [], .r [(3, {rs := [.agg x4.ls], m := 1})], .d {ds := [(16, {yes := false}), (24, {yes := false}), (32, {yes := false}), (37, {rs := [.agg [L.arr .u8 32 x5]], m := 1}), (39, {yes := false}), (49, {yes := false}), (54, {oe := [L.int .i64 x6]}), (58, {yes := false})], hv := 0, Hs := []}, .c true, .r []] [] 0 [] (aI (Tlaw11_alive.snd c1) (aI c2 (aI (Tlaw11_great.snd c3) (aI c4 (aI (Tlaw11_spot.snd c5) (aI z0 (aI (eN (0)) (aI c6 (aI (rule_BehindP.snd c7) (aI c8 (aI c8 (aI c8 (aI c8 (aI c8 (aI c8 (aI c8 (aI c8 (aI c8 (aI c9 (aI c9 (aI c9 (aI c9 (aI c9 (aI c9 (aI c9 (aI c10 (aI c10 (aI c10 (aI c10 (aI c10 (aI c10 (aI c10 (aI c11 (aI c11 (aI c11 (aI c11 (aI (Tref06_Id.snd c12) (aI c11 (aI c11 (aI c13 (aI c13 (aI c13 (aI c13 (aI c13 (aI c13 (aI c13 (aI c13 (aI c13 (aI c14 (aI c14 (aI c14 (aI (leI 0 0) (aI c15 (aI c14 (aI c16 (aI c14 (aI c14 (aI c14 (aI c14 c17)))))))))))))))))))))))))))))))))))))))))))))))))))))))))))
                  · exact aqd fol [.r [], .r [(0, {rs := [.one (L.bool x1)], m := 1})], .c false, .r [(2, {rs := [.one (L.bool x2)], m := 1})], .c false, .r [(2, {rs := [.agg x3.ls], m := 1})], .r [], .r [(3, {rs := [.agg x4.ls], m := 1})], .d {ds := [(16, {yes := false}), (24, {yes := false}), (32, {yes := false}), (37, {rs := [.agg [L.arr .u8 32 x5]], m := 1}), (39, {yes := false}), (49, {yes := false}), (54, {oe := [L.int .i64 x6]}), (58, {yes := false})], hv := 0, Hs := []}, .c false, .r []] [7, 8, 9, 87, 88] [7, 9, 19] (aI (Tlaw11_alive.snd c1) (aI c2 (aI (Tlaw11_great.snd c3) (aI c4 (aI (Tlaw11_spot.snd c5) (aI z0 (aI (eN (0)) (aI c6 (aI (rule_BehindP.snd c7) (aI c8 (aI c8 (aI c8 (aI c8 (aI c8 (aI c8 (aI c8 (aI c8 (aI c8 (aI c9 (aI c9 (aI c9 (aI c9 (aI c9 (aI c9 (aI c9 (aI c10 (aI c10 (aI c10 (aI c10 (aI c10 (aI c10 (aI c10 (aI c11 (aI c11 (aI c11 (aI c11 (aI (Tref06_Id.snd c12) (aI c11 (aI c11 (aI c13 (aI c13 (aI c13 (aI c13 (aI c13 (aI c13 (aI c13 (aI c13 (aI c13 (aI c14 (aI c14 (aI c14 (aI (leI 0 0) (aI c15 (aI c14 (aI c16 (aI c14 (aI c14 (aI c14 (aI c14 c17))))))))))))))))))))))))))))))))))))))))))))))))))))))))))) (At.loop N (At.loopN (fun y : Int => Tlaw11_RuleSpots.p1.S x3 y x4 st) (fun c J hc y h => Tlaw11_RuleSpots.p1_ok x3 y x4 st hE (fun v7 hh => hc v7 hh) h) N 0 h39))
/-! trailhead/trailheadlaw11.RuleLater -/
noncomputable def Tlaw11_RuleLater.B : Code := Tryd.f4.body.getD .skip
noncomputable def Tlaw11_RuleLater.rs (r : Bool) : List CV := [.one (L.bool r)]
noncomputable def Tlaw11_RuleLater (N : Nat) (p_0 : api_Params) (chain_1 : LL) (h_2 : api_Header) (now_3 more_4 : Int) : Option Bool :=
 optE (Tlaw11_alive N ) fun x1 =>
 if (!x1) = true then
  some false
 else
 optE (Tlaw11_great N p_0 chain_1) fun x2 =>
 if x2 = true then
  some true
 else
 if (decide (now_3 < 0)) = true then
  some true
 else
 if (decide (now_3 > 1099511627776)) = true then
  some true
 else
 if (decide (more_4 < 0)) = true then
  some true
 else
 if (decide (more_4 > 1099511627776)) = true then
  some true
 else
 optE (Tlaw11_spot N p_0 chain_1) fun x3 =>
 optE (rule_Check N p_0 x3 h_2 now_3) fun x4 =>
 optE (rule_Check N p_0 x3 h_2 (w64 (now_3 + more_4))) fun x5 =>
 optE (rule_Check N p_0 x3 h_2 1099511627776) fun x6 =>
 if (x4 != 6) = true then
  if (x4 == x5) = true then
   some (x4 == x6)
  else
  some false
 else
 if ((decide (p_0.Future < 0)) == (x6 == 6)) = true then
  if (x5 == 6) = true then
   some true
  else
  some (x5 == x6)
 else
 some false
theorem Tlaw11_RuleLater.snd {p_0 : api_Params} {chain_1 : LL} {h_2 : api_Header} {now_3 more_4 : Int} {r : Bool} (h : Tlaw11_RuleLater N p_0 chain_1 h_2 now_3 more_4 = some r) : SndQ Tryd.prog 4 [.agg p_0.ls, .one (L.sl 68 chain_1), .agg h_2.ls, .one (L.int .i64 now_3), .one (L.int .i64 more_4)] (Tlaw11_RuleLater.rs r) := fun st =>
 sO Tlaw11_RuleLater.B Tryd.func4 fun g0 w0 R hE => by
  unfold Tlaw11_RuleLater at h
  obtain ⟨x1, c1, h1⟩ := optE_inv h; clear h
  refine iteB h1 (fun c2 h2 => ?_) (fun c2 h3 => ?_) <;> clear h1
  · obtain rfl := some_inv h2
    exact af fol hE [.r [], .r [(0, {rs := [.one (L.bool x1)], m := 1})], .c true, .r []] [] 0 [] (aI (Tlaw11_alive.snd c1) c2)
  · obtain ⟨x2, c3, h4⟩ := optE_inv h3; clear h3
    refine iteB h4 (fun c4 h5 => ?_) (fun c4 h6 => ?_) <;> clear h4
    · obtain rfl := some_inv h5
      exact af fol hE [.r [], .r [(0, {rs := [.one (L.bool x1)], m := 1})], .c false, .r [(2, {rs := [.one (L.bool x2)], m := 1}), (4, {want := false}), (5, {want := false}), (8, {want := false}), (9, {want := false}), (12, {want := false}), (13, {want := false}), (16, {want := false}), (17, {want := false})], .c true, .r []] [] 0 [] (aI (Tlaw11_alive.snd c1) (aI c2 (aI (Tlaw11_great.snd c3) (aI c4 (aI c4 (aI c4 (aI (eB true) (aI (eB true) (aI (eB true) (aI (eB true) (aI (eB true) (aI (eB true) (aI (eB true) (aI (eB true) (aI (eB true) (eB true))))))))))))))))
    · refine iteB h6 (fun c5 h7 => ?_) (fun c5 h8 => ?_) <;> clear h6
      · obtain rfl := some_inv h7
        exact af fol hE [.r [], .r [(0, {rs := [.one (L.bool x1)], m := 1})], .c false, .r [(2, {rs := [.one (L.bool x2)], m := 1}), (6, {yes := false}), (8, {want := false}), (9, {want := false}), (12, {want := false}), (13, {want := false}), (16, {want := false}), (17, {want := false})], .c true, .r []] [] 0 [] (aI (Tlaw11_alive.snd c1) (aI c2 (aI (Tlaw11_great.snd c3) (aI c4 (aI c4 (aI c4 (aI c5 (aI c5 (aI c5 (aI (eB true) (aI (eB true) (aI (eB true) (aI (eB true) (aI (eB true) (aI (eB true) (eB true))))))))))))))))
      · refine iteB h8 (fun c6 h9 => ?_) (fun c6 h10 => ?_) <;> clear h8
        · obtain rfl := some_inv h9
          exact af fol hE [.r [], .r [(0, {rs := [.one (L.bool x1)], m := 1})], .c false, .r [(2, {rs := [.one (L.bool x2)], m := 1}), (6, {yes := false}), (10, {yes := false}), (12, {want := false}), (13, {want := false}), (16, {want := false}), (17, {want := false})], .c true, .r []] [] 0 [] (aI (Tlaw11_alive.snd c1) (aI c2 (aI (Tlaw11_great.snd c3) (aI c4 (aI c4 (aI c4 (aI c5 (aI c5 (aI c5 (aI c6 (aI c6 (aI c6 (aI (eB true) (aI (eB true) (aI (eB true) (eB true))))))))))))))))
        · refine iteB h10 (fun c7 h11 => ?_) (fun c7 h12 => ?_) <;> clear h10
          · obtain rfl := some_inv h11
            exact af fol hE [.r [], .r [(0, {rs := [.one (L.bool x1)], m := 1})], .c false, .r [(2, {rs := [.one (L.bool x2)], m := 1}), (6, {yes := false}), (10, {yes := false}), (14, {yes := false}), (16, {want := false}), (17, {want := false})], .c true, .r []] [] 0 [] (aI (Tlaw11_alive.snd c1) (aI c2 (aI (Tlaw11_great.snd c3) (aI c4 (aI c4 (aI c4 (aI c5 (aI c5 (aI c5 (aI c6 (aI c6 (aI c6 (aI c7 (aI c7 (aI c7 (eB true))))))))))))))))
          · refine iteB h12 (fun c8 h13 => ?_) (fun c8 h14 => ?_) <;> clear h12
            · obtain rfl := some_inv h13
              exact af fol hE [.r [], .r [(0, {rs := [.one (L.bool x1)], m := 1})], .c false, .r [(2, {rs := [.one (L.bool x2)], m := 1}), (6, {yes := false}), (10, {yes := false}), (14, {yes := false}), (18, {yes := false})], .c true, .r []] [] 0 [] (aI (Tlaw11_alive.snd c1) (aI c2 (aI (Tlaw11_great.snd c3) (aI c4 (aI c4 (aI c4 (aI c5 (aI c5 (aI c5 (aI c6 (aI c6 (aI c6 (aI c7 (aI c7 (aI c7 c8)))))))))))))))
            · obtain ⟨x3, c9, h15⟩ := optE_inv h14; clear h14
              obtain ⟨x4, c10, h16⟩ := optE_inv h15; clear h15
              obtain ⟨x5, c11, h17⟩ := optE_inv h16; clear h16
              obtain ⟨x6, c12, h18⟩ := optE_inv h17; clear h17
              refine iteB h18 (fun c13 h19 => ?_) (fun c13 h20 => ?_) <;> clear h18
              · refine iteB h19 (fun c14 h21 => ?_) (fun c14 h22 => ?_) <;> clear h19
                · obtain rfl := some_inv h21
                  exact afd fol hE [.r [], .r [(0, {rs := [.one (L.bool x1)], m := 1})], .c false, .r [(2, {rs := [.one (L.bool x2)], m := 1}), (6, {yes := false}), (10, {yes := false}), (14, {yes := false}), (18, {yes := false})], .c false, .r [(2, {rs := [.agg x3.ls], m := 1})], .d {ds := [(4, {rs := [.one (L.int .i64 x4)], m := 1}), (11, {rs := [.one (L.int .i64 x5)], m := 1}), (15, {rs := [.one (L.int .i64 x6)], m := 1})], hv := 0, Hs := []}, .r [], .c true, .r []] [] 0 [] (aI (Tlaw11_alive.snd c1) (aI c2 (aI (Tlaw11_great.snd c3) (aI c4 (aI c4 (aI c4 (aI c5 (aI c5 (aI c5 (aI c6 (aI c6 (aI c6 (aI c7 (aI c7 (aI c7 (aI c8 (aI (Tlaw11_spot.snd c9) (aI (rule_Check.snd c10) (aI (rule_Check.snd c11) (aI (rule_Check.snd c12) (aI c13 (aI c14 (aI c14 (aI c14 c14))))))))))))))))))))))))
                · obtain rfl := some_inv h22
                  exact afd fol hE [.r [], .r [(0, {rs := [.one (L.bool x1)], m := 1})], .c false, .r [(2, {rs := [.one (L.bool x2)], m := 1}), (6, {yes := false}), (10, {yes := false}), (14, {yes := false}), (18, {yes := false})], .c false, .r [(2, {rs := [.agg x3.ls], m := 1})], .d {ds := [(4, {rs := [.one (L.int .i64 x4)], m := 1}), (11, {rs := [.one (L.int .i64 x5)], m := 1}), (15, {rs := [.one (L.int .i64 x6)], m := 1})], hv := 0, Hs := []}, .r [], .c true, .r [(4, {want := false}), (5, {want := false}), (6, {want := false}), (7, {yes := false})]] [] 0 [] (aI (Tlaw11_alive.snd c1) (aI c2 (aI (Tlaw11_great.snd c3) (aI c4 (aI c4 (aI c4 (aI c5 (aI c5 (aI c5 (aI c6 (aI c6 (aI c6 (aI c7 (aI c7 (aI c7 (aI c8 (aI (Tlaw11_spot.snd c9) (aI (rule_Check.snd c10) (aI (rule_Check.snd c11) (aI (rule_Check.snd c12) (aI c13 (aI c14 (aI c14 (aI c14 c14))))))))))))))))))))))))
              · refine iteB h20 (fun c15 h23 => ?_) (fun c15 h24 => ?_) <;> clear h20
                · refine iteB h23 (fun c16 h25 => ?_) (fun c16 h26 => ?_) <;> clear h23
                  · obtain rfl := some_inv h25
                    exact afd fol hE [.r [], .r [(0, {rs := [.one (L.bool x1)], m := 1})], .c false, .r [(2, {rs := [.one (L.bool x2)], m := 1}), (6, {yes := false}), (10, {yes := false}), (14, {yes := false}), (18, {yes := false})], .c false, .r [(2, {rs := [.agg x3.ls], m := 1})], .d {ds := [(4, {rs := [.one (L.int .i64 x4)], m := 1}), (11, {rs := [.one (L.int .i64 x5)], m := 1}), (15, {rs := [.one (L.int .i64 x6)], m := 1})], hv := 0, Hs := []}, .r [], .c false, .r [(10, {want := false}), (11, {want := false}), (12, {want := false})]] [] 0 [] (aI (Tlaw11_alive.snd c1) (aI c2 (aI (Tlaw11_great.snd c3) (aI c4 (aI c4 (aI c4 (aI c5 (aI c5 (aI c5 (aI c6 (aI c6 (aI c6 (aI c7 (aI c7 (aI c7 (aI c8 (aI (Tlaw11_spot.snd c9) (aI (rule_Check.snd c10) (aI (rule_Check.snd c11) (aI (rule_Check.snd c12) (aI c13 (aI c15 (aI c15 (aI c15 (aI c16 (aI c16 (aI c16 (aI c15 (aI c16 c15)))))))))))))))))))))))))))))
                  · obtain rfl := some_inv h26
                    exact afd fol hE [.r [], .r [(0, {rs := [.one (L.bool x1)], m := 1})], .c false, .r [(2, {rs := [.one (L.bool x2)], m := 1}), (6, {yes := false}), (10, {yes := false}), (14, {yes := false}), (18, {yes := false})], .c false, .r [(2, {rs := [.agg x3.ls], m := 1})], .d {ds := [(4, {rs := [.one (L.int .i64 x4)], m := 1}), (11, {rs := [.one (L.int .i64 x5)], m := 1}), (15, {rs := [.one (L.int .i64 x6)], m := 1})], hv := 0, Hs := []}, .r [], .c false, .r [(13, {yes := false})]] [] 0 [] (aI (Tlaw11_alive.snd c1) (aI c2 (aI (Tlaw11_great.snd c3) (aI c4 (aI c4 (aI c4 (aI c5 (aI c5 (aI c5 (aI c6 (aI c6 (aI c6 (aI c7 (aI c7 (aI c7 (aI c8 (aI (Tlaw11_spot.snd c9) (aI (rule_Check.snd c10) (aI (rule_Check.snd c11) (aI (rule_Check.snd c12) (aI c13 (aI c15 (aI c15 (aI c15 (aI c16 (aI c16 (aI c16 (aI c15 (aI c16 c15)))))))))))))))))))))))))))))
                · obtain rfl := some_inv h24
                  exact afd fol hE [.r [], .r [(0, {rs := [.one (L.bool x1)], m := 1})], .c false, .r [(2, {rs := [.one (L.bool x2)], m := 1}), (6, {yes := false}), (10, {yes := false}), (14, {yes := false}), (18, {yes := false})], .c false, .r [(2, {rs := [.agg x3.ls], m := 1})], .d {ds := [(4, {rs := [.one (L.int .i64 x4)], m := 1}), (11, {rs := [.one (L.int .i64 x5)], m := 1}), (15, {rs := [.one (L.int .i64 x6)], m := 1})], hv := 0, Hs := []}, .r [], .c false, .r [(7, {want := false}), (8, {want := false}), (9, {want := false}), (13, {want := false}), (14, {yes := false})]] [] 0 [] (aI (Tlaw11_alive.snd c1) (aI c2 (aI (Tlaw11_great.snd c3) (aI c4 (aI c4 (aI c4 (aI c5 (aI c5 (aI c5 (aI c6 (aI c6 (aI c6 (aI c7 (aI c7 (aI c7 (aI c8 (aI (Tlaw11_spot.snd c9) (aI (rule_Check.snd c10) (aI (rule_Check.snd c11) (aI (rule_Check.snd c12) (aI c13 (aI c15 (aI c15 (aI c15 (aI c15 c15)))))))))))))))))))))))))
end Go.Dn.F
