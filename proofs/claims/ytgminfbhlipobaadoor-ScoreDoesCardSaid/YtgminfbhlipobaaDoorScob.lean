/- Contracts of functions of the program, as shallow functions, and their proofs. -/
import Derived.Test.YtgminfbhlipobaaDoorScoa
set_option linter.all false
set_option maxRecDepth 100000
namespace Go.Dn.F
open Go.Proofs
/-! trailhead/trailheadlaw20.ScoreDoes -/
noncomputable def Tlaw20_ScoreDoes.B : Code := Tryd.f6.body.getD .skip
noncomputable def Tlaw20_ScoreDoes.rs (r : Bool × (List (List L))) : List CV := [.one (L.bool r.1)]
noncomputable def Tlaw20_ScoreDoes.p4 (N : Nat) (c1_ : (Int × (List (List L))) → Option (Bool × (List (List L)))) (other_1 : Int) (x4 : Option Nat) (st5 : List (List L)) (x78 : List (List L)) (script_0 : List (List L)) (v6 : Int) (x63 : Int) (x83 : Int) (x85 : Int) (x87 : Int) (x89 : Int) (x91 : Bool) (x93 : Bool) (x62 : Int) (x64 : List (List L)) (st94 : List (List L)) (c4_ : (Int × (List (List L))) → Option (Bool × (List (List L)))) : (Int × (List (List L))) → Option (Bool × (List (List L))) := fun (v95, v101) =>
  if (decide (v95 < ((List.length x78 : Nat) : Int))) = true then
    chk (0 ≤ v95) <|
    optE (v101[0 + (Int.toNat v95)]?) fun e => dec_i64 e fun x102 =>
    optE (st94[List.length st5]?) fun e => obj_trailheadref20_Board e fun x103 x104 x105 =>
    chk (v95 < ((List.length x105 : Nat) : Int)) <|
    optE (x105[0 + (Int.toNat v95)]?) fun e => dec_i64 e fun x106 =>
    if (x102 != x106) = true then
      some (false, st94)
    else
    c4_ (IntKind.wrap IntKind.i64 (v95 + 1), List.set v101 (0 + (Int.toNat v95)) [L.int .i64 (-1)])
  else
  c1_ (IntKind.wrap IntKind.i64 (v6 + 1), st94)
noncomputable def Tlaw20_ScoreDoes.p3 (N : Nat) (c1_ : (Int × (List (List L))) → Option (Bool × (List (List L)))) (other_1 : Int) (x4 : Option Nat) (st5 : List (List L)) (script_0 : List (List L)) (v6 : Int) (x62 : Int) (x63 : Int) (x64 : List (List L)) (st77 : List (List L)) : Option (Bool × (List (List L))) :=
  optE (score_Board_Shunned N x4 st77) fun (x78, st79) =>
  optE (st79[List.length st5]?) fun e => obj_trailheadref20_Board e fun x80 x81 x82 =>
  if (((List.length x78 : Nat) : Int) != ((List.length x82 : Nat) : Int)) = true then
    some (false, st79)
  else
  optE (score_Board_Sum N x4 x63 st79) fun (x83, st84) =>
  optE (Tref20_Board_Sum N (some (List.length st5)) x63 st84) fun (x85, st86) =>
  if (x83 != x85) = true then
    some (false, st86)
  else
  optE (score_Board_Sum N x4 other_1 st86) fun (x87, st88) =>
  optE (Tref20_Board_Sum N (some (List.length st5)) other_1 st88) fun (x89, st90) =>
  if (x87 != x89) = true then
    some (false, st90)
  else
  optE (score_Board_Shuns N x4 other_1 st90) fun (x91, st92) =>
  optE (Tref20_Board_Shuns N (some (List.length st5)) other_1 st92) fun (x93, st94) =>
  if (!(x91 == x93)) = true then
    some (false, st94)
  else
  loopN (Tlaw20_ScoreDoes.p4 N c1_ other_1 x4 st5 x78 script_0 v6 x63 x83 x85 x87 x89 x91 x93 x62 x64 st94) N (0, x78)
noncomputable def Tlaw20_ScoreDoes.p2 (N : Nat) (c1_ : (Int × (List (List L))) → Option (Bool × (List (List L)))) (other_1 : Int) (x4 : Option Nat) (st5 : List (List L)) (script_0 : List (List L)) (v6 : Int) (x64 : List (List L)) (x62 : Int) (x63 : Int) (st61 : List (List L)) (c2_ : (Int × Int) → Option (Bool × (List (List L)))) : (Int × Int) → Option (Bool × (List (List L))) := fun (n_65, v66) =>
  if (decide (v66 < ((List.length x64 : Nat) : Int))) = true then
    chk (0 ≤ v66) <|
    optE (x64[Int.toNat v66]?) fun e => dec_i64 e fun x67 =>
    optE (Tref20_Points N x67) fun x68 =>
    c2_ (IntKind.wrap IntKind.i64 (n_65 + x68), IntKind.wrap IntKind.i64 (v66 + 1))
  else
  optE (Tlaw20_faults N x64) fun x69 =>
  optE (score_Points N x69) fun x70 =>
  if (x70 != n_65) = true then
    some (false, st61)
  else
  optE (score_Board_Blame N x4 x63 x69 st61) fun (x71, st72) =>
  optE (Tref20_Board_Blame N (some (List.length st5)) x63 x64 st72) fun (x73, st74) =>
  if (!(x71 == x73)) = true then
    some (false, st74)
  else
  Tlaw20_ScoreDoes.p3 N c1_ other_1 x4 st5 script_0 v6 x62 x63 x64 st74
noncomputable def Tlaw20_ScoreDoes.p1 (N : Nat)  (other_1 : Int) (x4 : Option Nat) (st5 : List (List L)) (script_0 : List (List L)) (c1_ : (Int × (List (List L))) → Option (Bool × (List (List L)))) : (Int × (List (List L))) → Option (Bool × (List (List L))) := fun (v6, st61) =>
  if (decide (v6 < ((List.length script_0 : Nat) : Int))) = true then
    chk (0 ≤ v6) <|
    optE (script_0[Int.toNat v6]?) fun e => dec_trailheadlaw20_Call e fun x62 x63 x64 =>
    if (x62 == 0) = true then
      loopN (Tlaw20_ScoreDoes.p2 N c1_ other_1 x4 st5 script_0 v6 x64 x62 x63 st61) N (0, 0)
    else
    if (x62 == 1) = true then
      optE (score_Board_Forget N x4 x63 st61) fun st75 =>
      optE (Tref20_Board_Forget N (some (List.length st5)) x63 st75) fun st76 =>
      Tlaw20_ScoreDoes.p3 N c1_ other_1 x4 st5 script_0 v6 x62 x63 x64 st76
    else
    Tlaw20_ScoreDoes.p3 N c1_ other_1 x4 st5 script_0 v6 x62 x63 x64 st61
  else
  optE (score_Board_Forget N none 1 st61) fun st107 =>
  chk (1 ≤ (List.length [[L.int .i64 1]])) <|
  optE (score_Board_Blame N none 1 (List.take 1 [[L.int .i64 1]]) st107) fun (x108, st109) =>
  if (!x108) = true then
    optE (score_Board_Sum N none 1 st109) fun (x110, st111) =>
    if (x110 == 0) = true then
      optE (score_Board_Shuns N none 1 st111) fun (x112, st113) =>
      if (!x112) = true then
        optE (score_Board_Shunned N none st113) fun (x114, st115) =>
        some (((List.length x114 : Nat) : Int) == 0, st115)
      else
      some (false, st113)
    else
    some (false, st111)
  else
  some (false, st109)
noncomputable def Tlaw20_ScoreDoes (N : Nat) (script_0 : List (List L)) (other_1 : Int) (st : List (List L)) : Option (Bool × (List (List L))) :=
  optE (Tlaw20_alive N st) fun (x1, st2) =>
  if (!x1) = true then
    some (false, st2)
  else
  optE (Tlaw20_great N script_0) fun x3 =>
  if x3 = true then
    some (true, st2)
  else
  optE (score_New N st2) fun (x4, st5) =>
  loopN (Tlaw20_ScoreDoes.p1 N  other_1 x4 st5 script_0) N (0, st5 ++ [[L.own true 1 [], L.own true 1 [], L.own true 1 []]])
noncomputable def Tlaw20_ScoreDoes.p4.S (other_1 : Int) (x4 : Option Nat) (st5 : List (List L)) (x78 : List (List L)) (script_0 : List (List L)) (v6 : Int) (x63 : Int) (x83 : Int) (x85 : Int) (x87 : Int) (x89 : Int) (x91 : Bool) (x93 : Bool) (v95 : Int) (x62 : Int) (x64 : List (List L)) (v101 : List (List L)) (st94 : List (List L)) : S := mkS 159 [(1, .one (.l (L.int .i64 other_1))), (5, .one (.l (L.ptr x4))), (6, .one (.l (L.ptr (some (List.length st5))))), (12, .one (.h (.row 77 0) 1 0 (List.length x78))), (22, .one (.l (L.sl 3 script_0))), (23, .one (.l (L.int .i64 ((List.length script_0 : Nat) : Int)))), (24, .one (.l (L.int .i64 v6))), (87, .one (.l (L.ptr x4))), (88, .one (.adr (.site 8) 1)), (89, .one (.l (L.int .i64 x63))), (90, .one (.l (L.int .i64 x83))), (91, .one (.l (L.ptr (some (List.length st5))))), (92, .one (.adr (.site 8) 1)), (93, .one (.l (L.int .i64 x63))), (94, .one (.l (L.int .i64 x85))), (95, .one (.l (L.bool (x83 != x85)))), (98, .one (.l (L.ptr x4))), (99, .one (.l (L.int .i64 other_1))), (100, .one (.l (L.int .i64 x87))), (101, .one (.l (L.ptr (some (List.length st5))))), (102, .one (.l (L.int .i64 other_1))), (103, .one (.l (L.int .i64 x89))), (104, .one (.l (L.bool (x87 != x89)))), (107, .one (.l (L.ptr x4))), (108, .one (.l (L.int .i64 other_1))), (109, .one (.l (L.bool x91))), (110, .one (.l (L.ptr (some (List.length st5))))), (111, .one (.l (L.int .i64 other_1))), (112, .one (.l (L.bool x93))), (113, .one (.l (L.bool (!(x91 == x93))))), (116, .one (.l (L.int .i64 ((List.length x78 : Nat) : Int)))), (117, .one (.l (L.int .i64 v95)))] [(8, .cells [L.int .i64 x62, L.int .i64 x63, L.sl 1 x64]), (77, .row 0 true 1 v101)] st94
noncomputable def Tlaw20_ScoreDoes.p3.S (other_1 : Int) (x4 : Option Nat) (st5 : List (List L)) (script_0 : List (List L)) (v6 : Int) (x62 : Int) (x63 : Int) (x64 : List (List L)) (st77 : List (List L)) : S := mkS 159 [(1, .one (.l (L.int .i64 other_1))), (5, .one (.l (L.ptr x4))), (6, .one (.l (L.ptr (some (List.length st5))))), (8, .one (.adr (.site 8) 0)), (22, .one (.l (L.sl 3 script_0))), (23, .one (.l (L.int .i64 ((List.length script_0 : Nat) : Int)))), (24, .one (.l (L.int .i64 v6)))] [(8, .cells [L.int .i64 x62, L.int .i64 x63, L.sl 1 x64])] st77
noncomputable def Tlaw20_ScoreDoes.p2.S (other_1 : Int) (x4 : Option Nat) (st5 : List (List L)) (n_65 : Int) (script_0 : List (List L)) (v6 : Int) (x64 : List (List L)) (v66 : Int) (x62 : Int) (x63 : Int) (st61 : List (List L)) : S := mkS 159 [(1, .one (.l (L.int .i64 other_1))), (5, .one (.l (L.ptr x4))), (6, .one (.l (L.ptr (some (List.length st5))))), (8, .one (.adr (.site 8) 0)), (9, .one (.l (L.int .i64 n_65))), (22, .one (.l (L.sl 3 script_0))), (23, .one (.l (L.int .i64 ((List.length script_0 : Nat) : Int)))), (24, .one (.l (L.int .i64 v6))), (33, .one (.l (L.sl 1 x64))), (34, .one (.l (L.int .i64 ((List.length x64 : Nat) : Int)))), (35, .one (.l (L.int .i64 v66)))] [(8, .cells [L.int .i64 x62, L.int .i64 x63, L.sl 1 x64])] st61
noncomputable def Tlaw20_ScoreDoes.p1.S (other_1 : Int) (x4 : Option Nat) (st5 : List (List L)) (script_0 : List (List L)) (v6 : Int) (st61 : List (List L)) : S := mkS 159 [(1, .one (.l (L.int .i64 other_1))), (5, .one (.l (L.ptr x4))), (6, .one (.l (L.ptr (some (List.length st5))))), (22, .one (.l (L.sl 3 script_0))), (23, .one (.l (L.int .i64 ((List.length script_0 : Nat) : Int)))), (24, .one (.l (L.int .i64 v6)))] [] st61
theorem Tlaw20_ScoreDoes.p4_ok (other_1 : Int) (x4 : Option Nat) (st5 : List (List L)) (x78 : List (List L)) (script_0 : List (List L)) (v6 : Int) (x63 : Int) (x83 : Int) (x85 : Int) (x87 : Int) (x89 : Int) (x91 : Bool) (x93 : Bool) (v95 : Int) (x62 : Int) (x64 : List (List L)) (v101 : List (List L)) (st94 : List (List L)) {N : Nat} {r : Bool × (List (List L))} {g0 : G} {w0 : World} {R : Exit → Act → World → Prop} {c1_ : (Int × (List (List L))) → Option (Bool × (List (List L)))} {c4_ : (Int × (List (List L))) → Option (Bool × (List (List L)))} {J1 : Act → World → Prop} {J4 : Act → World → Prop} (hE : Ends Tryd.prog Tryd.f6 g0 w0 (Tlaw20_ScoreDoes.rs r) (r.2) R) (hc1 : ∀ (v6 : Int) (st61 : List (List L)), c1_ (v6, st61) = some r → At g0 w0 (Tlaw20_ScoreDoes.p1.S other_1 x4 st5 script_0 v6 st61) J1) (hc4 : ∀ (v95 : Int) (v101 : List (List L)), c4_ (v95, v101) = some r → At g0 w0 (Tlaw20_ScoreDoes.p4.S other_1 x4 st5 x78 script_0 v6 x63 x83 x85 x87 x89 x91 x93 v95 x62 x64 v101 st94) J4) (h : Tlaw20_ScoreDoes.p4 N c1_ other_1 x4 st5 x78 script_0 v6 x63 x83 x85 x87 x89 x91 x93 x62 x64 st94 c4_ (v95, v101) = some r) : At g0 w0 (Tlaw20_ScoreDoes.p4.S other_1 x4 st5 x78 script_0 v6 x63 x83 x85 x87 x89 x91 x93 v95 x62 x64 v101 st94) (exK Tryd.prog R (.c (csub Tlaw20_ScoreDoes.B [1, 1, 1, 1, 0, 1, 0, 0, 1, 1, 0, 0, 1, 1, 1, 1, 1, 0, 0]) :: .h J4 :: [.b 5, .b 1, .c (csub Tlaw20_ScoreDoes.B [1, 1, 1, 1, 0, 1, 0, 0, 1, 1, 1]), .h J1, .b 0, .c (csub Tlaw20_ScoreDoes.B [1, 1, 1, 1, 1])]) .normal) := by
  unfold Tlaw20_ScoreDoes.p4 at h
  refine iteB h (fun c94 h1 => ?_) (fun c94 h2 => ?_) <;> clear h
  · obtain ⟨c95, h3⟩ := chk_inv h1; clear h1
    obtain ⟨h6, c96, h4⟩ := optE_inv h3; clear h3
    obtain ⟨x102, rfl, h5⟩ := dec_i64_inv h4; clear h4
    obtain ⟨h9, c97, h7⟩ := optE_inv h5; clear h5
    obtain ⟨x103, x104, x105, rfl, h8⟩ := obj_trailheadref20_Board_inv h7; clear h7
    obtain ⟨c98, h10⟩ := chk_inv h8; clear h8
    obtain ⟨h13, c99, h11⟩ := optE_inv h10; clear h10
    obtain ⟨x106, rfl, h12⟩ := dec_i64_inv h11; clear h11
    refine iteB h12 (fun c100 h14 => ?_) (fun c100 h15 => ?_) <;> clear h12
    · obtain rfl := some_inv h14
      exact At.fd fol hE 400 [.r [], .c true, .r [], .d {ds := [(3, {oe := [L.int .i64 x102]}), (7, {oc := [L.own true 1 x103, L.own true 1 x104, L.own true 1 x105]}), (10, {oc := [L.own true 1 x103, L.own true 1 x104, L.own true 1 x105], oe := [L.int .i64 x106]})], hv := 0, Hs := []}, .c true, .r []] [] 0 [] (And.intro c94 (And.intro c95 (And.intro (of_decide_eq_true c94) (And.intro c96 (And.intro c97 (And.intro c95 (And.intro c98 (And.intro c99 (And.intro c97 c100))))))))) (by kernel_rfl) (by kernel_rfl)
    · exact At.nd fol 400 [.r [], .c true, .r [], .d {ds := [(3, {oe := [L.int .i64 x102]}), (7, {oc := [L.own true 1 x103, L.own true 1 x104, L.own true 1 x105]}), (10, {oc := [L.own true 1 x103, L.own true 1 x104, L.own true 1 x105], oe := [L.int .i64 x106]})], hv := 0, Hs := []}, .c false, .r [], .r []] [1, 5, 6, 12, 22, 23, 24, 87, 88, 89, 90, 91, 92, 93, 94, 95, 98, 99, 100, 101, 102, 103, 104, 107, 108, 109, 110, 111, 112, 113, 116, 117] [8, 77] (And.intro c94 (And.intro c95 (And.intro (of_decide_eq_true c94) (And.intro c96 (And.intro c97 (And.intro c95 (And.intro c98 (And.intro c99 (And.intro c97 (And.intro c100 (And.intro c95 (of_decide_eq_true c94)))))))))))) (hc4 (IntKind.wrap IntKind.i64 (v95 + 1)) (List.set v101 (0 + (Int.toNat v95)) [L.int .i64 (-1)]) h15) (by kernel_rfl) (by kernel_rfl)
  · exact At.n fol 400 [.r [], .c false, .r []] [1, 5, 6, 22, 23, 24] [] c94 (hc1 (IntKind.wrap IntKind.i64 (v6 + 1)) st94 h2) (by kernel_rfl)
theorem Tlaw20_ScoreDoes.p4_loop (other_1 : Int) (x4 : Option Nat) (st5 : List (List L)) (x78 : List (List L)) (script_0 : List (List L)) (v6 : Int) (x63 : Int) (x83 : Int) (x85 : Int) (x87 : Int) (x89 : Int) (x91 : Bool) (x93 : Bool) (v95 : Int) (x62 : Int) (x64 : List (List L)) (v101 : List (List L)) (st94 : List (List L)) {N : Nat} {r : Bool × (List (List L))} {g0 : G} {w0 : World} {R : Exit → Act → World → Prop} {c1_ : (Int × (List (List L))) → Option (Bool × (List (List L)))} {J1 : Act → World → Prop} (hE : Ends Tryd.prog Tryd.f6 g0 w0 (Tlaw20_ScoreDoes.rs r) (r.2) R) (hc1 : ∀ (v6 : Int) (st61 : List (List L)), c1_ (v6, st61) = some r → At g0 w0 (Tlaw20_ScoreDoes.p1.S other_1 x4 st5 script_0 v6 st61) J1) (h : loopN (Tlaw20_ScoreDoes.p4 N c1_ other_1 x4 st5 x78 script_0 v6 x63 x83 x85 x87 x89 x91 x93 x62 x64 st94) N (v95, v101) = some r) : At g0 w0 (Tlaw20_ScoreDoes.p4.S other_1 x4 st5 x78 script_0 v6 x63 x83 x85 x87 x89 x91 x93 v95 x62 x64 v101 st94) (exK Tryd.prog R (.c (.loop (csub Tlaw20_ScoreDoes.B [1, 1, 1, 1, 0, 1, 0, 0, 1, 1, 0, 0, 1, 1, 1, 1, 1, 0, 0])) :: [.b 5, .b 1, .c (csub Tlaw20_ScoreDoes.B [1, 1, 1, 1, 0, 1, 0, 0, 1, 1, 1]), .h J1, .b 0, .c (csub Tlaw20_ScoreDoes.B [1, 1, 1, 1, 1])]) .normal) :=
  At.loop N (At.loopN (fun y : Int × (List (List L)) => Tlaw20_ScoreDoes.p4.S other_1 x4 st5 x78 script_0 v6 x63 x83 x85 x87 x89 x91 x93 y.1 x62 x64 y.2 st94) (fun c J hc y h => Tlaw20_ScoreDoes.p4_ok other_1 x4 st5 x78 script_0 v6 x63 x83 x85 x87 x89 x91 x93 y.1 x62 x64 y.2 st94 hE hc1 (fun v95 v101 hh => hc (v95, v101) hh) h) N (v95, v101) h)
theorem Tlaw20_ScoreDoes.p3_ok (other_1 : Int) (x4 : Option Nat) (st5 : List (List L)) (script_0 : List (List L)) (v6 : Int) (x62 : Int) (x63 : Int) (x64 : List (List L)) (st77 : List (List L)) {N : Nat} {r : Bool × (List (List L))} {g0 : G} {w0 : World} {R : Exit → Act → World → Prop} {c1_ : (Int × (List (List L))) → Option (Bool × (List (List L)))} {J1 : Act → World → Prop} (hE : Ends Tryd.prog Tryd.f6 g0 w0 (Tlaw20_ScoreDoes.rs r) (r.2) R) (hc1 : ∀ (v6 : Int) (st61 : List (List L)), c1_ (v6, st61) = some r → At g0 w0 (Tlaw20_ScoreDoes.p1.S other_1 x4 st5 script_0 v6 st61) J1) (h : Tlaw20_ScoreDoes.p3 N c1_ other_1 x4 st5 script_0 v6 x62 x63 x64 st77 = some r) : At g0 w0 (Tlaw20_ScoreDoes.p3.S other_1 x4 st5 script_0 v6 x62 x63 x64 st77) (exK Tryd.prog R [.c (csub Tlaw20_ScoreDoes.B [1, 1, 1, 1, 0, 1, 0, 0, 1, 1, 0, 0, 1, 1]), .b 1, .c (csub Tlaw20_ScoreDoes.B [1, 1, 1, 1, 0, 1, 0, 0, 1, 1, 1]), .h J1, .b 0, .c (csub Tlaw20_ScoreDoes.B [1, 1, 1, 1, 1])] .normal) := by
  unfold Tlaw20_ScoreDoes.p3 at h
  obtain ⟨⟨x78, st79⟩, c75, h16⟩ := optE_inv h; clear h
  obtain ⟨h19, c76, h17⟩ := optE_inv h16; clear h16
  obtain ⟨x80, x81, x82, rfl, h18⟩ := obj_trailheadref20_Board_inv h17; clear h17
  refine iteB h18 (fun c77 h20 => ?_) (fun c77 h21 => ?_) <;> clear h18
  · obtain rfl := some_inv h20
    exact At.fd fol hE 400 [.r [(1, {rs := [.row true 1 x78], st := st79, ns := [77]})], .d {ds := [(5, {oc := [L.own true 1 x80, L.own true 1 x81, L.own true 1 x82]}), (9, {want := false}), (10, {want := false}), (11, {want := false}), (12, {want := false}), (13, {want := false}), (14, {want := false}), (15, {want := false}), (16, {want := false}), (17, {want := false}), (20, {want := false}), (21, {want := false}), (22, {want := false}), (23, {want := false}), (24, {want := false}), (25, {want := false}), (26, {want := false}), (29, {want := false}), (30, {want := false}), (31, {want := false}), (32, {want := false}), (33, {want := false}), (34, {want := false}), (35, {want := false})], hv := 0, Hs := []}, .c true, .r []] [] 0 [] (And.intro (score_Board_Shunned.snd c75) (And.intro c76 (And.intro c77 (And.intro c77 (And.intro c77 (And.intro c77 (And.intro c77 (And.intro c77 (And.intro c77 (And.intro c77 (And.intro c77 (And.intro c77 (And.intro (rfl : true = true) (And.intro (rfl : true = true) (And.intro (rfl : true = true) (And.intro (rfl : true = true) (And.intro (rfl : true = true) (And.intro (rfl : true = true) (And.intro (rfl : true = true) (And.intro (rfl : true = true) (And.intro (rfl : true = true) (And.intro (rfl : true = true) (And.intro (rfl : true = true) (And.intro (rfl : true = true) (And.intro (rfl : true = true) (And.intro (rfl : true = true) (And.intro (rfl : true = true) (And.intro (rfl : true = true) (rfl : true = true))))))))))))))))))))))))))))) (by kernel_rfl) (by kernel_rfl)
  · obtain ⟨⟨x83, st84⟩, c78, h22⟩ := optE_inv h21; clear h21
    obtain ⟨⟨x85, st86⟩, c79, h23⟩ := optE_inv h22; clear h22
    refine iteB h23 (fun c80 h24 => ?_) (fun c80 h25 => ?_) <;> clear h23
    · obtain rfl := some_inv h24
      exact At.fd fol hE 400 [.r [(1, {rs := [.row true 1 x78], st := st79, ns := [77]})], .d {ds := [(5, {oc := [L.own true 1 x80, L.own true 1 x81, L.own true 1 x82]}), (12, {rs := [.one (L.int .i64 x83)], st := st84}), (16, {rs := [.one (L.int .i64 x85)], st := st86}), (18, {yes := false}), (20, {want := false}), (21, {want := false}), (22, {want := false}), (23, {want := false}), (24, {want := false}), (25, {want := false}), (26, {want := false}), (29, {want := false}), (30, {want := false}), (31, {want := false}), (32, {want := false}), (33, {want := false}), (34, {want := false}), (35, {want := false})], hv := 69632, Hs := [4096, 69632]}, .c true, .r []] [] 0 [] (And.intro (score_Board_Shunned.snd c75) (And.intro c76 (And.intro c77 (And.intro c77 (And.intro c77 (And.intro c77 (And.intro (score_Board_Sum.snd c78) (And.intro c77 (And.intro c77 (And.intro c77 (And.intro c77 (And.intro c77 (And.intro c77 (And.intro c77 (And.intro (Tref20_Board_Sum.snd c79) (And.intro c77 (And.intro c77 (And.intro c80 (And.intro c80 (And.intro c80 (And.intro c80 (And.intro c80 (And.intro c80 (And.intro c80 (And.intro c80 (And.intro (rfl : true = true) (And.intro (rfl : true = true) (And.intro (rfl : true = true) (And.intro (rfl : true = true) (And.intro (rfl : true = true) (And.intro (rfl : true = true) (And.intro (rfl : true = true) (And.intro (rfl : true = true) (rfl : true = true)))))))))))))))))))))))))))))))))) (by kernel_rfl) (by kernel_rfl)
    · obtain ⟨⟨x87, st88⟩, c81, h26⟩ := optE_inv h25; clear h25
      obtain ⟨⟨x89, st90⟩, c82, h27⟩ := optE_inv h26; clear h26
      refine iteB h27 (fun c83 h28 => ?_) (fun c83 h29 => ?_) <;> clear h27
      · obtain rfl := some_inv h28
        exact At.fd fol hE 400 [.r [(1, {rs := [.row true 1 x78], st := st79, ns := [77]})], .d {ds := [(5, {oc := [L.own true 1 x80, L.own true 1 x81, L.own true 1 x82]}), (12, {rs := [.one (L.int .i64 x83)], st := st84}), (16, {rs := [.one (L.int .i64 x85)], st := st86}), (18, {yes := false}), (22, {rs := [.one (L.int .i64 x87)], st := st88}), (25, {rs := [.one (L.int .i64 x89)], st := st90}), (27, {yes := false}), (29, {want := false}), (30, {want := false}), (31, {want := false}), (32, {want := false}), (33, {want := false}), (34, {want := false}), (35, {want := false})], hv := 37818368, Hs := [4096, 69632, 4263936, 37818368]}, .c true, .r []] [] 0 [] (And.intro (score_Board_Shunned.snd c75) (And.intro c76 (And.intro c77 (And.intro c77 (And.intro c77 (And.intro c77 (And.intro (score_Board_Sum.snd c78) (And.intro c77 (And.intro c77 (And.intro c77 (And.intro c77 (And.intro c77 (And.intro c77 (And.intro c77 (And.intro (Tref20_Board_Sum.snd c79) (And.intro c77 (And.intro c77 (And.intro c80 (And.intro c80 (And.intro c80 (And.intro (score_Board_Sum.snd c81) (And.intro c80 (And.intro c80 (And.intro c80 (And.intro c80 (And.intro c80 (And.intro (Tref20_Board_Sum.snd c82) (And.intro c80 (And.intro c80 (And.intro c83 (And.intro c83 (And.intro c83 (And.intro c83 (And.intro c83 (And.intro c83 (And.intro c83 (And.intro c83 (rfl : true = true)))))))))))))))))))))))))))))))))))))) (by kernel_rfl) (by kernel_rfl)
      · obtain ⟨⟨x91, st92⟩, c84, h30⟩ := optE_inv h29; clear h29
        obtain ⟨⟨x93, st94⟩, c85, h31⟩ := optE_inv h30; clear h30
        refine iteB h31 (fun c86 h32 => ?_) (fun c86 h33 => ?_) <;> clear h31
        · obtain rfl := some_inv h32
          exact At.fd fol hE 400 [.r [(1, {rs := [.row true 1 x78], st := st79, ns := [77]})], .d {ds := [(5, {oc := [L.own true 1 x80, L.own true 1 x81, L.own true 1 x82]}), (12, {rs := [.one (L.int .i64 x83)], st := st84}), (16, {rs := [.one (L.int .i64 x85)], st := st86}), (18, {yes := false}), (22, {rs := [.one (L.int .i64 x87)], st := st88}), (25, {rs := [.one (L.int .i64 x89)], st := st90}), (27, {yes := false}), (31, {rs := [.one (L.bool x91)], st := st92}), (34, {rs := [.one (L.bool x93)], st := st94}), (36, {yes := false})], hv := 19365171200, Hs := [4096, 69632, 4263936, 37818368, 2185302016, 19365171200]}, .c true, .r []] [] 0 [] (And.intro (score_Board_Shunned.snd c75) (And.intro c76 (And.intro c77 (And.intro c77 (And.intro c77 (And.intro c77 (And.intro (score_Board_Sum.snd c78) (And.intro c77 (And.intro c77 (And.intro c77 (And.intro c77 (And.intro c77 (And.intro c77 (And.intro c77 (And.intro (Tref20_Board_Sum.snd c79) (And.intro c77 (And.intro c77 (And.intro c80 (And.intro c80 (And.intro c80 (And.intro (score_Board_Sum.snd c81) (And.intro c80 (And.intro c80 (And.intro c80 (And.intro c80 (And.intro c80 (And.intro (Tref20_Board_Sum.snd c82) (And.intro c80 (And.intro c80 (And.intro c83 (And.intro c83 (And.intro c83 (And.intro (score_Board_Shuns.snd c84) (And.intro c83 (And.intro c83 (And.intro c83 (And.intro c83 (And.intro c83 (And.intro (Tref20_Board_Shuns.snd c85) (And.intro c83 (And.intro c83 c86))))))))))))))))))))))))))))))))))))))))) (by kernel_rfl) (by kernel_rfl)
        · exact At.qd fol 400 [.r [(1, {rs := [.row true 1 x78], st := st79, ns := [77]})], .d {ds := [(5, {oc := [L.own true 1 x80, L.own true 1 x81, L.own true 1 x82]}), (12, {rs := [.one (L.int .i64 x83)], st := st84}), (16, {rs := [.one (L.int .i64 x85)], st := st86}), (18, {yes := false}), (22, {rs := [.one (L.int .i64 x87)], st := st88}), (25, {rs := [.one (L.int .i64 x89)], st := st90}), (27, {yes := false}), (31, {rs := [.one (L.bool x91)], st := st92}), (34, {rs := [.one (L.bool x93)], st := st94}), (36, {yes := false})], hv := 19365171200, Hs := [4096, 69632, 4263936, 37818368, 2185302016, 19365171200]}, .c false, .r []] [1, 5, 6, 12, 22, 23, 24, 87, 88, 89, 90, 91, 92, 93, 94, 95, 98, 99, 100, 101, 102, 103, 104, 107, 108, 109, 110, 111, 112, 113, 116, 117] [8, 77] (And.intro (score_Board_Shunned.snd c75) (And.intro c76 (And.intro c77 (And.intro c77 (And.intro c77 (And.intro c77 (And.intro (score_Board_Sum.snd c78) (And.intro c77 (And.intro c77 (And.intro c77 (And.intro c77 (And.intro c77 (And.intro c77 (And.intro c77 (And.intro (Tref20_Board_Sum.snd c79) (And.intro c77 (And.intro c77 (And.intro c80 (And.intro c80 (And.intro c80 (And.intro (score_Board_Sum.snd c81) (And.intro c80 (And.intro c80 (And.intro c80 (And.intro c80 (And.intro c80 (And.intro (Tref20_Board_Sum.snd c82) (And.intro c80 (And.intro c80 (And.intro c83 (And.intro c83 (And.intro c83 (And.intro (score_Board_Shuns.snd c84) (And.intro c83 (And.intro c83 (And.intro c83 (And.intro c83 (And.intro c83 (And.intro (Tref20_Board_Shuns.snd c85) (And.intro c83 (And.intro c83 c86))))))))))))))))))))))))))))))))))))))))) (Tlaw20_ScoreDoes.p4_loop other_1 x4 st5 x78 script_0 v6 x63 x83 x85 x87 x89 x91 x93 0 x62 x64 x78 st94 hE hc1 h33) (by kernel_rfl) (by kernel_rfl)
theorem Tlaw20_ScoreDoes.p2_ok (other_1 : Int) (x4 : Option Nat) (st5 : List (List L)) (n_65 : Int) (script_0 : List (List L)) (v6 : Int) (x64 : List (List L)) (v66 : Int) (x62 : Int) (x63 : Int) (st61 : List (List L)) {N : Nat} {r : Bool × (List (List L))} {g0 : G} {w0 : World} {R : Exit → Act → World → Prop} {c1_ : (Int × (List (List L))) → Option (Bool × (List (List L)))} {c2_ : (Int × Int) → Option (Bool × (List (List L)))} {J1 : Act → World → Prop} {J2 : Act → World → Prop} (hE : Ends Tryd.prog Tryd.f6 g0 w0 (Tlaw20_ScoreDoes.rs r) (r.2) R) (hc1 : ∀ (v6 : Int) (st61 : List (List L)), c1_ (v6, st61) = some r → At g0 w0 (Tlaw20_ScoreDoes.p1.S other_1 x4 st5 script_0 v6 st61) J1) (hc2 : ∀ (n_65 : Int) (v66 : Int), c2_ (n_65, v66) = some r → At g0 w0 (Tlaw20_ScoreDoes.p2.S other_1 x4 st5 n_65 script_0 v6 x64 v66 x62 x63 st61) J2) (h : Tlaw20_ScoreDoes.p2 N c1_ other_1 x4 st5 script_0 v6 x64 x62 x63 st61 c2_ (n_65, v66) = some r) : At g0 w0 (Tlaw20_ScoreDoes.p2.S other_1 x4 st5 n_65 script_0 v6 x64 v66 x62 x63 st61) (exK Tryd.prog R (.c (csub Tlaw20_ScoreDoes.B [1, 1, 1, 1, 0, 1, 0, 0, 1, 1, 0, 0, 1, 0, 1, 0, 1, 0, 1, 0, 1, 0, 0]) :: .h J2 :: [.b 3, .c (csub Tlaw20_ScoreDoes.B [1, 1, 1, 1, 0, 1, 0, 0, 1, 1, 0, 0, 1, 0, 1, 0, 1, 0, 1, 1]), .b 2, .c (csub Tlaw20_ScoreDoes.B [1, 1, 1, 1, 0, 1, 0, 0, 1, 1, 0, 0, 1, 1]), .b 1, .c (csub Tlaw20_ScoreDoes.B [1, 1, 1, 1, 0, 1, 0, 0, 1, 1, 1]), .h J1, .b 0, .c (csub Tlaw20_ScoreDoes.B [1, 1, 1, 1, 1])]) .normal) := by
  unfold Tlaw20_ScoreDoes.p2 at h
  refine iteB h (fun c62 h34 => ?_) (fun c62 h35 => ?_) <;> clear h
  · obtain ⟨c63, h36⟩ := chk_inv h34; clear h34
    obtain ⟨h39, c64, h37⟩ := optE_inv h36; clear h36
    obtain ⟨x67, rfl, h38⟩ := dec_i64_inv h37; clear h37
    obtain ⟨x68, c65, h40⟩ := optE_inv h38; clear h38
    exact At.n fol 400 [.r [], .c true, .r [(1, {oe := [L.int .i64 x67]})], .r [(2, {rs := [.one (L.int .i64 x68)], m := 1})], .r []] [1, 5, 6, 8, 9, 22, 23, 24, 33, 34, 35] [8] (And.intro c62 (And.intro c63 (And.intro (of_decide_eq_true c62) (And.intro c64 (Tref20_Points.snd c65))))) (hc2 (IntKind.wrap IntKind.i64 (n_65 + x68)) (IntKind.wrap IntKind.i64 (v66 + 1)) h40) (by kernel_rfl)
  · obtain ⟨x69, c66, h41⟩ := optE_inv h35; clear h35
    obtain ⟨x70, c67, h42⟩ := optE_inv h41; clear h41
    refine iteB h42 (fun c68 h43 => ?_) (fun c68 h44 => ?_) <;> clear h42
    · obtain rfl := some_inv h43
      exact At.fd fol hE 400 [.r [], .c false, .d {ds := [(2, {rs := [.row true 1 x69], ns := [46], m := 1}), (3, {rs := [.one (L.int .i64 x70)], m := 2}), (7, {want := false}), (8, {want := false}), (9, {want := false}), (10, {want := false}), (11, {want := false}), (12, {want := false}), (13, {want := false, fz := [56]}), (14, {want := false}), (15, {want := false}), (16, {want := false}), (17, {want := false}), (18, {want := false}), (19, {want := false}), (20, {want := false})], hv := 4, Hs := [4]}, .c true, .r []] [] 0 [] (And.intro c62 (And.intro (Tlaw20_faults.snd c66) (And.intro (rfl : (0 : Nat) = 0) (And.intro (@rfl Nat (List.length x69)) (And.intro (score_Points.snd c67) (And.intro c68 (And.intro c68 (And.intro c68 (And.intro c68 (And.intro c68 (And.intro c68 (And.intro c68 (And.intro c68 (And.intro c68 (And.intro c68 (And.intro c68 (And.intro c68 (And.intro c68 (And.intro c68 (And.intro c68 (rfl : true = true))))))))))))))))))))) (by kernel_rfl) (by kernel_rfl)
    · obtain ⟨⟨x71, st72⟩, c69, h45⟩ := optE_inv h44; clear h44
      obtain ⟨⟨x73, st74⟩, c70, h46⟩ := optE_inv h45; clear h45
      refine iteB h46 (fun c71 h47 => ?_) (fun c71 h48 => ?_) <;> clear h46
      · obtain rfl := some_inv h47
        exact At.fd fol hE 400 [.r [], .c false, .d {ds := [(2, {rs := [.row true 1 x69], ns := [46], m := 1}), (3, {rs := [.one (L.int .i64 x70)], m := 2}), (12, {rs := [.row true 1 x69], ns := [56], m := 1}), (13, {rs := [.one (L.bool x71)], st := st72, fz := [56]}), (19, {rs := [.one (L.bool x73)], st := st74}), (21, {yes := false})], hv := 536580, Hs := [4, 4100, 12292, 536580]}, .c true, .r []] [] 0 [] (And.intro c62 (And.intro (Tlaw20_faults.snd c66) (And.intro (rfl : (0 : Nat) = 0) (And.intro (@rfl Nat (List.length x69)) (And.intro (score_Points.snd c67) (And.intro c68 (And.intro c68 (And.intro c68 (And.intro c68 (And.intro c68 (And.intro c68 (And.intro c68 (And.intro c68 (And.intro c68 (And.intro (Tlaw20_faults.snd c66) (And.intro c68 (And.intro (rfl : (0 : Nat) = 0) (And.intro (@rfl Nat (List.length x69)) (And.intro (score_Board_Blame.snd c69) (And.intro c68 (And.intro c68 (And.intro c68 (And.intro c68 (And.intro c68 (And.intro c68 (And.intro c68 (And.intro c68 (And.intro c68 (And.intro c68 (And.intro c68 (And.intro c68 (And.intro c68 (And.intro c68 (And.intro c68 (And.intro c68 (And.intro (Tref20_Board_Blame.snd c70) (And.intro c68 (And.intro c68 c71)))))))))))))))))))))))))))))))))))))) (by kernel_rfl) (by kernel_rfl)
      · exact At.qd fol 400 [.r [], .c false, .d {ds := [(2, {rs := [.row true 1 x69], ns := [46], m := 1}), (3, {rs := [.one (L.int .i64 x70)], m := 2}), (12, {rs := [.row true 1 x69], ns := [56], m := 1}), (13, {rs := [.one (L.bool x71)], st := st72, fz := [56]}), (19, {rs := [.one (L.bool x73)], st := st74}), (21, {yes := false})], hv := 536580, Hs := [4, 4100, 12292, 536580]}, .c false, .s 6] [1, 5, 6, 8, 22, 23, 24] [8] (And.intro c62 (And.intro (Tlaw20_faults.snd c66) (And.intro (rfl : (0 : Nat) = 0) (And.intro (@rfl Nat (List.length x69)) (And.intro (score_Points.snd c67) (And.intro c68 (And.intro c68 (And.intro c68 (And.intro c68 (And.intro c68 (And.intro c68 (And.intro c68 (And.intro c68 (And.intro c68 (And.intro (Tlaw20_faults.snd c66) (And.intro c68 (And.intro (rfl : (0 : Nat) = 0) (And.intro (@rfl Nat (List.length x69)) (And.intro (score_Board_Blame.snd c69) (And.intro c68 (And.intro c68 (And.intro c68 (And.intro c68 (And.intro c68 (And.intro c68 (And.intro c68 (And.intro c68 (And.intro c68 (And.intro c68 (And.intro c68 (And.intro c68 (And.intro c68 (And.intro c68 (And.intro c68 (And.intro c68 (And.intro (Tref20_Board_Blame.snd c70) (And.intro c68 (And.intro c68 c71)))))))))))))))))))))))))))))))))))))) (Tlaw20_ScoreDoes.p3_ok other_1 x4 st5 script_0 v6 x62 x63 x64 st74 hE hc1 h48) (by kernel_rfl) (by kernel_rfl)
theorem Tlaw20_ScoreDoes.p2_loop (other_1 : Int) (x4 : Option Nat) (st5 : List (List L)) (n_65 : Int) (script_0 : List (List L)) (v6 : Int) (x64 : List (List L)) (v66 : Int) (x62 : Int) (x63 : Int) (st61 : List (List L)) {N : Nat} {r : Bool × (List (List L))} {g0 : G} {w0 : World} {R : Exit → Act → World → Prop} {c1_ : (Int × (List (List L))) → Option (Bool × (List (List L)))} {J1 : Act → World → Prop} (hE : Ends Tryd.prog Tryd.f6 g0 w0 (Tlaw20_ScoreDoes.rs r) (r.2) R) (hc1 : ∀ (v6 : Int) (st61 : List (List L)), c1_ (v6, st61) = some r → At g0 w0 (Tlaw20_ScoreDoes.p1.S other_1 x4 st5 script_0 v6 st61) J1) (h : loopN (Tlaw20_ScoreDoes.p2 N c1_ other_1 x4 st5 script_0 v6 x64 x62 x63 st61) N (n_65, v66) = some r) : At g0 w0 (Tlaw20_ScoreDoes.p2.S other_1 x4 st5 n_65 script_0 v6 x64 v66 x62 x63 st61) (exK Tryd.prog R (.c (.loop (csub Tlaw20_ScoreDoes.B [1, 1, 1, 1, 0, 1, 0, 0, 1, 1, 0, 0, 1, 0, 1, 0, 1, 0, 1, 0, 1, 0, 0])) :: [.b 3, .c (csub Tlaw20_ScoreDoes.B [1, 1, 1, 1, 0, 1, 0, 0, 1, 1, 0, 0, 1, 0, 1, 0, 1, 0, 1, 1]), .b 2, .c (csub Tlaw20_ScoreDoes.B [1, 1, 1, 1, 0, 1, 0, 0, 1, 1, 0, 0, 1, 1]), .b 1, .c (csub Tlaw20_ScoreDoes.B [1, 1, 1, 1, 0, 1, 0, 0, 1, 1, 1]), .h J1, .b 0, .c (csub Tlaw20_ScoreDoes.B [1, 1, 1, 1, 1])]) .normal) :=
  At.loop N (At.loopN (fun y : Int × Int => Tlaw20_ScoreDoes.p2.S other_1 x4 st5 y.1 script_0 v6 x64 y.2 x62 x63 st61) (fun c J hc y h => Tlaw20_ScoreDoes.p2_ok other_1 x4 st5 y.1 script_0 v6 x64 y.2 x62 x63 st61 hE hc1 (fun n_65 v66 hh => hc (n_65, v66) hh) h) N (n_65, v66) h)
theorem Tlaw20_ScoreDoes.p1_ok (other_1 : Int) (x4 : Option Nat) (st5 : List (List L)) (script_0 : List (List L)) (v6 : Int) (st61 : List (List L)) {N : Nat} {r : Bool × (List (List L))} {g0 : G} {w0 : World} {R : Exit → Act → World → Prop}  {c1_ : (Int × (List (List L))) → Option (Bool × (List (List L)))}  {J1 : Act → World → Prop} (hE : Ends Tryd.prog Tryd.f6 g0 w0 (Tlaw20_ScoreDoes.rs r) (r.2) R)  (hc1 : ∀ (v6 : Int) (st61 : List (List L)), c1_ (v6, st61) = some r → At g0 w0 (Tlaw20_ScoreDoes.p1.S other_1 x4 st5 script_0 v6 st61) J1) (h : Tlaw20_ScoreDoes.p1 N  other_1 x4 st5 script_0 c1_ (v6, st61) = some r) : At g0 w0 (Tlaw20_ScoreDoes.p1.S other_1 x4 st5 script_0 v6 st61) (exK Tryd.prog R (.c (csub Tlaw20_ScoreDoes.B [1, 1, 1, 1, 0, 1, 0, 0]) :: .h J1 :: [.b 0, .c (csub Tlaw20_ScoreDoes.B [1, 1, 1, 1, 1])]) .normal) := by
  unfold Tlaw20_ScoreDoes.p1 at h
  refine iteB h (fun c58 h49 => ?_) (fun c58 h50 => ?_) <;> clear h
  · obtain ⟨c59, h51⟩ := chk_inv h49; clear h49
    obtain ⟨h54, c60, h52⟩ := optE_inv h51; clear h51
    obtain ⟨x62, x63, x64, rfl, h53⟩ := dec_trailheadlaw20_Call_inv h52; clear h52
    refine iteB h53 (fun c61 h55 => ?_) (fun c61 h56 => ?_) <;> clear h53
    · exact At.q fol 400 [.r [], .c true, .r [(1, {oe := [L.int .i64 x62, L.int .i64 x63, L.sl 1 x64]})], .r [], .r [], .c true, .r [], .r []] [1, 5, 6, 8, 9, 22, 23, 24, 33, 34, 35] [8] (And.intro c58 (And.intro c59 (And.intro (of_decide_eq_true c58) (And.intro c60 c61)))) (Tlaw20_ScoreDoes.p2_loop other_1 x4 st5 0 script_0 v6 x64 0 x62 x63 st61 hE hc1 h55) (by kernel_rfl)
    · refine iteB h56 (fun c72 h57 => ?_) (fun c72 h58 => ?_) <;> clear h56
      · obtain ⟨st75, c73, h59⟩ := optE_inv h57; clear h57
        obtain ⟨st76, c74, h60⟩ := optE_inv h59; clear h59
        exact At.q fol 400 [.r [], .c true, .r [(1, {oe := [L.int .i64 x62, L.int .i64 x63, L.sl 1 x64]})], .r [], .r [], .c false, .r [], .c true, .r [(3, {st := st75})], .r [(3, {st := st76})], .s 6] [1, 5, 6, 8, 22, 23, 24] [8] (And.intro c58 (And.intro c59 (And.intro (of_decide_eq_true c58) (And.intro c60 (And.intro c61 (And.intro c72 (And.intro (score_Board_Forget.snd c73) (Tref20_Board_Forget.snd c74)))))))) (Tlaw20_ScoreDoes.p3_ok other_1 x4 st5 script_0 v6 x62 x63 x64 st76 hE hc1 h60) (by kernel_rfl)
      · exact At.q fol 400 [.r [], .c true, .r [(1, {oe := [L.int .i64 x62, L.int .i64 x63, L.sl 1 x64]})], .r [], .r [], .c false, .r [], .c false, .s 6] [1, 5, 6, 8, 22, 23, 24] [8] (And.intro c58 (And.intro c59 (And.intro (of_decide_eq_true c58) (And.intro c60 (And.intro c61 c72))))) (Tlaw20_ScoreDoes.p3_ok other_1 x4 st5 script_0 v6 x62 x63 x64 st61 hE hc1 h58) (by kernel_rfl)
  · obtain ⟨st107, c101, h61⟩ := optE_inv h50; clear h50
    obtain ⟨c102, h62⟩ := chk_inv h61; clear h61
    obtain ⟨⟨x108, st109⟩, c103, h63⟩ := optE_inv h62; clear h62
    refine iteB h63 (fun c104 h64 => ?_) (fun c104 h65 => ?_) <;> clear h63
    · obtain ⟨⟨x110, st111⟩, c105, h66⟩ := optE_inv h64; clear h64
      refine iteB h66 (fun c106 h67 => ?_) (fun c106 h68 => ?_) <;> clear h66
      · obtain ⟨⟨x112, st113⟩, c107, h69⟩ := optE_inv h67; clear h67
        refine iteB h69 (fun c108 h70 => ?_) (fun c108 h71 => ?_) <;> clear h69
        · obtain ⟨⟨x114, st115⟩, c109, h72⟩ := optE_inv h70; clear h70
          obtain rfl := some_inv h72
          exact At.f fol hE 400 [.r [], .c false, .r [], .r [(1, {st := st107})], .r [(2, {rs := [.one (L.bool x108)], st := st109, wm := 2, fz := [140]}), (6, {rs := [.one (L.int .i64 x110)], st := st111}), (11, {rs := [.one (L.bool x112)], st := st113}), (16, {rs := [.row true 1 x114], st := st115, ns := [155]})]] [] 0 [] (And.intro c58 (And.intro (score_Board_Forget.snd c101) (And.intro (rfl : (0 : Nat) = 0) (And.intro c102 (And.intro (score_Board_Blame.snd c103) (And.intro (not_false (not_inv_t c104)) (And.intro (not_false (not_inv_t c104)) (And.intro (score_Board_Sum.snd c105) (And.intro (not_false (not_inv_t c104)) (And.intro (not_false (not_inv_t c104)) (And.intro c106 (And.intro c106 (And.intro (score_Board_Shuns.snd c107) (And.intro c106 (And.intro c106 (And.intro (not_false (not_inv_t c108)) (And.intro (not_false (not_inv_t c108)) (And.intro (score_Board_Shunned.snd c109) (And.intro (not_false (not_inv_t c108)) (And.intro (not_false (not_inv_t c108)) (not_false (not_inv_t c108)))))))))))))))))))))) (by kernel_rfl)
        · obtain rfl := some_inv h71
          exact At.f fol hE 400 [.r [], .c false, .r [], .r [(1, {st := st107})], .r [(2, {rs := [.one (L.bool x108)], st := st109, wm := 2, fz := [140]}), (6, {rs := [.one (L.int .i64 x110)], st := st111}), (11, {rs := [.one (L.bool x112)], st := st113}), (15, {want := false}), (16, {want := false}), (17, {want := false}), (18, {want := false}), (19, {yes := false})]] [] 0 [] (And.intro c58 (And.intro (score_Board_Forget.snd c101) (And.intro (rfl : (0 : Nat) = 0) (And.intro c102 (And.intro (score_Board_Blame.snd c103) (And.intro (not_false (not_inv_t c104)) (And.intro (not_false (not_inv_t c104)) (And.intro (score_Board_Sum.snd c105) (And.intro (not_false (not_inv_t c104)) (And.intro (not_false (not_inv_t c104)) (And.intro c106 (And.intro c106 (And.intro (score_Board_Shuns.snd c107) (And.intro c106 (And.intro c106 (And.intro (not_true (not_inv_f c108)) (And.intro (not_true (not_inv_f c108)) (And.intro (not_true (not_inv_f c108)) (And.intro (not_true (not_inv_f c108)) (not_true (not_inv_f c108))))))))))))))))))))) (by kernel_rfl)
      · obtain rfl := some_inv h68
        exact At.f fol hE 400 [.r [], .c false, .r [], .r [(1, {st := st107})], .r [(2, {rs := [.one (L.bool x108)], st := st109, wm := 2, fz := [140]}), (6, {rs := [.one (L.int .i64 x110)], st := st111}), (10, {want := false}), (11, {want := false}), (12, {want := false}), (13, {yes := false}), (15, {want := false}), (16, {want := false}), (17, {want := false}), (18, {want := false}), (19, {yes := false})]] [] 0 [] (And.intro c58 (And.intro (score_Board_Forget.snd c101) (And.intro (rfl : (0 : Nat) = 0) (And.intro c102 (And.intro (score_Board_Blame.snd c103) (And.intro (not_false (not_inv_t c104)) (And.intro (not_false (not_inv_t c104)) (And.intro (score_Board_Sum.snd c105) (And.intro (not_false (not_inv_t c104)) (And.intro (not_false (not_inv_t c104)) (And.intro c106 (And.intro c106 (And.intro c106 (And.intro c106 (And.intro (rfl : false = false) (And.intro (rfl : false = false) (And.intro (rfl : false = false) (And.intro (rfl : false = false) (rfl : false = false))))))))))))))))))) (by kernel_rfl)
    · obtain rfl := some_inv h65
      exact At.f fol hE 400 [.r [], .c false, .r [], .r [(1, {st := st107})], .r [(2, {rs := [.one (L.bool x108)], st := st109, wm := 2, fz := [140]}), (5, {want := false}), (6, {want := false}), (7, {want := false}), (8, {yes := false}), (10, {want := false}), (11, {want := false}), (12, {want := false}), (13, {yes := false}), (15, {want := false}), (16, {want := false}), (17, {want := false}), (18, {want := false}), (19, {yes := false})]] [] 0 [] (And.intro c58 (And.intro (score_Board_Forget.snd c101) (And.intro (rfl : (0 : Nat) = 0) (And.intro c102 (And.intro (score_Board_Blame.snd c103) (And.intro (not_true (not_inv_f c104)) (And.intro (not_true (not_inv_f c104)) (And.intro (not_true (not_inv_f c104)) (And.intro (not_true (not_inv_f c104)) (And.intro (rfl : false = false) (And.intro (rfl : false = false) (And.intro (rfl : false = false) (And.intro (rfl : false = false) (And.intro (rfl : false = false) (And.intro (rfl : false = false) (And.intro (rfl : false = false) (And.intro (rfl : false = false) (rfl : false = false)))))))))))))))))) (by kernel_rfl)
theorem Tlaw20_ScoreDoes.p1_loop (other_1 : Int) (x4 : Option Nat) (st5 : List (List L)) (script_0 : List (List L)) (v6 : Int) (st61 : List (List L)) {N : Nat} {r : Bool × (List (List L))} {g0 : G} {w0 : World} {R : Exit → Act → World → Prop}   (hE : Ends Tryd.prog Tryd.f6 g0 w0 (Tlaw20_ScoreDoes.rs r) (r.2) R)  (h : loopN (Tlaw20_ScoreDoes.p1 N  other_1 x4 st5 script_0) N (v6, st61) = some r) : At g0 w0 (Tlaw20_ScoreDoes.p1.S other_1 x4 st5 script_0 v6 st61) (exK Tryd.prog R (.c (.loop (csub Tlaw20_ScoreDoes.B [1, 1, 1, 1, 0, 1, 0, 0])) :: [.b 0, .c (csub Tlaw20_ScoreDoes.B [1, 1, 1, 1, 1])]) .normal) :=
  At.loop N (At.loopN (fun y : Int × (List (List L)) => Tlaw20_ScoreDoes.p1.S other_1 x4 st5 script_0 y.1 y.2) (fun c J hc y h => Tlaw20_ScoreDoes.p1_ok other_1 x4 st5 script_0 y.1 y.2 hE  (fun v6 st61 hh => hc (v6, st61) hh) h) N (v6, st61) h)
theorem Tlaw20_ScoreDoes.at0 (script_0 : List (List L)) (other_1 : Int) (st : List (List L)) {N : Nat} {r : Bool × (List (List L))} {g0 : G} {w0 : World} {R : Exit → Act → World → Prop} (hE : Ends Tryd.prog Tryd.f6 g0 w0 (Tlaw20_ScoreDoes.rs r) (r.2) R) (h : Tlaw20_ScoreDoes N script_0 other_1 st = some r) : At g0 w0 (S.enter 159 [.one (L.sl 3 script_0), .one (L.int .i64 other_1)] st) (exK Tryd.prog R [.c Tlaw20_ScoreDoes.B] .normal) := by
  unfold Tlaw20_ScoreDoes at h
  obtain ⟨⟨x1, st2⟩, c1, h73⟩ := optE_inv h; clear h
  refine iteB h73 (fun c2 h74 => ?_) (fun c2 h75 => ?_) <;> clear h73
  · obtain rfl := some_inv h74
    exact At.f fol hE 400 [.r [], .r [(0, {rs := [.one (L.bool x1)], st := st2})], .c true, .r []] [] 0 [] (And.intro (Tlaw20_alive.snd c1) c2) (by kernel_rfl)
  · obtain ⟨x3, c3, h76⟩ := optE_inv h75; clear h75
    refine iteB h76 (fun c4 h77 => ?_) (fun c4 h78 => ?_) <;> clear h76
    · obtain rfl := some_inv h77
      exact At.f fol hE 400 [.r [], .r [(0, {rs := [.one (L.bool x1)], st := st2})], .c false, .r [(1, {rs := [.one (L.bool x3)], m := 1})], .c true, .r []] [] 0 [] (And.intro (Tlaw20_alive.snd c1) (And.intro c2 (And.intro (Tlaw20_great.snd c3) c4))) (by kernel_rfl)
    · obtain ⟨⟨x4, st5⟩, c5, h79⟩ := optE_inv h78; clear h78
      exact At.q fol 400 [.r [], .r [(0, {rs := [.one (L.bool x1)], st := st2})], .c false, .r [(1, {rs := [.one (L.bool x3)], m := 1})], .c false, .r [(0, {rs := [.one (L.ptr x4)], st := st5}), (1, {ns := [0, 1, 2]}), (2, {m := 1})], .r []] [1, 5, 6, 22, 23, 24] [] (And.intro (Tlaw20_alive.snd c1) (And.intro c2 (And.intro (Tlaw20_great.snd c3) (And.intro c4 (score_New.snd c5))))) (Tlaw20_ScoreDoes.p1_loop other_1 x4 st5 script_0 0 (st5 ++ [[L.own true 1 [], L.own true 1 [], L.own true 1 []]]) hE  h79) (by kernel_rfl)
theorem Tlaw20_ScoreDoes.snd {N : Nat} {script_0 : List (List L)} {other_1 : Int} {st : List (List L)} {r : Bool × (List (List L))} (h : Tlaw20_ScoreDoes N script_0 other_1 st = some r) : Snd Tryd.prog 6 [.one (L.sl 3 script_0), .one (L.int .i64 other_1)] st (Tlaw20_ScoreDoes.rs r) (r.2) :=
  Snd.of (fn := Tryd.f6) (c := Tlaw20_ScoreDoes.B) Tryd.func6 (by kernel_rfl) (by kernel_rfl) (of_decide_eq_true (by kernel_rfl)) fun g w R hE => Tlaw20_ScoreDoes.at0 script_0 other_1 st hE h
end Go.Dn.F
