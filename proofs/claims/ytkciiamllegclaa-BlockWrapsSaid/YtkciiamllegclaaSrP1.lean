/- The runs of the functions that BlockWraps reaches do what their plain forms say, part 1. Made by a program. -/
import Derived.Test.YtkciiamllegclaaSrGk
import Derived.Test.YtkciiamllegclaaSrP0
namespace Go.Proofs.Ytkciiamllegclaa
open Go.RowKit
set_option maxRecDepth 20000
set_option linter.all false
set_option linter.unusedVariables false
set_option linter.unusedSimpArgs false


def p10_0 : List Nat := ones 14 []
def p10_1 : List Nat := ones 13 [0, 1, 0, 0]
def p10_2 : List Nat := [1, 1, 1, 1]
def p10_3 : List Nat := [1, 1, 1, 0, 1, 0, 0]
def p10_4 : List Nat := ones 13 [0, 1, 0, 0, 1, 1, 0, 0, 1, 1, 1, 1]
def p10_5 : List Nat := ones 13 [0, 1, 0, 0, 1, 1, 1]
def p10_6 : List Nat := ones 13 [0, 1, 0, 0, 1, 1, 0, 0, 1, 1, 1]
def p10_7 : List Nat := ones 13 [0, 1, 0, 0, 1, 1, 0, 0, 1, 1, 1, 0]
def p10_8 : List Nat := ones 13 [0, 1, 0, 0, 1, 0]
def p10_9 : List Nat := ones 13 [0, 1, 0, 0, 1, 1]
def p10_10 : List Nat := ones 13 [0, 1, 0, 0, 1, 1, 0, 0, 1, 0]
def p10_11 : List Nat := ones 13 [0, 1, 0, 0, 1, 1, 0, 0, 1, 1]
def p10_12 : List Nat := ones 13 [0, 1, 0, 0, 1, 1, 0, 0, 1, 1, 0, 0]
def p10_13 : List Nat := ones 13 [0, 1, 0, 0, 1, 1, 0, 0, 1, 1, 0, 1]
def p10_14 : List Nat := ones 13 [0, 1, 0, 0, 1, 1, 0, 0, 1, 1, 0, 1, 0]
def p10_15 : List Nat := ones 15 [0]
def p10_16 : List Nat := ones 16 []
def p10_17 : List Nat := [1, 1, 1, 0, 1, 0, 0, 1, 0]
def p10_18 : List Nat := [1, 1, 1, 0, 1, 0, 0, 1, 1]
def p10_19 : List Nat := [1, 1, 1, 0, 1, 0, 0, 1, 1, 0, 0, 0]
def p10_20 : List Nat := [1, 1, 1, 0, 1, 0, 0, 1, 1, 0, 0, 1]
def p10_21 : List Nat := [1, 1, 1, 0, 1, 0, 0, 1, 1, 1]
def p10_22 : List Nat := [1, 1, 1, 0, 1, 0, 0, 1, 1, 0, 0, 1, 1, 0]
def p10_23 : List Nat := [1, 1, 1, 0, 1, 0, 0, 1, 1, 0, 0, 1, 1, 0, 0]
def p10_24 : List Nat := [1, 1, 1, 0, 1, 0, 0, 1, 1, 0, 0, 1, 1, 0, 0, 1, 1, 0, 0, 1, 1]
def p10_25 : List Nat := [1, 1, 1, 0, 1, 0, 0, 1, 1, 0, 0, 1, 1, 0, 0, 1, 1, 1]
def p10_26 : List Nat := [1, 1, 1, 1, 0]
def p10_27 : List Nat := ones 5 []
def p10_28 : List Nat := ones 5 [0, 0]
def p10_29 : List Nat := ones 5 [0, 1]
def p10_30 : List Nat := ones 6 []
def p10_31 : List Nat := ones 6 [0]
def p10_32 : List Nat := ones 7 []
def p10_33 : List Nat := ones 8 [0]
def p10_34 : List Nat := ones 9 []
def p10_35 : List Nat := ones 9 [0]
def p10_36 : List Nat := ones 10 []
def p10_37 : List Nat := ones 10 [0, 0]
def p10_38 : List Nat := ones 10 [0, 1]
def p10_39 : List Nat := ones 11 []
def p10_40 : List Nat := ones 11 [0]
def p10_41 : List Nat := ones 12 []
def p10_42 : List Nat := ones 12 [0, 0]
def p10_43 : List Nat := ones 12 [0, 1]
def p10_44 : List Nat := ones 13 []
def p10_45 : List Nat := ones 13 [0, 0]
def p10_46 : List Nat := ones 13 [0, 1]
def p10_47 : List Nat := ones 13 [0, 1, 0]
def p10_48 : List Nat := [1, 1, 0, 1]
def p10_49 : List Nat := [1, 1, 1, 0, 0]
def p10_50 : List Nat := [1, 1, 1, 0, 1]
def p10_51 : List Nat := [1, 1, 1, 0, 1, 0]
def p10_52 : List Nat := [1, 1, 0, 0]
noncomputable section
abbrev cx10 (M : Nat → Prop) (w0 : World) : Cx := ⟨Try.prog, 188, M, w0⟩
abbrev q10 (M : Nat → Prop) (w0 : World) (r : Bool) := bodyPost Try.prog Try.f10 (RetQ M w0 (fun v _ => v = .bool r))
abbrev k10_2 (M : Nat → Prop) (w0 : World) (r : Bool) (m2 : Nat) : Kont := kl (cx10 M w0) (q10 M w0 r) [.b 4, .c (cat Try.f10 p10_0)] (cat Try.f10 p10_1) m2
abbrev k10_1 (M : Nat → Prop) (w0 : World) (r : Bool) (m1 : Nat) : Kont := kl (cx10 M w0) (q10 M w0 r) [.b 0, .c (cat Try.f10 p10_2)] (cat Try.f10 p10_3) m1
def s10_j4 (v20 : TBlockFragment) (v22 : TBlockFragment) (v23 : (List TBlockFragment)) (v28 : Int) (v31 : Bool) : AS := ⟨[(14,.ptr 14 0),(15,.ptr 15 0),(16,.ref 101),(121,.int .i64 (v23.length : Int)),(122,.int .i64 v28),(181,.bool v31)],[(14,List.set (xTBlockFragment ({ v20 with Kids := [] } : TBlockFragment)) 66 (.ref 92)),(15,List.set (xTBlockFragment ({ v22 with Kids := [] } : TBlockFragment)) 66 (.ref 96))],[(92,⟨60,67,List.map eTBlockFragment v20.Kids⟩),(96,⟨60,67,List.map eTBlockFragment v22.Kids⟩),(101,⟨60,67,List.map eTBlockFragment v23⟩)],[14,15,92,96,101]⟩
def s10_j3 (v20 : TBlockFragment) (v22 : TBlockFragment) (v23 : (List TBlockFragment)) (v28 : Int) (v30 : TBlockFragment) : AS := ⟨[(14,.ptr 14 0),(15,.ptr 15 0),(16,.ref 101),(17,.int .i64 v28),(18,.ptr 18 0),(121,.int .i64 (v23.length : Int)),(122,.int .i64 v28)],[(14,List.set (xTBlockFragment ({ v20 with Kids := [] } : TBlockFragment)) 66 (.ref 92)),(15,List.set (xTBlockFragment ({ v22 with Kids := [] } : TBlockFragment)) 66 (.ref 96)),(18,xTBlockFragment v30)],[(92,⟨60,67,List.map eTBlockFragment v20.Kids⟩),(96,⟨60,67,List.map eTBlockFragment v22.Kids⟩),(101,⟨60,67,List.map eTBlockFragment v23⟩)],[14,15,18,92,96,101]⟩
def s10_l5 (v20 : TBlockFragment) (v22 : TBlockFragment) (v23 : (List TBlockFragment)) (v28 : Int) : AS := ⟨[(14,.ptr 14 0),(15,.ptr 15 0),(16,.ref 101),(121,.int .i64 (v23.length : Int)),(122,.int .i64 v28)],[(14,List.set (xTBlockFragment ({ v20 with Kids := [] } : TBlockFragment)) 66 (.ref 92)),(15,List.set (xTBlockFragment ({ v22 with Kids := [] } : TBlockFragment)) 66 (.ref 96))],[(92,⟨60,67,List.map eTBlockFragment v20.Kids⟩),(96,⟨60,67,List.map eTBlockFragment v22.Kids⟩),(101,⟨60,67,List.map eTBlockFragment v23⟩)],[14,15,92,96,101]⟩
def s10_l2 (v1 : (List TKnapsackref17Spec)) (v2 : Int) (v3 : Int) (v11 : Int) : AS := ⟨[(0,.sl (List.map eTKnapsackref17Spec v1)),(1,.int .i64 v2),(2,.int .u8 v3),(37,.sl (List.map eTKnapsackref17Spec v1)),(38,.int .i64 (v1.length : Int)),(39,.int .i64 v11)],[],[],[]⟩
def s10_j1 (v1 : (List TKnapsackref17Spec)) (v2 : Int) (v3 : Int) (v6 : Bool) : AS := ⟨[(0,.sl (List.map eTKnapsackref17Spec v1)),(1,.int .i64 v2),(2,.int .u8 v3),(36,.bool v6)],[],[],[]⟩
abbrev H10_1 (M : Nat → Prop) (w0 : World) (r : Bool) (v1 : (List TKnapsackref17Spec)) (v2 : Int) (v3 : Int) (m1 : Nat) (L1 : Int → Option Bool) : Prop := ∀ {v11 : Int}, L1 v11 = some r → LP (cx10 M w0) (q10 M w0 r) [.b 0, .c (cat Try.f10 p10_2)] (cat Try.f10 p10_3) m1 (s10_l2 v1 v2 v3 v11)
abbrev H10_2 (M : Nat → Prop) (w0 : World) (r : Bool) (v20 : TBlockFragment) (v22 : TBlockFragment) (v23 : (List TBlockFragment)) (m2 : Nat) (L2 : Int → Option Bool) : Prop := ∀ {v28 : Int}, L2 v28 = some r → LP (cx10 M w0) (q10 M w0 r) [.b 4, .c (cat Try.f10 p10_0)] (cat Try.f10 p10_1) m2 (s10_l5 v20 v22 v23 v28)
variable {K : Kn} {n : Nat} {M : Nat → Prop} {w0 : World} {r : Bool} {v1 : (List TKnapsackref17Spec)} {v2 : Int} {v3 : Int} {v6 : Bool} {v11 : Int} {v20 : TBlockFragment} {v22 : TBlockFragment} {v23 : (List TBlockFragment)} {v28 : Int} {v30 : TBlockFragment} {v31 : Bool} {m1 : Nat} {L1 : Int → Option Bool} {m2 : Nat} {L2 : Int → Option Bool}
theorem g_law17_BlockWraps_j4_ok (hK : KnOk K) (hL2 : H10_2 M w0 r v20 v22 v23 m2 L2) (h : g_law17_BlockWraps_j4 K n v20 v22 v23 v28 L2 v31 = some r) : VE (cx10 M w0) (q10 M w0 r) [.c (cat Try.f10 p10_4), .b 5, .c (cat Try.f10 p10_5), k10_2 M w0 r m2, .b 4, .c (cat Try.f10 p10_0)] .normal (s10_j4 v20 v22 v23 v28 v31) := by
  unfold g_law17_BlockWraps_j4 at h
  rcases ite_some h with ⟨h76, h⟩ | ⟨h76, h⟩
  ·
   refine ve_sb 181 h76 ?_
   refine ve_rt 9 ?_
   have hr := Option.some.inj h
   subst hr
   exact ve_d1
  ·
   refine ve_sb 181 h76 ?_
   exact ve_arr 4 (lp_back (hL2 h))
theorem g_law17_BlockWraps_j3_ok (hK : KnOk K) (hL2 : H10_2 M w0 r v20 v22 v23 m2 L2) (h : g_law17_BlockWraps_j3 K n v20 v22 v23 v28 L2 v30 = some r) : VE (cx10 M w0) (q10 M w0 r) [.c (cat Try.f10 p10_6), .b 5, .c (cat Try.f10 p10_5), k10_2 M w0 r m2, .b 4, .c (cat Try.f10 p10_0)] .normal (s10_j3 v20 v22 v23 v28 v30) := by
  unfold g_law17_BlockWraps_j3 at h
  refine ve_un (ks' := [.c (cat Try.f10 p10_7), .c (cat Try.f10 p10_4), .b 5, .c (cat Try.f10 p10_5), k10_2 M w0 r m2, .b 4, .c (cat Try.f10 p10_0)]) 1 ?_
  refine ve_pk [14, 15, 16, 17, 18, 121, 122] [14, 15, 18] [92, 96, 101] ?_
  obtain ⟨h69, h⟩ := chk_some h
  rcases ite_some h with ⟨h70, h⟩ | ⟨h70, h⟩
  ·
   obtain ⟨h71, h⟩ := chk_some h
   obtain ⟨h72, h⟩ := chk_some h
   rcases ite_some h with ⟨h73, h⟩ | ⟨h73, h⟩
   ·
    refine ve_dr 0 [(141, .ptr 14 66), (142, .ref 92), (143, .int .i64 v28), (144, .eptr 92 67 ((v28).toNat) 0), (145, .eptr 92 67 ((v28).toNat) 5), (146, .int .i64 ((List.getD v20.Kids (v28).toNat default).H)), (147, .bool (decide (((List.getD v20.Kids (v28).toNat default).H) > 0))), (148, .bool true), (149, .ref 101), (150, .int .i64 v28), (151, .eptr 101 67 ((v28).toNat) 0), (152, .eptr 101 67 ((v28).toNat) 3), (153, .int .i64 ((List.getD v23 (v28).toNat default).Y)), (154, .ptr 18 3), (155, .int .i64 v30.Y), (156, .int .i64 (w64 (((List.getD v23 (v28).toNat default).Y) + v30.Y))), (157, .ptr 14 66), (158, .ref 92), (159, .int .i64 v28), (160, .eptr 92 67 ((v28).toNat) 0), (161, .eptr 92 67 ((v28).toNat) 3), (162, .int .i64 ((List.getD v20.Kids (v28).toNat default).Y)), (163, .bool ((w64 (((List.getD v23 (v28).toNat default).Y) + v30.Y)) != ((List.getD v20.Kids (v28).toNat default).Y))), (164, .bool true), (165, .tup []), (166, .tup []), (167, .tup []), (168, .tup []), (169, .tup []), (170, .tup []), (171, .tup []), (172, .tup []), (173, .tup []), (174, .tup []), (175, .tup []), (176, .tup []), (177, .tup []), (178, .tup []), (179, .tup []), (180, .bool true), (181, .bool true)] [] [] [] (d_vs [.v 0 1, .v 0 1, .v 0 1] (d_c1 (e_v (lo := 0) (y_ixr 92 67 eTBlockFragment (L := v20.Kids) (i := v28) (by first | exact h69 | exact Eq.trans (by simp only [List.length_set]) h69))) (d_vs [.v 0 1] (d_c1 (e_v (lo := 0) (y_ldr 3 5 eTBlockFragment xTBlockFragment (inb_spec h72).2 (xTBlockFragment_eq))) (d_vs [.v 0 1] (d_c1 (k_v (lo := 0) (k := 1) (kallS ⟨(by kernel_rfl), (aop_boolc 148 (e := (decide (((List.getD v20.Kids (v28).toNat default).H) > 0))) (b := true) h70 (by kernel_rfl) (by kernel_rfl))⟩ (kall0))) (d_vs [.v 0 1, .v 0 1] (d_c1 (e_v (lo := 0) (y_ixr 101 67 eTBlockFragment (L := v23) (i := v28) (by first | exact h71 | exact Eq.trans (by simp only [List.length_set]) h71))) (d_vs [.v 0 1] (d_c1 (e_v (lo := 0) (y_ldr 3 3 eTBlockFragment xTBlockFragment (inb_spec h71).2 (xTBlockFragment_eq))) (d_vs [.v 0 1, .v 0 1, .v 0 1, .v 0 1, .v 0 1, .v 0 1] (d_c1 (e_v (lo := 0) (y_ixr 92 67 eTBlockFragment (L := v20.Kids) (i := v28) (by first | exact h72 | exact Eq.trans (by simp only [List.length_set]) h72))) (d_vs [.v 0 1] (d_c1 (e_v (lo := 0) (y_ldr 3 3 eTBlockFragment xTBlockFragment (inb_spec h72).2 (xTBlockFragment_eq))) (d_vs [.v 0 1] (d_c1 (k_v (lo := 0) (k := 1) (kallS ⟨(by kernel_rfl), (aop_boolc 164 (e := ((w64 (((List.getD v23 (v28).toNat default).Y) + v30.Y)) != ((List.getD v20.Kids (v28).toNat default).Y))) (b := true) h73 (by kernel_rfl) (by kernel_rfl))⟩ (kall0))) (d_c1 (k_off (lo := 0) (k := 1) (by kernel_rfl) (kallS (by kernel_rfl) (kall0)) (kallS (by kernel_rfl) (kall0))) (d_c1 (k_off (lo := 0) (k := 1) (by kernel_rfl) (kallS (by kernel_rfl) (kall0)) (kallS (by kernel_rfl) (kall0))) (d_c1 (k_off (lo := 0) (k := 1) (by kernel_rfl) (kallS (by kernel_rfl) (kall0)) (kallS (by kernel_rfl) (kall0))) (d_c1 (k_off (lo := 0) (k := 1) (by kernel_rfl) (kallS (by kernel_rfl) (kall0)) (kallS (by kernel_rfl) (kall0))) (d_c1 (k_off (lo := 0) (k := 1) (by kernel_rfl) (kallS (by kernel_rfl) (kall0)) (kallS (by kernel_rfl) (kall0))) (d_c1 (k_off (lo := 0) (k := 1) (by kernel_rfl) (kallS (by kernel_rfl) (kall0)) (kallS (by kernel_rfl) (kall0))) (d_c1 (k_off (lo := 0) (k := 1) (by kernel_rfl) (kallS (by kernel_rfl) (kall0)) (kallS (by kernel_rfl) (kall0))) (d_c1 (k_off (lo := 0) (k := 1) (by kernel_rfl) (kallS (by kernel_rfl) (kall0)) (kallS (by kernel_rfl) (kall0))) (d_c1 (k_off (lo := 0) (k := 1) (by kernel_rfl) (kallS (by kernel_rfl) (kall0)) (kallS (by kernel_rfl) (kall0))) (d_c1 (k_off (lo := 0) (k := 1) (by kernel_rfl) (kallS (by kernel_rfl) (kall0)) (kallS (by kernel_rfl) (kall0))) (d_c1 (k_off (lo := 0) (k := 1) (by kernel_rfl) (kallS (by kernel_rfl) (kall0)) (kallS (by kernel_rfl) (kall0))) (d_c1 (k_off (lo := 0) (k := 1) (by kernel_rfl) (kallS (by kernel_rfl) (kall0)) (kallS (by kernel_rfl) (kall0))) (d_c1 (k_off (lo := 0) (k := 1) (by kernel_rfl) (kallS (by kernel_rfl) (kall0)) (kallS (by kernel_rfl) (kall0))) (d_c1 (k_off (lo := 0) (k := 1) (by kernel_rfl) (kallS (by kernel_rfl) (kall0)) (kallS (by kernel_rfl) (kall0))) (d_c1 (k_off (lo := 0) (k := 1) (by kernel_rfl) (kallS (by kernel_rfl) (kall0)) (kallS (by kernel_rfl) (kall0))) (d_vs [.v 0 1, .v 0 1] (d_nl))))))))))))))))))))))))))))))))) ?_
    exact ve_arr 0 (g_law17_BlockWraps_j4_ok hK hL2 h)
   ·
    obtain ⟨h74, h⟩ := chk_some h
    obtain ⟨h75, h⟩ := chk_some h
    refine ve_dr 0 [(141, .ptr 14 66), (142, .ref 92), (143, .int .i64 v28), (144, .eptr 92 67 ((v28).toNat) 0), (145, .eptr 92 67 ((v28).toNat) 5), (146, .int .i64 ((List.getD v20.Kids (v28).toNat default).H)), (147, .bool (decide (((List.getD v20.Kids (v28).toNat default).H) > 0))), (148, .bool true), (149, .ref 101), (150, .int .i64 v28), (151, .eptr 101 67 ((v28).toNat) 0), (152, .eptr 101 67 ((v28).toNat) 3), (153, .int .i64 ((List.getD v23 (v28).toNat default).Y)), (154, .ptr 18 3), (155, .int .i64 v30.Y), (156, .int .i64 (w64 (((List.getD v23 (v28).toNat default).Y) + v30.Y))), (157, .ptr 14 66), (158, .ref 92), (159, .int .i64 v28), (160, .eptr 92 67 ((v28).toNat) 0), (161, .eptr 92 67 ((v28).toNat) 3), (162, .int .i64 ((List.getD v20.Kids (v28).toNat default).Y)), (163, .bool ((w64 (((List.getD v23 (v28).toNat default).Y) + v30.Y)) != ((List.getD v20.Kids (v28).toNat default).Y))), (164, .bool false), (165, .ref 101), (166, .int .i64 v28), (167, .eptr 101 67 ((v28).toNat) 0), (168, .eptr 101 67 ((v28).toNat) 2), (169, .int .i64 ((List.getD v23 (v28).toNat default).X)), (170, .ptr 18 2), (171, .int .i64 v30.X), (172, .int .i64 (w64 (((List.getD v23 (v28).toNat default).X) + v30.X))), (173, .ptr 14 66), (174, .ref 92), (175, .int .i64 v28), (176, .eptr 92 67 ((v28).toNat) 0), (177, .eptr 92 67 ((v28).toNat) 2), (178, .int .i64 ((List.getD v20.Kids (v28).toNat default).X)), (179, .bool ((w64 (((List.getD v23 (v28).toNat default).X) + v30.X)) != ((List.getD v20.Kids (v28).toNat default).X))), (180, .bool ((w64 (((List.getD v23 (v28).toNat default).X) + v30.X)) != ((List.getD v20.Kids (v28).toNat default).X))), (181, .bool ((w64 (((List.getD v23 (v28).toNat default).X) + v30.X)) != ((List.getD v20.Kids (v28).toNat default).X)))] [] [] [] (d_vs [.v 0 1, .v 0 1, .v 0 1] (d_c1 (e_v (lo := 0) (y_ixr 92 67 eTBlockFragment (L := v20.Kids) (i := v28) (by first | exact h69 | exact Eq.trans (by simp only [List.length_set]) h69))) (d_vs [.v 0 1] (d_c1 (e_v (lo := 0) (y_ldr 3 5 eTBlockFragment xTBlockFragment (inb_spec h75).2 (xTBlockFragment_eq))) (d_vs [.v 0 1] (d_c1 (k_v (lo := 0) (k := 1) (kallS ⟨(by kernel_rfl), (aop_boolc 148 (e := (decide (((List.getD v20.Kids (v28).toNat default).H) > 0))) (b := true) h70 (by kernel_rfl) (by kernel_rfl))⟩ (kall0))) (d_vs [.v 0 1, .v 0 1] (d_c1 (e_v (lo := 0) (y_ixr 101 67 eTBlockFragment (L := v23) (i := v28) (by first | exact h71 | exact Eq.trans (by simp only [List.length_set]) h71))) (d_vs [.v 0 1] (d_c1 (e_v (lo := 0) (y_ldr 3 3 eTBlockFragment xTBlockFragment (inb_spec h74).2 (xTBlockFragment_eq))) (d_vs [.v 0 1, .v 0 1, .v 0 1, .v 0 1, .v 0 1, .v 0 1] (d_c1 (e_v (lo := 0) (y_ixr 92 67 eTBlockFragment (L := v20.Kids) (i := v28) (by first | exact h72 | exact Eq.trans (by simp only [List.length_set]) h72))) (d_vs [.v 0 1] (d_c1 (e_v (lo := 0) (y_ldr 3 3 eTBlockFragment xTBlockFragment (inb_spec h75).2 (xTBlockFragment_eq))) (d_vs [.v 0 1] (d_c1 (k_v (lo := 0) (k := 1) (kallS ⟨(by kernel_rfl), (aop_boolc 164 (e := ((w64 (((List.getD v23 (v28).toNat default).Y) + v30.Y)) != ((List.getD v20.Kids (v28).toNat default).Y))) (b := false) h73 (by kernel_rfl) (by kernel_rfl))⟩ (kall0))) (d_vs [.v 0 1, .v 0 1] (d_c1 (e_v (lo := 0) (y_ixr 101 67 eTBlockFragment (L := v23) (i := v28) (by first | exact h74 | exact Eq.trans (by simp only [List.length_set]) h74))) (d_vs [.v 0 1] (d_c1 (e_v (lo := 0) (y_ldr 3 2 eTBlockFragment xTBlockFragment (inb_spec h74).2 (xTBlockFragment_eq))) (d_vs [.v 0 1, .v 0 1, .v 0 1, .v 0 1, .v 0 1, .v 0 1] (d_c1 (e_v (lo := 0) (y_ixr 92 67 eTBlockFragment (L := v20.Kids) (i := v28) (by first | exact h75 | exact Eq.trans (by simp only [List.length_set]) h75))) (d_vs [.v 0 1] (d_c1 (e_v (lo := 0) (y_ldr 3 2 eTBlockFragment xTBlockFragment (inb_spec h75).2 (xTBlockFragment_eq))) (d_vs [.v 0 1, .v 0 1, .v 0 1] (d_nl)))))))))))))))))))))))))) ?_
    exact ve_arr 0 (g_law17_BlockWraps_j4_ok hK hL2 h)
  ·
   refine ve_dr 0 [(141, .ptr 14 66), (142, .ref 92), (143, .int .i64 v28), (144, .eptr 92 67 ((v28).toNat) 0), (145, .eptr 92 67 ((v28).toNat) 5), (146, .int .i64 ((List.getD v20.Kids (v28).toNat default).H)), (147, .bool (decide (((List.getD v20.Kids (v28).toNat default).H) > 0))), (148, .bool false), (149, .tup []), (150, .tup []), (151, .tup []), (152, .tup []), (153, .tup []), (154, .tup []), (155, .tup []), (156, .tup []), (157, .tup []), (158, .tup []), (159, .tup []), (160, .tup []), (161, .tup []), (162, .tup []), (163, .tup []), (164, .tup []), (165, .tup []), (166, .tup []), (167, .tup []), (168, .tup []), (169, .tup []), (170, .tup []), (171, .tup []), (172, .tup []), (173, .tup []), (174, .tup []), (175, .tup []), (176, .tup []), (177, .tup []), (178, .tup []), (179, .tup []), (180, .tup []), (181, .bool false)] [] [] [] (d_vs [.v 0 1, .v 0 1, .v 0 1] (d_c1 (e_v (lo := 0) (y_ixr 92 67 eTBlockFragment (L := v20.Kids) (i := v28) (by first | exact h69 | exact Eq.trans (by simp only [List.length_set]) h69))) (d_vs [.v 0 1] (d_c1 (e_v (lo := 0) (y_ldr 3 5 eTBlockFragment xTBlockFragment (inb_spec h69).2 (xTBlockFragment_eq))) (d_vs [.v 0 1] (d_c1 (k_v (lo := 0) (k := 1) (kallS ⟨(by kernel_rfl), (aop_boolc 148 (e := (decide (((List.getD v20.Kids (v28).toNat default).H) > 0))) (b := false) h70 (by kernel_rfl) (by kernel_rfl))⟩ (kall0))) (d_c1 (k_off (lo := 0) (k := 1) (by kernel_rfl) (kallS (by kernel_rfl) (kall0)) (kallS (by kernel_rfl) (kall0))) (d_c1 (k_off (lo := 0) (k := 1) (by kernel_rfl) (kallS (by kernel_rfl) (kall0)) (kallS (by kernel_rfl) (kall0))) (d_c1 (k_off (lo := 0) (k := 1) (by kernel_rfl) (kallS (by kernel_rfl) (kall0)) (kallS (by kernel_rfl) (kall0))) (d_c1 (k_off (lo := 0) (k := 1) (by kernel_rfl) (kallS (by kernel_rfl) (kall0)) (kallS (by kernel_rfl) (kall0))) (d_c1 (k_off (lo := 0) (k := 1) (by kernel_rfl) (kallS (by kernel_rfl) (kall0)) (kallS (by kernel_rfl) (kall0))) (d_c1 (k_off (lo := 0) (k := 1) (by kernel_rfl) (kallS (by kernel_rfl) (kall0)) (kallS (by kernel_rfl) (kall0))) (d_c1 (k_off (lo := 0) (k := 1) (by kernel_rfl) (kallS (by kernel_rfl) (kall0)) (kallS (by kernel_rfl) (kall0))) (d_c1 (k_off (lo := 0) (k := 1) (by kernel_rfl) (kallS (by kernel_rfl) (kall0)) (kallS (by kernel_rfl) (kall0))) (d_c1 (k_off (lo := 0) (k := 1) (by kernel_rfl) (kallS (by kernel_rfl) (kall0)) (kallS (by kernel_rfl) (kall0))) (d_c1 (k_off (lo := 0) (k := 1) (by kernel_rfl) (kallS (by kernel_rfl) (kall0)) (kallS (by kernel_rfl) (kall0))) (d_c1 (k_off (lo := 0) (k := 1) (by kernel_rfl) (kallS (by kernel_rfl) (kall0)) (kallS (by kernel_rfl) (kall0))) (d_c1 (k_off (lo := 0) (k := 1) (by kernel_rfl) (kallS (by kernel_rfl) (kall0)) (kallS (by kernel_rfl) (kall0))) (d_c1 (k_off (lo := 0) (k := 1) (by kernel_rfl) (kallS (by kernel_rfl) (kall0)) (kallS (by kernel_rfl) (kall0))) (d_c1 (k_off (lo := 0) (k := 1) (by kernel_rfl) (kallS (by kernel_rfl) (kall0)) (kallS (by kernel_rfl) (kall0))) (d_c1 (k_off (lo := 0) (k := 1) (by kernel_rfl) (kallS (by kernel_rfl) (kall0)) (kallS (by kernel_rfl) (kall0))) (d_c1 (k_off (lo := 0) (k := 1) (by kernel_rfl) (kallS (by kernel_rfl) (kall0)) (kallS (by kernel_rfl) (kall0))) (d_c1 (k_off (lo := 0) (k := 1) (by kernel_rfl) (kallS (by kernel_rfl) (kall0)) (kallS (by kernel_rfl) (kall0))) (d_c1 (k_off (lo := 0) (k := 1) (by kernel_rfl) (kallS (by kernel_rfl) (kall0)) (kallS (by kernel_rfl) (kall0))) (d_c1 (k_off (lo := 0) (k := 1) (by kernel_rfl) (kallS (by kernel_rfl) (kall0)) (kallS (by kernel_rfl) (kall0))) (d_c1 (k_off (lo := 0) (k := 1) (by kernel_rfl) (kallS (by kernel_rfl) (kall0)) (kallS (by kernel_rfl) (kall0))) (d_c1 (k_off (lo := 0) (k := 1) (by kernel_rfl) (kallS (by kernel_rfl) (kall0)) (kallS (by kernel_rfl) (kall0))) (d_c1 (k_off (lo := 0) (k := 1) (by kernel_rfl) (kallS (by kernel_rfl) (kall0)) (kallS (by kernel_rfl) (kall0))) (d_c1 (k_off (lo := 0) (k := 1) (by kernel_rfl) (kallS (by kernel_rfl) (kall0)) (kallS (by kernel_rfl) (kall0))) (d_c1 (k_off (lo := 0) (k := 1) (by kernel_rfl) (kallS (by kernel_rfl) (kall0)) (kallS (by kernel_rfl) (kall0))) (d_c1 (k_off (lo := 0) (k := 1) (by kernel_rfl) (kallS (by kernel_rfl) (kall0)) (kallS (by kernel_rfl) (kall0))) (d_c1 (k_off (lo := 0) (k := 1) (by kernel_rfl) (kallS (by kernel_rfl) (kall0)) (kallS (by kernel_rfl) (kall0))) (d_c1 (k_off (lo := 0) (k := 1) (by kernel_rfl) (kallS (by kernel_rfl) (kall0)) (kallS (by kernel_rfl) (kall0))) (d_c1 (k_off (lo := 0) (k := 1) (by kernel_rfl) (kallS (by kernel_rfl) (kall0)) (kallS (by kernel_rfl) (kall0))) (d_c1 (k_off (lo := 0) (k := 1) (by kernel_rfl) (kallS (by kernel_rfl) (kall0)) (kallS (by kernel_rfl) (kall0))) (d_c1 (k_off (lo := 0) (k := 1) (by kernel_rfl) (kallS (by kernel_rfl) (kall0)) (kallS (by kernel_rfl) (kall0))) (d_c1 (k_off (lo := 0) (k := 1) (by kernel_rfl) (kallS (by kernel_rfl) (kall0)) (kallS (by kernel_rfl) (kall0))) (d_c1 (k_off (lo := 0) (k := 1) (by kernel_rfl) (kallS (by kernel_rfl) (kall0)) (kallS (by kernel_rfl) (kall0))) (d_vs [.v 0 1] (d_nl)))))))))))))))))))))))))))))))))))))))) ?_
   exact ve_arr 0 (g_law17_BlockWraps_j4_ok hK hL2 h)
theorem g_law17_BlockWraps_l5_b_ok (hK : KnOk K) (hL2 : H10_2 M w0 r v20 v22 v23 m2 L2) (h : g_law17_BlockWraps_l5_b K n v20 v22 v23 L2 v28 = some r) : VE (cx10 M w0) (q10 M w0 r) [.c (cat Try.f10 p10_1), k10_2 M w0 r m2, .b 4, .c (cat Try.f10 p10_0)] .normal (s10_l5 v20 v22 v23 v28) := by
  unfold g_law17_BlockWraps_l5_b at h
  refine ve_un (ks' := [.c (cat Try.f10 p10_8), .c (cat Try.f10 p10_9), k10_2 M w0 r m2, .b 4, .c (cat Try.f10 p10_0)]) 3 ?_
  rcases ite_some h with ⟨h63, h⟩ | ⟨h63, h⟩
  ·
   refine ve_sb 123 h63 ?_
   refine ve_un (ks' := [.c (cat Try.f10 p10_10), .c (cat Try.f10 p10_11), .b 5, .c (cat Try.f10 p10_5), k10_2 M w0 r m2, .b 4, .c (cat Try.f10 p10_0)]) 7 ?_
   refine ve_in 2 ?_
   obtain ⟨h64, h⟩ := chk_some h
   refine ot_sp (y_ixr 96 67 eTBlockFragment h64) ?_
   refine ot_sp (y_ldr 60 0 eTBlockFragment xTBlockFragment (inb_spec h64).2 (xTBlockFragment_eq)) ?_
   refine ot_end ?_
   refine ve_un (ks' := [.c (cat Try.f10 p10_12), .c (cat Try.f10 p10_13), .c (cat Try.f10 p10_6), .b 5, .c (cat Try.f10 p10_5), k10_2 M w0 r m2, .b 4, .c (cat Try.f10 p10_0)]) 2 ?_
   refine ve_in 3 ?_
   obtain ⟨h65, h⟩ := chk_some h
   refine ot_sp (y_ixr 96 67 eTBlockFragment h65) ?_
   refine ot_go 5 1 ?_
   refine ot_sp (y_ldr 51 66 eTBlockFragment xTBlockFragment (inb_spec h65).2 (xTBlockFragment_eq)) ?_
   refine ot_sp (y_len eTBlockFragment ((List.getD v22.Kids (0 : Int).toNat default).Kids)) ?_
   refine ot_end ?_
   obtain ⟨v29, h66, h⟩ := bind_some h
   have h66 := Option.some.inj h66
   refine ve_go (ks' := [.c (cat Try.f10 p10_13), .c (cat Try.f10 p10_6), .b 5, .c (cat Try.f10 p10_5), k10_2 M w0 r m2, .b 4, .c (cat Try.f10 p10_0)]) 0 ⟨[(14,.ptr 14 0),(15,.ptr 15 0),(16,.ref 101),(17,.int .i64 v28),(18,.ptr 18 0),(121,.int .i64 (v23.length : Int)),(122,.int .i64 v28),(136,.bool v29)],[(14,List.set (xTBlockFragment ({ v20 with Kids := [] } : TBlockFragment)) 66 (.ref 92)),(15,List.set (xTBlockFragment ({ v22 with Kids := [] } : TBlockFragment)) 66 (.ref 96)),(18,xTBlockFragment (List.getD v22.Kids (0 : Int).toNat default))],[(92,⟨60,67,List.map eTBlockFragment v20.Kids⟩),(96,⟨60,67,List.map eTBlockFragment v22.Kids⟩),(101,⟨60,67,List.map eTBlockFragment v23⟩)],[14,15,18,92,96,101]⟩ ?_ (by subst h66; kernel_rfl)
   rcases ite_some h with ⟨h67, h⟩ | ⟨h67, h⟩
   ·
    refine ve_sb 136 h67 ?_
    refine ve_un (ks' := [.c (cat Try.f10 p10_14), .c (cat Try.f10 p10_6), .b 5, .c (cat Try.f10 p10_5), k10_2 M w0 r m2, .b 4, .c (cat Try.f10 p10_0)]) 1 ?_
    refine ve_in 2 ?_
    obtain ⟨h68, h⟩ := chk_some h
    refine ot_sp (y_ixr 96 67 eTBlockFragment h68) ?_
    refine ot_sp (y_ldr 60 0 eTBlockFragment xTBlockFragment (inb_spec h68).2 (xTBlockFragment_eq)) ?_
    refine ot_end ?_
    exact ve_arr 0 (g_law17_BlockWraps_j3_ok hK hL2 h)
   ·
    refine ve_sb 136 h67 ?_
    exact ve_arr 2 (g_law17_BlockWraps_j3_ok hK hL2 h)
  ·
   refine ve_sb 123 h63 ?_
   refine ve_un (ks' := [.c (cat Try.f10 p10_15), .c (cat Try.f10 p10_16)]) 8 ?_
   refine ve_in 2 ?_
   obtain ⟨v32, h77, h⟩ := bind_some h
   refine ot_cl (g_ref17_Same_ok hK h77) ?_
   refine ot_end ?_
   refine ve_rt 1 ?_
   have hr := Option.some.inj h
   subst hr
   exact ve_d1
theorem g_law17_BlockWraps_l5_ok (hK : KnOk K) (m : Nat) : H10_2 M w0 r v20 v22 v23 m (g_law17_BlockWraps_l5 K n v20 v22 v23 m) := by
  induction m with
 | zero => intro v28 h; cases h
 | succ m ih => intro v28 h; have h : g_law17_BlockWraps_l5_b K n v20 v22 v23 (g_law17_BlockWraps_l5 K n v20 v22 v23 m) v28 = some r := h; exact lp_round (g_law17_BlockWraps_l5_b_ok hK ih h)
theorem g_law17_BlockWraps_l2_b_ok (hK : KnOk K) (hL1 : H10_1 M w0 r v1 v2 v3 m1 L1) (h : g_law17_BlockWraps_l2_b K n v1 v2 v3 L1 v11 = some r) : VE (cx10 M w0) (q10 M w0 r) [.c (cat Try.f10 p10_3), k10_1 M w0 r m1, .b 0, .c (cat Try.f10 p10_2)] .normal (s10_l2 v1 v2 v3 v11) := by
  unfold g_law17_BlockWraps_l2_b at h
  refine ve_un (ks' := [.c (cat Try.f10 p10_17), .c (cat Try.f10 p10_18), k10_1 M w0 r m1, .b 0, .c (cat Try.f10 p10_2)]) 3 ?_
  rcases ite_some h with ⟨h18, h⟩ | ⟨h18, h⟩
  ·
   refine ve_sb 40 h18 ?_
   refine ve_un (ks' := [.c (cat Try.f10 p10_19), .c (cat Try.f10 p10_20), .b 1, .c (cat Try.f10 p10_21), k10_1 M w0 r m1, .b 0, .c (cat Try.f10 p10_2)]) 5 ?_
   refine ve_in 0 ?_
   obtain ⟨h19, h⟩ := chk_some h
   refine ot_sp (y_ixs eTKnapsackref17Spec eTKnapsackref17Spec h19 (eTKnapsackref17Spec_len) (fun _ => rfl)) ?_
   refine ot_end ?_
   refine ve_go (ks' := [.c (cat Try.f10 p10_22), .b 2, .b 1, .c (cat Try.f10 p10_21), k10_1 M w0 r m1, .b 0, .c (cat Try.f10 p10_2)]) 3 ⟨[(0,.sl (List.map eTKnapsackref17Spec v1)),(1,.int .i64 v2),(2,.int .u8 v3),(8,.ptr 8 0),(37,.sl (List.map eTKnapsackref17Spec v1)),(38,.int .i64 (v1.length : Int)),(39,.int .i64 v11),(43,.int .i64 0)],[(8,eTKnapsackref17Spec (List.getD v1 (v11).toNat default))],[],[8]⟩ ?_
   refine lp_enter 40 (c := cat Try.f10 p10_23) (by kernel_rfl) ?_
   refine lp_round ?_
   obtain ⟨v12, h20, h⟩ := bind_some h
   have h20 := Option.some.inj h20
   refine ve_go (ks' := [.c (cat Try.f10 p10_24), .b 3, .c (cat Try.f10 p10_25), kl (cx10 M w0) (q10 M w0 r) [.b 2, .b 1, .c (cat Try.f10 p10_21), k10_1 M w0 r m1, .b 0, .c (cat Try.f10 p10_2)] (cat Try.f10 p10_23) 39, .b 2, .b 1, .c (cat Try.f10 p10_21), k10_1 M w0 r m1, .b 0, .c (cat Try.f10 p10_2)]) 11 ⟨[(0,.sl (List.map eTKnapsackref17Spec v1)),(1,.int .i64 v2),(2,.int .u8 v3),(8,.ptr 8 0),(37,.sl (List.map eTKnapsackref17Spec v1)),(38,.int .i64 (v1.length : Int)),(39,.int .i64 v11),(43,.int .i64 0),(52,.bool v12)],[(8,eTKnapsackref17Spec (List.getD v1 (v11).toNat default))],[],[8]⟩ ?_ (by subst h20; kernel_rfl)
   rcases ite_some h with ⟨h21, h⟩ | ⟨h21, h⟩
   ·
    refine ve_sb 52 h21 ?_
    refine ve_rt 13 ?_
    have hr := Option.some.inj h
    subst hr
    exact ve_d1
   ·
    refine ve_sb 52 h21 ?_
    refine ve_go (ks' := [kl (cx10 M w0) (q10 M w0 r) [.b 2, .b 1, .c (cat Try.f10 p10_21), k10_1 M w0 r m1, .b 0, .c (cat Try.f10 p10_2)] (cat Try.f10 p10_23) 39, .b 2, .b 1, .c (cat Try.f10 p10_21), k10_1 M w0 r m1, .b 0, .c (cat Try.f10 p10_2)]) 4 ⟨[(0,.sl (List.map eTKnapsackref17Spec v1)),(1,.int .i64 v2),(2,.int .u8 v3),(8,.ptr 8 0),(37,.sl (List.map eTKnapsackref17Spec v1)),(38,.int .i64 (v1.length : Int)),(39,.int .i64 v11),(43,.int .i64 1)],[(8,eTKnapsackref17Spec (List.getD v1 (v11).toNat default))],[],[8]⟩ ?_
    refine lp_back ?_
    refine lp_round ?_
    obtain ⟨v13, h22, h⟩ := bind_some h
    have h22 := Option.some.inj h22
    refine ve_go (ks' := [.c (cat Try.f10 p10_24), .b 3, .c (cat Try.f10 p10_25), kl (cx10 M w0) (q10 M w0 r) [.b 2, .b 1, .c (cat Try.f10 p10_21), k10_1 M w0 r m1, .b 0, .c (cat Try.f10 p10_2)] (cat Try.f10 p10_23) 38, .b 2, .b 1, .c (cat Try.f10 p10_21), k10_1 M w0 r m1, .b 0, .c (cat Try.f10 p10_2)]) 11 ⟨[(0,.sl (List.map eTKnapsackref17Spec v1)),(1,.int .i64 v2),(2,.int .u8 v3),(8,.ptr 8 0),(37,.sl (List.map eTKnapsackref17Spec v1)),(38,.int .i64 (v1.length : Int)),(39,.int .i64 v11),(43,.int .i64 1),(52,.bool v13)],[(8,eTKnapsackref17Spec (List.getD v1 (v11).toNat default))],[],[8]⟩ ?_ (by subst h22; kernel_rfl)
    rcases ite_some h with ⟨h23, h⟩ | ⟨h23, h⟩
    ·
     refine ve_sb 52 h23 ?_
     refine ve_rt 13 ?_
     have hr := Option.some.inj h
     subst hr
     exact ve_d1
    ·
     refine ve_sb 52 h23 ?_
     refine ve_go (ks' := [kl (cx10 M w0) (q10 M w0 r) [.b 2, .b 1, .c (cat Try.f10 p10_21), k10_1 M w0 r m1, .b 0, .c (cat Try.f10 p10_2)] (cat Try.f10 p10_23) 38, .b 2, .b 1, .c (cat Try.f10 p10_21), k10_1 M w0 r m1, .b 0, .c (cat Try.f10 p10_2)]) 4 ⟨[(0,.sl (List.map eTKnapsackref17Spec v1)),(1,.int .i64 v2),(2,.int .u8 v3),(8,.ptr 8 0),(37,.sl (List.map eTKnapsackref17Spec v1)),(38,.int .i64 (v1.length : Int)),(39,.int .i64 v11),(43,.int .i64 2)],[(8,eTKnapsackref17Spec (List.getD v1 (v11).toNat default))],[],[8]⟩ ?_
     refine lp_back ?_
     refine lp_round ?_
     obtain ⟨v14, h24, h⟩ := bind_some h
     have h24 := Option.some.inj h24
     refine ve_go (ks' := [.c (cat Try.f10 p10_24), .b 3, .c (cat Try.f10 p10_25), kl (cx10 M w0) (q10 M w0 r) [.b 2, .b 1, .c (cat Try.f10 p10_21), k10_1 M w0 r m1, .b 0, .c (cat Try.f10 p10_2)] (cat Try.f10 p10_23) 37, .b 2, .b 1, .c (cat Try.f10 p10_21), k10_1 M w0 r m1, .b 0, .c (cat Try.f10 p10_2)]) 11 ⟨[(0,.sl (List.map eTKnapsackref17Spec v1)),(1,.int .i64 v2),(2,.int .u8 v3),(8,.ptr 8 0),(37,.sl (List.map eTKnapsackref17Spec v1)),(38,.int .i64 (v1.length : Int)),(39,.int .i64 v11),(43,.int .i64 2),(52,.bool v14)],[(8,eTKnapsackref17Spec (List.getD v1 (v11).toNat default))],[],[8]⟩ ?_ (by subst h24; kernel_rfl)
     rcases ite_some h with ⟨h25, h⟩ | ⟨h25, h⟩
     ·
      refine ve_sb 52 h25 ?_
      refine ve_rt 13 ?_
      have hr := Option.some.inj h
      subst hr
      exact ve_d1
     ·
      refine ve_sb 52 h25 ?_
      refine ve_go (ks' := [kl (cx10 M w0) (q10 M w0 r) [.b 2, .b 1, .c (cat Try.f10 p10_21), k10_1 M w0 r m1, .b 0, .c (cat Try.f10 p10_2)] (cat Try.f10 p10_23) 37, .b 2, .b 1, .c (cat Try.f10 p10_21), k10_1 M w0 r m1, .b 0, .c (cat Try.f10 p10_2)]) 4 ⟨[(0,.sl (List.map eTKnapsackref17Spec v1)),(1,.int .i64 v2),(2,.int .u8 v3),(8,.ptr 8 0),(37,.sl (List.map eTKnapsackref17Spec v1)),(38,.int .i64 (v1.length : Int)),(39,.int .i64 v11),(43,.int .i64 3)],[(8,eTKnapsackref17Spec (List.getD v1 (v11).toNat default))],[],[8]⟩ ?_
      refine lp_back ?_
      refine lp_round ?_
      obtain ⟨v15, h26, h⟩ := bind_some h
      have h26 := Option.some.inj h26
      refine ve_go (ks' := [.c (cat Try.f10 p10_24), .b 3, .c (cat Try.f10 p10_25), kl (cx10 M w0) (q10 M w0 r) [.b 2, .b 1, .c (cat Try.f10 p10_21), k10_1 M w0 r m1, .b 0, .c (cat Try.f10 p10_2)] (cat Try.f10 p10_23) 36, .b 2, .b 1, .c (cat Try.f10 p10_21), k10_1 M w0 r m1, .b 0, .c (cat Try.f10 p10_2)]) 11 ⟨[(0,.sl (List.map eTKnapsackref17Spec v1)),(1,.int .i64 v2),(2,.int .u8 v3),(8,.ptr 8 0),(37,.sl (List.map eTKnapsackref17Spec v1)),(38,.int .i64 (v1.length : Int)),(39,.int .i64 v11),(43,.int .i64 3),(52,.bool v15)],[(8,eTKnapsackref17Spec (List.getD v1 (v11).toNat default))],[],[8]⟩ ?_ (by subst h26; kernel_rfl)
      rcases ite_some h with ⟨h27, h⟩ | ⟨h27, h⟩
      ·
       refine ve_sb 52 h27 ?_
       refine ve_rt 13 ?_
       have hr := Option.some.inj h
       subst hr
       exact ve_d1
      ·
       refine ve_sb 52 h27 ?_
       refine ve_go (ks' := [kl (cx10 M w0) (q10 M w0 r) [.b 2, .b 1, .c (cat Try.f10 p10_21), k10_1 M w0 r m1, .b 0, .c (cat Try.f10 p10_2)] (cat Try.f10 p10_23) 36, .b 2, .b 1, .c (cat Try.f10 p10_21), k10_1 M w0 r m1, .b 0, .c (cat Try.f10 p10_2)]) 4 ⟨[(0,.sl (List.map eTKnapsackref17Spec v1)),(1,.int .i64 v2),(2,.int .u8 v3),(8,.ptr 8 0),(37,.sl (List.map eTKnapsackref17Spec v1)),(38,.int .i64 (v1.length : Int)),(39,.int .i64 v11),(43,.int .i64 4)],[(8,eTKnapsackref17Spec (List.getD v1 (v11).toNat default))],[],[8]⟩ ?_
       refine lp_back ?_
       refine lp_round ?_
       exact ve_arr 10 (lp_back (hL1 h))
  ·
   refine ve_sb 40 h18 ?_
   refine ve_un (ks' := [.c (cat Try.f10 p10_26), .c (cat Try.f10 p10_27)]) 6 ?_
   refine ve_in 1 ?_
   obtain ⟨v16, h28, h⟩ := bind_some h
   refine ot_co 1057 (g_ref17_Tree_ok hK h28) (one_tupa (i := 0) (j := 58) rfl (by kernel_rfl)) ?_
   refine ot_end ?_
   refine ve_un (ks' := [.c (cat Try.f10 p10_28), .c (cat Try.f10 p10_29), .c (cat Try.f10 p10_30)]) 2 ?_
   refine ve_pk [0, 1, 2, 10] [10] [1057] ?_
   obtain ⟨h29, h⟩ := chk_some h
   obtain ⟨h30, h⟩ := chk_some h
   refine ve_dr 0 [(60, .sl (List.map eTKnapsackref17Spec v1)), (61, .cptr (eTKnapsackref17Spec (List.getD v1 (1 : Int).toNat default))), (62, .cptr (List.drop 0 (eTKnapsackref17Spec (List.getD v1 (1 : Int).toNat default)))), (63, .int .u8 ((List.getD v1 (1 : Int).toNat default).Depth)), (64, .sl (List.map eTKnapsackref17Spec v1)), (65, .cptr (eTKnapsackref17Spec (List.getD v1 (0 : Int).toNat default))), (66, .cptr (List.drop 0 (eTKnapsackref17Spec (List.getD v1 (0 : Int).toNat default)))), (67, .int .u8 ((List.getD v1 (0 : Int).toNat default).Depth)), (68, .bool (decide (((List.getD v1 (1 : Int).toNat default).Depth) ≤ ((List.getD v1 (0 : Int).toNat default).Depth))))] [] [] [] (d_vs [.v 0 1] (d_c1 (e_v (lo := 0) (y_ixs eTKnapsackref17Spec eTKnapsackref17Spec h29 (eTKnapsackref17Spec_len) (fun _ => rfl))) (d_vs [.v 0 1, .v 0 1, .v 0 1] (d_c1 (e_v (lo := 0) (y_ixs eTKnapsackref17Spec eTKnapsackref17Spec h30 (eTKnapsackref17Spec_len) (fun _ => rfl))) (d_vs [.v 0 1, .v 0 1, .v 0 1] (d_nl)))))) ?_
   obtain ⟨v17, h31, h⟩ := bind_some h
   have h31 := Option.some.inj h31
   refine ve_go (ks' := [.c (cat Try.f10 p10_29), .c (cat Try.f10 p10_30)]) 0 ⟨[(1,.int .i64 v2),(2,.int .u8 v3),(10,.ptr 10 0),(68,.bool v17)],[(10,List.set (xTBoxtreeBox ({ v16.1 with Kids := [] } : TBoxtreeBox)) 58 (.ref 1057))],[(1057,⟨63,59,List.map eTBoxtreeBox v16.1.Kids⟩)],[10,1057]⟩ ?_ (by subst h31; kernel_rfl)
   rcases ite_some h with ⟨h32, h⟩ | ⟨h32, h⟩
   ·
    refine ve_sb 68 h32 ?_
    refine ve_rt 5 ?_
    have hr := Option.some.inj h
    subst hr
    exact ve_d1
   ·
    refine ve_sb 68 h32 ?_
    refine ve_un (ks' := [.c (cat Try.f10 p10_31), .c (cat Try.f10 p10_32)]) 3 ?_
    refine ve_in 4 ?_
    refine ot_sp (y_len eTBoxtreeBox v16.1.Kids) ?_
    refine ot_go 6 1 ?_
    obtain ⟨h33, h⟩ := chk_some h
    refine ot_sp (y_rem .i64 (w64 v3) h33) ?_
    refine ot_end ?_
    obtain ⟨v18, h34, h⟩ := bind_some h
    have h34 := Option.some.inj h34
    refine ve_go (ks' := [.c (cat Try.f10 p10_33), .c (cat Try.f10 p10_34)]) 3 ⟨[(1,.int .i64 v2),(10,.ptr 10 0),(12,.int .i64 v18),(13,.ptr 13 0)],[(10,List.set (xTBoxtreeBox ({ v16.1 with Kids := [] } : TBoxtreeBox)) 58 (.ref 1057)),(13,List.set (xTBoxtreeBox ({ v16.1 with Kids := [] } : TBoxtreeBox)) 58 (.ref 1057))],[(1057,⟨63,59,List.map eTBoxtreeBox v16.1.Kids⟩)],[10,13,1057]⟩ ?_ (by subst h34; kernel_rfl)
    refine ve_f 1057 ?_
    obtain ⟨h35, h⟩ := chk_some h
    obtain ⟨h36, h⟩ := chk_some h
    refine ve_dr 1 [(77, .ptr 10 58), (78, .sl (List.map eTBoxtreeBox v16.1.Kids)), (79, .int .i64 v18), (80, .sl (List.map eTBoxtreeBox (List.drop ((0 : Int)).toNat (List.take (v18).toNat v16.1.Kids)))), (81, .agg (xTBoxtreeBox ({ zTBoxtreeBox with Kind := 1, Kids := (List.drop ((0 : Int)).toNat (List.take (v18).toNat v16.1.Kids)) } : TBoxtreeBox))), (82, .ptr 10 58), (83, .sl (List.map eTBoxtreeBox v16.1.Kids)), (84, .int .i64 v18), (85, .sl (List.map eTBoxtreeBox (List.drop (v18).toNat (List.take ((v16.1.Kids.length : Int)).toNat v16.1.Kids)))), (86, .agg (xTBoxtreeBox ({ zTBoxtreeBox with Kind := 1, Kids := (List.drop (v18).toNat (List.take ((v16.1.Kids.length : Int)).toNat v16.1.Kids)) } : TBoxtreeBox))), (87, .sl (List.map eTBoxtreeBox [({ zTBoxtreeBox with Kind := 1, Kids := (List.drop ((0 : Int)).toNat (List.take (v18).toNat v16.1.Kids)) } : TBoxtreeBox), ({ zTBoxtreeBox with Kind := 1, Kids := (List.drop (v18).toNat (List.take ((v16.1.Kids.length : Int)).toNat v16.1.Kids)) } : TBoxtreeBox)])), (88, .ptr 13 58)] [] [] [stp Try.prog 188 Try.f10 p10_33 12] (d_vs [.v 0 1, .v 0 1, .v 0 1] (d_c1 (e_v (lo := 0) (aop_slice_sl eTBoxtreeBox v16.1.Kids (0 : Int) v18 61 (.tmp 78) none (some (.tmp 79)) 80 (e := 63) (sz := 59) (by kernel_rfl) (by kernel_rfl) (by kernel_rfl) (by kernel_rfl) (by kernel_rfl) (by kernel_rfl) (eTBoxtreeBox_len) (fun k hk => by subst hk; kernel_rfl) h35)) (d_vs [.v 0 1, .v 0 1, .v 0 1, .v 0 1] (d_c1 (e_v (lo := 0) (aop_slice_sl eTBoxtreeBox v16.1.Kids v18 (v16.1.Kids.length : Int) 61 (.tmp 83) (some (.tmp 84)) none 85 (e := 63) (sz := 59) (by kernel_rfl) (by kernel_rfl) (by kernel_rfl) (by kernel_rfl) (by kernel_rfl) (by kernel_rfl) (eTBoxtreeBox_len) (fun k hk => by subst hk; kernel_rfl) h36)) (d_vs [.v 0 1] (d_c1 (e_v (lo := 0) (y_bsl eTBoxtreeBox ([({ zTBoxtreeBox with Kind := 1, Kids := (List.drop ((0 : Int)).toNat (List.take (v18).toNat v16.1.Kids)) } : TBoxtreeBox), ({ zTBoxtreeBox with Kind := 1, Kids := (List.drop (v18).toNat (List.take ((v16.1.Kids.length : Int)).toNat v16.1.Kids)) } : TBoxtreeBox)] : List TBoxtreeBox) (new := [xTBoxtreeBox ({ zTBoxtreeBox with Kind := 1, Kids := (List.drop ((0 : Int)).toNat (List.take (v18).toNat v16.1.Kids)) } : TBoxtreeBox), xTBoxtreeBox ({ zTBoxtreeBox with Kind := 1, Kids := (List.drop (v18).toNat (List.take ((v16.1.Kids.length : Int)).toNat v16.1.Kids)) } : TBoxtreeBox)]) (by simp only [List.map_cons, List.map_nil, xTBoxtreeBox_eq]))) (d_vs [.v 0 1] (d_c1 (e_d 0) (d_nl))))))))) ?_
    refine ve_un (ks' := [.c (cat Try.f10 p10_35), .c (cat Try.f10 p10_36)]) 1 ?_
    refine ve_pk [1, 10, 13] [10, 13] [] ?_
    obtain ⟨v19, h37, h⟩ := bind_some h
    obtain ⟨v20, h38, h⟩ := bind_some h
    obtain ⟨v21, h39, h⟩ := bind_some h
    obtain ⟨v22, h40, h⟩ := bind_some h
    refine ve_dr 2 [(89, .agg (xTBoxtreeBox v16.1)), (90, .int .i64 v2), (91, .agg (eTBlockEnv v19)), (92, .agg (List.set (xTBlockFragment ({ v20 with Kids := [] } : TBlockFragment)) 66 (.ref 92))), (93, .agg (xTBoxtreeBox ({ v16.1 with Kids := [({ zTBoxtreeBox with Kind := 1, Kids := (List.drop ((0 : Int)).toNat (List.take (v18).toNat v16.1.Kids)) } : TBoxtreeBox), ({ zTBoxtreeBox with Kind := 1, Kids := (List.drop (v18).toNat (List.take ((v16.1.Kids.length : Int)).toNat v16.1.Kids)) } : TBoxtreeBox)] } : TBoxtreeBox))), (94, .int .i64 v2), (95, .agg (eTBlockEnv v21)), (96, .agg (List.set (xTBlockFragment ({ v22 with Kids := [] } : TBlockFragment)) 66 (.ref 96))), (14, .ptr 14 0), (15, .ptr 15 0)] [(14, List.set (xTBlockFragment zTBlockFragment) 66 (.nils)), (15, List.set (xTBlockFragment zTBlockFragment) 66 (.nils))] [(92, ⟨60, 67, List.map eTBlockFragment v20.Kids⟩), (96, ⟨60, 67, List.map eTBlockFragment v22.Kids⟩)] [stp Try.prog 188 Try.f10 p10_35 10, stp Try.prog 188 Try.f10 p10_35 11] (d_vs [.v 0 1, .v 0 1] (d_c1 (e_c 0 1 91 (g_law17_Env_ok hK h37)) (d_c1 (e_o 0 1 92 (g_block_Layout_ok hK h38) (one_agg (i := 66) (by kernel_rfl))) (d_vs [.v 0 2, .v 0 2] (d_c1 (e_c 0 2 95 (g_law17_Env_ok hK h39)) (d_c1 (e_o 0 1 96 (g_block_Layout_ok hK h40) (one_agg (i := 66) (by kernel_rfl))) (d_c1 (e_a 0 1 60 14 (List.set (xTBlockFragment zTBlockFragment) 66 (.nils))) (d_c1 (e_a 0 1 60 15 (List.set (xTBlockFragment zTBlockFragment) 66 (.nils))) (d_c1 (e_d 0) (d_c1 (e_d 1) (d_nl))))))))))) ?_
    refine ve_un (ks' := [.c (cat Try.f10 p10_37), .c (cat Try.f10 p10_38), .c (cat Try.f10 p10_39)]) 2 ?_
    refine ve_in 2 ?_
    refine ot_sp (y_len eTBlockFragment v22.Kids) ?_
    refine ot_end ?_
    rcases ite_some h with ⟨h41, h⟩ | ⟨h41, h⟩
    ·
     refine ve_sb 100 h41 ?_
     refine ve_rt 5 ?_
     have hr := Option.some.inj h
     subst hr
     exact ve_d1
    ·
     refine ve_sb 100 h41 ?_
     refine ve_un (ks' := [.c (cat Try.f10 p10_40), .c (cat Try.f10 p10_41)]) 3 ?_
     refine ve_pk [14, 15] [14, 15] [92, 96] ?_
     obtain ⟨h42, h⟩ := chk_some h
     obtain ⟨h43, h⟩ := chk_some h
     obtain ⟨h44, h⟩ := chk_some h
     obtain ⟨h45, h⟩ := chk_some h
     refine ve_dr 3 [(101, .ref 101), (102, .ptr 15 66), (103, .ref 96), (104, .eptr 96 67 ((0 : Int).toNat) 0), (105, .eptr 96 67 ((0 : Int).toNat) 66), (106, .sl (List.map eTBlockFragment ((List.getD v22.Kids (0 : Int).toNat default).Kids))), (108, .ptr 15 66), (109, .ref 96), (110, .eptr 96 67 ((1 : Int).toNat) 0), (111, .eptr 96 67 ((1 : Int).toNat) 66), (112, .sl (List.map eTBlockFragment ((List.getD v22.Kids (1 : Int).toNat default).Kids)))] [] [(101, ⟨60, 67, []⟩)] [appS 107 101 ⟨60, 67, List.map eTBlockFragment (([] : List TBlockFragment) ++ ((List.getD v22.Kids (0 : Int).toNat default).Kids))⟩, appS 113 101 ⟨60, 67, List.map eTBlockFragment ((([] : List TBlockFragment) ++ ((List.getD v22.Kids (0 : Int).toNat default).Kids)) ++ ((List.getD v22.Kids (1 : Int).toNat default).Kids))⟩, stp Try.prog 188 Try.f10 p10_40 13] (d_c1 (e_n 0 1 51 101 60 67) (d_vs [.v 0 3, .v 0 3] (d_c1 (k_v (lo := 0) (k := 3) (kallS ⟨(by kernel_rfl), (aop_eq (y_ixr 96 67 eTBlockFragment (L := v22.Kids) (i := (0 : Int)) (by first | exact h42 | exact Eq.trans (by simp only [List.length_set]) h42)) (by kernel_rfl))⟩ (kallS ⟨(by kernel_rfl), (aop_eq (y_ixr 96 67 eTBlockFragment (L := v22.Kids) (i := (0 : Int)) (by first | exact h42 | exact Eq.trans (by simp only [List.length_set]) h42)) (by kernel_rfl))⟩ (kallS ⟨(by kernel_rfl), (aop_eq (y_ixr 96 67 eTBlockFragment (L := v22.Kids) (i := (0 : Int)) (by first | exact h42 | exact Eq.trans (by simp only [List.length_set]) h42)) (by kernel_rfl))⟩ (kall0))))) (d_vs [.v 0 3] (d_c1 (e_v (lo := 0) (y_ldr 51 66 eTBlockFragment xTBlockFragment (inb_spec h42).2 (xTBlockFragment_eq))) (d_c1 (e_s (m := 0) (y_app 107 101 60 67 eTBlockFragment (rfl) (eTBlockFragment_len) h43)) (d_vs [.v 0 3, .v 0 3] (d_c1 (k_v (lo := 0) (k := 3) (kallS ⟨(by kernel_rfl), (aop_eq (y_ixr 96 67 eTBlockFragment (L := v22.Kids) (i := (1 : Int)) (by first | exact h44 | exact Eq.trans (by simp only [List.length_set]) h44)) (by kernel_rfl))⟩ (kallS ⟨(by kernel_rfl), (aop_eq (y_ixr 96 67 eTBlockFragment (L := v22.Kids) (i := (1 : Int)) (by first | exact h44 | exact Eq.trans (by simp only [List.length_set]) h44)) (by kernel_rfl))⟩ (kallS ⟨(by kernel_rfl), (aop_eq (y_ixr 96 67 eTBlockFragment (L := v22.Kids) (i := (1 : Int)) (by first | exact h44 | exact Eq.trans (by simp only [List.length_set]) h44)) (by kernel_rfl))⟩ (kall0))))) (d_vs [.v 0 3] (d_c1 (k_v (lo := 0) (k := 2) (kallS ⟨(by kernel_rfl), (aop_eq (y_ldr 51 66 eTBlockFragment xTBlockFragment (inb_spec h44).2 (xTBlockFragment_eq)) (by kernel_rfl))⟩ (kallS ⟨(by kernel_rfl), (aop_eq (y_ldr 51 66 eTBlockFragment xTBlockFragment (inb_spec h44).2 (xTBlockFragment_eq)) (by kernel_rfl))⟩ (kall0)))) (d_c1 (e_s (m := 1) (y_app 113 101 60 67 eTBlockFragment (rfl) (eTBlockFragment_len) h45)) (d_c1 (e_d 2) (d_nl))))))))))))) ?_
     obtain ⟨v23, h46, h⟩ := bind_some h
     have h46 := Option.some.inj h46
     refine ve_go (ks' := [.c (cat Try.f10 p10_42), .c (cat Try.f10 p10_43), .c (cat Try.f10 p10_44)]) 2 ⟨[(14,.ptr 14 0),(15,.ptr 15 0),(16,.ref 101)],[(14,List.set (xTBlockFragment ({ v20 with Kids := [] } : TBlockFragment)) 66 (.ref 92)),(15,List.set (xTBlockFragment ({ v22 with Kids := [] } : TBlockFragment)) 66 (.ref 96))],[(92,⟨60,67,List.map eTBlockFragment v20.Kids⟩),(96,⟨60,67,List.map eTBlockFragment v22.Kids⟩),(101,⟨60,67,List.map eTBlockFragment v23⟩)],[14,15,92,96,101]⟩ ?_ (by subst h46; kernel_rfl)
     refine ve_in 1 ?_
     refine ot_sp (y_len eTBlockFragment v23) ?_
     refine ot_go 4 2 ?_
     refine ot_sp (y_len eTBlockFragment v20.Kids) ?_
     refine ot_end ?_
     obtain ⟨v24, h47, h⟩ := bind_some h
     have h47 := Option.some.inj h47
     refine ve_go (ks' := [.c (cat Try.f10 p10_43), .c (cat Try.f10 p10_44)]) 0 ⟨[(14,.ptr 14 0),(15,.ptr 15 0),(16,.ref 101),(119,.bool v24)],[(14,List.set (xTBlockFragment ({ v20 with Kids := [] } : TBlockFragment)) 66 (.ref 92)),(15,List.set (xTBlockFragment ({ v22 with Kids := [] } : TBlockFragment)) 66 (.ref 96))],[(92,⟨60,67,List.map eTBlockFragment v20.Kids⟩),(96,⟨60,67,List.map eTBlockFragment v22.Kids⟩),(101,⟨60,67,List.map eTBlockFragment v23⟩)],[14,15,92,96,101]⟩ ?_ (by subst h47; kernel_rfl)
     rcases ite_some h with ⟨h48, h⟩ | ⟨h48, h⟩
     ·
      refine ve_sb 119 h48 ?_
      refine ve_rt 5 ?_
      have hr := Option.some.inj h
      subst hr
      exact ve_d1
     ·
      refine ve_sb 119 h48 ?_
      refine ve_un (ks' := [.c (cat Try.f10 p10_45), .c (cat Try.f10 p10_46), .c (cat Try.f10 p10_0)]) 4 ?_
      refine ve_in 1 ?_
      refine ot_sp (y_len eTBlockFragment v23) ?_
      refine ot_end ?_
      exact ve_arr 1 (lp_en (p := p10_47) n (g_law17_BlockWraps_l5_ok hK n h))
theorem g_law17_BlockWraps_l2_ok (hK : KnOk K) (m : Nat) : H10_1 M w0 r v1 v2 v3 m (g_law17_BlockWraps_l2 K n v1 v2 v3 m) := by
  induction m with
 | zero => intro v11 h; cases h
 | succ m ih => intro v11 h; have h : g_law17_BlockWraps_l2_b K n v1 v2 v3 (g_law17_BlockWraps_l2 K n v1 v2 v3 m) v11 = some r := h; exact lp_round (g_law17_BlockWraps_l2_b_ok hK ih h)
theorem g_law17_BlockWraps_j1_ok (hK : KnOk K) (h : g_law17_BlockWraps_j1 K n v1 v2 v3 v6 = some r) : VE (cx10 M w0) (q10 M w0 r) [.c (cat Try.f10 p10_48), .c (cat Try.f10 [1, 1, 1])] .normal (s10_j1 v1 v2 v3 v6) := by
  unfold g_law17_BlockWraps_j1 at h
  rcases ite_some h with ⟨h7, h⟩ | ⟨h7, h⟩
  ·
   refine ve_sb 36 h7 ?_
   refine ve_rt 5 ?_
   have hr := Option.some.inj h
   subst hr
   exact ve_d1
  ·
   refine ve_sb 36 h7 ?_
   refine ve_un (ks' := [.c (cat Try.f10 p10_49), .c (cat Try.f10 p10_50), .c (cat Try.f10 p10_2)]) 4 ?_
   refine ve_in 1 ?_
   refine ot_sp (y_len eTKnapsackref17Spec v1) ?_
   refine ot_end ?_
   exact ve_arr 1 (lp_en (p := p10_51) n (g_law17_BlockWraps_l2_ok hK n h))
theorem g_law17_BlockWraps_ok (hK : KnOk K) (h : g_law17_BlockWraps K n v1 v2 v3 = some r) : ACalls Try.prog 10 [.sl (List.map eTKnapsackref17Spec v1), .int .i64 v2, .int .u8 v3] (fun v _ => v = .bool r) := by
  refine acalls_intro (c := cat Try.f10 []) Try.func10 (by kernel_rfl) _ Try.ntmps10 (of_decide_eq_true (by kernel_rfl)) fun M w0 => ?_
  refine ve_cast (s' := ⟨[(0,.sl (List.map eTKnapsackref17Spec v1)),(1,.int .i64 v2),(2,.int .u8 v3)],[],[],[]⟩) (by kernel_rfl) ?_
  unfold g_law17_BlockWraps at h
  refine ve_un (ks' := [.c (cat Try.f10 [1, 0, 0]), .c (cat Try.f10 [1, 0, 1]), .c (cat Try.f10 [1, 1])]) 4 ?_
  refine ve_in 0 ?_
  obtain ⟨v4, h1, h⟩ := bind_some h
  refine ot_cl (g_law17_fit_ok hK h1) ?_
  refine ot_end ?_
  rcases ite_some h with ⟨h2, h⟩ | ⟨h2, h⟩
  ·
   refine ve_sb 20 h2 ?_
   refine ve_rt 5 ?_
   have hr := Option.some.inj h
   subst hr
   exact ve_d1
  ·
   refine ve_sb 20 h2 ?_
   refine ve_un (ks' := [.c (cat Try.f10 p10_52), .c (cat Try.f10 p10_48), .c (cat Try.f10 [1, 1, 1])]) 4 ?_
   refine ve_in 1 ?_
   obtain ⟨v5, h3, h⟩ := bind_some h
   refine ot_cl (g_ref17_Few_ok hK h3) ?_
   refine ot_go 4 2 ?_
   rcases ite_some h with ⟨h4, h⟩ | ⟨h4, h⟩
   ·
    refine ot_sb 24 h4 ?_
    refine ot_end ?_
    exact ve_arr 0 (g_law17_BlockWraps_j1_ok hK h)
   ·
    refine ot_sb 24 h4 ?_
    refine ot_go 5 1 ?_
    refine ot_sp (y_len eTKnapsackref17Spec v1) ?_
    refine ot_go 9 3 ?_
    rcases ite_some h with ⟨h5, h⟩ | ⟨h5, h⟩
    ·
     refine ot_sb 29 h5 ?_
     refine ot_end ?_
     exact ve_arr 0 (g_law17_BlockWraps_j1_ok hK h)
    ·
     refine ot_sb 29 h5 ?_
     refine ot_go 10 1 ?_
     obtain ⟨h6, h⟩ := chk_some h
     refine ot_sp (y_ixs eTKnapsackref17Spec eTKnapsackref17Spec h6 (eTKnapsackref17Spec_len) (fun _ => rfl)) ?_
     refine ot_end ?_
     exact ve_arr 0 (g_law17_BlockWraps_j1_ok hK h)
end


noncomputable section
abbrev cx58 (M : Nat → Prop) (w0 : World) : Cx := ⟨Try.prog, 9, M, w0⟩
abbrev q58 (M : Nat → Prop) (w0 : World) (r : TBlockFragment) := bodyPost Try.prog Try.f58 (RetQ M w0 (fun v s => v = .agg (List.set (xTBlockFragment ({ r with Kids := [] } : TBlockFragment)) 66 (.ref 8)) ∧ look 8 s.r = some ⟨60, 67, List.map eTBlockFragment r.Kids⟩))
variable {K : Kn} {n : Nat} {M : Nat → Prop} {w0 : World} {r : TBlockFragment} {v1 : TBoxtreeBox} {v2 : Int} 
theorem g_law17_lay_ok (hK : KnOk K) (h : g_law17_lay K n v1 v2 = some r) : ACalls Try.prog 58 [.agg (xTBoxtreeBox v1), .int .i64 v2] (fun v s => v = .agg (List.set (xTBlockFragment ({ r with Kids := [] } : TBlockFragment)) 66 (.ref 8)) ∧ look 8 s.r = some ⟨60, 67, List.map eTBlockFragment r.Kids⟩) := by
  refine acalls_intro (c := cat Try.f58 []) Try.func58 (by kernel_rfl) _ Try.ntmps58 (of_decide_eq_true (by kernel_rfl)) fun M w0 => ?_
  refine ve_cast (s' := ⟨[(0,.agg (xTBoxtreeBox v1)),(1,.int .i64 v2)],[],[],[]⟩) (by kernel_rfl) ?_
  unfold g_law17_lay at h
  refine ve_un (ks' := [.c (cat Try.f58 [1, 0]), .c (cat Try.f58 [1, 1])]) 3 ?_
  refine ve_pk [1, 2, 4] [2, 4] [] ?_
  obtain ⟨v3, h1, h⟩ := bind_some h
  obtain ⟨v4, h2, h⟩ := bind_some h
  refine ve_dr 1 [(5, .agg (xTBoxtreeBox v1)), (6, .int .i64 v2), (7, .agg (eTBlockEnv v3)), (8, .agg (List.set (xTBlockFragment ({ v4 with Kids := [] } : TBlockFragment)) 66 (.ref 8)))] [] [(8, ⟨60, 67, List.map eTBlockFragment v4.Kids⟩)] [stp Try.prog 9 Try.f58 [1, 0] 4] (d_vs [.v 0 1, .v 0 1] (d_c1 (e_c 0 1 7 (g_law17_Env_ok hK h1)) (d_c1 (e_o 0 1 8 (g_block_Layout_ok hK h2) (one_agg (i := 66) (by kernel_rfl))) (d_c1 (e_d 0) (d_nl))))) ?_
  refine ve_rt 1 ?_
  have hr := Option.some.inj h
  subst hr
  exact ve_o1
end

def p61_0 : List Nat := [1, 1, 1, 1]
def p61_1 : List Nat := [1, 1, 1, 0, 1, 0, 0]
def p61_2 : List Nat := [1, 1, 1, 0, 1, 0, 0, 0, 0]
def p61_3 : List Nat := [1, 1, 1, 0, 1, 0, 0, 0, 1]
def p61_4 : List Nat := [1, 1, 1, 0, 1, 0, 0, 1]
def p61_5 : List Nat := [1, 1, 1, 0, 1, 0, 0, 1, 0, 0, 0]
def p61_6 : List Nat := [1, 1, 1, 0, 1, 0, 0, 1, 0, 0, 1]
def p61_7 : List Nat := [1, 1, 1, 0, 1, 0, 0, 1, 1]
def p61_8 : List Nat := [1, 1, 1, 0, 1, 0]
noncomputable section
abbrev cx61 (M : Nat → Prop) (w0 : World) : Cx := ⟨Try.prog, 31, M, w0⟩
abbrev q61 (M : Nat → Prop) (w0 : World) (r : (Int × Int)) := bodyPost Try.prog Try.f61 (RetQ M w0 (fun v _ => v = .tup [.int .i64 r.1, .int .i64 r.2]))
abbrev k61_1 (M : Nat → Prop) (w0 : World) (r : (Int × Int)) (m1 : Nat) : Kont := kl (cx61 M w0) (q61 M w0 r) [.b 0, .c (cat Try.f61 p61_0)] (cat Try.f61 p61_1) m1
def s61_l1 (v1 : (List TBoxtreeBox)) (v3 : Int) (v4 : Int) (v5 : Int) : AS := ⟨[(0,.sl (List.map eTBoxtreeBox v1)),(6,.int .i64 v3),(7,.int .i64 v4),(8,.int .i64 v5)],[],[],[]⟩
abbrev H61_1 (M : Nat → Prop) (w0 : World) (r : (Int × Int)) (v1 : (List TBoxtreeBox)) (m1 : Nat) (L1 : Int → Int → Int → Option (Int × Int)) : Prop := ∀ {v3 : Int} {v4 : Int} {v5 : Int}, L1 v3 v4 v5 = some r → LP (cx61 M w0) (q61 M w0 r) [.b 0, .c (cat Try.f61 p61_0)] (cat Try.f61 p61_1) m1 (s61_l1 v1 v3 v4 v5)
variable {K : Kn} {n : Nat} {M : Nat → Prop} {w0 : World} {r : (Int × Int)} {v1 : (List TBoxtreeBox)} {v2 : TCascadeStyle} {v3 : Int} {v4 : Int} {v5 : Int} {m1 : Nat} {L1 : Int → Int → Int → Option (Int × Int)}
theorem g_ref17_Spread_l1_b_ok (hK : KnOk K) (hL1 : H61_1 M w0 r v1 m1 L1) (h : g_ref17_Spread_l1_b K n v1 L1 v3 v4 v5 = some r) : VE (cx61 M w0) (q61 M w0 r) [.c (cat Try.f61 p61_1), k61_1 M w0 r m1, .b 0, .c (cat Try.f61 p61_0)] .normal (s61_l1 v1 v3 v4 v5) := by
  unfold g_ref17_Spread_l1_b at h
  refine ve_un (ks' := [.c (cat Try.f61 p61_2), .c (cat Try.f61 p61_3), .c (cat Try.f61 p61_4), k61_1 M w0 r m1, .b 0, .c (cat Try.f61 p61_0)]) 2 ?_
  refine ve_in 2 ?_
  refine ot_sp (y_len eTBoxtreeBox v1) ?_
  refine ot_end ?_
  rcases ite_some h with ⟨h3, h⟩ | ⟨h3, h⟩
  ·
   refine ve_sb 13 h3 ?_
   refine ve_un (ks' := [.c (cat Try.f61 p61_5), .c (cat Try.f61 p61_6), .b 1, .c (cat Try.f61 p61_7), k61_1 M w0 r m1, .b 0, .c (cat Try.f61 p61_0)]) 5 ?_
   refine ve_in 2 ?_
   obtain ⟨h4, h⟩ := chk_some h
   refine ot_sp (y_ixs eTBoxtreeBox xTBoxtreeBox h4 (eTBoxtreeBox_len) (xTBoxtreeBox_eq)) ?_
   refine ot_end ?_
   exact ve_arr 5 (lp_back (hL1 h))
  ·
   refine ve_sb 13 h3 ?_
   refine ve_rt 8 ?_
   have hr := Option.some.inj h
   subst hr
   exact ve_dt
theorem g_ref17_Spread_l1_ok (hK : KnOk K) (m : Nat) : H61_1 M w0 r v1 m (g_ref17_Spread_l1 K n v1 m) := by
  induction m with
 | zero => intro v3 v4 v5 h; cases h
 | succ m ih => intro v3 v4 v5 h; have h : g_ref17_Spread_l1_b K n v1 (g_ref17_Spread_l1 K n v1 m) v3 v4 v5 = some r := h; exact lp_round (g_ref17_Spread_l1_b_ok hK ih h)
theorem g_ref17_Spread_ok (hK : KnOk K) (h : g_ref17_Spread K n v1 v2 = some r) : ACalls Try.prog 61 [.sl (List.map eTBoxtreeBox v1), .agg (eTCascadeStyle v2)] (fun v _ => v = .tup [.int .i64 r.1, .int .i64 r.2]) := by
  refine acalls_intro (c := cat Try.f61 []) Try.func61 (by kernel_rfl) _ Try.ntmps61 (of_decide_eq_true (by kernel_rfl)) fun M w0 => ?_
  refine ve_cast (s' := ⟨[(0,.sl (List.map eTBoxtreeBox v1)),(1,.agg (eTCascadeStyle v2))],[],[],[]⟩) (by kernel_rfl) ?_
  unfold g_ref17_Spread at h
  exact ve_arr 10 (lp_en (p := p61_8) n (g_ref17_Spread_l1_ok hK n h))
end
end Go.Proofs.Ytkciiamllegclaa
