/- The runs of the functions that FlexWidths reaches do what their plain forms say, part 1. Made by a program. -/
import Derived.Test.YtlpndemhnpajiaaSmGk
import Derived.Test.YtlpndemhnpajiaaSmP0
namespace Go.Proofs.Ytlpndemhnpajiaa
open Go.RowKit
set_option maxRecDepth 20000
set_option linter.all false
set_option linter.unusedVariables false
set_option linter.unusedSimpArgs false
noncomputable section
abbrev cx24 (M : Nat → Prop) (w0 : Base) : Cx := ⟨Try.prog, 29, M, w0⟩
abbrev q24 (M : Nat → Prop) (w0 : Base) (r : Bool) := bodyPost Try.prog Try.f24 (RetQ M w0 (fun v _ => v = .bool r))
def s24_j1 (v3 : Bool) : AS := ⟨[(2,.bool v3)],[],[],[]⟩
variable {K : Kn} {n : Nat} {M : Nat → Prop} {w0 : Base} {r : Bool} {v1 : (List TKnapsackref17Spec)} {v3 : Bool} 
theorem g_law19_fits_j1_ok (hK : KnOk K) (h : g_law19_fits_j1 K n v3 = some r) : VE (cx24 M w0) (q24 M w0 r) [.c (cat Try.f24 [1, 1])] .normal (s24_j1 v3) := by
  unfold g_law19_fits_j1 at h
  refine ve_rt 1 ?_
  have hr := Option.some.inj h
  subst hr
  exact ve_d1
theorem g_law19_fits_ok (hK : KnOk K) (h : g_law19_fits K n v1 = some r) : ACalls Try.prog 24 [.sl (List.map eTKnapsackref17Spec v1)] (fun v _ => v = .bool r) := by
  refine acalls_intro (c := cat Try.f24 []) Try.func24 (by kernel_rfl) _ Try.ntmps24 (of_decide_eq_true (by kernel_rfl)) fun M w0 => ?_
  refine ve_cast (s' := ⟨[(0,.sl (List.map eTKnapsackref17Spec v1))],[],[],[]⟩) (by kernel_rfl) ?_
  unfold g_law19_fits at h
  refine ve_un (ks' := [.c (cat Try.f24 [1, 0]), .c (cat Try.f24 [1, 1])]) 3 ?_
  refine ve_pk [0] [] [] ?_
  obtain ⟨v2, h1, h⟩ := bind_some h
  rcases ite_some h with ⟨h2, h⟩ | ⟨h2, h⟩
  ·
   rcases ite_some h with ⟨h3, h⟩ | ⟨h3, h⟩
   ·
    obtain ⟨h4, h⟩ := chk_some h
    obtain ⟨h5, h⟩ := chk_some h
    rcases ite_some h with ⟨h6, h⟩ | ⟨h6, h⟩
    ·
     obtain ⟨h7, h⟩ := chk_some h
     refine ve_dr 1 [(3, .sl (List.map eTKnapsackref17Spec v1)), (4, .bool v2), (5, .bool true), (6, .sl (List.map eTKnapsackref17Spec v1)), (7, .int .i64 (v1.length : Int)), (8, .bool (decide ((v1.length : Int) > 1))), (9, .bool (decide ((v1.length : Int) > 1))), (10, .bool true), (11, .sl (List.map eTKnapsackref17Spec v1)), (12, .cptr (eTKnapsackref17Spec (List.getD v1 (1 : Int).toNat default))), (13, .cptr (List.drop 0 (eTKnapsackref17Spec (List.getD v1 (1 : Int).toNat default)))), (14, .int .u8 ((List.getD v1 (1 : Int).toNat default).Depth)), (15, .sl (List.map eTKnapsackref17Spec v1)), (16, .cptr (eTKnapsackref17Spec (List.getD v1 (0 : Int).toNat default))), (17, .cptr (List.drop 0 (eTKnapsackref17Spec (List.getD v1 (0 : Int).toNat default)))), (18, .int .u8 ((List.getD v1 (0 : Int).toNat default).Depth)), (19, .bool (decide (((List.getD v1 (1 : Int).toNat default).Depth) > ((List.getD v1 (0 : Int).toNat default).Depth)))), (20, .bool (decide (((List.getD v1 (1 : Int).toNat default).Depth) > ((List.getD v1 (0 : Int).toNat default).Depth)))), (21, .bool true), (22, .sl (List.map eTKnapsackref17Spec v1)), (23, .cptr (eTKnapsackref17Spec (List.getD v1 (1 : Int).toNat default))), (24, .cptr (List.drop 1 (eTKnapsackref17Spec (List.getD v1 (1 : Int).toNat default)))), (25, .int .u8 ((List.getD v1 (1 : Int).toNat default).Kind)), (26, .int .u8 (Int.tmod ((List.getD v1 (1 : Int).toNat default).Kind) 2)), (27, .bool ((Int.tmod ((List.getD v1 (1 : Int).toNat default).Kind) 2) == 0)), (28, .bool ((Int.tmod ((List.getD v1 (1 : Int).toNat default).Kind) 2) == 0))] [] [] [stp Try.prog 29 Try.f24 [1, 0] 26] (d_vs [.v 0 1] (d_c1 (e_c 0 1 4 (g_ref17_Few_ok hK h1)) (d_c1 (k_v (lo := 0) (k := 1) (kallS ⟨(by kernel_rfl), (aop_boolc 5 (e := v2) (b := true) h2 (by kernel_rfl) (by kernel_rfl))⟩ (kall0))) (d_vs [.v 0 1] (d_c1 (e_v (lo := 0) (y_len eTKnapsackref17Spec v1)) (d_vs [.v 0 1, .v 0 1] (d_c1 (k_v (lo := 0) (k := 1) (kallS ⟨(by kernel_rfl), (aop_boolc 10 (e := (decide ((v1.length : Int) > 1))) (b := true) h3 (by kernel_rfl) (by kernel_rfl))⟩ (kall0))) (d_vs [.v 0 1] (d_c1 (e_v (lo := 0) (y_ixs eTKnapsackref17Spec eTKnapsackref17Spec h4 (eTKnapsackref17Spec_len) (fun _ => rfl))) (d_vs [.v 0 1, .v 0 1, .v 0 1] (d_c1 (e_v (lo := 0) (y_ixs eTKnapsackref17Spec eTKnapsackref17Spec h5 (eTKnapsackref17Spec_len) (fun _ => rfl))) (d_vs [.v 0 1, .v 0 1, .v 0 1, .v 0 1] (d_c1 (k_v (lo := 0) (k := 1) (kallS ⟨(by kernel_rfl), (aop_boolc 21 (e := (decide (((List.getD v1 (1 : Int).toNat default).Depth) > ((List.getD v1 (0 : Int).toNat default).Depth)))) (b := true) h6 (by kernel_rfl) (by kernel_rfl))⟩ (kall0))) (d_vs [.v 0 1] (d_c1 (e_v (lo := 0) (y_ixs eTKnapsackref17Spec eTKnapsackref17Spec h7 (eTKnapsackref17Spec_len) (fun _ => rfl))) (d_vs [.v 0 1, .v 0 1, .v 0 1, .v 0 1, .v 0 1] (d_c1 (e_d 0) (d_nl)))))))))))))))))) ?_
     exact ve_arr 0 (g_law19_fits_j1_ok hK h)
    ·
     refine ve_dr 1 [(3, .sl (List.map eTKnapsackref17Spec v1)), (4, .bool v2), (5, .bool true), (6, .sl (List.map eTKnapsackref17Spec v1)), (7, .int .i64 (v1.length : Int)), (8, .bool (decide ((v1.length : Int) > 1))), (9, .bool (decide ((v1.length : Int) > 1))), (10, .bool true), (11, .sl (List.map eTKnapsackref17Spec v1)), (12, .cptr (eTKnapsackref17Spec (List.getD v1 (1 : Int).toNat default))), (13, .cptr (List.drop 0 (eTKnapsackref17Spec (List.getD v1 (1 : Int).toNat default)))), (14, .int .u8 ((List.getD v1 (1 : Int).toNat default).Depth)), (15, .sl (List.map eTKnapsackref17Spec v1)), (16, .cptr (eTKnapsackref17Spec (List.getD v1 (0 : Int).toNat default))), (17, .cptr (List.drop 0 (eTKnapsackref17Spec (List.getD v1 (0 : Int).toNat default)))), (18, .int .u8 ((List.getD v1 (0 : Int).toNat default).Depth)), (19, .bool (decide (((List.getD v1 (1 : Int).toNat default).Depth) > ((List.getD v1 (0 : Int).toNat default).Depth)))), (20, .bool (decide (((List.getD v1 (1 : Int).toNat default).Depth) > ((List.getD v1 (0 : Int).toNat default).Depth)))), (21, .bool false), (22, .tup []), (23, .tup []), (24, .tup []), (25, .tup []), (26, .tup []), (27, .tup []), (28, .bool false)] [] [] [stp Try.prog 29 Try.f24 [1, 0] 26] (d_vs [.v 0 1] (d_c1 (e_c 0 1 4 (g_ref17_Few_ok hK h1)) (d_c1 (k_v (lo := 0) (k := 1) (kallS ⟨(by kernel_rfl), (aop_boolc 5 (e := v2) (b := true) h2 (by kernel_rfl) (by kernel_rfl))⟩ (kall0))) (d_vs [.v 0 1] (d_c1 (e_v (lo := 0) (y_len eTKnapsackref17Spec v1)) (d_vs [.v 0 1, .v 0 1] (d_c1 (k_v (lo := 0) (k := 1) (kallS ⟨(by kernel_rfl), (aop_boolc 10 (e := (decide ((v1.length : Int) > 1))) (b := true) h3 (by kernel_rfl) (by kernel_rfl))⟩ (kall0))) (d_vs [.v 0 1] (d_c1 (e_v (lo := 0) (y_ixs eTKnapsackref17Spec eTKnapsackref17Spec h4 (eTKnapsackref17Spec_len) (fun _ => rfl))) (d_vs [.v 0 1, .v 0 1, .v 0 1] (d_c1 (e_v (lo := 0) (y_ixs eTKnapsackref17Spec eTKnapsackref17Spec h5 (eTKnapsackref17Spec_len) (fun _ => rfl))) (d_vs [.v 0 1, .v 0 1, .v 0 1, .v 0 1] (d_c1 (k_v (lo := 0) (k := 1) (kallS ⟨(by kernel_rfl), (aop_boolc 21 (e := (decide (((List.getD v1 (1 : Int).toNat default).Depth) > ((List.getD v1 (0 : Int).toNat default).Depth)))) (b := false) h6 (by kernel_rfl) (by kernel_rfl))⟩ (kall0))) (d_c1 (k_off (lo := 0) (k := 1) (by kernel_rfl) (kallS (by kernel_rfl) (kall0)) (kallS (by kernel_rfl) (kallS (by kernel_rfl) (kall0)))) (d_c1 (k_off (lo := 0) (k := 1) (by kernel_rfl) (kallS (by kernel_rfl) (kall0)) (kallS (by kernel_rfl) (kallS (by kernel_rfl) (kall0)))) (d_c1 (k_off (lo := 0) (k := 1) (by kernel_rfl) (kallS (by kernel_rfl) (kall0)) (kallS (by kernel_rfl) (kallS (by kernel_rfl) (kall0)))) (d_c1 (k_off (lo := 0) (k := 1) (by kernel_rfl) (kallS (by kernel_rfl) (kall0)) (kallS (by kernel_rfl) (kallS (by kernel_rfl) (kall0)))) (d_c1 (k_off (lo := 0) (k := 1) (by kernel_rfl) (kallS (by kernel_rfl) (kall0)) (kallS (by kernel_rfl) (kallS (by kernel_rfl) (kall0)))) (d_c1 (k_off (lo := 0) (k := 1) (by kernel_rfl) (kallS (by kernel_rfl) (kall0)) (kallS (by kernel_rfl) (kallS (by kernel_rfl) (kall0)))) (d_vs [.v 0 1] (d_c1 (e_d 0) (d_nl)))))))))))))))))))))) ?_
     exact ve_arr 0 (g_law19_fits_j1_ok hK h)
   ·
    refine ve_dr 1 [(3, .sl (List.map eTKnapsackref17Spec v1)), (4, .bool v2), (5, .bool true), (6, .sl (List.map eTKnapsackref17Spec v1)), (7, .int .i64 (v1.length : Int)), (8, .bool (decide ((v1.length : Int) > 1))), (9, .bool (decide ((v1.length : Int) > 1))), (10, .bool false), (11, .tup []), (12, .tup []), (13, .tup []), (14, .tup []), (15, .tup []), (16, .tup []), (17, .tup []), (18, .tup []), (19, .tup []), (20, .bool false), (21, .bool false), (22, .tup []), (23, .tup []), (24, .tup []), (25, .tup []), (26, .tup []), (27, .tup []), (28, .bool false)] [] [] [stp Try.prog 29 Try.f24 [1, 0] 26] (d_vs [.v 0 1] (d_c1 (e_c 0 1 4 (g_ref17_Few_ok hK h1)) (d_c1 (k_v (lo := 0) (k := 1) (kallS ⟨(by kernel_rfl), (aop_boolc 5 (e := v2) (b := true) h2 (by kernel_rfl) (by kernel_rfl))⟩ (kall0))) (d_vs [.v 0 1] (d_c1 (e_v (lo := 0) (y_len eTKnapsackref17Spec v1)) (d_vs [.v 0 1, .v 0 1] (d_c1 (k_v (lo := 0) (k := 1) (kallS ⟨(by kernel_rfl), (aop_boolc 10 (e := (decide ((v1.length : Int) > 1))) (b := false) h3 (by kernel_rfl) (by kernel_rfl))⟩ (kall0))) (d_c1 (k_off (lo := 0) (k := 1) (by kernel_rfl) (kallS (by kernel_rfl) (kall0)) (kallS (by kernel_rfl) (kallS (by kernel_rfl) (kall0)))) (d_c1 (k_off (lo := 0) (k := 1) (by kernel_rfl) (kallS (by kernel_rfl) (kall0)) (kallS (by kernel_rfl) (kallS (by kernel_rfl) (kall0)))) (d_c1 (k_off (lo := 0) (k := 1) (by kernel_rfl) (kallS (by kernel_rfl) (kall0)) (kallS (by kernel_rfl) (kallS (by kernel_rfl) (kall0)))) (d_c1 (k_off (lo := 0) (k := 1) (by kernel_rfl) (kallS (by kernel_rfl) (kall0)) (kallS (by kernel_rfl) (kallS (by kernel_rfl) (kall0)))) (d_c1 (k_off (lo := 0) (k := 1) (by kernel_rfl) (kallS (by kernel_rfl) (kall0)) (kallS (by kernel_rfl) (kallS (by kernel_rfl) (kall0)))) (d_c1 (k_off (lo := 0) (k := 1) (by kernel_rfl) (kallS (by kernel_rfl) (kall0)) (kallS (by kernel_rfl) (kallS (by kernel_rfl) (kall0)))) (d_c1 (k_off (lo := 0) (k := 1) (by kernel_rfl) (kallS (by kernel_rfl) (kall0)) (kallS (by kernel_rfl) (kallS (by kernel_rfl) (kall0)))) (d_c1 (k_off (lo := 0) (k := 1) (by kernel_rfl) (kallS (by kernel_rfl) (kall0)) (kallS (by kernel_rfl) (kallS (by kernel_rfl) (kall0)))) (d_c1 (k_off (lo := 0) (k := 1) (by kernel_rfl) (kallS (by kernel_rfl) (kall0)) (kallS (by kernel_rfl) (kallS (by kernel_rfl) (kall0)))) (d_vs [.v 0 1, .v 0 1] (d_c1 (k_off (lo := 0) (k := 1) (by kernel_rfl) (kallS (by kernel_rfl) (kall0)) (kallS (by kernel_rfl) (kallS (by kernel_rfl) (kall0)))) (d_c1 (k_off (lo := 0) (k := 1) (by kernel_rfl) (kallS (by kernel_rfl) (kall0)) (kallS (by kernel_rfl) (kallS (by kernel_rfl) (kall0)))) (d_c1 (k_off (lo := 0) (k := 1) (by kernel_rfl) (kallS (by kernel_rfl) (kall0)) (kallS (by kernel_rfl) (kallS (by kernel_rfl) (kall0)))) (d_c1 (k_off (lo := 0) (k := 1) (by kernel_rfl) (kallS (by kernel_rfl) (kall0)) (kallS (by kernel_rfl) (kallS (by kernel_rfl) (kall0)))) (d_c1 (k_off (lo := 0) (k := 1) (by kernel_rfl) (kallS (by kernel_rfl) (kall0)) (kallS (by kernel_rfl) (kallS (by kernel_rfl) (kall0)))) (d_c1 (k_off (lo := 0) (k := 1) (by kernel_rfl) (kallS (by kernel_rfl) (kall0)) (kallS (by kernel_rfl) (kallS (by kernel_rfl) (kall0)))) (d_vs [.v 0 1] (d_c1 (e_d 0) (d_nl)))))))))))))))))))))))))) ?_
    exact ve_arr 0 (g_law19_fits_j1_ok hK h)
  ·
   refine ve_dr 1 [(3, .sl (List.map eTKnapsackref17Spec v1)), (4, .bool v2), (5, .bool false), (6, .tup []), (7, .tup []), (8, .tup []), (9, .bool false), (10, .bool false), (11, .tup []), (12, .tup []), (13, .tup []), (14, .tup []), (15, .tup []), (16, .tup []), (17, .tup []), (18, .tup []), (19, .tup []), (20, .bool false), (21, .bool false), (22, .tup []), (23, .tup []), (24, .tup []), (25, .tup []), (26, .tup []), (27, .tup []), (28, .bool false)] [] [] [stp Try.prog 29 Try.f24 [1, 0] 26] (d_vs [.v 0 1] (d_c1 (e_c 0 1 4 (g_ref17_Few_ok hK h1)) (d_c1 (k_v (lo := 0) (k := 1) (kallS ⟨(by kernel_rfl), (aop_boolc 5 (e := v2) (b := false) h2 (by kernel_rfl) (by kernel_rfl))⟩ (kall0))) (d_c1 (k_off (lo := 0) (k := 1) (by kernel_rfl) (kallS (by kernel_rfl) (kall0)) (kallS (by kernel_rfl) (kallS (by kernel_rfl) (kall0)))) (d_c1 (k_off (lo := 0) (k := 1) (by kernel_rfl) (kallS (by kernel_rfl) (kall0)) (kallS (by kernel_rfl) (kallS (by kernel_rfl) (kall0)))) (d_c1 (k_off (lo := 0) (k := 1) (by kernel_rfl) (kallS (by kernel_rfl) (kall0)) (kallS (by kernel_rfl) (kallS (by kernel_rfl) (kall0)))) (d_vs [.v 0 1, .v 0 1] (d_c1 (k_off (lo := 0) (k := 1) (by kernel_rfl) (kallS (by kernel_rfl) (kall0)) (kallS (by kernel_rfl) (kallS (by kernel_rfl) (kall0)))) (d_c1 (k_off (lo := 0) (k := 1) (by kernel_rfl) (kallS (by kernel_rfl) (kall0)) (kallS (by kernel_rfl) (kallS (by kernel_rfl) (kall0)))) (d_c1 (k_off (lo := 0) (k := 1) (by kernel_rfl) (kallS (by kernel_rfl) (kall0)) (kallS (by kernel_rfl) (kallS (by kernel_rfl) (kall0)))) (d_c1 (k_off (lo := 0) (k := 1) (by kernel_rfl) (kallS (by kernel_rfl) (kall0)) (kallS (by kernel_rfl) (kallS (by kernel_rfl) (kall0)))) (d_c1 (k_off (lo := 0) (k := 1) (by kernel_rfl) (kallS (by kernel_rfl) (kall0)) (kallS (by kernel_rfl) (kallS (by kernel_rfl) (kall0)))) (d_c1 (k_off (lo := 0) (k := 1) (by kernel_rfl) (kallS (by kernel_rfl) (kall0)) (kallS (by kernel_rfl) (kallS (by kernel_rfl) (kall0)))) (d_c1 (k_off (lo := 0) (k := 1) (by kernel_rfl) (kallS (by kernel_rfl) (kall0)) (kallS (by kernel_rfl) (kallS (by kernel_rfl) (kall0)))) (d_c1 (k_off (lo := 0) (k := 1) (by kernel_rfl) (kallS (by kernel_rfl) (kall0)) (kallS (by kernel_rfl) (kallS (by kernel_rfl) (kall0)))) (d_c1 (k_off (lo := 0) (k := 1) (by kernel_rfl) (kallS (by kernel_rfl) (kall0)) (kallS (by kernel_rfl) (kallS (by kernel_rfl) (kall0)))) (d_vs [.v 0 1, .v 0 1] (d_c1 (k_off (lo := 0) (k := 1) (by kernel_rfl) (kallS (by kernel_rfl) (kall0)) (kallS (by kernel_rfl) (kallS (by kernel_rfl) (kall0)))) (d_c1 (k_off (lo := 0) (k := 1) (by kernel_rfl) (kallS (by kernel_rfl) (kall0)) (kallS (by kernel_rfl) (kallS (by kernel_rfl) (kall0)))) (d_c1 (k_off (lo := 0) (k := 1) (by kernel_rfl) (kallS (by kernel_rfl) (kall0)) (kallS (by kernel_rfl) (kallS (by kernel_rfl) (kall0)))) (d_c1 (k_off (lo := 0) (k := 1) (by kernel_rfl) (kallS (by kernel_rfl) (kall0)) (kallS (by kernel_rfl) (kallS (by kernel_rfl) (kall0)))) (d_c1 (k_off (lo := 0) (k := 1) (by kernel_rfl) (kallS (by kernel_rfl) (kall0)) (kallS (by kernel_rfl) (kallS (by kernel_rfl) (kall0)))) (d_c1 (k_off (lo := 0) (k := 1) (by kernel_rfl) (kallS (by kernel_rfl) (kall0)) (kallS (by kernel_rfl) (kallS (by kernel_rfl) (kall0)))) (d_vs [.v 0 1] (d_c1 (e_d 0) (d_nl)))))))))))))))))))))))))) ?_
   exact ve_arr 0 (g_law19_fits_j1_ok hK h)
end
def p43_0 : List Nat := ones 6 []
def p43_1 : List Nat := ones 5 [0, 0, 0]
def p43_2 : List Nat := ones 5 [0, 0, 0, 0, 1]
def p43_3 : List Nat := ones 5 [0, 0, 0, 1]
def p43_4 : List Nat := ones 5 [0, 0, 0, 1, 0, 0, 1]
def p43_5 : List Nat := ones 5 [0, 0, 0, 1, 0, 1]
def p43_6 : List Nat := ones 5 [0, 0, 0, 1, 0, 0, 1, 0, 0]
def p43_7 : List Nat := ones 5 [0, 0, 0, 1, 0, 0, 1, 0, 1]
def p43_8 : List Nat := ones 5 [0, 0, 0, 1, 0, 0, 1, 0, 1, 0]
def p43_9 : List Nat := ones 5 [0, 0, 0, 1, 0, 0, 1, 0, 1, 1]
def p43_10 : List Nat := ones 5 [0, 0, 0, 1, 0, 1, 0]
def p43_11 : List Nat := ones 5 [0, 0, 0, 1, 0, 1, 1]
def p43_12 : List Nat := ones 5 [0, 0, 0, 0, 0]
def p43_13 : List Nat := ones 5 []
def p43_14 : List Nat := ones 5 [0, 0]
def p43_15 : List Nat := [1, 1, 1, 1, 0]
noncomputable section
abbrev cx43 (M : Nat → Prop) (w0 : Base) : Cx := ⟨Try.prog, 95, M, w0⟩
abbrev q43 (M : Nat → Prop) (w0 : Base) (r : (TBoxtreeBox × Int)) := bodyPost Try.prog Try.f43 (RetQ M w0 (fun v s => v = .tup [.agg (List.set (xTBoxtreeBox ({ r.1 with Kids := [] } : TBoxtreeBox)) 58 (.ref 72)), .int .i64 r.2] ∧ look 72 s.r = some ⟨50, 59, List.map eTBoxtreeBox r.1.Kids⟩))
abbrev k43_1 (M : Nat → Prop) (w0 : Base) (r : (TBoxtreeBox × Int)) (m1 : Nat) : Kont := kl (cx43 M w0) (q43 M w0 r) [.b 0, .c (cat Try.f43 p43_0)] (cat Try.f43 p43_1) m1
def s43_j2 (v1 : (List TKnapsackref17Spec)) (v2 : Int) (v3 : Bool) (v8 : Int) (v9 : (List TBoxtreeBox)) (v10 : Bool) : AS := ⟨[(0,.sl (List.map eTKnapsackref17Spec v1)),(1,.int .i64 v8),(4,.ptr 4 0),(6,.ptr 6 0),(7,.int .u8 ((List.getD v1 (v2).toNat default).Depth)),(8,.bool v3),(60,.bool v10)],[(4,List.set (xTBoxtreeBox zTBoxtreeBox) 58 (.nils)),(6,List.set (xTBoxtreeBox ({ zTBoxtreeBox with Kind := 1, Node := (w64 (10 + v2)), Style := (List.getD v1 (v2).toNat default).Style } : TBoxtreeBox)) 58 (.ref 72))],[(72,⟨50,59,List.map eTBoxtreeBox v9⟩)],[4,6,72]⟩
def s43_l3 (v1 : (List TKnapsackref17Spec)) (v2 : Int) (v3 : Bool) (v8 : Int) (v9 : (List TBoxtreeBox)) : AS := ⟨[(0,.sl (List.map eTKnapsackref17Spec v1)),(1,.int .i64 v8),(4,.ptr 4 0),(6,.ptr 6 0),(7,.int .u8 ((List.getD v1 (v2).toNat default).Depth)),(8,.bool v3)],[(4,List.set (xTBoxtreeBox zTBoxtreeBox) 58 (.nils)),(6,List.set (xTBoxtreeBox ({ zTBoxtreeBox with Kind := 1, Node := (w64 (10 + v2)), Style := (List.getD v1 (v2).toNat default).Style } : TBoxtreeBox)) 58 (.ref 72))],[(72,⟨50,59,List.map eTBoxtreeBox v9⟩)],[4,6,72]⟩
def s43_j1 (v1 : (List TKnapsackref17Spec)) (v2 : Int) (v3 : Bool) : AS := ⟨[(0,.sl (List.map eTKnapsackref17Spec v1)),(1,.int .i64 (w64 (v2 + 1))),(4,.ptr 4 0),(6,.ptr 6 0),(7,.int .u8 ((List.getD v1 (v2).toNat default).Depth)),(8,.bool v3)],[(4,List.set (xTBoxtreeBox zTBoxtreeBox) 58 (.nils)),(6,List.set (xTBoxtreeBox ({ zTBoxtreeBox with Kind := 1, Node := (w64 (10 + v2)), Style := (List.getD v1 (v2).toNat default).Style } : TBoxtreeBox)) 58 (.nils))],[],[4,6]⟩
abbrev H43_1 (M : Nat → Prop) (w0 : Base) (r : (TBoxtreeBox × Int)) (v1 : (List TKnapsackref17Spec)) (v2 : Int) (v3 : Bool) (m1 : Nat) (L1 : Int → (List TBoxtreeBox) → Option (TBoxtreeBox × Int)) : Prop := ∀ {v8 : Int} {v9 : (List TBoxtreeBox)}, L1 v8 v9 = some r → LP (cx43 M w0) (q43 M w0 r) [.b 0, .c (cat Try.f43 p43_0)] (cat Try.f43 p43_1) m1 (s43_l3 v1 v2 v3 v8 v9)
variable {K : Kn} {n : Nat} {M : Nat → Prop} {w0 : Base} {r : (TBoxtreeBox × Int)} {v1 : (List TKnapsackref17Spec)} {v2 : Int} {v3 : Bool} {v8 : Int} {v9 : (List TBoxtreeBox)} {v10 : Bool} {m1 : Nat} {L1 : Int → (List TBoxtreeBox) → Option (TBoxtreeBox × Int)}
theorem g_ref17_Tree_j2_ok (hK : KnOk K) (hL1 : H43_1 M w0 r v1 v2 v3 m1 L1) (h : g_ref17_Tree_j2 K n v1 v2 v3 v8 v9 L1 v10 = some r) : VE (cx43 M w0) (q43 M w0 r) [.c (cat Try.f43 p43_2), .c (cat Try.f43 p43_3), k43_1 M w0 r m1, .b 0, .c (cat Try.f43 p43_0)] .normal (s43_j2 v1 v2 v3 v8 v9 v10) := by
  unfold g_ref17_Tree_j2 at h
  rcases ite_some h with ⟨h27, h⟩ | ⟨h27, h⟩
  ·
   refine ve_sb 60 h27 ?_
   refine ve_un (ks' := [.c (cat Try.f43 p43_4), .c (cat Try.f43 p43_5), .b 1, k43_1 M w0 r m1, .b 0, .c (cat Try.f43 p43_0)]) 6 ?_
   rcases ite_some h with ⟨h28, h⟩ | ⟨h28, h⟩
   ·
    refine ve_sb 61 h28 ?_
    refine ve_un (ks' := [.c (cat Try.f43 p43_6), .c (cat Try.f43 p43_7), .c (cat Try.f43 p43_5), .b 1, k43_1 M w0 r m1, .b 0, .c (cat Try.f43 p43_0)]) 2 ?_
    refine ve_in 2 ?_
    obtain ⟨v11, h29, h⟩ := bind_some h
    refine ot_cl (hK.k_g_ref17_Tree h29) ?_
    refine ot_end ?_
    refine ve_un (ks' := [.c (cat Try.f43 p43_8), .c (cat Try.f43 p43_9), .c (cat Try.f43 p43_5), .b 1, k43_1 M w0 r m1, .b 0, .c (cat Try.f43 p43_0)]) 1 ?_
    refine ve_in 3 ?_
    refine ot_sp (y_bsl eTBoxtreeBox ([v11.1] : List TBoxtreeBox) (new := [xTBoxtreeBox v11.1]) (by simp only [List.map_cons, List.map_nil, xTBoxtreeBox_eq])) ?_
    obtain ⟨h30, h⟩ := chk_some h
    refine ot_sp (y_app 72 72 50 59 eTBoxtreeBox (rfl) (eTBoxtreeBox_len) h30) ?_
    refine ot_end ?_
    exact ve_arr 5 (lp_back (hL1 h))
   ·
    refine ve_sb 61 h28 ?_
    refine ve_un (ks' := [.c (cat Try.f43 p43_10), .c (cat Try.f43 p43_11), .b 1, k43_1 M w0 r m1, .b 0, .c (cat Try.f43 p43_0)]) 3 ?_
    refine ve_pk [0, 1, 4, 6, 7, 8] [4, 6] [72] ?_
    obtain ⟨h31, h⟩ := chk_some h
    obtain ⟨h32, h⟩ := chk_some h
    obtain ⟨h33, h⟩ := chk_some h
    refine ve_dr 2 [(75, .ptr 6 58), (76, .ref 72), (77, .sl (List.map eTKnapsackref17Spec v1)), (78, .int .i64 v8), (79, .cptr (eTKnapsackref17Spec (List.getD v1 (v8).toNat default))), (80, .cptr (List.drop 5 (eTKnapsackref17Spec (List.getD v1 (v8).toNat default)))), (81, .agg (eTCascadeStyle ((List.getD v1 (v8).toNat default).Style))), (82, .sl (List.map eTKnapsackref17Spec v1)), (83, .int .i64 v8), (84, .cptr (eTKnapsackref17Spec (List.getD v1 (v8).toNat default))), (85, .cptr (List.drop 2 (eTKnapsackref17Spec (List.getD v1 (v8).toNat default)))), (86, .str ((List.getD v1 (v8).toNat default).Text)), (87, .agg (List.set (xTBoxtreeBox ({ zTBoxtreeBox with Kind := 3, Style := (List.getD v1 (v8).toNat default).Style, Text := (List.getD v1 (v8).toNat default).Text } : TBoxtreeBox)) 58 (.nils))), (88, .sl (List.map eTBoxtreeBox [({ zTBoxtreeBox with Kind := 3, Style := (List.getD v1 (v8).toNat default).Style, Text := (List.getD v1 (v8).toNat default).Text } : TBoxtreeBox)])), (90, .ptr 6 58)] [] [] [appS 89 72 ⟨50, 59, List.map eTBoxtreeBox (v9 ++ [({ zTBoxtreeBox with Kind := 3, Style := (List.getD v1 (v8).toNat default).Style, Text := (List.getD v1 (v8).toNat default).Text } : TBoxtreeBox)])⟩, stp Try.prog 95 Try.f43 p43_10 16] (d_vs [.v 0 2, .v 0 1, .v 0 2, .v 0 2] (d_c1 (k_v (lo := 0) (k := 2) (kallS ⟨(by kernel_rfl), (aop_eq (y_ixs eTKnapsackref17Spec eTKnapsackref17Spec h31 (eTKnapsackref17Spec_len) (fun _ => rfl)) (by kernel_rfl))⟩ (kallS ⟨(by kernel_rfl), (aop_eq (y_ixs eTKnapsackref17Spec eTKnapsackref17Spec h31 (eTKnapsackref17Spec_len) (fun _ => rfl)) (by kernel_rfl))⟩ (kall0)))) (d_vs [.v 0 2, .v 0 2, .v 0 2, .v 0 2] (d_c1 (k_v (lo := 0) (k := 2) (kallS ⟨(by kernel_rfl), (aop_eq (y_ixs eTKnapsackref17Spec eTKnapsackref17Spec h32 (eTKnapsackref17Spec_len) (fun _ => rfl)) (by kernel_rfl))⟩ (kallS ⟨(by kernel_rfl), (aop_eq (y_ixs eTKnapsackref17Spec eTKnapsackref17Spec h32 (eTKnapsackref17Spec_len) (fun _ => rfl)) (by kernel_rfl))⟩ (kall0)))) (d_vs [.v 0 2, .v 0 2, .v 0 2] (d_c1 (e_v (lo := 0) (y_bsl eTBoxtreeBox ([({ zTBoxtreeBox with Kind := 3, Style := (List.getD v1 (v8).toNat default).Style, Text := (List.getD v1 (v8).toNat default).Text } : TBoxtreeBox)] : List TBoxtreeBox) (new := [xTBoxtreeBox ({ zTBoxtreeBox with Kind := 3, Style := (List.getD v1 (v8).toNat default).Style, Text := (List.getD v1 (v8).toNat default).Text } : TBoxtreeBox)]) (by simp only [List.map_cons, List.map_nil, xTBoxtreeBox_eq]))) (d_c1 (e_s (m := 0) (y_app 89 72 50 59 eTBoxtreeBox (rfl) (eTBoxtreeBox_len) h33)) (d_vs [.v 1 1] (d_c1 (e_d 1) (d_nl)))))))))) ?_
    exact ve_arr 2 (lp_back (hL1 h))
  ·
   refine ve_sb 60 h27 ?_
   refine ve_rt 8 ?_
   have hr := Option.some.inj h
   subst hr
   exact ve_ot
theorem g_ref17_Tree_l3_b_ok (hK : KnOk K) (hL1 : H43_1 M w0 r v1 v2 v3 m1 L1) (h : g_ref17_Tree_l3_b K n v1 v2 v3 L1 v8 v9 = some r) : VE (cx43 M w0) (q43 M w0 r) [.c (cat Try.f43 p43_1), k43_1 M w0 r m1, .b 0, .c (cat Try.f43 p43_0)] .normal (s43_l3 v1 v2 v3 v8 v9) := by
  unfold g_ref17_Tree_l3_b at h
  refine ve_un (ks' := [.c (cat Try.f43 p43_12), .c (cat Try.f43 p43_2), .c (cat Try.f43 p43_3), k43_1 M w0 r m1, .b 0, .c (cat Try.f43 p43_0)]) 2 ?_
  refine ve_in 2 ?_
  refine ot_sp (y_len eTKnapsackref17Spec v1) ?_
  refine ot_go 5 2 ?_
  rcases ite_some h with ⟨h25, h⟩ | ⟨h25, h⟩
  ·
   refine ot_sb 52 h25 ?_
   refine ot_go 7 2 ?_
   obtain ⟨h26, h⟩ := chk_some h
   refine ot_sp (y_ixs eTKnapsackref17Spec eTKnapsackref17Spec h26 (eTKnapsackref17Spec_len) (fun _ => rfl)) ?_
   refine ot_end ?_
   exact ve_arr 0 (g_ref17_Tree_j2_ok hK hL1 h)
  ·
   refine ot_sb 52 h25 ?_
   refine ot_end ?_
   exact ve_arr 0 (g_ref17_Tree_j2_ok hK hL1 h)
theorem g_ref17_Tree_l3_ok (hK : KnOk K) (m : Nat) : H43_1 M w0 r v1 v2 v3 m (g_ref17_Tree_l3 K n v1 v2 v3 m) := by
  induction m with
 | zero => intro v8 v9 h; cases h
 | succ m ih => intro v8 v9 h; have h : g_ref17_Tree_l3_b K n v1 v2 v3 (g_ref17_Tree_l3 K n v1 v2 v3 m) v8 v9 = some r := h; exact lp_round (g_ref17_Tree_l3_b_ok hK ih h)
theorem g_ref17_Tree_j1_ok (hK : KnOk K) (h : g_ref17_Tree_j1 K n v1 v2 v3 = some r) : VE (cx43 M w0) (q43 M w0 r) [.c (cat Try.f43 p43_13)] .normal (s43_j1 v1 v2 v3) := by
  unfold g_ref17_Tree_j1 at h
  refine ve_un (ks' := [.c (cat Try.f43 p43_14), .b 0, .c (cat Try.f43 p43_0)]) 2 ?_
  refine ve_wo 72 6 58 50 59 ?_
  exact ve_arr 0 (lp_en (p := p43_14) n (g_ref17_Tree_l3_ok hK n h))
theorem g_ref17_Tree_ok (hK : KnOk K) (h : g_ref17_Tree K n v1 v2 = some r) : ACalls Try.prog 43 [.sl (List.map eTKnapsackref17Spec v1), .int .i64 v2] (fun v s => v = .tup [.agg (List.set (xTBoxtreeBox ({ r.1 with Kids := [] } : TBoxtreeBox)) 58 (.ref 72)), .int .i64 r.2] ∧ look 72 s.r = some ⟨50, 59, List.map eTBoxtreeBox r.1.Kids⟩) := by
  refine acalls_intro (c := cat Try.f43 []) Try.func43 (by kernel_rfl) _ Try.ntmps43 (of_decide_eq_true (by kernel_rfl)) fun M w0 => ?_
  refine ve_cast (s' := ⟨[(0,.sl (List.map eTKnapsackref17Spec v1)),(1,.int .i64 v2)],[],[],[]⟩) (by kernel_rfl) ?_
  unfold g_ref17_Tree at h
  refine ve_un (ks' := [.c (cat Try.f43 [1, 0]), .c (cat Try.f43 [1, 1])]) 3 ?_
  refine ve_in 4 ?_
  obtain ⟨h1, h⟩ := chk_some h
  refine ot_sp (y_ixs eTKnapsackref17Spec eTKnapsackref17Spec h1 (eTKnapsackref17Spec_len) (fun _ => rfl)) ?_
  refine ot_end ?_
  refine ve_un (ks' := [.c (cat Try.f43 [1, 1, 0]), .c (cat Try.f43 [1, 1, 1])]) 1 ?_
  refine ve_in 2 ?_
  obtain ⟨h2, h⟩ := chk_some h
  refine ot_sp (y_ixs eTKnapsackref17Spec eTKnapsackref17Spec h2 (eTKnapsackref17Spec_len) (fun _ => rfl)) ?_
  refine ot_end ?_
  refine ve_un (ks' := [.c (cat Try.f43 p43_15), .c (cat Try.f43 p43_13)]) 3 ?_
  refine ve_in 2 ?_
  refine ot_sp (y_len eTKnapsackref17Spec v1) ?_
  refine ot_go 5 2 ?_
  rcases ite_some h with ⟨h3, h⟩ | ⟨h3, h⟩
  ·
   refine ot_sb 30 h3 ?_
   refine ot_go 7 2 ?_
   obtain ⟨h4, h⟩ := chk_some h
   refine ot_sp (y_ixs eTKnapsackref17Spec eTKnapsackref17Spec h4 (eTKnapsackref17Spec_len) (fun _ => rfl)) ?_
   refine ot_go 14 6 ?_
   rcases ite_some h with ⟨h5, h⟩ | ⟨h5, h⟩
   ·
    refine ot_sb 39 h5 ?_
    refine ot_go 16 2 ?_
    obtain ⟨h6, h⟩ := chk_some h
    refine ot_sp (y_ixs eTKnapsackref17Spec eTKnapsackref17Spec h6 (eTKnapsackref17Spec_len) (fun _ => rfl)) ?_
    refine ot_end ?_
    exact ve_arr 0 (g_ref17_Tree_j1_ok hK h)
   ·
    refine ot_sb 39 h5 ?_
    refine ot_end ?_
    exact ve_arr 0 (g_ref17_Tree_j1_ok hK h)
  ·
   refine ot_sb 30 h3 ?_
   refine ot_end ?_
   exact ve_arr 0 (g_ref17_Tree_j1_ok hK h)
end
noncomputable section
variable {K : Kn} {n : Nat} {M : Nat → Prop} {w0 : Base} {r : TBoxtreeBox} {v1 : (List TKnapsackref17Spec)} 
theorem g_law19_box_ok (hK : KnOk K) (h : g_law19_box K n v1 = some r) : ACalls Try.prog 25 [.sl (List.map eTKnapsackref17Spec v1)] (fun v s => v = .agg (List.set (xTBoxtreeBox ({ r with Kids := [] } : TBoxtreeBox)) 58 (.ref 1007)) ∧ look 1007 s.r = some ⟨50, 59, List.map eTBoxtreeBox r.Kids⟩) := by
  refine acalls_intro (c := cat Try.f25 []) Try.func25 (by kernel_rfl) _ Try.ntmps25 (of_decide_eq_true (by kernel_rfl)) fun M w0 => ?_
  refine ve_cast (s' := ⟨[(0,.sl (List.map eTKnapsackref17Spec v1))],[],[],[]⟩) (by kernel_rfl) ?_
  unfold g_law19_box at h
  refine ve_un (ks' := [.c (cat Try.f25 [1, 0]), .c (cat Try.f25 [1, 1])]) 3 ?_
  refine ve_in 1 ?_
  obtain ⟨v2, h1, h⟩ := bind_some h
  refine ot_co 1007 (g_ref17_Tree_ok hK h1) (one_tupa (i := 0) (j := 58) rfl (by kernel_rfl)) ?_
  refine ot_end ?_
  refine ve_rt 5 ?_
  have hr := Option.some.inj h
  subst hr
  exact ve_o1
end
def p47_0 : List Nat := [1, 1, 1, 0, 1, 0, 0, 1, 1, 1]
def p47_1 : List Nat := [1, 1, 1, 1]
def p47_2 : List Nat := [1, 1, 1, 0, 1, 0, 0]
def p47_3 : List Nat := [1, 1, 1, 0, 1, 0, 0, 1, 1, 0, 0, 0]
def p47_4 : List Nat := [1, 1, 1, 0, 1, 0, 0, 1, 1, 0, 0, 1]
def p47_5 : List Nat := [1, 1, 1, 0, 1, 0, 0, 1, 1, 0, 0, 1, 0]
def p47_6 : List Nat := [1, 1, 1, 0, 1, 0, 0, 1, 1, 0, 0, 1, 1]
def p47_7 : List Nat := [1, 1, 1, 0, 1, 0, 0, 1, 1, 0, 0, 1, 1, 0]
def p47_8 : List Nat := [1, 1, 0, 1, 0]
def p47_9 : List Nat := [1, 1, 0, 1, 0, 0]
def p47_10 : List Nat := [1, 1, 0, 1, 0, 0, 1, 1, 0, 0, 1]
def p47_11 : List Nat := [1, 1, 0, 1, 0, 0, 1, 1, 1]
def p47_12 : List Nat := [1, 1, 1, 0, 0]
def p47_13 : List Nat := [1, 1, 1, 0, 1]
def p47_14 : List Nat := [1, 1, 1, 0, 1, 0]
noncomputable section
abbrev cx47 (M : Nat → Prop) (w0 : Base) : Cx := ⟨Try.prog, 40, M, w0⟩
abbrev q47 (M : Nat → Prop) (w0 : Base) (r : TCascadeStyle) := bodyPost Try.prog Try.f47 (RetQ M w0 (fun v _ => v = .agg (eTCascadeStyle r)))
def s47_j11 (v2 : Nat) (v13 : TCascadeStyle) : AS := ⟨[(1,.pp 1 v2 0),(2,.ptr 2 0),(24,.ref 10),(25,.int .i64 11),(26,.int .i64 10)],[(1,eTCascadeStyle v13),(2,eTCascadeStyle zTCascadeStyle)],[(10,⟨106,1,List.map eAdr [(v2, 6), (v2, 10), (v2, 12), (v2, 14), (v2, 22), (v2, 16), (v2, 24), (v2, 18), (v2, 26), (v2, 20), (v2, 28)]⟩)],[1,2,10]⟩
def s47_j10 (v2 : Nat) (v12 : TCascadeStyle) : AS := ⟨[(1,.pp 1 v2 0),(2,.ptr 2 0),(24,.ref 10),(25,.int .i64 11),(26,.int .i64 9)],[(1,eTCascadeStyle v12),(2,eTCascadeStyle zTCascadeStyle)],[(10,⟨106,1,List.map eAdr [(v2, 6), (v2, 10), (v2, 12), (v2, 14), (v2, 22), (v2, 16), (v2, 24), (v2, 18), (v2, 26), (v2, 20), (v2, 28)]⟩)],[1,2,10]⟩
def s47_j9 (v2 : Nat) (v11 : TCascadeStyle) : AS := ⟨[(1,.pp 1 v2 0),(2,.ptr 2 0),(24,.ref 10),(25,.int .i64 11),(26,.int .i64 8)],[(1,eTCascadeStyle v11),(2,eTCascadeStyle zTCascadeStyle)],[(10,⟨106,1,List.map eAdr [(v2, 6), (v2, 10), (v2, 12), (v2, 14), (v2, 22), (v2, 16), (v2, 24), (v2, 18), (v2, 26), (v2, 20), (v2, 28)]⟩)],[1,2,10]⟩
def s47_j8 (v2 : Nat) (v10 : TCascadeStyle) : AS := ⟨[(1,.pp 1 v2 0),(2,.ptr 2 0),(24,.ref 10),(25,.int .i64 11),(26,.int .i64 7)],[(1,eTCascadeStyle v10),(2,eTCascadeStyle zTCascadeStyle)],[(10,⟨106,1,List.map eAdr [(v2, 6), (v2, 10), (v2, 12), (v2, 14), (v2, 22), (v2, 16), (v2, 24), (v2, 18), (v2, 26), (v2, 20), (v2, 28)]⟩)],[1,2,10]⟩
def s47_j7 (v2 : Nat) (v9 : TCascadeStyle) : AS := ⟨[(1,.pp 1 v2 0),(2,.ptr 2 0),(24,.ref 10),(25,.int .i64 11),(26,.int .i64 6)],[(1,eTCascadeStyle v9),(2,eTCascadeStyle zTCascadeStyle)],[(10,⟨106,1,List.map eAdr [(v2, 6), (v2, 10), (v2, 12), (v2, 14), (v2, 22), (v2, 16), (v2, 24), (v2, 18), (v2, 26), (v2, 20), (v2, 28)]⟩)],[1,2,10]⟩
def s47_j6 (v2 : Nat) (v8 : TCascadeStyle) : AS := ⟨[(1,.pp 1 v2 0),(2,.ptr 2 0),(24,.ref 10),(25,.int .i64 11),(26,.int .i64 5)],[(1,eTCascadeStyle v8),(2,eTCascadeStyle zTCascadeStyle)],[(10,⟨106,1,List.map eAdr [(v2, 6), (v2, 10), (v2, 12), (v2, 14), (v2, 22), (v2, 16), (v2, 24), (v2, 18), (v2, 26), (v2, 20), (v2, 28)]⟩)],[1,2,10]⟩
def s47_j5 (v2 : Nat) (v7 : TCascadeStyle) : AS := ⟨[(1,.pp 1 v2 0),(2,.ptr 2 0),(24,.ref 10),(25,.int .i64 11),(26,.int .i64 4)],[(1,eTCascadeStyle v7),(2,eTCascadeStyle zTCascadeStyle)],[(10,⟨106,1,List.map eAdr [(v2, 6), (v2, 10), (v2, 12), (v2, 14), (v2, 22), (v2, 16), (v2, 24), (v2, 18), (v2, 26), (v2, 20), (v2, 28)]⟩)],[1,2,10]⟩
def s47_j4 (v2 : Nat) (v6 : TCascadeStyle) : AS := ⟨[(1,.pp 1 v2 0),(2,.ptr 2 0),(24,.ref 10),(25,.int .i64 11),(26,.int .i64 3)],[(1,eTCascadeStyle v6),(2,eTCascadeStyle zTCascadeStyle)],[(10,⟨106,1,List.map eAdr [(v2, 6), (v2, 10), (v2, 12), (v2, 14), (v2, 22), (v2, 16), (v2, 24), (v2, 18), (v2, 26), (v2, 20), (v2, 28)]⟩)],[1,2,10]⟩
def s47_j3 (v2 : Nat) (v5 : TCascadeStyle) : AS := ⟨[(1,.pp 1 v2 0),(2,.ptr 2 0),(24,.ref 10),(25,.int .i64 11),(26,.int .i64 2)],[(1,eTCascadeStyle v5),(2,eTCascadeStyle zTCascadeStyle)],[(10,⟨106,1,List.map eAdr [(v2, 6), (v2, 10), (v2, 12), (v2, 14), (v2, 22), (v2, 16), (v2, 24), (v2, 18), (v2, 26), (v2, 20), (v2, 28)]⟩)],[1,2,10]⟩
def s47_j2 (v2 : Nat) (v4 : TCascadeStyle) : AS := ⟨[(1,.pp 1 v2 0),(2,.ptr 2 0),(24,.ref 10),(25,.int .i64 11),(26,.int .i64 1)],[(1,eTCascadeStyle v4),(2,eTCascadeStyle zTCascadeStyle)],[(10,⟨106,1,List.map eAdr [(v2, 6), (v2, 10), (v2, 12), (v2, 14), (v2, 22), (v2, 16), (v2, 24), (v2, 18), (v2, 26), (v2, 20), (v2, 28)]⟩)],[1,2,10]⟩
def s47_j1 (v2 : Nat) (v3 : TCascadeStyle) : AS := ⟨[(1,.pp 1 v2 0),(2,.ptr 2 0),(24,.ref 10),(25,.int .i64 11),(26,.int .i64 0)],[(1,eTCascadeStyle v3),(2,eTCascadeStyle zTCascadeStyle)],[(10,⟨106,1,List.map eAdr [(v2, 6), (v2, 10), (v2, 12), (v2, 14), (v2, 22), (v2, 16), (v2, 24), (v2, 18), (v2, 26), (v2, 20), (v2, 28)]⟩)],[1,2,10]⟩
variable {K : Kn} {n : Nat} {M : Nat → Prop} {w0 : Base} {r : TCascadeStyle} {v1 : TCascadeStyle} {v2 : Nat} {v3 : TCascadeStyle} {v4 : TCascadeStyle} {v5 : TCascadeStyle} {v6 : TCascadeStyle} {v7 : TCascadeStyle} {v8 : TCascadeStyle} {v9 : TCascadeStyle} {v10 : TCascadeStyle} {v11 : TCascadeStyle} {v12 : TCascadeStyle} {v13 : TCascadeStyle} 
theorem g_flex_fixed_j11_ok (hK : KnOk K) (h : g_flex_fixed_j11 K n v13 = some r) : VE (cx47 M w0) (q47 M w0 r) [.b 3, .c (cat Try.f47 p47_0), kl (cx47 M w0) (q47 M w0 r) [.b 2, .c (cat Try.f47 p47_1)] (cat Try.f47 p47_2) 29, .b 2, .c (cat Try.f47 p47_1)] .normal (s47_j11 v2 v13) := by
  unfold g_flex_fixed_j11 at h
  refine ve_go (ks' := [kl (cx47 M w0) (q47 M w0 r) [.b 2, .c (cat Try.f47 p47_1)] (cat Try.f47 p47_2) 29, .b 2, .c (cat Try.f47 p47_1)]) 2 ⟨[(1,.pp 1 v2 0),(2,.ptr 2 0),(24,.ref 10),(25,.int .i64 11),(26,.int .i64 11)],[(1,eTCascadeStyle v13),(2,eTCascadeStyle zTCascadeStyle)],[(10,⟨106,1,List.map eAdr [(v2, 6), (v2, 10), (v2, 12), (v2, 14), (v2, 22), (v2, 16), (v2, 24), (v2, 18), (v2, 26), (v2, 20), (v2, 28)]⟩)],[1,2,10]⟩ ?_
  refine lp_back ?_
  refine lp_round ?_
  refine ve_rt 11 ?_
  have hr := Option.some.inj h
  subst hr
  exact ve_d1
theorem g_flex_fixed_j10_ok (hK : KnOk K) (h : g_flex_fixed_j10 K n v12 = some r) : VE (cx47 M w0) (q47 M w0 r) [.b 3, .c (cat Try.f47 p47_0), kl (cx47 M w0) (q47 M w0 r) [.b 2, .c (cat Try.f47 p47_1)] (cat Try.f47 p47_2) 30, .b 2, .c (cat Try.f47 p47_1)] .normal (s47_j10 v2 v12) := by
  unfold g_flex_fixed_j10 at h
  refine ve_go (ks' := [kl (cx47 M w0) (q47 M w0 r) [.b 2, .c (cat Try.f47 p47_1)] (cat Try.f47 p47_2) 30, .b 2, .c (cat Try.f47 p47_1)]) 2 ⟨[(1,.pp 1 v2 0),(2,.ptr 2 0),(24,.ref 10),(25,.int .i64 11),(26,.int .i64 10)],[(1,eTCascadeStyle v12),(2,eTCascadeStyle zTCascadeStyle)],[(10,⟨106,1,List.map eAdr [(v2, 6), (v2, 10), (v2, 12), (v2, 14), (v2, 22), (v2, 16), (v2, 24), (v2, 18), (v2, 26), (v2, 20), (v2, 28)]⟩)],[1,2,10]⟩ ?_
  refine lp_back ?_
  refine lp_round ?_
  refine ve_un (ks' := [.c (cat Try.f47 p47_3), .c (cat Try.f47 p47_4), .b 3, .c (cat Try.f47 p47_0), kl (cx47 M w0) (q47 M w0 r) [.b 2, .c (cat Try.f47 p47_1)] (cat Try.f47 p47_2) 29, .b 2, .c (cat Try.f47 p47_1)]) 8 ?_
  refine ve_in 0 ?_
  refine ot_sp (y_ixr 10 1 eAdr (L := ([(v2, 6), (v2, 10), (v2, 12), (v2, 14), (v2, 22), (v2, 16), (v2, 24), (v2, 18), (v2, 26), (v2, 20), (v2, 28)] : List (Nat × Nat))) (i := (10 : Int)) (by kernel_rfl)) ?_
  refine ot_sp (y_ldr 106 0 eAdr eAdr (L := ([(v2, 6), (v2, 10), (v2, 12), (v2, 14), (v2, 22), (v2, 16), (v2, 24), (v2, 18), (v2, 26), (v2, 20), (v2, 28)] : List (Nat × Nat))) (j := (10 : Int).toNat) (of_decide_eq_true (by kernel_rfl)) (fun _ => rfl)) ?_
  refine ot_end ?_
  refine ve_un (ks' := [.c (cat Try.f47 p47_5), .c (cat Try.f47 p47_6), .b 3, .c (cat Try.f47 p47_0), kl (cx47 M w0) (q47 M w0 r) [.b 2, .c (cat Try.f47 p47_1)] (cat Try.f47 p47_2) 29, .b 2, .c (cat Try.f47 p47_1)]) 1 ?_
  refine ve_in 3 ?_
  refine ot_ptr 32 1 1 v2 28 0 ?_
  refine ot_end ?_
  rcases ite_some h with ⟨h11, h⟩ | ⟨h11, h⟩
  ·
   refine ve_sb 34 h11 ?_
   refine ve_un (ks' := [.c (cat Try.f47 p47_7), .b 3, .c (cat Try.f47 p47_0), kl (cx47 M w0) (q47 M w0 r) [.b 2, .c (cat Try.f47 p47_1)] (cat Try.f47 p47_2) 29, .b 2, .c (cat Try.f47 p47_1)]) 1 ?_
   refine ve_in 3 ?_
   refine ot_ptr 37 1 1 v2 28 0 ?_
   refine ot_end ?_
   exact ve_arr 0 (g_flex_fixed_j11_ok hK (v2 := v2) h)
  ·
   refine ve_sb 34 h11 ?_
   exact ve_arr 2 (g_flex_fixed_j11_ok hK (v2 := v2) h)
theorem g_flex_fixed_j9_ok (hK : KnOk K) (h : g_flex_fixed_j9 K n v11 = some r) : VE (cx47 M w0) (q47 M w0 r) [.b 3, .c (cat Try.f47 p47_0), kl (cx47 M w0) (q47 M w0 r) [.b 2, .c (cat Try.f47 p47_1)] (cat Try.f47 p47_2) 31, .b 2, .c (cat Try.f47 p47_1)] .normal (s47_j9 v2 v11) := by
  unfold g_flex_fixed_j9 at h
  refine ve_go (ks' := [kl (cx47 M w0) (q47 M w0 r) [.b 2, .c (cat Try.f47 p47_1)] (cat Try.f47 p47_2) 31, .b 2, .c (cat Try.f47 p47_1)]) 2 ⟨[(1,.pp 1 v2 0),(2,.ptr 2 0),(24,.ref 10),(25,.int .i64 11),(26,.int .i64 9)],[(1,eTCascadeStyle v11),(2,eTCascadeStyle zTCascadeStyle)],[(10,⟨106,1,List.map eAdr [(v2, 6), (v2, 10), (v2, 12), (v2, 14), (v2, 22), (v2, 16), (v2, 24), (v2, 18), (v2, 26), (v2, 20), (v2, 28)]⟩)],[1,2,10]⟩ ?_
  refine lp_back ?_
  refine lp_round ?_
  refine ve_un (ks' := [.c (cat Try.f47 p47_3), .c (cat Try.f47 p47_4), .b 3, .c (cat Try.f47 p47_0), kl (cx47 M w0) (q47 M w0 r) [.b 2, .c (cat Try.f47 p47_1)] (cat Try.f47 p47_2) 30, .b 2, .c (cat Try.f47 p47_1)]) 8 ?_
  refine ve_in 0 ?_
  refine ot_sp (y_ixr 10 1 eAdr (L := ([(v2, 6), (v2, 10), (v2, 12), (v2, 14), (v2, 22), (v2, 16), (v2, 24), (v2, 18), (v2, 26), (v2, 20), (v2, 28)] : List (Nat × Nat))) (i := (9 : Int)) (by kernel_rfl)) ?_
  refine ot_sp (y_ldr 106 0 eAdr eAdr (L := ([(v2, 6), (v2, 10), (v2, 12), (v2, 14), (v2, 22), (v2, 16), (v2, 24), (v2, 18), (v2, 26), (v2, 20), (v2, 28)] : List (Nat × Nat))) (j := (9 : Int).toNat) (of_decide_eq_true (by kernel_rfl)) (fun _ => rfl)) ?_
  refine ot_end ?_
  refine ve_un (ks' := [.c (cat Try.f47 p47_5), .c (cat Try.f47 p47_6), .b 3, .c (cat Try.f47 p47_0), kl (cx47 M w0) (q47 M w0 r) [.b 2, .c (cat Try.f47 p47_1)] (cat Try.f47 p47_2) 30, .b 2, .c (cat Try.f47 p47_1)]) 1 ?_
  refine ve_in 3 ?_
  refine ot_ptr 32 1 1 v2 20 0 ?_
  refine ot_end ?_
  rcases ite_some h with ⟨h10, h⟩ | ⟨h10, h⟩
  ·
   refine ve_sb 34 h10 ?_
   refine ve_un (ks' := [.c (cat Try.f47 p47_7), .b 3, .c (cat Try.f47 p47_0), kl (cx47 M w0) (q47 M w0 r) [.b 2, .c (cat Try.f47 p47_1)] (cat Try.f47 p47_2) 30, .b 2, .c (cat Try.f47 p47_1)]) 1 ?_
   refine ve_in 3 ?_
   refine ot_ptr 37 1 1 v2 20 0 ?_
   refine ot_end ?_
   exact ve_arr 0 (g_flex_fixed_j10_ok hK (v2 := v2) h)
  ·
   refine ve_sb 34 h10 ?_
   exact ve_arr 2 (g_flex_fixed_j10_ok hK (v2 := v2) h)
theorem g_flex_fixed_j8_ok (hK : KnOk K) (h : g_flex_fixed_j8 K n v10 = some r) : VE (cx47 M w0) (q47 M w0 r) [.b 3, .c (cat Try.f47 p47_0), kl (cx47 M w0) (q47 M w0 r) [.b 2, .c (cat Try.f47 p47_1)] (cat Try.f47 p47_2) 32, .b 2, .c (cat Try.f47 p47_1)] .normal (s47_j8 v2 v10) := by
  unfold g_flex_fixed_j8 at h
  refine ve_go (ks' := [kl (cx47 M w0) (q47 M w0 r) [.b 2, .c (cat Try.f47 p47_1)] (cat Try.f47 p47_2) 32, .b 2, .c (cat Try.f47 p47_1)]) 2 ⟨[(1,.pp 1 v2 0),(2,.ptr 2 0),(24,.ref 10),(25,.int .i64 11),(26,.int .i64 8)],[(1,eTCascadeStyle v10),(2,eTCascadeStyle zTCascadeStyle)],[(10,⟨106,1,List.map eAdr [(v2, 6), (v2, 10), (v2, 12), (v2, 14), (v2, 22), (v2, 16), (v2, 24), (v2, 18), (v2, 26), (v2, 20), (v2, 28)]⟩)],[1,2,10]⟩ ?_
  refine lp_back ?_
  refine lp_round ?_
  refine ve_un (ks' := [.c (cat Try.f47 p47_3), .c (cat Try.f47 p47_4), .b 3, .c (cat Try.f47 p47_0), kl (cx47 M w0) (q47 M w0 r) [.b 2, .c (cat Try.f47 p47_1)] (cat Try.f47 p47_2) 31, .b 2, .c (cat Try.f47 p47_1)]) 8 ?_
  refine ve_in 0 ?_
  refine ot_sp (y_ixr 10 1 eAdr (L := ([(v2, 6), (v2, 10), (v2, 12), (v2, 14), (v2, 22), (v2, 16), (v2, 24), (v2, 18), (v2, 26), (v2, 20), (v2, 28)] : List (Nat × Nat))) (i := (8 : Int)) (by kernel_rfl)) ?_
  refine ot_sp (y_ldr 106 0 eAdr eAdr (L := ([(v2, 6), (v2, 10), (v2, 12), (v2, 14), (v2, 22), (v2, 16), (v2, 24), (v2, 18), (v2, 26), (v2, 20), (v2, 28)] : List (Nat × Nat))) (j := (8 : Int).toNat) (of_decide_eq_true (by kernel_rfl)) (fun _ => rfl)) ?_
  refine ot_end ?_
  refine ve_un (ks' := [.c (cat Try.f47 p47_5), .c (cat Try.f47 p47_6), .b 3, .c (cat Try.f47 p47_0), kl (cx47 M w0) (q47 M w0 r) [.b 2, .c (cat Try.f47 p47_1)] (cat Try.f47 p47_2) 31, .b 2, .c (cat Try.f47 p47_1)]) 1 ?_
  refine ve_in 3 ?_
  refine ot_ptr 32 1 1 v2 26 0 ?_
  refine ot_end ?_
  rcases ite_some h with ⟨h9, h⟩ | ⟨h9, h⟩
  ·
   refine ve_sb 34 h9 ?_
   refine ve_un (ks' := [.c (cat Try.f47 p47_7), .b 3, .c (cat Try.f47 p47_0), kl (cx47 M w0) (q47 M w0 r) [.b 2, .c (cat Try.f47 p47_1)] (cat Try.f47 p47_2) 31, .b 2, .c (cat Try.f47 p47_1)]) 1 ?_
   refine ve_in 3 ?_
   refine ot_ptr 37 1 1 v2 26 0 ?_
   refine ot_end ?_
   exact ve_arr 0 (g_flex_fixed_j9_ok hK (v2 := v2) h)
  ·
   refine ve_sb 34 h9 ?_
   exact ve_arr 2 (g_flex_fixed_j9_ok hK (v2 := v2) h)
theorem g_flex_fixed_j7_ok (hK : KnOk K) (h : g_flex_fixed_j7 K n v9 = some r) : VE (cx47 M w0) (q47 M w0 r) [.b 3, .c (cat Try.f47 p47_0), kl (cx47 M w0) (q47 M w0 r) [.b 2, .c (cat Try.f47 p47_1)] (cat Try.f47 p47_2) 33, .b 2, .c (cat Try.f47 p47_1)] .normal (s47_j7 v2 v9) := by
  unfold g_flex_fixed_j7 at h
  refine ve_go (ks' := [kl (cx47 M w0) (q47 M w0 r) [.b 2, .c (cat Try.f47 p47_1)] (cat Try.f47 p47_2) 33, .b 2, .c (cat Try.f47 p47_1)]) 2 ⟨[(1,.pp 1 v2 0),(2,.ptr 2 0),(24,.ref 10),(25,.int .i64 11),(26,.int .i64 7)],[(1,eTCascadeStyle v9),(2,eTCascadeStyle zTCascadeStyle)],[(10,⟨106,1,List.map eAdr [(v2, 6), (v2, 10), (v2, 12), (v2, 14), (v2, 22), (v2, 16), (v2, 24), (v2, 18), (v2, 26), (v2, 20), (v2, 28)]⟩)],[1,2,10]⟩ ?_
  refine lp_back ?_
  refine lp_round ?_
  refine ve_un (ks' := [.c (cat Try.f47 p47_3), .c (cat Try.f47 p47_4), .b 3, .c (cat Try.f47 p47_0), kl (cx47 M w0) (q47 M w0 r) [.b 2, .c (cat Try.f47 p47_1)] (cat Try.f47 p47_2) 32, .b 2, .c (cat Try.f47 p47_1)]) 8 ?_
  refine ve_in 0 ?_
  refine ot_sp (y_ixr 10 1 eAdr (L := ([(v2, 6), (v2, 10), (v2, 12), (v2, 14), (v2, 22), (v2, 16), (v2, 24), (v2, 18), (v2, 26), (v2, 20), (v2, 28)] : List (Nat × Nat))) (i := (7 : Int)) (by kernel_rfl)) ?_
  refine ot_sp (y_ldr 106 0 eAdr eAdr (L := ([(v2, 6), (v2, 10), (v2, 12), (v2, 14), (v2, 22), (v2, 16), (v2, 24), (v2, 18), (v2, 26), (v2, 20), (v2, 28)] : List (Nat × Nat))) (j := (7 : Int).toNat) (of_decide_eq_true (by kernel_rfl)) (fun _ => rfl)) ?_
  refine ot_end ?_
  refine ve_un (ks' := [.c (cat Try.f47 p47_5), .c (cat Try.f47 p47_6), .b 3, .c (cat Try.f47 p47_0), kl (cx47 M w0) (q47 M w0 r) [.b 2, .c (cat Try.f47 p47_1)] (cat Try.f47 p47_2) 32, .b 2, .c (cat Try.f47 p47_1)]) 1 ?_
  refine ve_in 3 ?_
  refine ot_ptr 32 1 1 v2 18 0 ?_
  refine ot_end ?_
  rcases ite_some h with ⟨h8, h⟩ | ⟨h8, h⟩
  ·
   refine ve_sb 34 h8 ?_
   refine ve_un (ks' := [.c (cat Try.f47 p47_7), .b 3, .c (cat Try.f47 p47_0), kl (cx47 M w0) (q47 M w0 r) [.b 2, .c (cat Try.f47 p47_1)] (cat Try.f47 p47_2) 32, .b 2, .c (cat Try.f47 p47_1)]) 1 ?_
   refine ve_in 3 ?_
   refine ot_ptr 37 1 1 v2 18 0 ?_
   refine ot_end ?_
   exact ve_arr 0 (g_flex_fixed_j8_ok hK (v2 := v2) h)
  ·
   refine ve_sb 34 h8 ?_
   exact ve_arr 2 (g_flex_fixed_j8_ok hK (v2 := v2) h)
theorem g_flex_fixed_j6_ok (hK : KnOk K) (h : g_flex_fixed_j6 K n v8 = some r) : VE (cx47 M w0) (q47 M w0 r) [.b 3, .c (cat Try.f47 p47_0), kl (cx47 M w0) (q47 M w0 r) [.b 2, .c (cat Try.f47 p47_1)] (cat Try.f47 p47_2) 34, .b 2, .c (cat Try.f47 p47_1)] .normal (s47_j6 v2 v8) := by
  unfold g_flex_fixed_j6 at h
  refine ve_go (ks' := [kl (cx47 M w0) (q47 M w0 r) [.b 2, .c (cat Try.f47 p47_1)] (cat Try.f47 p47_2) 34, .b 2, .c (cat Try.f47 p47_1)]) 2 ⟨[(1,.pp 1 v2 0),(2,.ptr 2 0),(24,.ref 10),(25,.int .i64 11),(26,.int .i64 6)],[(1,eTCascadeStyle v8),(2,eTCascadeStyle zTCascadeStyle)],[(10,⟨106,1,List.map eAdr [(v2, 6), (v2, 10), (v2, 12), (v2, 14), (v2, 22), (v2, 16), (v2, 24), (v2, 18), (v2, 26), (v2, 20), (v2, 28)]⟩)],[1,2,10]⟩ ?_
  refine lp_back ?_
  refine lp_round ?_
  refine ve_un (ks' := [.c (cat Try.f47 p47_3), .c (cat Try.f47 p47_4), .b 3, .c (cat Try.f47 p47_0), kl (cx47 M w0) (q47 M w0 r) [.b 2, .c (cat Try.f47 p47_1)] (cat Try.f47 p47_2) 33, .b 2, .c (cat Try.f47 p47_1)]) 8 ?_
  refine ve_in 0 ?_
  refine ot_sp (y_ixr 10 1 eAdr (L := ([(v2, 6), (v2, 10), (v2, 12), (v2, 14), (v2, 22), (v2, 16), (v2, 24), (v2, 18), (v2, 26), (v2, 20), (v2, 28)] : List (Nat × Nat))) (i := (6 : Int)) (by kernel_rfl)) ?_
  refine ot_sp (y_ldr 106 0 eAdr eAdr (L := ([(v2, 6), (v2, 10), (v2, 12), (v2, 14), (v2, 22), (v2, 16), (v2, 24), (v2, 18), (v2, 26), (v2, 20), (v2, 28)] : List (Nat × Nat))) (j := (6 : Int).toNat) (of_decide_eq_true (by kernel_rfl)) (fun _ => rfl)) ?_
  refine ot_end ?_
  refine ve_un (ks' := [.c (cat Try.f47 p47_5), .c (cat Try.f47 p47_6), .b 3, .c (cat Try.f47 p47_0), kl (cx47 M w0) (q47 M w0 r) [.b 2, .c (cat Try.f47 p47_1)] (cat Try.f47 p47_2) 33, .b 2, .c (cat Try.f47 p47_1)]) 1 ?_
  refine ve_in 3 ?_
  refine ot_ptr 32 1 1 v2 24 0 ?_
  refine ot_end ?_
  rcases ite_some h with ⟨h7, h⟩ | ⟨h7, h⟩
  ·
   refine ve_sb 34 h7 ?_
   refine ve_un (ks' := [.c (cat Try.f47 p47_7), .b 3, .c (cat Try.f47 p47_0), kl (cx47 M w0) (q47 M w0 r) [.b 2, .c (cat Try.f47 p47_1)] (cat Try.f47 p47_2) 33, .b 2, .c (cat Try.f47 p47_1)]) 1 ?_
   refine ve_in 3 ?_
   refine ot_ptr 37 1 1 v2 24 0 ?_
   refine ot_end ?_
   exact ve_arr 0 (g_flex_fixed_j7_ok hK (v2 := v2) h)
  ·
   refine ve_sb 34 h7 ?_
   exact ve_arr 2 (g_flex_fixed_j7_ok hK (v2 := v2) h)
theorem g_flex_fixed_j5_ok (hK : KnOk K) (h : g_flex_fixed_j5 K n v7 = some r) : VE (cx47 M w0) (q47 M w0 r) [.b 3, .c (cat Try.f47 p47_0), kl (cx47 M w0) (q47 M w0 r) [.b 2, .c (cat Try.f47 p47_1)] (cat Try.f47 p47_2) 35, .b 2, .c (cat Try.f47 p47_1)] .normal (s47_j5 v2 v7) := by
  unfold g_flex_fixed_j5 at h
  refine ve_go (ks' := [kl (cx47 M w0) (q47 M w0 r) [.b 2, .c (cat Try.f47 p47_1)] (cat Try.f47 p47_2) 35, .b 2, .c (cat Try.f47 p47_1)]) 2 ⟨[(1,.pp 1 v2 0),(2,.ptr 2 0),(24,.ref 10),(25,.int .i64 11),(26,.int .i64 5)],[(1,eTCascadeStyle v7),(2,eTCascadeStyle zTCascadeStyle)],[(10,⟨106,1,List.map eAdr [(v2, 6), (v2, 10), (v2, 12), (v2, 14), (v2, 22), (v2, 16), (v2, 24), (v2, 18), (v2, 26), (v2, 20), (v2, 28)]⟩)],[1,2,10]⟩ ?_
  refine lp_back ?_
  refine lp_round ?_
  refine ve_un (ks' := [.c (cat Try.f47 p47_3), .c (cat Try.f47 p47_4), .b 3, .c (cat Try.f47 p47_0), kl (cx47 M w0) (q47 M w0 r) [.b 2, .c (cat Try.f47 p47_1)] (cat Try.f47 p47_2) 34, .b 2, .c (cat Try.f47 p47_1)]) 8 ?_
  refine ve_in 0 ?_
  refine ot_sp (y_ixr 10 1 eAdr (L := ([(v2, 6), (v2, 10), (v2, 12), (v2, 14), (v2, 22), (v2, 16), (v2, 24), (v2, 18), (v2, 26), (v2, 20), (v2, 28)] : List (Nat × Nat))) (i := (5 : Int)) (by kernel_rfl)) ?_
  refine ot_sp (y_ldr 106 0 eAdr eAdr (L := ([(v2, 6), (v2, 10), (v2, 12), (v2, 14), (v2, 22), (v2, 16), (v2, 24), (v2, 18), (v2, 26), (v2, 20), (v2, 28)] : List (Nat × Nat))) (j := (5 : Int).toNat) (of_decide_eq_true (by kernel_rfl)) (fun _ => rfl)) ?_
  refine ot_end ?_
  refine ve_un (ks' := [.c (cat Try.f47 p47_5), .c (cat Try.f47 p47_6), .b 3, .c (cat Try.f47 p47_0), kl (cx47 M w0) (q47 M w0 r) [.b 2, .c (cat Try.f47 p47_1)] (cat Try.f47 p47_2) 34, .b 2, .c (cat Try.f47 p47_1)]) 1 ?_
  refine ve_in 3 ?_
  refine ot_ptr 32 1 1 v2 16 0 ?_
  refine ot_end ?_
  rcases ite_some h with ⟨h6, h⟩ | ⟨h6, h⟩
  ·
   refine ve_sb 34 h6 ?_
   refine ve_un (ks' := [.c (cat Try.f47 p47_7), .b 3, .c (cat Try.f47 p47_0), kl (cx47 M w0) (q47 M w0 r) [.b 2, .c (cat Try.f47 p47_1)] (cat Try.f47 p47_2) 34, .b 2, .c (cat Try.f47 p47_1)]) 1 ?_
   refine ve_in 3 ?_
   refine ot_ptr 37 1 1 v2 16 0 ?_
   refine ot_end ?_
   exact ve_arr 0 (g_flex_fixed_j6_ok hK (v2 := v2) h)
  ·
   refine ve_sb 34 h6 ?_
   exact ve_arr 2 (g_flex_fixed_j6_ok hK (v2 := v2) h)
theorem g_flex_fixed_j4_ok (hK : KnOk K) (h : g_flex_fixed_j4 K n v6 = some r) : VE (cx47 M w0) (q47 M w0 r) [.b 3, .c (cat Try.f47 p47_0), kl (cx47 M w0) (q47 M w0 r) [.b 2, .c (cat Try.f47 p47_1)] (cat Try.f47 p47_2) 36, .b 2, .c (cat Try.f47 p47_1)] .normal (s47_j4 v2 v6) := by
  unfold g_flex_fixed_j4 at h
  refine ve_go (ks' := [kl (cx47 M w0) (q47 M w0 r) [.b 2, .c (cat Try.f47 p47_1)] (cat Try.f47 p47_2) 36, .b 2, .c (cat Try.f47 p47_1)]) 2 ⟨[(1,.pp 1 v2 0),(2,.ptr 2 0),(24,.ref 10),(25,.int .i64 11),(26,.int .i64 4)],[(1,eTCascadeStyle v6),(2,eTCascadeStyle zTCascadeStyle)],[(10,⟨106,1,List.map eAdr [(v2, 6), (v2, 10), (v2, 12), (v2, 14), (v2, 22), (v2, 16), (v2, 24), (v2, 18), (v2, 26), (v2, 20), (v2, 28)]⟩)],[1,2,10]⟩ ?_
  refine lp_back ?_
  refine lp_round ?_
  refine ve_un (ks' := [.c (cat Try.f47 p47_3), .c (cat Try.f47 p47_4), .b 3, .c (cat Try.f47 p47_0), kl (cx47 M w0) (q47 M w0 r) [.b 2, .c (cat Try.f47 p47_1)] (cat Try.f47 p47_2) 35, .b 2, .c (cat Try.f47 p47_1)]) 8 ?_
  refine ve_in 0 ?_
  refine ot_sp (y_ixr 10 1 eAdr (L := ([(v2, 6), (v2, 10), (v2, 12), (v2, 14), (v2, 22), (v2, 16), (v2, 24), (v2, 18), (v2, 26), (v2, 20), (v2, 28)] : List (Nat × Nat))) (i := (4 : Int)) (by kernel_rfl)) ?_
  refine ot_sp (y_ldr 106 0 eAdr eAdr (L := ([(v2, 6), (v2, 10), (v2, 12), (v2, 14), (v2, 22), (v2, 16), (v2, 24), (v2, 18), (v2, 26), (v2, 20), (v2, 28)] : List (Nat × Nat))) (j := (4 : Int).toNat) (of_decide_eq_true (by kernel_rfl)) (fun _ => rfl)) ?_
  refine ot_end ?_
  refine ve_un (ks' := [.c (cat Try.f47 p47_5), .c (cat Try.f47 p47_6), .b 3, .c (cat Try.f47 p47_0), kl (cx47 M w0) (q47 M w0 r) [.b 2, .c (cat Try.f47 p47_1)] (cat Try.f47 p47_2) 35, .b 2, .c (cat Try.f47 p47_1)]) 1 ?_
  refine ve_in 3 ?_
  refine ot_ptr 32 1 1 v2 22 0 ?_
  refine ot_end ?_
  rcases ite_some h with ⟨h5, h⟩ | ⟨h5, h⟩
  ·
   refine ve_sb 34 h5 ?_
   refine ve_un (ks' := [.c (cat Try.f47 p47_7), .b 3, .c (cat Try.f47 p47_0), kl (cx47 M w0) (q47 M w0 r) [.b 2, .c (cat Try.f47 p47_1)] (cat Try.f47 p47_2) 35, .b 2, .c (cat Try.f47 p47_1)]) 1 ?_
   refine ve_in 3 ?_
   refine ot_ptr 37 1 1 v2 22 0 ?_
   refine ot_end ?_
   exact ve_arr 0 (g_flex_fixed_j5_ok hK (v2 := v2) h)
  ·
   refine ve_sb 34 h5 ?_
   exact ve_arr 2 (g_flex_fixed_j5_ok hK (v2 := v2) h)
theorem g_flex_fixed_j3_ok (hK : KnOk K) (h : g_flex_fixed_j3 K n v5 = some r) : VE (cx47 M w0) (q47 M w0 r) [.b 3, .c (cat Try.f47 p47_0), kl (cx47 M w0) (q47 M w0 r) [.b 2, .c (cat Try.f47 p47_1)] (cat Try.f47 p47_2) 37, .b 2, .c (cat Try.f47 p47_1)] .normal (s47_j3 v2 v5) := by
  unfold g_flex_fixed_j3 at h
  refine ve_go (ks' := [kl (cx47 M w0) (q47 M w0 r) [.b 2, .c (cat Try.f47 p47_1)] (cat Try.f47 p47_2) 37, .b 2, .c (cat Try.f47 p47_1)]) 2 ⟨[(1,.pp 1 v2 0),(2,.ptr 2 0),(24,.ref 10),(25,.int .i64 11),(26,.int .i64 3)],[(1,eTCascadeStyle v5),(2,eTCascadeStyle zTCascadeStyle)],[(10,⟨106,1,List.map eAdr [(v2, 6), (v2, 10), (v2, 12), (v2, 14), (v2, 22), (v2, 16), (v2, 24), (v2, 18), (v2, 26), (v2, 20), (v2, 28)]⟩)],[1,2,10]⟩ ?_
  refine lp_back ?_
  refine lp_round ?_
  refine ve_un (ks' := [.c (cat Try.f47 p47_3), .c (cat Try.f47 p47_4), .b 3, .c (cat Try.f47 p47_0), kl (cx47 M w0) (q47 M w0 r) [.b 2, .c (cat Try.f47 p47_1)] (cat Try.f47 p47_2) 36, .b 2, .c (cat Try.f47 p47_1)]) 8 ?_
  refine ve_in 0 ?_
  refine ot_sp (y_ixr 10 1 eAdr (L := ([(v2, 6), (v2, 10), (v2, 12), (v2, 14), (v2, 22), (v2, 16), (v2, 24), (v2, 18), (v2, 26), (v2, 20), (v2, 28)] : List (Nat × Nat))) (i := (3 : Int)) (by kernel_rfl)) ?_
  refine ot_sp (y_ldr 106 0 eAdr eAdr (L := ([(v2, 6), (v2, 10), (v2, 12), (v2, 14), (v2, 22), (v2, 16), (v2, 24), (v2, 18), (v2, 26), (v2, 20), (v2, 28)] : List (Nat × Nat))) (j := (3 : Int).toNat) (of_decide_eq_true (by kernel_rfl)) (fun _ => rfl)) ?_
  refine ot_end ?_
  refine ve_un (ks' := [.c (cat Try.f47 p47_5), .c (cat Try.f47 p47_6), .b 3, .c (cat Try.f47 p47_0), kl (cx47 M w0) (q47 M w0 r) [.b 2, .c (cat Try.f47 p47_1)] (cat Try.f47 p47_2) 36, .b 2, .c (cat Try.f47 p47_1)]) 1 ?_
  refine ve_in 3 ?_
  refine ot_ptr 32 1 1 v2 14 0 ?_
  refine ot_end ?_
  rcases ite_some h with ⟨h4, h⟩ | ⟨h4, h⟩
  ·
   refine ve_sb 34 h4 ?_
   refine ve_un (ks' := [.c (cat Try.f47 p47_7), .b 3, .c (cat Try.f47 p47_0), kl (cx47 M w0) (q47 M w0 r) [.b 2, .c (cat Try.f47 p47_1)] (cat Try.f47 p47_2) 36, .b 2, .c (cat Try.f47 p47_1)]) 1 ?_
   refine ve_in 3 ?_
   refine ot_ptr 37 1 1 v2 14 0 ?_
   refine ot_end ?_
   exact ve_arr 0 (g_flex_fixed_j4_ok hK (v2 := v2) h)
  ·
   refine ve_sb 34 h4 ?_
   exact ve_arr 2 (g_flex_fixed_j4_ok hK (v2 := v2) h)
theorem g_flex_fixed_j2_ok (hK : KnOk K) (h : g_flex_fixed_j2 K n v4 = some r) : VE (cx47 M w0) (q47 M w0 r) [.b 3, .c (cat Try.f47 p47_0), kl (cx47 M w0) (q47 M w0 r) [.b 2, .c (cat Try.f47 p47_1)] (cat Try.f47 p47_2) 38, .b 2, .c (cat Try.f47 p47_1)] .normal (s47_j2 v2 v4) := by
  unfold g_flex_fixed_j2 at h
  refine ve_go (ks' := [kl (cx47 M w0) (q47 M w0 r) [.b 2, .c (cat Try.f47 p47_1)] (cat Try.f47 p47_2) 38, .b 2, .c (cat Try.f47 p47_1)]) 2 ⟨[(1,.pp 1 v2 0),(2,.ptr 2 0),(24,.ref 10),(25,.int .i64 11),(26,.int .i64 2)],[(1,eTCascadeStyle v4),(2,eTCascadeStyle zTCascadeStyle)],[(10,⟨106,1,List.map eAdr [(v2, 6), (v2, 10), (v2, 12), (v2, 14), (v2, 22), (v2, 16), (v2, 24), (v2, 18), (v2, 26), (v2, 20), (v2, 28)]⟩)],[1,2,10]⟩ ?_
  refine lp_back ?_
  refine lp_round ?_
  refine ve_un (ks' := [.c (cat Try.f47 p47_3), .c (cat Try.f47 p47_4), .b 3, .c (cat Try.f47 p47_0), kl (cx47 M w0) (q47 M w0 r) [.b 2, .c (cat Try.f47 p47_1)] (cat Try.f47 p47_2) 37, .b 2, .c (cat Try.f47 p47_1)]) 8 ?_
  refine ve_in 0 ?_
  refine ot_sp (y_ixr 10 1 eAdr (L := ([(v2, 6), (v2, 10), (v2, 12), (v2, 14), (v2, 22), (v2, 16), (v2, 24), (v2, 18), (v2, 26), (v2, 20), (v2, 28)] : List (Nat × Nat))) (i := (2 : Int)) (by kernel_rfl)) ?_
  refine ot_sp (y_ldr 106 0 eAdr eAdr (L := ([(v2, 6), (v2, 10), (v2, 12), (v2, 14), (v2, 22), (v2, 16), (v2, 24), (v2, 18), (v2, 26), (v2, 20), (v2, 28)] : List (Nat × Nat))) (j := (2 : Int).toNat) (of_decide_eq_true (by kernel_rfl)) (fun _ => rfl)) ?_
  refine ot_end ?_
  refine ve_un (ks' := [.c (cat Try.f47 p47_5), .c (cat Try.f47 p47_6), .b 3, .c (cat Try.f47 p47_0), kl (cx47 M w0) (q47 M w0 r) [.b 2, .c (cat Try.f47 p47_1)] (cat Try.f47 p47_2) 37, .b 2, .c (cat Try.f47 p47_1)]) 1 ?_
  refine ve_in 3 ?_
  refine ot_ptr 32 1 1 v2 12 0 ?_
  refine ot_end ?_
  rcases ite_some h with ⟨h3, h⟩ | ⟨h3, h⟩
  ·
   refine ve_sb 34 h3 ?_
   refine ve_un (ks' := [.c (cat Try.f47 p47_7), .b 3, .c (cat Try.f47 p47_0), kl (cx47 M w0) (q47 M w0 r) [.b 2, .c (cat Try.f47 p47_1)] (cat Try.f47 p47_2) 37, .b 2, .c (cat Try.f47 p47_1)]) 1 ?_
   refine ve_in 3 ?_
   refine ot_ptr 37 1 1 v2 12 0 ?_
   refine ot_end ?_
   exact ve_arr 0 (g_flex_fixed_j3_ok hK (v2 := v2) h)
  ·
   refine ve_sb 34 h3 ?_
   exact ve_arr 2 (g_flex_fixed_j3_ok hK (v2 := v2) h)
theorem g_flex_fixed_j1_ok (hK : KnOk K) (h : g_flex_fixed_j1 K n v3 = some r) : VE (cx47 M w0) (q47 M w0 r) [.b 3, .c (cat Try.f47 p47_0), kl (cx47 M w0) (q47 M w0 r) [.b 2, .c (cat Try.f47 p47_1)] (cat Try.f47 p47_2) 39, .b 2, .c (cat Try.f47 p47_1)] .normal (s47_j1 v2 v3) := by
  unfold g_flex_fixed_j1 at h
  refine ve_go (ks' := [kl (cx47 M w0) (q47 M w0 r) [.b 2, .c (cat Try.f47 p47_1)] (cat Try.f47 p47_2) 39, .b 2, .c (cat Try.f47 p47_1)]) 2 ⟨[(1,.pp 1 v2 0),(2,.ptr 2 0),(24,.ref 10),(25,.int .i64 11),(26,.int .i64 1)],[(1,eTCascadeStyle v3),(2,eTCascadeStyle zTCascadeStyle)],[(10,⟨106,1,List.map eAdr [(v2, 6), (v2, 10), (v2, 12), (v2, 14), (v2, 22), (v2, 16), (v2, 24), (v2, 18), (v2, 26), (v2, 20), (v2, 28)]⟩)],[1,2,10]⟩ ?_
  refine lp_back ?_
  refine lp_round ?_
  refine ve_un (ks' := [.c (cat Try.f47 p47_3), .c (cat Try.f47 p47_4), .b 3, .c (cat Try.f47 p47_0), kl (cx47 M w0) (q47 M w0 r) [.b 2, .c (cat Try.f47 p47_1)] (cat Try.f47 p47_2) 38, .b 2, .c (cat Try.f47 p47_1)]) 8 ?_
  refine ve_in 0 ?_
  refine ot_sp (y_ixr 10 1 eAdr (L := ([(v2, 6), (v2, 10), (v2, 12), (v2, 14), (v2, 22), (v2, 16), (v2, 24), (v2, 18), (v2, 26), (v2, 20), (v2, 28)] : List (Nat × Nat))) (i := (1 : Int)) (by kernel_rfl)) ?_
  refine ot_sp (y_ldr 106 0 eAdr eAdr (L := ([(v2, 6), (v2, 10), (v2, 12), (v2, 14), (v2, 22), (v2, 16), (v2, 24), (v2, 18), (v2, 26), (v2, 20), (v2, 28)] : List (Nat × Nat))) (j := (1 : Int).toNat) (of_decide_eq_true (by kernel_rfl)) (fun _ => rfl)) ?_
  refine ot_end ?_
  refine ve_un (ks' := [.c (cat Try.f47 p47_5), .c (cat Try.f47 p47_6), .b 3, .c (cat Try.f47 p47_0), kl (cx47 M w0) (q47 M w0 r) [.b 2, .c (cat Try.f47 p47_1)] (cat Try.f47 p47_2) 38, .b 2, .c (cat Try.f47 p47_1)]) 1 ?_
  refine ve_in 3 ?_
  refine ot_ptr 32 1 1 v2 10 0 ?_
  refine ot_end ?_
  rcases ite_some h with ⟨h2, h⟩ | ⟨h2, h⟩
  ·
   refine ve_sb 34 h2 ?_
   refine ve_un (ks' := [.c (cat Try.f47 p47_7), .b 3, .c (cat Try.f47 p47_0), kl (cx47 M w0) (q47 M w0 r) [.b 2, .c (cat Try.f47 p47_1)] (cat Try.f47 p47_2) 38, .b 2, .c (cat Try.f47 p47_1)]) 1 ?_
   refine ve_in 3 ?_
   refine ot_ptr 37 1 1 v2 10 0 ?_
   refine ot_end ?_
   exact ve_arr 0 (g_flex_fixed_j2_ok hK (v2 := v2) h)
  ·
   refine ve_sb 34 h2 ?_
   exact ve_arr 2 (g_flex_fixed_j2_ok hK (v2 := v2) h)
theorem g_flex_fixed_ok (hK : KnOk K) (h : g_flex_fixed K n v1 = some r) : ACalls Try.prog 47 [.agg (eTCascadeStyle v1)] (fun v _ => v = .agg (eTCascadeStyle r)) := by
  refine acalls_intro (c := cat Try.f47 []) Try.func47 (by kernel_rfl) _ Try.ntmps47 (of_decide_eq_true (by kernel_rfl)) fun M w0 => ?_
  refine ve_cast (s' := ⟨[(0,.agg (eTCascadeStyle v1))],[],[],[]⟩) (by kernel_rfl) ?_
  unfold g_flex_fixed at h
  refine ve_un (ks' := [.c (cat Try.f47 [1, 0]), .c (cat Try.f47 [1, 1])]) 3 ?_
  refine ve_rev 1 1 0 fun v2 => ?_
  refine ve_in 3 ?_
  refine ot_bsn 107 3 #[(0, (.tmp 7)), (1, (.tmp 8)), (2, (.tmp 9))] 10 (e := 106) (sz := 1) (l := List.map eAdr [(v2, 6), (v2, 10), (v2, 12)]) ?_
  refine ot_end ?_
  refine ve_go (ks' := [.c (cat Try.f47 p47_8), .b 0, .c (cat Try.f47 [1, 1, 1])]) 4 ⟨[(1,.pp 1 v2 0),(2,.ptr 2 0),(3,.ref 10),(11,.int .i64 0)],[(1,eTCascadeStyle v1),(2,eTCascadeStyle zTCascadeStyle)],[(10,⟨106,1,List.map eAdr [(v2, 6), (v2, 10), (v2, 12)]⟩)],[1,2,10]⟩ ?_
  refine lp_enter 40 (c := cat Try.f47 p47_9) (by kernel_rfl) ?_
  refine lp_round ?_
  refine ve_un (ks' := [.c (cat Try.f47 p47_10), .b 1, .c (cat Try.f47 p47_11), kl (cx47 M w0) (q47 M w0 r) [.b 0, .c (cat Try.f47 [1, 1, 1])] (cat Try.f47 p47_9) 39, .b 0, .c (cat Try.f47 [1, 1, 1])]) 9 ?_
  refine ve_pk [1, 2, 3, 4, 11] [1, 2] [10] ?_
  refine ve_dr 2 [(14, .ref 10), (15, .int .i64 0), (16, .adr v2 14), (17, .adr v2 14), (18, .int .i64 0), (19, .adr v2 22), (20, .adr v2 22), (21, .sl (List.map eAdr [(v2, 14), (v2, 22)]))] [] [] [appS 22 10 ⟨106, 1, List.map eAdr [(v2, 6), (v2, 10), (v2, 12), (v2, 14), (v2, 22)]⟩, stp Try.prog 40 Try.f47 p47_10 9] (d_vs [.v 0 1, .v 0 2, .v 0 2, .v 0 2, .v 0 2, .v 0 2, .v 0 2, .v 0 1] (d_c1 (e_s (m := 0) (y_app 22 10 106 1 eAdr (L := ([(v2, 6), (v2, 10), (v2, 12)] : List (Nat × Nat))) (M := ([(v2, 14), (v2, 22)] : (List (Nat × Nat)))) (bytes := 8) (rfl) (fun _ => rfl) (by kernel_rfl))) (d_c1 (e_d 1) (d_nl)))) ?_
  refine ve_go (ks' := [kl (cx47 M w0) (q47 M w0 r) [.b 0, .c (cat Try.f47 [1, 1, 1])] (cat Try.f47 p47_9) 39, .b 0, .c (cat Try.f47 [1, 1, 1])]) 2 ⟨[(1,.pp 1 v2 0),(2,.ptr 2 0),(3,.ref 10),(11,.int .i64 1)],[(1,eTCascadeStyle v1),(2,eTCascadeStyle zTCascadeStyle)],[(10,⟨106,1,List.map eAdr [(v2, 6), (v2, 10), (v2, 12), (v2, 14), (v2, 22)]⟩)],[1,2,10]⟩ ?_
  refine lp_back ?_
  refine lp_round ?_
  refine ve_un (ks' := [.c (cat Try.f47 p47_10), .b 1, .c (cat Try.f47 p47_11), kl (cx47 M w0) (q47 M w0 r) [.b 0, .c (cat Try.f47 [1, 1, 1])] (cat Try.f47 p47_9) 38, .b 0, .c (cat Try.f47 [1, 1, 1])]) 9 ?_
  refine ve_pk [1, 2, 3, 4, 11] [1, 2] [10] ?_
  refine ve_dr 2 [(14, .ref 10), (15, .int .i64 1), (16, .adr v2 14), (17, .adr v2 16), (18, .int .i64 1), (19, .adr v2 22), (20, .adr v2 24), (21, .sl (List.map eAdr [(v2, 16), (v2, 24)]))] [] [] [appS 22 10 ⟨106, 1, List.map eAdr [(v2, 6), (v2, 10), (v2, 12), (v2, 14), (v2, 22), (v2, 16), (v2, 24)]⟩, stp Try.prog 40 Try.f47 p47_10 9] (d_vs [.v 0 1, .v 0 2, .v 0 2, .v 0 2, .v 0 2, .v 0 2, .v 0 2, .v 0 1] (d_c1 (e_s (m := 0) (y_app 22 10 106 1 eAdr (L := ([(v2, 6), (v2, 10), (v2, 12), (v2, 14), (v2, 22)] : List (Nat × Nat))) (M := ([(v2, 16), (v2, 24)] : (List (Nat × Nat)))) (bytes := 8) (rfl) (fun _ => rfl) (by kernel_rfl))) (d_c1 (e_d 1) (d_nl)))) ?_
  refine ve_go (ks' := [kl (cx47 M w0) (q47 M w0 r) [.b 0, .c (cat Try.f47 [1, 1, 1])] (cat Try.f47 p47_9) 38, .b 0, .c (cat Try.f47 [1, 1, 1])]) 2 ⟨[(1,.pp 1 v2 0),(2,.ptr 2 0),(3,.ref 10),(11,.int .i64 2)],[(1,eTCascadeStyle v1),(2,eTCascadeStyle zTCascadeStyle)],[(10,⟨106,1,List.map eAdr [(v2, 6), (v2, 10), (v2, 12), (v2, 14), (v2, 22), (v2, 16), (v2, 24)]⟩)],[1,2,10]⟩ ?_
  refine lp_back ?_
  refine lp_round ?_
  refine ve_un (ks' := [.c (cat Try.f47 p47_10), .b 1, .c (cat Try.f47 p47_11), kl (cx47 M w0) (q47 M w0 r) [.b 0, .c (cat Try.f47 [1, 1, 1])] (cat Try.f47 p47_9) 37, .b 0, .c (cat Try.f47 [1, 1, 1])]) 9 ?_
  refine ve_pk [1, 2, 3, 4, 11] [1, 2] [10] ?_
  refine ve_dr 2 [(14, .ref 10), (15, .int .i64 2), (16, .adr v2 14), (17, .adr v2 18), (18, .int .i64 2), (19, .adr v2 22), (20, .adr v2 26), (21, .sl (List.map eAdr [(v2, 18), (v2, 26)]))] [] [] [appS 22 10 ⟨106, 1, List.map eAdr [(v2, 6), (v2, 10), (v2, 12), (v2, 14), (v2, 22), (v2, 16), (v2, 24), (v2, 18), (v2, 26)]⟩, stp Try.prog 40 Try.f47 p47_10 9] (d_vs [.v 0 1, .v 0 2, .v 0 2, .v 0 2, .v 0 2, .v 0 2, .v 0 2, .v 0 1] (d_c1 (e_s (m := 0) (y_app 22 10 106 1 eAdr (L := ([(v2, 6), (v2, 10), (v2, 12), (v2, 14), (v2, 22), (v2, 16), (v2, 24)] : List (Nat × Nat))) (M := ([(v2, 18), (v2, 26)] : (List (Nat × Nat)))) (bytes := 8) (rfl) (fun _ => rfl) (by kernel_rfl))) (d_c1 (e_d 1) (d_nl)))) ?_
  refine ve_go (ks' := [kl (cx47 M w0) (q47 M w0 r) [.b 0, .c (cat Try.f47 [1, 1, 1])] (cat Try.f47 p47_9) 37, .b 0, .c (cat Try.f47 [1, 1, 1])]) 2 ⟨[(1,.pp 1 v2 0),(2,.ptr 2 0),(3,.ref 10),(11,.int .i64 3)],[(1,eTCascadeStyle v1),(2,eTCascadeStyle zTCascadeStyle)],[(10,⟨106,1,List.map eAdr [(v2, 6), (v2, 10), (v2, 12), (v2, 14), (v2, 22), (v2, 16), (v2, 24), (v2, 18), (v2, 26)]⟩)],[1,2,10]⟩ ?_
  refine lp_back ?_
  refine lp_round ?_
  refine ve_un (ks' := [.c (cat Try.f47 p47_10), .b 1, .c (cat Try.f47 p47_11), kl (cx47 M w0) (q47 M w0 r) [.b 0, .c (cat Try.f47 [1, 1, 1])] (cat Try.f47 p47_9) 36, .b 0, .c (cat Try.f47 [1, 1, 1])]) 9 ?_
  refine ve_pk [1, 2, 3, 4, 11] [1, 2] [10] ?_
  refine ve_dr 2 [(14, .ref 10), (15, .int .i64 3), (16, .adr v2 14), (17, .adr v2 20), (18, .int .i64 3), (19, .adr v2 22), (20, .adr v2 28), (21, .sl (List.map eAdr [(v2, 20), (v2, 28)]))] [] [] [appS 22 10 ⟨106, 1, List.map eAdr [(v2, 6), (v2, 10), (v2, 12), (v2, 14), (v2, 22), (v2, 16), (v2, 24), (v2, 18), (v2, 26), (v2, 20), (v2, 28)]⟩, stp Try.prog 40 Try.f47 p47_10 9] (d_vs [.v 0 1, .v 0 2, .v 0 2, .v 0 2, .v 0 2, .v 0 2, .v 0 2, .v 0 1] (d_c1 (e_s (m := 0) (y_app 22 10 106 1 eAdr (L := ([(v2, 6), (v2, 10), (v2, 12), (v2, 14), (v2, 22), (v2, 16), (v2, 24), (v2, 18), (v2, 26)] : List (Nat × Nat))) (M := ([(v2, 20), (v2, 28)] : (List (Nat × Nat)))) (bytes := 8) (rfl) (fun _ => rfl) (by kernel_rfl))) (d_c1 (e_d 1) (d_nl)))) ?_
  refine ve_go (ks' := [kl (cx47 M w0) (q47 M w0 r) [.b 0, .c (cat Try.f47 [1, 1, 1])] (cat Try.f47 p47_9) 36, .b 0, .c (cat Try.f47 [1, 1, 1])]) 2 ⟨[(1,.pp 1 v2 0),(2,.ptr 2 0),(3,.ref 10),(11,.int .i64 4)],[(1,eTCascadeStyle v1),(2,eTCascadeStyle zTCascadeStyle)],[(10,⟨106,1,List.map eAdr [(v2, 6), (v2, 10), (v2, 12), (v2, 14), (v2, 22), (v2, 16), (v2, 24), (v2, 18), (v2, 26), (v2, 20), (v2, 28)]⟩)],[1,2,10]⟩ ?_
  refine lp_back ?_
  refine lp_round ?_
  refine ve_un (ks' := [.c (cat Try.f47 p47_12), .c (cat Try.f47 p47_13), .c (cat Try.f47 p47_1)]) 10 ?_
  refine ve_in 1 ?_
  refine ot_sp (y_len eAdr ([(v2, 6), (v2, 10), (v2, 12), (v2, 14), (v2, 22), (v2, 16), (v2, 24), (v2, 18), (v2, 26), (v2, 20), (v2, 28)] : List (Nat × Nat))) ?_
  refine ot_end ?_
  refine ve_go (ks' := [.c (cat Try.f47 p47_14), .b 2, .c (cat Try.f47 p47_1)]) 1 ⟨[(1,.pp 1 v2 0),(2,.ptr 2 0),(24,.ref 10),(25,.int .i64 11),(26,.int .i64 0)],[(1,eTCascadeStyle v1),(2,eTCascadeStyle zTCascadeStyle)],[(10,⟨106,1,List.map eAdr [(v2, 6), (v2, 10), (v2, 12), (v2, 14), (v2, 22), (v2, 16), (v2, 24), (v2, 18), (v2, 26), (v2, 20), (v2, 28)]⟩)],[1,2,10]⟩ ?_
  refine lp_enter 40 (c := cat Try.f47 p47_2) (by kernel_rfl) ?_
  refine lp_round ?_
  refine ve_un (ks' := [.c (cat Try.f47 p47_3), .c (cat Try.f47 p47_4), .b 3, .c (cat Try.f47 p47_0), kl (cx47 M w0) (q47 M w0 r) [.b 2, .c (cat Try.f47 p47_1)] (cat Try.f47 p47_2) 39, .b 2, .c (cat Try.f47 p47_1)]) 8 ?_
  refine ve_in 0 ?_
  refine ot_sp (y_ixr 10 1 eAdr (L := ([(v2, 6), (v2, 10), (v2, 12), (v2, 14), (v2, 22), (v2, 16), (v2, 24), (v2, 18), (v2, 26), (v2, 20), (v2, 28)] : List (Nat × Nat))) (i := (0 : Int)) (by kernel_rfl)) ?_
  refine ot_sp (y_ldr 106 0 eAdr eAdr (L := ([(v2, 6), (v2, 10), (v2, 12), (v2, 14), (v2, 22), (v2, 16), (v2, 24), (v2, 18), (v2, 26), (v2, 20), (v2, 28)] : List (Nat × Nat))) (j := (0 : Int).toNat) (of_decide_eq_true (by kernel_rfl)) (fun _ => rfl)) ?_
  refine ot_end ?_
  refine ve_un (ks' := [.c (cat Try.f47 p47_5), .c (cat Try.f47 p47_6), .b 3, .c (cat Try.f47 p47_0), kl (cx47 M w0) (q47 M w0 r) [.b 2, .c (cat Try.f47 p47_1)] (cat Try.f47 p47_2) 39, .b 2, .c (cat Try.f47 p47_1)]) 1 ?_
  refine ve_in 3 ?_
  refine ot_ptr 32 1 1 v2 6 0 ?_
  refine ot_end ?_
  rcases ite_some h with ⟨h1, h⟩ | ⟨h1, h⟩
  ·
   refine ve_sb 34 h1 ?_
   refine ve_un (ks' := [.c (cat Try.f47 p47_7), .b 3, .c (cat Try.f47 p47_0), kl (cx47 M w0) (q47 M w0 r) [.b 2, .c (cat Try.f47 p47_1)] (cat Try.f47 p47_2) 39, .b 2, .c (cat Try.f47 p47_1)]) 1 ?_
   refine ve_in 3 ?_
   refine ot_ptr 37 1 1 v2 6 0 ?_
   refine ot_end ?_
   exact ve_arr 0 (g_flex_fixed_j1_ok hK (v2 := v2) h)
  ·
   refine ve_sb 34 h1 ?_
   exact ve_arr 2 (g_flex_fixed_j1_ok hK (v2 := v2) h)
end
noncomputable section
variable {K : Kn} {n : Nat} {M : Nat → Prop} {w0 : Base} {r : Int} {v1 : Int} 
theorem g_block_limit_ok (hK : KnOk K) (h : g_block_limit K n v1 = some r) : ACalls Try.prog 77 [.int .i64 v1] (fun v _ => v = .int .i64 r) := by
  refine acalls_intro (c := cat Try.f77 []) Try.func77 (by kernel_rfl) _ Try.ntmps77 (of_decide_eq_true (by kernel_rfl)) fun M w0 => ?_
  refine ve_cast (s' := ⟨[(0,.int .i64 v1)],[],[],[]⟩) (by kernel_rfl) ?_
  unfold g_block_limit at h
  refine ve_rt 5 ?_
  have hr := Option.some.inj h
  subst hr
  exact ve_d1
end
def p48_0 : List Nat := [1, 1, 0, 1, 0, 1]
def p48_1 : List Nat := [1, 1, 0, 1, 0, 1, 1, 1]
def p48_2 : List Nat := [1, 1, 0, 1, 0, 1, 1, 1, 0]
noncomputable section
abbrev cx48 (M : Nat → Prop) (w0 : Base) : Cx := ⟨Try.prog, 25, M, w0⟩
abbrev q48 (M : Nat → Prop) (w0 : Base) (r : (Int × Bool)) := bodyPost Try.prog Try.f48 (RetQ M w0 (fun v _ => v = .tup [.int .i64 r.1, .bool r.2]))
def s48_j1 (v4 : Int) : AS := ⟨[(6,.int .i64 v4)],[],[],[]⟩
variable {K : Kn} {n : Nat} {M : Nat → Prop} {w0 : Base} {r : (Int × Bool)} {v1 : TCascadeLength} {v2 : Int} {v4 : Int} 
theorem g_block_Length_j1_ok (hK : KnOk K) (h : g_block_Length_j1 K n v4 = some r) : VE (cx48 M w0) (q48 M w0 r) [.b 0, .c (cat Try.f48 [1, 1, 1])] .normal (s48_j1 v4) := by
  unfold g_block_Length_j1 at h
  refine ve_rt 4 ?_
  have hr := Option.some.inj h
  subst hr
  exact ve_dt
theorem g_block_Length_ok (hK : KnOk K) (h : g_block_Length K n v1 v2 = some r) : ACalls Try.prog 48 [.agg (eTCascadeLength v1), .int .i64 v2] (fun v _ => v = .tup [.int .i64 r.1, .bool r.2]) := by
  refine acalls_intro (c := cat Try.f48 []) Try.func48 (by kernel_rfl) _ Try.ntmps48 (of_decide_eq_true (by kernel_rfl)) fun M w0 => ?_
  refine ve_cast (s' := ⟨[(0,.agg (eTCascadeLength v1)),(1,.int .i64 v2)],[],[],[]⟩) (by kernel_rfl) ?_
  unfold g_block_Length at h
  refine ve_un (ks' := [.c (cat Try.f48 p48_0), .b 0, .c (cat Try.f48 [1, 1, 1])]) 10 ?_
  rcases ite_some h with ⟨h1, h⟩ | ⟨h1, h⟩
  ·
   refine ve_sb 11 h1 ?_
   exact ve_arr 2 (g_block_Length_j1_ok hK h)
  ·
   refine ve_sb 11 h1 ?_
   refine ve_un (ks' := [.c (cat Try.f48 p48_1), .b 0, .c (cat Try.f48 [1, 1, 1])]) 3 ?_
   rcases ite_some h with ⟨h2, h⟩ | ⟨h2, h⟩
   ·
    refine ve_sb 13 h2 ?_
    refine ve_un (ks' := [.c (cat Try.f48 p48_2), .b 0, .c (cat Try.f48 [1, 1, 1])]) 1 ?_
    refine ve_in 1 ?_
    obtain ⟨v3, h3, h⟩ := bind_some h
    refine ot_cl (g_block_limit_ok hK h3) ?_
    refine ot_end ?_
    exact ve_arr 0 (g_block_Length_j1_ok hK h)
   ·
    refine ve_sb 13 h2 ?_
    refine ve_rt 6 ?_
    have hr := Option.some.inj h
    subst hr
    exact ve_dt
end
noncomputable section
abbrev cx44 (M : Nat → Prop) (w0 : Base) : Cx := ⟨Try.prog, 12, M, w0⟩
abbrev q44 (M : Nat → Prop) (w0 : Base) (r : Bool) := bodyPost Try.prog Try.f44 (RetQ M w0 (fun v _ => v = .bool r))
def s44_j1 (v2 : Bool) : AS := ⟨[(2,.bool v2)],[],[],[]⟩
variable {K : Kn} {n : Nat} {M : Nat → Prop} {w0 : Base} {r : Bool} {v1 : TBoxtreeBox} {v2 : Bool} 
theorem g_block_Flow_j1_ok (hK : KnOk K) (h : g_block_Flow_j1 K n v2 = some r) : VE (cx44 M w0) (q44 M w0 r) [.c (cat Try.f44 [1, 1])] .normal (s44_j1 v2) := by
  unfold g_block_Flow_j1 at h
  refine ve_rt 1 ?_
  have hr := Option.some.inj h
  subst hr
  exact ve_d1
theorem g_block_Flow_ok (hK : KnOk K) (h : g_block_Flow K n v1 = some r) : ACalls Try.prog 44 [.agg (xTBoxtreeBox v1)] (fun v _ => v = .bool r) := by
  refine acalls_intro (c := cat Try.f44 []) Try.func44 (by kernel_rfl) _ Try.ntmps44 (of_decide_eq_true (by kernel_rfl)) fun M w0 => ?_
  refine ve_cast (s' := ⟨[(0,.agg (xTBoxtreeBox v1))],[],[],[]⟩) (by kernel_rfl) ?_
  unfold g_block_Flow at h
  refine ve_un (ks' := [.c (cat Try.f44 [1, 0]), .c (cat Try.f44 [1, 1])]) 3 ?_
  refine ve_in 4 ?_
  rcases ite_some h with ⟨h1, h⟩ | ⟨h1, h⟩
  ·
   refine ot_sb 6 h1 ?_
   refine ot_end ?_
   exact ve_arr 0 (g_block_Flow_j1_ok hK h)
  ·
   refine ot_sb 6 h1 ?_
   refine ot_end ?_
   exact ve_arr 0 (g_block_Flow_j1_ok hK h)
end
noncomputable section
variable {K : Kn} {n : Nat} {M : Nat → Prop} {w0 : Base} {r : Int} {v1 : Int} {v2 : Int} {v3 : (List TBoxtreeBox)} 
theorem g_flex_Order_1_ok (hK : KnOk K) (h : g_flex_Order_1 K n v1 v2 v3 = some r) : ACalls Try.prog 45 [.int .i64 v1, .int .i64 v2, .cptr ([.sl (List.map eTBoxtreeBox v3)])] (fun v _ => v = .int .i64 r) := by
  refine acalls_intro (c := cat Try.f45 []) Try.func45 (by kernel_rfl) _ Try.ntmps45 (of_decide_eq_true (by kernel_rfl)) fun M w0 => ?_
  refine ve_cast (s' := ⟨[(0,.int .i64 v1),(1,.int .i64 v2),(2,.cptr ([.sl (List.map eTBoxtreeBox v3)]))],[],[],[]⟩) (by kernel_rfl) ?_
  unfold g_flex_Order_1 at h
  refine ve_un (ks' := [.c (cat Try.f45 [1, 0]), .c (cat Try.f45 [1, 1])]) 3 ?_
  refine ve_pk [0, 1, 2] [] [] ?_
  obtain ⟨h1, h⟩ := chk_some h
  obtain ⟨h2, h⟩ := chk_some h
  obtain ⟨v4, h3, h⟩ := bind_some h
  refine ve_dr 1 [(6, .sl (List.map eTBoxtreeBox v3)), (7, .int .i64 v1), (8, .cptr (xTBoxtreeBox (List.getD v3 (v1).toNat default))), (9, .cptr (List.drop 2 (xTBoxtreeBox (List.getD v3 (v1).toNat default)))), (10, .cptr (List.drop 48 (List.drop 2 (xTBoxtreeBox (List.getD v3 (v1).toNat default))))), (11, .int .i64 (((List.getD v3 (v1).toNat default).Style).Order)), (12, .sl (List.map eTBoxtreeBox v3)), (13, .int .i64 v2), (14, .cptr (xTBoxtreeBox (List.getD v3 (v2).toNat default))), (15, .cptr (List.drop 2 (xTBoxtreeBox (List.getD v3 (v2).toNat default)))), (16, .cptr (List.drop 48 (List.drop 2 (xTBoxtreeBox (List.getD v3 (v2).toNat default))))), (17, .int .i64 (((List.getD v3 (v2).toNat default).Style).Order)), (18, .int .i64 v4)] [] [] [stp Try.prog 19 Try.f45 [1, 0] 13] (d_vs [.v 0 1, .v 0 1] (d_c1 (e_v (lo := 0) (y_ixs eTBoxtreeBox xTBoxtreeBox h1 (eTBoxtreeBox_len) (xTBoxtreeBox_eq))) (d_vs [.v 0 1, .v 0 1, .v 0 1, .v 0 1, .v 0 1] (d_c1 (e_v (lo := 0) (y_ixs eTBoxtreeBox xTBoxtreeBox h2 (eTBoxtreeBox_len) (xTBoxtreeBox_eq))) (d_vs [.v 0 1, .v 0 1, .v 0 1] (d_c1 (e_c 0 1 18 (g_cmp_Compare_int_ok hK h3)) (d_c1 (e_d 0) (d_nl)))))))) ?_
  refine ve_rt 1 ?_
  have hr := Option.some.inj h
  subst hr
  exact ve_d1
end
def p26_0 : List Nat := [1, 1, 0, 1, 0, 0]
def p26_1 : List Nat := [1, 1, 0, 1, 0, 0, 1, 1, 1]
def p26_2 : List Nat := [1, 1, 0, 1, 0, 0, 1, 0]
def p26_3 : List Nat := [1, 1, 0, 1, 0, 0, 1, 1]
def p26_4 : List Nat := [1, 1, 0, 1, 0, 0, 1, 1, 0, 0, 0]
def p26_5 : List Nat := [1, 1, 0, 1, 0, 0, 1, 1, 0, 0, 1]
def p26_6 : List Nat := [1, 1, 0, 1, 0, 0, 1, 1, 0, 0, 1, 0]
def p26_7 : List Nat := [1, 1, 0, 1, 0, 0, 1, 1, 0, 0, 1, 1]
def p26_8 : List Nat := [1, 1, 0, 1, 0, 0, 1, 1, 0, 0, 1, 1, 0]
def p26_9 : List Nat := [1, 1, 1, 0]
def p26_10 : List Nat := [1, 1, 1, 1]
def p26_11 : List Nat := [1, 1, 0, 0]
def p26_12 : List Nat := [1, 1, 0, 1]
def p26_13 : List Nat := [1, 1, 0, 1, 0]
noncomputable section
abbrev cx26 (M : Nat → Prop) (w0 : Base) : Cx := ⟨Try.prog, 24, M, w0⟩
abbrev q26 (M : Nat → Prop) (w0 : Base) (r : (List Int)) := bodyPost Try.prog Try.f26 (RetQ M w0 (fun v s => v = .ref 18 ∧ look 18 s.r = some ⟨3, 1, List.map (eInt .i64) r⟩))
abbrev k26_1 (M : Nat → Prop) (w0 : Base) (r : (List Int)) (m1 : Nat) : Kont := kl (cx26 M w0) (q26 M w0 r) [.b 0, .c (cat Try.f26 [1, 1, 1])] (cat Try.f26 p26_0) m1
def s26_j1 (v1 : (List TBoxtreeBox)) (v6 : Int) (v9 : (List Int)) : AS := ⟨[(1,.ptr 1 0),(3,.ref 18),(6,.sl (List.map eTBoxtreeBox v1)),(7,.int .i64 (v1.length : Int)),(8,.int .i64 v6)],[(1,[.sl (List.map eTBoxtreeBox v1)])],[(18,⟨3,1,List.map (eInt .i64) v9⟩)],[1,18]⟩
def s26_l2 (v1 : (List TBoxtreeBox)) (v6 : Int) (v7 : (List Int)) : AS := ⟨[(1,.ptr 1 0),(3,.ref 18),(6,.sl (List.map eTBoxtreeBox v1)),(7,.int .i64 (v1.length : Int)),(8,.int .i64 v6)],[(1,[.sl (List.map eTBoxtreeBox v1)])],[(18,⟨3,1,List.map (eInt .i64) v7⟩)],[1,18]⟩
abbrev H26_1 (M : Nat → Prop) (w0 : Base) (r : (List Int)) (v1 : (List TBoxtreeBox)) (m1 : Nat) (L1 : Int → (List Int) → Option (List Int)) : Prop := ∀ {v6 : Int} {v7 : (List Int)}, L1 v6 v7 = some r → LP (cx26 M w0) (q26 M w0 r) [.b 0, .c (cat Try.f26 [1, 1, 1])] (cat Try.f26 p26_0) m1 (s26_l2 v1 v6 v7)
variable {K : Kn} {n : Nat} {M : Nat → Prop} {w0 : Base} {r : (List Int)} {v1 : (List TBoxtreeBox)} {v6 : Int} {v7 : (List Int)} {v9 : (List Int)} {m1 : Nat} {L1 : Int → (List Int) → Option (List Int)}
theorem g_flex_Order_j1_ok (hK : KnOk K) (hL1 : H26_1 M w0 r v1 m1 L1) (h : g_flex_Order_j1 K n v1 v6 L1 v9 = some r) : VE (cx26 M w0) (q26 M w0 r) [.b 1, .c (cat Try.f26 p26_1), k26_1 M w0 r m1, .b 0, .c (cat Try.f26 [1, 1, 1])] .normal (s26_j1 v1 v6 v9) := by
  unfold g_flex_Order_j1 at h
  exact ve_arr 2 (lp_back (hL1 h))
theorem g_flex_Order_l2_b_ok (hK : KnOk K) (hL1 : H26_1 M w0 r v1 m1 L1) (h : g_flex_Order_l2_b K n v1 L1 v6 v7 = some r) : VE (cx26 M w0) (q26 M w0 r) [.c (cat Try.f26 p26_0), k26_1 M w0 r m1, .b 0, .c (cat Try.f26 [1, 1, 1])] .normal (s26_l2 v1 v6 v7) := by
  unfold g_flex_Order_l2_b at h
  refine ve_un (ks' := [.c (cat Try.f26 p26_2), .c (cat Try.f26 p26_3), k26_1 M w0 r m1, .b 0, .c (cat Try.f26 [1, 1, 1])]) 3 ?_
  rcases ite_some h with ⟨h11, h⟩ | ⟨h11, h⟩
  ·
   refine ve_sb 9 h11 ?_
   refine ve_un (ks' := [.c (cat Try.f26 p26_4), .c (cat Try.f26 p26_5), .b 1, .c (cat Try.f26 p26_1), k26_1 M w0 r m1, .b 0, .c (cat Try.f26 [1, 1, 1])]) 5 ?_
   refine ve_in 1 ?_
   obtain ⟨h12, h⟩ := chk_some h
   refine ot_sp (y_ixs eTBoxtreeBox xTBoxtreeBox h12 (eTBoxtreeBox_len) (xTBoxtreeBox_eq)) ?_
   refine ot_end ?_
   refine ve_un (ks' := [.c (cat Try.f26 p26_6), .c (cat Try.f26 p26_7), .b 1, .c (cat Try.f26 p26_1), k26_1 M w0 r m1, .b 0, .c (cat Try.f26 [1, 1, 1])]) 1 ?_
   refine ve_in 1 ?_
   obtain ⟨v8, h13, h⟩ := bind_some h
   refine ot_cl (g_block_Flow_ok hK h13) ?_
   refine ot_end ?_
   rcases ite_some h with ⟨h14, h⟩ | ⟨h14, h⟩
   ·
    refine ve_sb 14 h14 ?_
    refine ve_un (ks' := [.c (cat Try.f26 p26_8), .b 1, .c (cat Try.f26 p26_1), k26_1 M w0 r m1, .b 0, .c (cat Try.f26 [1, 1, 1])]) 1 ?_
    refine ve_in 3 ?_
    obtain ⟨h15, h⟩ := chk_some h
    refine ot_sp (y_app 18 18 3 1 (eInt .i64) (rfl) (fun _ => rfl) h15) ?_
    refine ot_end ?_
    exact ve_arr 0 (g_flex_Order_j1_ok hK hL1 h)
   ·
    refine ve_sb 14 h14 ?_
    exact ve_arr 2 (g_flex_Order_j1_ok hK hL1 h)
  ·
   refine ve_sb 9 h11 ?_
   refine ve_un (ks' := [.c (cat Try.f26 p26_9), .c (cat Try.f26 p26_10)]) 6 ?_
   refine ve_in 1 ?_
   refine ot_fo 1 1 ([.sl (List.map eTBoxtreeBox v1)]) ?_
   refine ot_mf 45 #[(.tmp 1)] [.cptr ([.sl (List.map eTBoxtreeBox v1)])] ?_
   obtain ⟨v10, h16, h⟩ := bind_some h
   refine ot_io 18 0 (g_slices_SortStableFunc_int_int_ok hK h16) ?_
   refine ot_end ?_
   refine ve_rt 3 ?_
   have hr := Option.some.inj h
   subst hr
   exact ve_o1
theorem g_flex_Order_l2_ok (hK : KnOk K) (m : Nat) : H26_1 M w0 r v1 m (g_flex_Order_l2 K n v1 m) := by
  induction m with
 | zero => intro v6 v7 h; cases h
 | succ m ih => intro v6 v7 h; have h : g_flex_Order_l2_b K n v1 (g_flex_Order_l2 K n v1 m) v6 v7 = some r := h; exact lp_round (g_flex_Order_l2_b_ok hK ih h)
theorem g_flex_Order_ok (hK : KnOk K) (h : g_flex_Order K n v1 = some r) : ACalls Try.prog 26 [.sl (List.map eTBoxtreeBox v1)] (fun v s => v = .ref 18 ∧ look 18 s.r = some ⟨3, 1, List.map (eInt .i64) r⟩) := by
  refine acalls_intro (c := cat Try.f26 []) Try.func26 (by kernel_rfl) _ Try.ntmps26 (of_decide_eq_true (by kernel_rfl)) fun M w0 => ?_
  refine ve_cast (s' := ⟨[(0,.sl (List.map eTBoxtreeBox v1))],[],[],[]⟩) (by kernel_rfl) ?_
  unfold g_flex_Order at h
  refine ve_un (ks' := [.c (cat Try.f26 p26_11), .c (cat Try.f26 p26_12), .c (cat Try.f26 [1, 1, 1])]) 6 ?_
  refine ve_in 1 ?_
  refine ot_sp (y_len eTBoxtreeBox v1) ?_
  refine ot_end ?_
  refine ve_un (ks' := [.c (cat Try.f26 p26_13), .b 0, .c (cat Try.f26 [1, 1, 1])]) 1 ?_
  refine ve_w 18 3 3 1 ?_
  exact ve_arr 0 (lp_en (p := p26_13) n (g_flex_Order_l2_ok hK n h))
end
def p49_0 : List Nat := [1, 1, 0, 1, 0, 0]
def p49_1 : List Nat := [1, 1, 0, 1, 0, 0, 1, 0]
def p49_2 : List Nat := [1, 1, 0, 1, 0, 0, 1, 1]
def p49_3 : List Nat := [1, 1, 0, 1, 0, 0, 1, 1, 0, 0, 0]
def p49_4 : List Nat := [1, 1, 0, 1, 0, 0, 1, 1, 0, 0, 1]
def p49_5 : List Nat := [1, 1, 0, 1, 0, 0, 1, 1, 1]
def p49_6 : List Nat := [1, 1, 0, 0]
def p49_7 : List Nat := [1, 1, 0, 1]
def p49_8 : List Nat := [1, 1, 0, 1, 0]
noncomputable section
abbrev cx49 (M : Nat → Prop) (w0 : Base) : Cx := ⟨Try.prog, 24, M, w0⟩
abbrev q49 (M : Nat → Prop) (w0 : Base) (r : (List TBoxtreeBox)) := bodyPost Try.prog Try.f49 (RetQ M w0 (fun v s => v = .ref 21 ∧ look 21 s.r = some ⟨50, 59, List.map eTBoxtreeBox r⟩))
abbrev k49_1 (M : Nat → Prop) (w0 : Base) (r : (List TBoxtreeBox)) (m1 : Nat) : Kont := kl (cx49 M w0) (q49 M w0 r) [.b 0, .c (cat Try.f49 [1, 1, 1])] (cat Try.f49 p49_0) m1
def s49_l1 (v1 : TBoxtreeBox) (v2 : (List Int)) (v3 : Int) (v4 : (List TBoxtreeBox)) : AS := ⟨[(1,.ptr 1 0),(3,.ref 21),(8,.ref 1008),(9,.int .i64 (v2.length : Int)),(10,.int .i64 v3)],[(1,xTBoxtreeBox v1)],[(21,⟨50,59,List.map eTBoxtreeBox v4⟩),(1008,⟨3,1,List.map (eInt .i64) v2⟩)],[1,21,1008]⟩
abbrev H49_1 (M : Nat → Prop) (w0 : Base) (r : (List TBoxtreeBox)) (v1 : TBoxtreeBox) (v2 : (List Int)) (m1 : Nat) (L1 : Int → (List TBoxtreeBox) → Option (List TBoxtreeBox)) : Prop := ∀ {v3 : Int} {v4 : (List TBoxtreeBox)}, L1 v3 v4 = some r → LP (cx49 M w0) (q49 M w0 r) [.b 0, .c (cat Try.f49 [1, 1, 1])] (cat Try.f49 p49_0) m1 (s49_l1 v1 v2 v3 v4)
variable {K : Kn} {n : Nat} {M : Nat → Prop} {w0 : Base} {r : (List TBoxtreeBox)} {v1 : TBoxtreeBox} {v2 : (List Int)} {v3 : Int} {v4 : (List TBoxtreeBox)} {m1 : Nat} {L1 : Int → (List TBoxtreeBox) → Option (List TBoxtreeBox)}
theorem g_flex_items_l1_b_ok (hK : KnOk K) (hL1 : H49_1 M w0 r v1 v2 m1 L1) (h : g_flex_items_l1_b K n v1 v2 L1 v3 v4 = some r) : VE (cx49 M w0) (q49 M w0 r) [.c (cat Try.f49 p49_0), k49_1 M w0 r m1, .b 0, .c (cat Try.f49 [1, 1, 1])] .normal (s49_l1 v1 v2 v3 v4) := by
  unfold g_flex_items_l1_b at h
  refine ve_un (ks' := [.c (cat Try.f49 p49_1), .c (cat Try.f49 p49_2), k49_1 M w0 r m1, .b 0, .c (cat Try.f49 [1, 1, 1])]) 3 ?_
  rcases ite_some h with ⟨h10, h⟩ | ⟨h10, h⟩
  ·
   refine ve_sb 11 h10 ?_
   refine ve_un (ks' := [.c (cat Try.f49 p49_3), .c (cat Try.f49 p49_4), .b 1, .c (cat Try.f49 p49_5), k49_1 M w0 r m1, .b 0, .c (cat Try.f49 [1, 1, 1])]) 5 ?_
   refine ve_in 0 ?_
   obtain ⟨h11, h⟩ := chk_some h
   refine ot_sp (y_ixr 1008 1 (eInt .i64) h11) ?_
   refine ot_sp (y_ldr 3 0 (eInt .i64) (eInt .i64) (inb_spec h11).2 (fun _ => rfl)) ?_
   refine ot_end ?_
   refine ve_in 4 ?_
   obtain ⟨h12, h⟩ := chk_some h
   refine ot_sp (y_ixs eTBoxtreeBox xTBoxtreeBox h12 (eTBoxtreeBox_len) (xTBoxtreeBox_eq)) ?_
   refine ot_go 6 1 ?_
   refine ot_sp (y_bsl eTBoxtreeBox ([(List.getD v1.Kids ((List.getD v2 (v3).toNat default)).toNat default)] : List TBoxtreeBox) (new := [xTBoxtreeBox (List.getD v1.Kids ((List.getD v2 (v3).toNat default)).toNat default)]) (by simp only [List.map_cons, List.map_nil, xTBoxtreeBox_eq])) ?_
   obtain ⟨h13, h⟩ := chk_some h
   refine ot_sp (y_app 21 21 50 59 eTBoxtreeBox (rfl) (eTBoxtreeBox_len) h13) ?_
   refine ot_end ?_
   exact ve_arr 2 (lp_back (hL1 h))
  ·
   refine ve_sb 11 h10 ?_
   refine ve_rt 8 ?_
   have hr := Option.some.inj h
   subst hr
   exact ve_o1
theorem g_flex_items_l1_ok (hK : KnOk K) (m : Nat) : H49_1 M w0 r v1 v2 m (g_flex_items_l1 K n v1 v2 m) := by
  induction m with
 | zero => intro v3 v4 h; cases h
 | succ m ih => intro v3 v4 h; have h : g_flex_items_l1_b K n v1 v2 (g_flex_items_l1 K n v1 v2 m) v3 v4 = some r := h; exact lp_round (g_flex_items_l1_b_ok hK ih h)
theorem g_flex_items_ok (hK : KnOk K) (h : g_flex_items K n v1 = some r) : ACalls Try.prog 49 [.agg (xTBoxtreeBox v1)] (fun v s => v = .ref 21 ∧ look 21 s.r = some ⟨50, 59, List.map eTBoxtreeBox r⟩) := by
  refine acalls_intro (c := cat Try.f49 []) Try.func49 (by kernel_rfl) _ Try.ntmps49 (of_decide_eq_true (by kernel_rfl)) fun M w0 => ?_
  refine ve_cast (s' := ⟨[(0,.agg (xTBoxtreeBox v1))],[],[],[]⟩) (by kernel_rfl) ?_
  unfold g_flex_items at h
  refine ve_un (ks' := [.c (cat Try.f49 p49_6), .c (cat Try.f49 p49_7), .c (cat Try.f49 [1, 1, 1])]) 6 ?_
  refine ve_in 2 ?_
  obtain ⟨v2, h1, h⟩ := bind_some h
  refine ot_co 1008 (g_flex_Order_ok hK h1) (one_ref 18) ?_
  refine ot_sp (y_len (eInt .i64) v2) ?_
  refine ot_end ?_
  refine ve_un (ks' := [.c (cat Try.f49 p49_8), .b 0, .c (cat Try.f49 [1, 1, 1])]) 1 ?_
  refine ve_w 21 3 50 59 ?_
  exact ve_arr 0 (lp_en (p := p49_8) n (g_flex_items_l1_ok hK n h))
end
def p51_0 : List Nat := [1, 1, 0, 1, 0]
def p51_1 : List Nat := [1, 1, 0, 1, 0, 0]
def p51_2 : List Nat := [1, 1, 0, 1, 0, 0, 1, 1, 0, 0, 1, 0]
def p51_3 : List Nat := [1, 1, 0, 1, 0, 0, 1, 1, 0, 0, 1, 1]
def p51_4 : List Nat := [1, 1, 0, 1, 0, 0, 1, 1, 1]
def p51_5 : List Nat := [1, 1, 0, 1, 0, 0, 1, 1, 0, 0, 1, 1, 0]
def p51_6 : List Nat := [1, 1, 0, 1, 0, 0, 1, 1, 0, 0, 1, 1, 1]
def p51_7 : List Nat := [1, 1, 0, 1, 0, 0, 1, 1, 0, 0, 1, 1, 1, 0]
def p51_8 : List Nat := [1, 1, 0, 1, 0, 0, 1, 1, 0, 0, 1, 1, 1, 1]
noncomputable section
abbrev cx51 (M : Nat → Prop) (w0 : Base) : Cx := ⟨Try.prog, 52, M, w0⟩
abbrev q51 (M : Nat → Prop) (w0 : Base) (r : TBlockSizes) := bodyPost Try.prog Try.f51 (RetQ M w0 (fun v _ => v = .agg (eTBlockSizes r)))
variable {K : Kn} {n : Nat} {M : Nat → Prop} {w0 : Base} {r : TBlockSizes} {v1 : TCascadeStyle} {v2 : Int} {v3 : Int} 
theorem g_block_Edges_ok (hK : KnOk K) (h : g_block_Edges K n v1 v2 v3 = some r) : ACalls Try.prog 51 [.agg (eTCascadeStyle v1), .int .i64 v2, .int .i64 v3] (fun v _ => v = .agg (eTBlockSizes r)) := by
  refine acalls_intro (c := cat Try.f51 []) Try.func51 (by kernel_rfl) _ Try.ntmps51 (of_decide_eq_true (by kernel_rfl)) fun M w0 => ?_
  refine ve_cast (s' := ⟨[(0,.agg (eTCascadeStyle v1)),(1,.int .i64 v2),(2,.int .i64 v3)],[],[],[]⟩) (by kernel_rfl) ?_
  unfold g_block_Edges at h
  refine ve_go (ks' := [.c (cat Try.f51 p51_0), .b 0, .c (cat Try.f51 [1, 1, 1])]) 8 ⟨[(1,.int .i64 v2),(3,.ptr 3 0),(6,.ptr 6 0),(7,.ptr 7 0),(13,.int .i64 0)],[(3,eTCascadeStyle v1),(6,eTBlockSizes zTBlockSizes),(7,eTBlockSizes ({ zTBlockSizes with Content := v3 } : TBlockSizes))],[],[3,6,7]⟩ ?_
  refine lp_enter 40 (c := cat Try.f51 p51_1) (by kernel_rfl) ?_
  refine lp_round ?_
  refine ve_un (ks' := [.c (cat Try.f51 p51_2), .c (cat Try.f51 p51_3), .b 1, .c (cat Try.f51 p51_4), kl (cx51 M w0) (q51 M w0 r) [.b 0, .c (cat Try.f51 [1, 1, 1])] (cat Try.f51 p51_1) 39, .b 0, .c (cat Try.f51 [1, 1, 1])]) 10 ?_
  refine ve_in 6 ?_
  obtain ⟨v4, h1, h⟩ := bind_some h
  refine ot_cl (g_block_Length_ok hK h1) ?_
  refine ot_end ?_
  refine ve_un (ks' := [.c (cat Try.f51 p51_5), .c (cat Try.f51 p51_6), .b 1, .c (cat Try.f51 p51_4), kl (cx51 M w0) (q51 M w0 r) [.b 0, .c (cat Try.f51 [1, 1, 1])] (cat Try.f51 p51_1) 39, .b 0, .c (cat Try.f51 [1, 1, 1])]) 1 ?_
  refine ve_in 5 ?_
  obtain ⟨v5, h2, h⟩ := bind_some h
  refine ot_cl (g_block_limit_ok hK h2) ?_
  refine ot_end ?_
  refine ve_un (ks' := [.c (cat Try.f51 p51_7), .c (cat Try.f51 p51_8), .b 1, .c (cat Try.f51 p51_4), kl (cx51 M w0) (q51 M w0 r) [.b 0, .c (cat Try.f51 [1, 1, 1])] (cat Try.f51 p51_1) 39, .b 0, .c (cat Try.f51 [1, 1, 1])]) 1 ?_
  refine ve_in 5 ?_
  obtain ⟨v6, h3, h⟩ := bind_some h
  refine ot_cl (g_block_Length_ok hK h3) ?_
  refine ot_end ?_
  refine ve_go (ks' := [kl (cx51 M w0) (q51 M w0 r) [.b 0, .c (cat Try.f51 [1, 1, 1])] (cat Try.f51 p51_1) 39, .b 0, .c (cat Try.f51 [1, 1, 1])]) 3 ⟨[(1,.int .i64 v2),(3,.ptr 3 0),(6,.ptr 6 0),(7,.ptr 7 0),(13,.int .i64 1)],[(3,eTCascadeStyle v1),(6,eTBlockSizes zTBlockSizes),(7,eTBlockSizes (⟨⟨v4.1, 0, 0, 0⟩, ⟨v5, 0, 0, 0⟩, ⟨(max v6.1 0), 0, 0, 0⟩, v3⟩ : TBlockSizes))],[],[3,6,7]⟩ ?_
  refine lp_back ?_
  refine lp_round ?_
  refine ve_un (ks' := [.c (cat Try.f51 p51_2), .c (cat Try.f51 p51_3), .b 1, .c (cat Try.f51 p51_4), kl (cx51 M w0) (q51 M w0 r) [.b 0, .c (cat Try.f51 [1, 1, 1])] (cat Try.f51 p51_1) 38, .b 0, .c (cat Try.f51 [1, 1, 1])]) 10 ?_
  refine ve_in 6 ?_
  obtain ⟨v7, h4, h⟩ := bind_some h
  refine ot_cl (g_block_Length_ok hK h4) ?_
  refine ot_end ?_
  refine ve_un (ks' := [.c (cat Try.f51 p51_5), .c (cat Try.f51 p51_6), .b 1, .c (cat Try.f51 p51_4), kl (cx51 M w0) (q51 M w0 r) [.b 0, .c (cat Try.f51 [1, 1, 1])] (cat Try.f51 p51_1) 38, .b 0, .c (cat Try.f51 [1, 1, 1])]) 1 ?_
  refine ve_in 5 ?_
  obtain ⟨v8, h5, h⟩ := bind_some h
  refine ot_cl (g_block_limit_ok hK h5) ?_
  refine ot_end ?_
  refine ve_un (ks' := [.c (cat Try.f51 p51_7), .c (cat Try.f51 p51_8), .b 1, .c (cat Try.f51 p51_4), kl (cx51 M w0) (q51 M w0 r) [.b 0, .c (cat Try.f51 [1, 1, 1])] (cat Try.f51 p51_1) 38, .b 0, .c (cat Try.f51 [1, 1, 1])]) 1 ?_
  refine ve_in 5 ?_
  obtain ⟨v9, h6, h⟩ := bind_some h
  refine ot_cl (g_block_Length_ok hK h6) ?_
  refine ot_end ?_
  refine ve_go (ks' := [kl (cx51 M w0) (q51 M w0 r) [.b 0, .c (cat Try.f51 [1, 1, 1])] (cat Try.f51 p51_1) 38, .b 0, .c (cat Try.f51 [1, 1, 1])]) 3 ⟨[(1,.int .i64 v2),(3,.ptr 3 0),(6,.ptr 6 0),(7,.ptr 7 0),(13,.int .i64 2)],[(3,eTCascadeStyle v1),(6,eTBlockSizes zTBlockSizes),(7,eTBlockSizes (⟨⟨v4.1, v7.1, 0, 0⟩, ⟨v5, v8, 0, 0⟩, ⟨(max v6.1 0), (max v9.1 0), 0, 0⟩, v3⟩ : TBlockSizes))],[],[3,6,7]⟩ ?_
  refine lp_back ?_
  refine lp_round ?_
  refine ve_un (ks' := [.c (cat Try.f51 p51_2), .c (cat Try.f51 p51_3), .b 1, .c (cat Try.f51 p51_4), kl (cx51 M w0) (q51 M w0 r) [.b 0, .c (cat Try.f51 [1, 1, 1])] (cat Try.f51 p51_1) 37, .b 0, .c (cat Try.f51 [1, 1, 1])]) 10 ?_
  refine ve_in 6 ?_
  obtain ⟨v10, h7, h⟩ := bind_some h
  refine ot_cl (g_block_Length_ok hK h7) ?_
  refine ot_end ?_
  refine ve_un (ks' := [.c (cat Try.f51 p51_5), .c (cat Try.f51 p51_6), .b 1, .c (cat Try.f51 p51_4), kl (cx51 M w0) (q51 M w0 r) [.b 0, .c (cat Try.f51 [1, 1, 1])] (cat Try.f51 p51_1) 37, .b 0, .c (cat Try.f51 [1, 1, 1])]) 1 ?_
  refine ve_in 5 ?_
  obtain ⟨v11, h8, h⟩ := bind_some h
  refine ot_cl (g_block_limit_ok hK h8) ?_
  refine ot_end ?_
  refine ve_un (ks' := [.c (cat Try.f51 p51_7), .c (cat Try.f51 p51_8), .b 1, .c (cat Try.f51 p51_4), kl (cx51 M w0) (q51 M w0 r) [.b 0, .c (cat Try.f51 [1, 1, 1])] (cat Try.f51 p51_1) 37, .b 0, .c (cat Try.f51 [1, 1, 1])]) 1 ?_
  refine ve_in 5 ?_
  obtain ⟨v12, h9, h⟩ := bind_some h
  refine ot_cl (g_block_Length_ok hK h9) ?_
  refine ot_end ?_
  refine ve_go (ks' := [kl (cx51 M w0) (q51 M w0 r) [.b 0, .c (cat Try.f51 [1, 1, 1])] (cat Try.f51 p51_1) 37, .b 0, .c (cat Try.f51 [1, 1, 1])]) 3 ⟨[(1,.int .i64 v2),(3,.ptr 3 0),(6,.ptr 6 0),(7,.ptr 7 0),(13,.int .i64 3)],[(3,eTCascadeStyle v1),(6,eTBlockSizes zTBlockSizes),(7,eTBlockSizes (⟨⟨v4.1, v7.1, v10.1, 0⟩, ⟨v5, v8, v11, 0⟩, ⟨(max v6.1 0), (max v9.1 0), (max v12.1 0), 0⟩, v3⟩ : TBlockSizes))],[],[3,6,7]⟩ ?_
  refine lp_back ?_
  refine lp_round ?_
  refine ve_un (ks' := [.c (cat Try.f51 p51_2), .c (cat Try.f51 p51_3), .b 1, .c (cat Try.f51 p51_4), kl (cx51 M w0) (q51 M w0 r) [.b 0, .c (cat Try.f51 [1, 1, 1])] (cat Try.f51 p51_1) 36, .b 0, .c (cat Try.f51 [1, 1, 1])]) 10 ?_
  refine ve_in 6 ?_
  obtain ⟨v13, h10, h⟩ := bind_some h
  refine ot_cl (g_block_Length_ok hK h10) ?_
  refine ot_end ?_
  refine ve_un (ks' := [.c (cat Try.f51 p51_5), .c (cat Try.f51 p51_6), .b 1, .c (cat Try.f51 p51_4), kl (cx51 M w0) (q51 M w0 r) [.b 0, .c (cat Try.f51 [1, 1, 1])] (cat Try.f51 p51_1) 36, .b 0, .c (cat Try.f51 [1, 1, 1])]) 1 ?_
  refine ve_in 5 ?_
  obtain ⟨v14, h11, h⟩ := bind_some h
  refine ot_cl (g_block_limit_ok hK h11) ?_
  refine ot_end ?_
  refine ve_un (ks' := [.c (cat Try.f51 p51_7), .c (cat Try.f51 p51_8), .b 1, .c (cat Try.f51 p51_4), kl (cx51 M w0) (q51 M w0 r) [.b 0, .c (cat Try.f51 [1, 1, 1])] (cat Try.f51 p51_1) 36, .b 0, .c (cat Try.f51 [1, 1, 1])]) 1 ?_
  refine ve_in 5 ?_
  obtain ⟨v15, h12, h⟩ := bind_some h
  refine ot_cl (g_block_Length_ok hK h12) ?_
  refine ot_end ?_
  refine ve_go (ks' := [kl (cx51 M w0) (q51 M w0 r) [.b 0, .c (cat Try.f51 [1, 1, 1])] (cat Try.f51 p51_1) 36, .b 0, .c (cat Try.f51 [1, 1, 1])]) 3 ⟨[(1,.int .i64 v2),(3,.ptr 3 0),(6,.ptr 6 0),(7,.ptr 7 0),(13,.int .i64 4)],[(3,eTCascadeStyle v1),(6,eTBlockSizes zTBlockSizes),(7,eTBlockSizes (⟨⟨v4.1, v7.1, v10.1, v13.1⟩, ⟨v5, v8, v11, v14⟩, ⟨(max v6.1 0), (max v9.1 0), (max v12.1 0), (max v15.1 0)⟩, v3⟩ : TBlockSizes))],[],[3,6,7]⟩ ?_
  refine lp_back ?_
  refine lp_round ?_
  refine ve_rt 11 ?_
  have hr := Option.some.inj h
  subst hr
  exact ve_d1
end
def p52_0 : List Nat := [1, 1, 1, 1]
def p52_1 : List Nat := [1, 1, 1, 0, 0]
def p52_2 : List Nat := [1, 1, 1, 0, 1]
def p52_3 : List Nat := [1, 1, 1, 0, 1, 1]
def p52_4 : List Nat := [1, 1, 0, 0]
def p52_5 : List Nat := [1, 1, 0, 1]
def p52_6 : List Nat := [1, 1, 0, 1, 1]
noncomputable section
abbrev cx52 (M : Nat → Prop) (w0 : Base) : Cx := ⟨Try.prog, 37, M, w0⟩
abbrev q52 (M : Nat → Prop) (w0 : Base) (r : Int) := bodyPost Try.prog Try.f52 (RetQ M w0 (fun v _ => v = .int .i64 r))
def s52_j2 (v7 : Int) : AS := ⟨[(2,.int .i64 v7)],[],[],[]⟩
def s52_j1 (v1 : TCascadeStyle) (v2 : Int) (v5 : Int) : AS := ⟨[(1,.int .i64 v2),(2,.int .i64 v5),(3,.ptr 3 0)],[(3,eTCascadeStyle v1)],[],[3]⟩
variable {K : Kn} {n : Nat} {M : Nat → Prop} {w0 : Base} {r : Int} {v1 : TCascadeStyle} {v2 : Int} {v3 : Int} {v5 : Int} {v7 : Int} 
theorem g_block_Clamp_j2_ok (hK : KnOk K) (h : g_block_Clamp_j2 K n v7 = some r) : VE (cx52 M w0) (q52 M w0 r) [.c (cat Try.f52 p52_0)] .normal (s52_j2 v7) := by
  unfold g_block_Clamp_j2 at h
  refine ve_rt 3 ?_
  have hr := Option.some.inj h
  subst hr
  exact ve_d1
theorem g_block_Clamp_j1_ok (hK : KnOk K) (h : g_block_Clamp_j1 K n v1 v2 v5 = some r) : VE (cx52 M w0) (q52 M w0 r) [.c (cat Try.f52 [1, 1, 1])] .normal (s52_j1 v1 v2 v5) := by
  unfold g_block_Clamp_j1 at h
  refine ve_un (ks' := [.c (cat Try.f52 p52_1), .c (cat Try.f52 p52_2), .c (cat Try.f52 p52_0)]) 2 ?_
  refine ve_in 3 ?_
  obtain ⟨v6, h3, h⟩ := bind_some h
  refine ot_cl (g_block_Length_ok hK h3) ?_
  refine ot_end ?_
  refine ve_un (ks' := [.c (cat Try.f52 p52_3), .c (cat Try.f52 p52_0)]) 2 ?_
  rcases ite_some h with ⟨h4, h⟩ | ⟨h4, h⟩
  ·
   refine ve_sb 32 h4 ?_
   exact ve_arr 2 (g_block_Clamp_j2_ok hK h)
  ·
   refine ve_sb 32 h4 ?_
   exact ve_arr 2 (g_block_Clamp_j2_ok hK h)
theorem g_block_Clamp_ok (hK : KnOk K) (h : g_block_Clamp K n v1 v2 v3 = some r) : ACalls Try.prog 52 [.agg (eTCascadeStyle v1), .int .i64 v2, .int .i64 v3] (fun v _ => v = .int .i64 r) := by
  refine acalls_intro (c := cat Try.f52 []) Try.func52 (by kernel_rfl) _ Try.ntmps52 (of_decide_eq_true (by kernel_rfl)) fun M w0 => ?_
  refine ve_cast (s' := ⟨[(0,.agg (eTCascadeStyle v1)),(1,.int .i64 v2),(2,.int .i64 v3)],[],[],[]⟩) (by kernel_rfl) ?_
  unfold g_block_Clamp at h
  refine ve_un (ks' := [.c (cat Try.f52 p52_4), .c (cat Try.f52 p52_5), .c (cat Try.f52 [1, 1, 1])]) 6 ?_
  refine ve_in 3 ?_
  obtain ⟨v4, h1, h⟩ := bind_some h
  refine ot_cl (g_block_Length_ok hK h1) ?_
  refine ot_end ?_
  refine ve_un (ks' := [.c (cat Try.f52 p52_6), .c (cat Try.f52 [1, 1, 1])]) 2 ?_
  rcases ite_some h with ⟨h2, h⟩ | ⟨h2, h⟩
  ·
   refine ve_sb 20 h2 ?_
   exact ve_arr 2 (g_block_Clamp_j1_ok hK h)
  ·
   refine ve_sb 20 h2 ?_
   exact ve_arr 2 (g_block_Clamp_j1_ok hK h)
end
noncomputable section
variable {K : Kn} {n : Nat} {M : Nat → Prop} {w0 : Base} {r : Int} {v1 : TBlockSizes} 
theorem g_api_BlockSizes_Sum_ok (hK : KnOk K) (h : g_api_BlockSizes_Sum K n v1 = some r) : ACalls Try.prog 53 [.agg (eTBlockSizes v1)] (fun v _ => v = .int .i64 r) := by
  refine acalls_intro (c := cat Try.f53 []) Try.func53 (by kernel_rfl) _ Try.ntmps53 (of_decide_eq_true (by kernel_rfl)) fun M w0 => ?_
  refine ve_cast (s' := ⟨[(0,.agg (eTBlockSizes v1))],[],[],[]⟩) (by kernel_rfl) ?_
  unfold g_api_BlockSizes_Sum at h
  refine ve_rt 5 ?_
  have hr := Option.some.inj h
  subst hr
  exact ve_d1
end
noncomputable section
variable {K : Kn} {n : Nat} {M : Nat → Prop} {w0 : Base} {r : Int} {v1 : Int} {v2 : TCascadeStyle} 
theorem g_flex_Widths_1_ok (hK : KnOk K) (h : g_flex_Widths_1 K n v1 v2 = some r) : ACalls Try.prog 50 [.int .i64 v1, .cptr (eTCascadeStyle v2)] (fun v _ => v = .int .i64 r) := by
  refine acalls_intro (c := cat Try.f50 []) Try.func50 (by kernel_rfl) _ Try.ntmps50 (of_decide_eq_true (by kernel_rfl)) fun M w0 => ?_
  refine ve_cast (s' := ⟨[(0,.int .i64 v1),(1,.cptr (eTCascadeStyle v2))],[],[],[]⟩) (by kernel_rfl) ?_
  unfold g_flex_Widths_1 at h
  refine ve_un (ks' := [.c (cat Try.f50 [1, 0]), .c (cat Try.f50 [1, 1])]) 3 ?_
  refine ve_pk [0, 1] [] [] ?_
  obtain ⟨v3, h1, h⟩ := bind_some h
  obtain ⟨v4, h2, h⟩ := bind_some h
  obtain ⟨v5, h3, h⟩ := bind_some h
  obtain ⟨v6, h4, h⟩ := bind_some h
  refine ve_dr 1 [(4, .agg (eTCascadeStyle v2)), (5, .agg (eTCascadeStyle v2)), (6, .int .i64 v1), (7, .int .i64 v3), (8, .int .i64 v4), (9, .agg (eTBlockSizes v5)), (10, .int .i64 v6)] [] [] [stp Try.prog 11 Try.f50 [1, 0] 7] (d_vs [.v 0 1, .v 0 1, .v 0 1] (d_c1 (e_c 0 1 7 (g_flex_limit_ok hK h1)) (d_c1 (e_c 0 1 8 (g_block_Clamp_ok hK h2)) (d_c1 (e_c 0 1 9 (g_block_Edges_ok hK h3)) (d_c1 (e_c 0 1 10 (g_api_BlockSizes_Sum_ok hK h4)) (d_c1 (e_d 0) (d_nl))))))) ?_
  refine ve_rt 1 ?_
  have hr := Option.some.inj h
  subst hr
  exact ve_d1
end
def p28_0 : List Nat := [1, 1, 0, 1, 1, 1, 1, 0, 0]
def p28_1 : List Nat := [1, 1, 0, 1, 1, 1, 1, 0, 0, 1, 1, 1]
def p28_2 : List Nat := [1, 1, 1, 0]
def p28_3 : List Nat := [1, 1, 1, 1]
def p28_4 : List Nat := [1, 1, 1, 1, 0]
def p28_5 : List Nat := ones 5 []
def p28_6 : List Nat := [1, 1, 0, 1, 1, 1, 1, 0, 0, 1, 0]
def p28_7 : List Nat := [1, 1, 0, 1, 1, 1, 1, 0, 0, 1, 1]
def p28_8 : List Nat := [1, 1, 0, 1, 1, 1, 1, 0, 0, 1, 1, 0, 0, 0]
def p28_9 : List Nat := [1, 1, 0, 1, 1, 1, 1, 0, 0, 1, 1, 0, 0, 1]
def p28_10 : List Nat := [1, 1, 0, 1, 1, 1, 1, 0, 0, 1, 1, 0, 0, 1, 0]
def p28_11 : List Nat := [1, 1, 0, 1, 1, 1, 1, 0, 0, 1, 1, 0, 0, 1, 1]
def p28_12 : List Nat := [1, 1, 0, 1, 1, 1, 1, 0, 0, 1, 1, 0, 0, 1, 1, 0, 1]
def p28_13 : List Nat := [1, 1, 0, 1, 1, 1, 1, 0, 0, 1, 1, 0, 0, 1, 1, 1]
def p28_14 : List Nat := [1, 1, 0, 1, 1, 1, 1, 0, 0, 1, 1, 0, 0, 1, 1, 1, 1, 1]
def p28_15 : List Nat := [1, 1, 0, 0]
def p28_16 : List Nat := [1, 1, 0, 1]
def p28_17 : List Nat := [1, 1, 0, 1, 1]
def p28_18 : List Nat := [1, 1, 0, 1, 1, 1, 0]
def p28_19 : List Nat := [1, 1, 0, 1, 1, 1, 1]
def p28_20 : List Nat := [1, 1, 0, 1, 1, 1, 1, 0]
noncomputable section
abbrev cx28 (M : Nat → Prop) (w0 : Base) : Cx := ⟨Try.prog, 70, M, w0⟩
abbrev q28 (M : Nat → Prop) (w0 : Base) (r : (Int × Int)) := bodyPost Try.prog Try.f28 (RetQ M w0 (fun v _ => v = .tup [.int .i64 r.1, .int .i64 r.2]))
abbrev k28_1 (M : Nat → Prop) (w0 : Base) (r : (Int × Int)) (m1 : Nat) : Kont := kl (cx28 M w0) (q28 M w0 r) [.b 0, .c (cat Try.f28 [1, 1, 1])] (cat Try.f28 p28_0) m1
def s28_j2 (v1 : TBoxtreeBox) (v2 : TBlockEnv) (v3 : TCascadeStyle) (v5 : (List TBoxtreeBox)) (v12 : Int) (v15 : Int) (v16 : Int) : AS := ⟨[(2,.ptr 2 0),(3,.ptr 3 0),(4,.int .i64 v15),(5,.int .i64 v16),(6,.ptr 6 0),(27,.ref 1027),(28,.int .i64 (v5.length : Int)),(29,.int .i64 v12)],[(2,xTBoxtreeBox v1),(3,eTBlockEnv v2),(6,eTCascadeStyle v3)],[(1027,⟨50,59,List.map eTBoxtreeBox v5⟩)],[2,3,6,1027]⟩
def s28_j1 (v1 : TBoxtreeBox) (v2 : TBlockEnv) (v3 : TCascadeStyle) (v5 : (List TBoxtreeBox)) (v11 : Int) (v12 : Int) (v13 : (Int × Int)) (v14 : Int) : AS := ⟨[(2,.ptr 2 0),(3,.ptr 3 0),(4,.int .i64 v14),(5,.int .i64 (w64 (v11 + v13.2))),(6,.ptr 6 0),(27,.ref 1027),(28,.int .i64 (v5.length : Int)),(29,.int .i64 v12)],[(2,xTBoxtreeBox v1),(3,eTBlockEnv v2),(6,eTCascadeStyle v3)],[(1027,⟨50,59,List.map eTBoxtreeBox v5⟩)],[2,3,6,1027]⟩
def s28_j4 (v3 : TCascadeStyle) (v17 : Int) (v18 : Int) : AS := ⟨[(4,.int .i64 v17),(5,.int .i64 v18),(6,.ptr 6 0)],[(6,eTCascadeStyle v3)],[],[6]⟩
def s28_l3 (v1 : TBoxtreeBox) (v2 : TBlockEnv) (v3 : TCascadeStyle) (v5 : (List TBoxtreeBox)) (v10 : Int) (v11 : Int) (v12 : Int) : AS := ⟨[(2,.ptr 2 0),(3,.ptr 3 0),(4,.int .i64 v10),(5,.int .i64 v11),(6,.ptr 6 0),(27,.ref 1027),(28,.int .i64 (v5.length : Int)),(29,.int .i64 v12)],[(2,xTBoxtreeBox v1),(3,eTBlockEnv v2),(6,eTCascadeStyle v3)],[(1027,⟨50,59,List.map eTBoxtreeBox v5⟩)],[2,3,6,1027]⟩
abbrev H28_1 (M : Nat → Prop) (w0 : Base) (r : (Int × Int)) (v1 : TBoxtreeBox) (v2 : TBlockEnv) (v3 : TCascadeStyle) (v5 : (List TBoxtreeBox)) (m1 : Nat) (L1 : Int → Int → Int → Option (Int × Int)) : Prop := ∀ {v10 : Int} {v11 : Int} {v12 : Int}, L1 v10 v11 v12 = some r → LP (cx28 M w0) (q28 M w0 r) [.b 0, .c (cat Try.f28 [1, 1, 1])] (cat Try.f28 p28_0) m1 (s28_l3 v1 v2 v3 v5 v10 v11 v12)
variable {K : Kn} {n : Nat} {M : Nat → Prop} {w0 : Base} {r : (Int × Int)} {v1 : TBoxtreeBox} {v2 : TBlockEnv} {v3 : TCascadeStyle} {v5 : (List TBoxtreeBox)} {v10 : Int} {v11 : Int} {v12 : Int} {v13 : (Int × Int)} {v14 : Int} {v15 : Int} {v16 : Int} {v17 : Int} {v18 : Int} {m1 : Nat} {L1 : Int → Int → Int → Option (Int × Int)}
theorem g_flex_Widths_j2_ok (hK : KnOk K) (hL1 : H28_1 M w0 r v1 v2 v3 v5 m1 L1) (h : g_flex_Widths_j2 K n v1 v2 v3 v5 v12 L1 v15 v16 = some r) : VE (cx28 M w0) (q28 M w0 r) [.c (cat Try.f28 p28_1), k28_1 M w0 r m1, .b 0, .c (cat Try.f28 [1, 1, 1])] .normal (s28_j2 v1 v2 v3 v5 v12 v15 v16) := by
  unfold g_flex_Widths_j2 at h
  exact ve_arr 1 (lp_back (hL1 h))
theorem g_flex_Widths_j1_ok (hK : KnOk K) (hL1 : H28_1 M w0 r v1 v2 v3 v5 m1 L1) (h : g_flex_Widths_j1 K n v1 v2 v3 v5 v11 v12 v13 L1 v14 = some r) : VE (cx28 M w0) (q28 M w0 r) [.b 1, .c (cat Try.f28 p28_1), k28_1 M w0 r m1, .b 0, .c (cat Try.f28 [1, 1, 1])] .normal (s28_j1 v1 v2 v3 v5 v11 v12 v13 v14) := by
  unfold g_flex_Widths_j1 at h
  exact ve_arr 1 (g_flex_Widths_j2_ok hK hL1 h)
theorem g_flex_Widths_j4_ok (hK : KnOk K) (h : g_flex_Widths_j4 K n v3 v17 v18 = some r) : VE (cx28 M w0) (q28 M w0 r) [.c (cat Try.f28 [1, 1, 1])] .normal (s28_j4 v3 v17 v18) := by
  unfold g_flex_Widths_j4 at h
  refine ve_un (ks' := [.c (cat Try.f28 p28_2), .c (cat Try.f28 p28_3)]) 1 ?_
  refine ve_in 0 ?_
  refine ot_fo 6 6 (eTCascadeStyle v3) ?_
  refine ot_mf 50 #[(.tmp 6)] [.cptr (eTCascadeStyle v3)] ?_
  refine ot_end ?_
  refine ve_un (ks' := [.c (cat Try.f28 p28_4), .c (cat Try.f28 p28_5)]) 1 ?_
  refine ve_in 2 ?_
  obtain ⟨v19, h15, h⟩ := bind_some h
  refine ot_cl (g_flex_Widths_1_ok hK h15) ?_
  refine ot_go 5 2 ?_
  obtain ⟨v20, h16, h⟩ := bind_some h
  refine ot_cl (g_flex_Widths_1_ok hK h16) ?_
  refine ot_end ?_
  refine ve_rt 1 ?_
  have hr := Option.some.inj h
  subst hr
  exact ve_dt
theorem g_flex_Widths_l3_b_ok (hK : KnOk K) (hL1 : H28_1 M w0 r v1 v2 v3 v5 m1 L1) (h : g_flex_Widths_l3_b K n v1 v2 v3 v5 L1 v10 v11 v12 = some r) : VE (cx28 M w0) (q28 M w0 r) [.c (cat Try.f28 p28_0), k28_1 M w0 r m1, .b 0, .c (cat Try.f28 [1, 1, 1])] .normal (s28_l3 v1 v2 v3 v5 v10 v11 v12) := by
  unfold g_flex_Widths_l3_b at h
  refine ve_un (ks' := [.c (cat Try.f28 p28_6), .c (cat Try.f28 p28_7), k28_1 M w0 r m1, .b 0, .c (cat Try.f28 [1, 1, 1])]) 3 ?_
  rcases ite_some h with ⟨h10, h⟩ | ⟨h10, h⟩
  ·
   refine ve_sb 30 h10 ?_
   refine ve_un (ks' := [.c (cat Try.f28 p28_8), .c (cat Try.f28 p28_9), .b 1, .c (cat Try.f28 p28_1), k28_1 M w0 r m1, .b 0, .c (cat Try.f28 [1, 1, 1])]) 5 ?_
   refine ve_in 0 ?_
   obtain ⟨h11, h⟩ := chk_some h
   refine ot_sp (y_ixr 1027 59 eTBoxtreeBox h11) ?_
   refine ot_sp (y_ldr 50 0 eTBoxtreeBox xTBoxtreeBox (inb_spec h11).2 (xTBoxtreeBox_eq)) ?_
   refine ot_end ?_
   refine ve_un (ks' := [.c (cat Try.f28 p28_10), .c (cat Try.f28 p28_11), .b 1, .c (cat Try.f28 p28_1), k28_1 M w0 r m1, .b 0, .c (cat Try.f28 [1, 1, 1])]) 1 ?_
   refine ve_in 3 ?_
   obtain ⟨v13, h12, h⟩ := bind_some h
   refine ot_cd (hK.d_TBoxtreeBox__IntInt h12) ?_
   refine ot_end ?_
   refine ve_un (ks' := [.c (cat Try.f28 p28_12), .c (cat Try.f28 p28_13), .b 1, .c (cat Try.f28 p28_1), k28_1 M w0 r m1, .b 0, .c (cat Try.f28 [1, 1, 1])]) 3 ?_
   rcases ite_some h with ⟨h13, h⟩ | ⟨h13, h⟩
   ·
    refine ve_sb 43 h13 ?_
    exact ve_arr 6 (g_flex_Widths_j2_ok hK hL1 h)
   ·
    refine ve_sb 43 h13 ?_
    refine ve_un (ks' := [.c (cat Try.f28 p28_14), .b 1, .c (cat Try.f28 p28_1), k28_1 M w0 r m1, .b 0, .c (cat Try.f28 [1, 1, 1])]) 6 ?_
    rcases ite_some h with ⟨h14, h⟩ | ⟨h14, h⟩
    ·
     refine ve_sb 55 h14 ?_
     exact ve_arr 2 (g_flex_Widths_j1_ok hK hL1 h)
    ·
     refine ve_sb 55 h14 ?_
     exact ve_arr 2 (g_flex_Widths_j1_ok hK hL1 h)
  ·
   refine ve_sb 30 h10 ?_
   exact ve_arr 5 (g_flex_Widths_j4_ok hK h)
theorem g_flex_Widths_l3_ok (hK : KnOk K) (m : Nat) : H28_1 M w0 r v1 v2 v3 v5 m (g_flex_Widths_l3 K n v1 v2 v3 v5 m) := by
  induction m with
 | zero => intro v10 v11 v12 h; cases h
 | succ m ih => intro v10 v11 v12 h; have h : g_flex_Widths_l3_b K n v1 v2 v3 v5 (g_flex_Widths_l3 K n v1 v2 v3 v5 m) v10 v11 v12 = some r := h; exact lp_round (g_flex_Widths_l3_b_ok hK ih h)
theorem g_flex_Widths_ok (hK : KnOk K) (h : g_flex_Widths K n v1 v2 = some r) : ACalls Try.prog 28 [.agg (xTBoxtreeBox v1), .agg (eTBlockEnv v2)] (fun v _ => v = .tup [.int .i64 r.1, .int .i64 r.2]) := by
  refine acalls_intro (c := cat Try.f28 []) Try.func28 (by kernel_rfl) _ Try.ntmps28 (of_decide_eq_true (by kernel_rfl)) fun M w0 => ?_
  refine ve_cast (s' := ⟨[(0,.agg (xTBoxtreeBox v1)),(1,.agg (eTBlockEnv v2))],[],[],[]⟩) (by kernel_rfl) ?_
  unfold g_flex_Widths at h
  refine ve_un (ks' := [.c (cat Try.f28 [1, 0]), .c (cat Try.f28 [1, 1])]) 3 ?_
  refine ve_in 2 ?_
  obtain ⟨v3, h1, h⟩ := bind_some h
  refine ot_cl (g_flex_fixed_ok hK h1) ?_
  refine ot_end ?_
  refine ve_un (ks' := [.c (cat Try.f28 p28_15), .c (cat Try.f28 p28_16), .c (cat Try.f28 [1, 1, 1])]) 2 ?_
  refine ve_in 2 ?_
  obtain ⟨v4, h2, h⟩ := bind_some h
  refine ot_cl (g_block_Length_ok hK h2) ?_
  refine ot_end ?_
  refine ve_un (ks' := [.c (cat Try.f28 p28_17), .c (cat Try.f28 [1, 1, 1])]) 2 ?_
  rcases ite_some h with ⟨h3, h⟩ | ⟨h3, h⟩
  ·
   refine ve_sb 23 h3 ?_
   exact ve_arr 2 (g_flex_Widths_j4_ok hK h)
  ·
   refine ve_sb 23 h3 ?_
   refine ve_un (ks' := [.c (cat Try.f28 p28_18), .c (cat Try.f28 p28_19), .c (cat Try.f28 [1, 1, 1])]) 2 ?_
   refine ve_in 1 ?_
   obtain ⟨v5, h4, h⟩ := bind_some h
   refine ot_co 1027 (g_flex_items_ok hK h4) (one_ref 21) ?_
   refine ot_sp (y_len eTBoxtreeBox v5) ?_
   refine ot_end ?_
   exact ve_arr 1 (lp_en (p := p28_20) n (g_flex_Widths_l3_ok hK n h))
end
noncomputable section
variable {K : Kn} {n : Nat} {M : Nat → Prop} {w0 : Base} {r : TBlockEnv}  
theorem g_law17_Env_ok (hK : KnOk K) (h : g_law17_Env K n = some r) : ACalls Try.prog 29 [] (fun v _ => v = .agg (eTBlockEnv r)) := by
  refine acalls_intro (c := cat Try.f29 []) Try.func29 (by kernel_rfl) _ Try.ntmps29 (of_decide_eq_true (by kernel_rfl)) fun M w0 => ?_
  refine ve_cast (s' := ⟨[],[],[],[]⟩) (by kernel_rfl) ?_
  unfold g_law17_Env at h
  refine ve_rt 5 ?_
  have hr := Option.some.inj h
  subst hr
  exact ve_d1
end
noncomputable section
abbrev cx46 (M : Nat → Prop) (w0 : Base) : Cx := ⟨Try.prog, 12, M, w0⟩
abbrev q46 (M : Nat → Prop) (w0 : Base) (r : Bool) := bodyPost Try.prog Try.f46 (RetQ M w0 (fun v _ => v = .bool r))
def s46_j1 (v2 : Bool) : AS := ⟨[(2,.bool v2)],[],[],[]⟩
variable {K : Kn} {n : Nat} {M : Nat → Prop} {w0 : Base} {r : Bool} {v1 : TBoxtreeBox} {v2 : Bool} 
theorem g_ref17_In_j1_ok (hK : KnOk K) (h : g_ref17_In_j1 K n v2 = some r) : VE (cx46 M w0) (q46 M w0 r) [.c (cat Try.f46 [1, 1])] .normal (s46_j1 v2) := by
  unfold g_ref17_In_j1 at h
  refine ve_rt 1 ?_
  have hr := Option.some.inj h
  subst hr
  exact ve_d1
theorem g_ref17_In_ok (hK : KnOk K) (h : g_ref17_In K n v1 = some r) : ACalls Try.prog 46 [.agg (xTBoxtreeBox v1)] (fun v _ => v = .bool r) := by
  refine acalls_intro (c := cat Try.f46 []) Try.func46 (by kernel_rfl) _ Try.ntmps46 (of_decide_eq_true (by kernel_rfl)) fun M w0 => ?_
  refine ve_cast (s' := ⟨[(0,.agg (xTBoxtreeBox v1))],[],[],[]⟩) (by kernel_rfl) ?_
  unfold g_ref17_In at h
  refine ve_un (ks' := [.c (cat Try.f46 [1, 0]), .c (cat Try.f46 [1, 1])]) 3 ?_
  refine ve_in 4 ?_
  rcases ite_some h with ⟨h1, h⟩ | ⟨h1, h⟩
  ·
   refine ot_sb 6 h1 ?_
   refine ot_end ?_
   exact ve_arr 0 (g_ref17_In_j1_ok hK h)
  ·
   refine ot_sb 6 h1 ?_
   refine ot_end ?_
   exact ve_arr 0 (g_ref17_In_j1_ok hK h)
end
def p58_0 : List Nat := [1, 1, 0, 1, 0, 0]
def p58_1 : List Nat := [1, 1, 0, 1, 0, 0, 1, 1]
def p58_2 : List Nat := [1, 1, 0, 1, 0, 0, 0, 0]
def p58_3 : List Nat := [1, 1, 0, 1, 0, 0, 0, 1]
def p58_4 : List Nat := [1, 1, 0, 1, 0, 0, 1]
def p58_5 : List Nat := [1, 1, 0, 1, 0, 0, 1, 0, 0, 0]
def p58_6 : List Nat := [1, 1, 0, 1, 0, 0, 1, 0, 0, 1]
def p58_7 : List Nat := [1, 1, 0, 1, 0, 0, 1, 0, 0, 1, 0]
def p58_8 : List Nat := [1, 1, 0, 1, 0]
noncomputable section
abbrev cx58 (M : Nat → Prop) (w0 : Base) : Cx := ⟨Try.prog, 27, M, w0⟩
abbrev q58 (M : Nat → Prop) (w0 : Base) (r : (List TBoxtreeBox)) := bodyPost Try.prog Try.f58 (RetQ M w0 (fun v s => v = .ref 25 ∧ look 25 s.r = some ⟨50, 59, List.map eTBoxtreeBox r⟩))
abbrev k58_1 (M : Nat → Prop) (w0 : Base) (r : (List TBoxtreeBox)) (m1 : Nat) : Kont := kl (cx58 M w0) (q58 M w0 r) [.b 0, .c (cat Try.f58 [1, 1, 1])] (cat Try.f58 p58_0) m1
def s58_j1 (v1 : TBoxtreeBox) (v8 : Int) (v11 : (List TBoxtreeBox)) : AS := ⟨[(1,.ptr 1 0),(3,.ref 25),(4,.int .i64 v8)],[(1,xTBoxtreeBox v1)],[(25,⟨50,59,List.map eTBoxtreeBox v11⟩)],[1,25]⟩
def s58_l2 (v1 : TBoxtreeBox) (v8 : Int) (v9 : (List TBoxtreeBox)) : AS := ⟨[(1,.ptr 1 0),(3,.ref 25),(4,.int .i64 v8)],[(1,xTBoxtreeBox v1)],[(25,⟨50,59,List.map eTBoxtreeBox v9⟩)],[1,25]⟩
abbrev H58_1 (M : Nat → Prop) (w0 : Base) (r : (List TBoxtreeBox)) (v1 : TBoxtreeBox) (m1 : Nat) (L1 : Int → (List TBoxtreeBox) → Option (List TBoxtreeBox)) : Prop := ∀ {v8 : Int} {v9 : (List TBoxtreeBox)}, L1 v8 v9 = some r → LP (cx58 M w0) (q58 M w0 r) [.b 0, .c (cat Try.f58 [1, 1, 1])] (cat Try.f58 p58_0) m1 (s58_l2 v1 v8 v9)
variable {K : Kn} {n : Nat} {M : Nat → Prop} {w0 : Base} {r : (List TBoxtreeBox)} {v1 : TBoxtreeBox} {v8 : Int} {v9 : (List TBoxtreeBox)} {v11 : (List TBoxtreeBox)} {m1 : Nat} {L1 : Int → (List TBoxtreeBox) → Option (List TBoxtreeBox)}
theorem g_ref17_Inside_j1_ok (hK : KnOk K) (hL1 : H58_1 M w0 r v1 m1 L1) (h : g_ref17_Inside_j1 K n v1 v8 L1 v11 = some r) : VE (cx58 M w0) (q58 M w0 r) [.b 1, .c (cat Try.f58 p58_1), k58_1 M w0 r m1, .b 0, .c (cat Try.f58 [1, 1, 1])] .normal (s58_j1 v1 v8 v11) := by
  unfold g_ref17_Inside_j1 at h
  exact ve_arr 2 (lp_back (hL1 h))
theorem g_ref17_Inside_l2_b_ok (hK : KnOk K) (hL1 : H58_1 M w0 r v1 m1 L1) (h : g_ref17_Inside_l2_b K n v1 L1 v8 v9 = some r) : VE (cx58 M w0) (q58 M w0 r) [.c (cat Try.f58 p58_0), k58_1 M w0 r m1, .b 0, .c (cat Try.f58 [1, 1, 1])] .normal (s58_l2 v1 v8 v9) := by
  unfold g_ref17_Inside_l2_b at h
  refine ve_un (ks' := [.c (cat Try.f58 p58_2), .c (cat Try.f58 p58_3), .c (cat Try.f58 p58_4), k58_1 M w0 r m1, .b 0, .c (cat Try.f58 [1, 1, 1])]) 2 ?_
  refine ve_in 3 ?_
  refine ot_sp (y_len eTBoxtreeBox v1.Kids) ?_
  refine ot_end ?_
  rcases ite_some h with ⟨h15, h⟩ | ⟨h15, h⟩
  ·
   refine ve_sb 9 h15 ?_
   refine ve_un (ks' := [.c (cat Try.f58 p58_5), .c (cat Try.f58 p58_6), .b 1, .c (cat Try.f58 p58_1), k58_1 M w0 r m1, .b 0, .c (cat Try.f58 [1, 1, 1])]) 5 ?_
   refine ve_in 3 ?_
   obtain ⟨h16, h⟩ := chk_some h
   refine ot_sp (y_ixs eTBoxtreeBox xTBoxtreeBox h16 (eTBoxtreeBox_len) (xTBoxtreeBox_eq)) ?_
   refine ot_go 5 1 ?_
   obtain ⟨v10, h17, h⟩ := bind_some h
   refine ot_cl (g_ref17_In_ok hK h17) ?_
   refine ot_end ?_
   rcases ite_some h with ⟨h18, h⟩ | ⟨h18, h⟩
   ·
    refine ve_sb 17 h18 ?_
    refine ve_un (ks' := [.c (cat Try.f58 p58_7), .b 1, .c (cat Try.f58 p58_1), k58_1 M w0 r m1, .b 0, .c (cat Try.f58 [1, 1, 1])]) 1 ?_
    refine ve_in 4 ?_
    obtain ⟨h19, h⟩ := chk_some h
    refine ot_sp (y_ixs eTBoxtreeBox xTBoxtreeBox h19 (eTBoxtreeBox_len) (xTBoxtreeBox_eq)) ?_
    refine ot_go 6 1 ?_
    refine ot_sp (y_bsl eTBoxtreeBox ([(List.getD v1.Kids (v8).toNat default)] : List TBoxtreeBox) (new := [xTBoxtreeBox (List.getD v1.Kids (v8).toNat default)]) (by simp only [List.map_cons, List.map_nil, xTBoxtreeBox_eq])) ?_
    obtain ⟨h20, h⟩ := chk_some h
    refine ot_sp (y_app 25 25 50 59 eTBoxtreeBox (rfl) (eTBoxtreeBox_len) h20) ?_
    refine ot_end ?_
    exact ve_arr 0 (g_ref17_Inside_j1_ok hK hL1 h)
   ·
    refine ve_sb 17 h18 ?_
    exact ve_arr 2 (g_ref17_Inside_j1_ok hK hL1 h)
  ·
   refine ve_sb 9 h15 ?_
   refine ve_rt 8 ?_
   have hr := Option.some.inj h
   subst hr
   exact ve_o1
theorem g_ref17_Inside_l2_ok (hK : KnOk K) (m : Nat) : H58_1 M w0 r v1 m (g_ref17_Inside_l2 K n v1 m) := by
  induction m with
 | zero => intro v8 v9 h; cases h
 | succ m ih => intro v8 v9 h; have h : g_ref17_Inside_l2_b K n v1 (g_ref17_Inside_l2 K n v1 m) v8 v9 = some r := h; exact lp_round (g_ref17_Inside_l2_b_ok hK ih h)
theorem g_ref17_Inside_ok (hK : KnOk K) (h : g_ref17_Inside K n v1 = some r) : ACalls Try.prog 58 [.agg (xTBoxtreeBox v1)] (fun v s => v = .ref 25 ∧ look 25 s.r = some ⟨50, 59, List.map eTBoxtreeBox r⟩) := by
  refine acalls_intro (c := cat Try.f58 []) Try.func58 (by kernel_rfl) _ Try.ntmps58 (of_decide_eq_true (by kernel_rfl)) fun M w0 => ?_
  refine ve_cast (s' := ⟨[(0,.agg (xTBoxtreeBox v1))],[],[],[]⟩) (by kernel_rfl) ?_
  unfold g_ref17_Inside at h
  refine ve_un (ks' := [.c (cat Try.f58 p58_8), .b 0, .c (cat Try.f58 [1, 1, 1])]) 8 ?_
  refine ve_w 25 3 50 59 ?_
  exact ve_arr 0 (lp_en (p := p58_8) n (g_ref17_Inside_l2_ok hK n h))
end
noncomputable section
variable {K : Kn} {n : Nat} {M : Nat → Prop} {w0 : Base} {r : TCascadeLength} {v1 : TCascadeLength} 
theorem g_ref17_auto_ok (hK : KnOk K) (h : g_ref17_auto K n v1 = some r) : ACalls Try.prog 102 [.agg (eTCascadeLength v1)] (fun v _ => v = .agg (eTCascadeLength r)) := by
  refine acalls_intro (c := cat Try.f102 []) Try.func102 (by kernel_rfl) _ Try.ntmps102 (of_decide_eq_true (by kernel_rfl)) fun M w0 => ?_
  refine ve_cast (s' := ⟨[(0,.agg (eTCascadeLength v1))],[],[],[]⟩) (by kernel_rfl) ?_
  unfold g_ref17_auto at h
  refine ve_un (ks' := [.c (cat Try.f102 [1, 0, 1]), .c (cat Try.f102 [1, 1])]) 5 ?_
  rcases ite_some h with ⟨h1, h⟩ | ⟨h1, h⟩
  ·
   refine ve_sb 5 h1 ?_
   refine ve_rt 5 ?_
   have hr := Option.some.inj h
   subst hr
   exact ve_d1
  ·
   refine ve_sb 5 h1 ?_
   refine ve_rt 5 ?_
   have hr := Option.some.inj h
   subst hr
   exact ve_d1
end
def p81_0 : List Nat := [1, 0, 1, 0]
def p81_1 : List Nat := [1, 0, 1, 0, 0]
def p81_2 : List Nat := [1, 0, 1, 0, 0, 1, 0, 0, 0]
def p81_3 : List Nat := [1, 0, 1, 0, 0, 1, 0, 0, 1]
def p81_4 : List Nat := [1, 0, 1, 0, 0, 1, 1]
def p81_5 : List Nat := [1, 1, 1, 0]
def p81_6 : List Nat := [1, 1, 1, 1]
def p81_7 : List Nat := [1, 1, 1, 1, 0]
def p81_8 : List Nat := ones 5 []
noncomputable section
abbrev cx81 (M : Nat → Prop) (w0 : Base) : Cx := ⟨Try.prog, 37, M, w0⟩
abbrev q81 (M : Nat → Prop) (w0 : Base) (r : TCascadeStyle) := bodyPost Try.prog Try.f81 (RetQ M w0 (fun v _ => v = .agg (eTCascadeStyle r)))
variable {K : Kn} {n : Nat} {M : Nat → Prop} {w0 : Base} {r : TCascadeStyle} {v1 : TCascadeStyle} 
theorem g_ref17_plain_ok (hK : KnOk K) (h : g_ref17_plain K n v1 = some r) : ACalls Try.prog 81 [.agg (eTCascadeStyle v1)] (fun v _ => v = .agg (eTCascadeStyle r)) := by
  refine acalls_intro (c := cat Try.f81 []) Try.func81 (by kernel_rfl) _ Try.ntmps81 (of_decide_eq_true (by kernel_rfl)) fun M w0 => ?_
  refine ve_cast (s' := ⟨[(0,.agg (eTCascadeStyle v1))],[],[],[]⟩) (by kernel_rfl) ?_
  unfold g_ref17_plain at h
  refine ve_go (ks' := [.c (cat Try.f81 p81_0), .b 0, .c (cat Try.f81 [1, 1])]) 6 ⟨[(1,.ptr 1 0),(2,.ptr 2 0),(3,.int .i64 0)],[(1,eTCascadeStyle v1),(2,eTCascadeStyle zTCascadeStyle)],[],[1,2]⟩ ?_
  refine lp_enter 40 (c := cat Try.f81 p81_1) (by kernel_rfl) ?_
  refine lp_round ?_
  refine ve_un (ks' := [.c (cat Try.f81 p81_2), .c (cat Try.f81 p81_3), .b 1, .c (cat Try.f81 p81_4), kl (cx81 M w0) (q81 M w0 r) [.b 0, .c (cat Try.f81 [1, 1])] (cat Try.f81 p81_1) 39, .b 0, .c (cat Try.f81 [1, 1])]) 8 ?_
  refine ve_in 5 ?_
  obtain ⟨v2, h1, h⟩ := bind_some h
  refine ot_cl (g_ref17_auto_ok hK h1) ?_
  refine ot_end ?_
  refine ve_in 5 ?_
  obtain ⟨v3, h2, h⟩ := bind_some h
  refine ot_cl (g_ref17_auto_ok hK h2) ?_
  refine ot_end ?_
  refine ve_go (ks' := [kl (cx81 M w0) (q81 M w0 r) [.b 0, .c (cat Try.f81 [1, 1])] (cat Try.f81 p81_1) 39, .b 0, .c (cat Try.f81 [1, 1])]) 2 ⟨[(1,.ptr 1 0),(2,.ptr 2 0),(3,.int .i64 1)],[(1,eTCascadeStyle ({ v1 with Margin := ⟨v2, v1.Margin.a1, v1.Margin.a2, v1.Margin.a3⟩, Padding := ⟨v3, v1.Padding.a1, v1.Padding.a2, v1.Padding.a3⟩ } : TCascadeStyle)),(2,eTCascadeStyle zTCascadeStyle)],[],[1,2]⟩ ?_
  refine lp_back ?_
  refine lp_round ?_
  refine ve_un (ks' := [.c (cat Try.f81 p81_2), .c (cat Try.f81 p81_3), .b 1, .c (cat Try.f81 p81_4), kl (cx81 M w0) (q81 M w0 r) [.b 0, .c (cat Try.f81 [1, 1])] (cat Try.f81 p81_1) 38, .b 0, .c (cat Try.f81 [1, 1])]) 8 ?_
  refine ve_in 5 ?_
  obtain ⟨v4, h3, h⟩ := bind_some h
  refine ot_cl (g_ref17_auto_ok hK h3) ?_
  refine ot_end ?_
  refine ve_in 5 ?_
  obtain ⟨v5, h4, h⟩ := bind_some h
  refine ot_cl (g_ref17_auto_ok hK h4) ?_
  refine ot_end ?_
  refine ve_go (ks' := [kl (cx81 M w0) (q81 M w0 r) [.b 0, .c (cat Try.f81 [1, 1])] (cat Try.f81 p81_1) 38, .b 0, .c (cat Try.f81 [1, 1])]) 2 ⟨[(1,.ptr 1 0),(2,.ptr 2 0),(3,.int .i64 2)],[(1,eTCascadeStyle ({ v1 with Margin := ⟨v2, v4, v1.Margin.a2, v1.Margin.a3⟩, Padding := ⟨v3, v5, v1.Padding.a2, v1.Padding.a3⟩ } : TCascadeStyle)),(2,eTCascadeStyle zTCascadeStyle)],[],[1,2]⟩ ?_
  refine lp_back ?_
  refine lp_round ?_
  refine ve_un (ks' := [.c (cat Try.f81 p81_2), .c (cat Try.f81 p81_3), .b 1, .c (cat Try.f81 p81_4), kl (cx81 M w0) (q81 M w0 r) [.b 0, .c (cat Try.f81 [1, 1])] (cat Try.f81 p81_1) 37, .b 0, .c (cat Try.f81 [1, 1])]) 8 ?_
  refine ve_in 5 ?_
  obtain ⟨v6, h5, h⟩ := bind_some h
  refine ot_cl (g_ref17_auto_ok hK h5) ?_
  refine ot_end ?_
  refine ve_in 5 ?_
  obtain ⟨v7, h6, h⟩ := bind_some h
  refine ot_cl (g_ref17_auto_ok hK h6) ?_
  refine ot_end ?_
  refine ve_go (ks' := [kl (cx81 M w0) (q81 M w0 r) [.b 0, .c (cat Try.f81 [1, 1])] (cat Try.f81 p81_1) 37, .b 0, .c (cat Try.f81 [1, 1])]) 2 ⟨[(1,.ptr 1 0),(2,.ptr 2 0),(3,.int .i64 3)],[(1,eTCascadeStyle ({ v1 with Margin := ⟨v2, v4, v6, v1.Margin.a3⟩, Padding := ⟨v3, v5, v7, v1.Padding.a3⟩ } : TCascadeStyle)),(2,eTCascadeStyle zTCascadeStyle)],[],[1,2]⟩ ?_
  refine lp_back ?_
  refine lp_round ?_
  refine ve_un (ks' := [.c (cat Try.f81 p81_2), .c (cat Try.f81 p81_3), .b 1, .c (cat Try.f81 p81_4), kl (cx81 M w0) (q81 M w0 r) [.b 0, .c (cat Try.f81 [1, 1])] (cat Try.f81 p81_1) 36, .b 0, .c (cat Try.f81 [1, 1])]) 8 ?_
  refine ve_in 5 ?_
  obtain ⟨v8, h7, h⟩ := bind_some h
  refine ot_cl (g_ref17_auto_ok hK h7) ?_
  refine ot_end ?_
  refine ve_in 5 ?_
  obtain ⟨v9, h8, h⟩ := bind_some h
  refine ot_cl (g_ref17_auto_ok hK h8) ?_
  refine ot_end ?_
  refine ve_go (ks' := [kl (cx81 M w0) (q81 M w0 r) [.b 0, .c (cat Try.f81 [1, 1])] (cat Try.f81 p81_1) 36, .b 0, .c (cat Try.f81 [1, 1])]) 2 ⟨[(1,.ptr 1 0),(2,.ptr 2 0),(3,.int .i64 4)],[(1,eTCascadeStyle ({ v1 with Margin := ⟨v2, v4, v6, v8⟩, Padding := ⟨v3, v5, v7, v9⟩ } : TCascadeStyle)),(2,eTCascadeStyle zTCascadeStyle)],[],[1,2]⟩ ?_
  refine lp_back ?_
  refine lp_round ?_
  refine ve_un (ks' := [.c (cat Try.f81 [1, 1, 0]), .c (cat Try.f81 [1, 1, 1])]) 9 ?_
  refine ve_in 2 ?_
  obtain ⟨v10, h9, h⟩ := bind_some h
  refine ot_cl (g_ref17_auto_ok hK h9) ?_
  refine ot_end ?_
  refine ve_un (ks' := [.c (cat Try.f81 p81_5), .c (cat Try.f81 p81_6)]) 1 ?_
  refine ve_in 2 ?_
  obtain ⟨v11, h10, h⟩ := bind_some h
  refine ot_cl (g_ref17_auto_ok hK h10) ?_
  refine ot_end ?_
  refine ve_un (ks' := [.c (cat Try.f81 p81_7), .c (cat Try.f81 p81_8)]) 1 ?_
  refine ve_in 2 ?_
  obtain ⟨v12, h11, h⟩ := bind_some h
  refine ot_cl (g_ref17_auto_ok hK h11) ?_
  refine ot_end ?_
  refine ve_rt 3 ?_
  have hr := Option.some.inj h
  subst hr
  exact ve_d1
end
noncomputable section
variable {K : Kn} {n : Nat} {M : Nat → Prop} {w0 : Base} {r : Int} {v1 : Int} 
theorem g_ref17_Width_ok (hK : KnOk K) (h : g_ref17_Width K n v1 = some r) : ACalls Try.prog 82 [.int .i64 v1] (fun v _ => v = .int .i64 r) := by
  refine acalls_intro (c := cat Try.f82 []) Try.func82 (by kernel_rfl) _ Try.ntmps82 (of_decide_eq_true (by kernel_rfl)) fun M w0 => ?_
  refine ve_cast (s' := ⟨[(0,.int .i64 v1)],[],[],[]⟩) (by kernel_rfl) ?_
  unfold g_ref17_Width at h
  refine ve_rt 5 ?_
  have hr := Option.some.inj h
  subst hr
  exact ve_d1
end
noncomputable section
variable {K : Kn} {n : Nat} {M : Nat → Prop} {w0 : Base} {r : Int} {v1 : Int} 
theorem g_ref17_limit_ok (hK : KnOk K) (h : g_ref17_limit K n v1 = some r) : ACalls Try.prog 103 [.int .i64 v1] (fun v _ => v = .int .i64 r) := by
  refine acalls_intro (c := cat Try.f103 []) Try.func103 (by kernel_rfl) _ Try.ntmps103 (of_decide_eq_true (by kernel_rfl)) fun M w0 => ?_
  refine ve_cast (s' := ⟨[(0,.int .i64 v1)],[],[],[]⟩) (by kernel_rfl) ?_
  unfold g_ref17_limit at h
  refine ve_rt 5 ?_
  have hr := Option.some.inj h
  subst hr
  exact ve_d1
end
noncomputable section
variable {K : Kn} {n : Nat} {M : Nat → Prop} {w0 : Base} {r : (Int × Bool)} {v1 : TCascadeLength} 
theorem g_ref17_pixels_ok (hK : KnOk K) (h : g_ref17_pixels K n v1 = some r) : ACalls Try.prog 83 [.agg (eTCascadeLength v1)] (fun v _ => v = .tup [.int .i64 r.1, .bool r.2]) := by
  refine acalls_intro (c := cat Try.f83 []) Try.func83 (by kernel_rfl) _ Try.ntmps83 (of_decide_eq_true (by kernel_rfl)) fun M w0 => ?_
  refine ve_cast (s' := ⟨[(0,.agg (eTCascadeLength v1))],[],[],[]⟩) (by kernel_rfl) ?_
  unfold g_ref17_pixels at h
  refine ve_un (ks' := [.c (cat Try.f83 [1, 0, 1]), .c (cat Try.f83 [1, 1])]) 5 ?_
  rcases ite_some h with ⟨h1, h⟩ | ⟨h1, h⟩
  ·
   refine ve_sb 6 h1 ?_
   refine ve_rt 5 ?_
   have hr := Option.some.inj h
   subst hr
   exact ve_dt
  ·
   refine ve_sb 6 h1 ?_
   refine ve_un (ks' := [.c (cat Try.f83 [1, 1, 0]), .c (cat Try.f83 [1, 1, 1])]) 3 ?_
   refine ve_in 2 ?_
   obtain ⟨v2, h2, h⟩ := bind_some h
   refine ot_cl (g_ref17_limit_ok hK h2) ?_
   refine ot_end ?_
   refine ve_rt 1 ?_
   have hr := Option.some.inj h
   subst hr
   exact ve_dt
end
noncomputable section
variable {K : Kn} {n : Nat} {M : Nat → Prop} {w0 : Base} {r : Int} {v1 : TBlockSizes} 
theorem g_ref17_Sum_ok (hK : KnOk K) (h : g_ref17_Sum K n v1 = some r) : ACalls Try.prog 84 [.agg (eTBlockSizes v1)] (fun v _ => v = .int .i64 r) := by
  refine acalls_intro (c := cat Try.f84 []) Try.func84 (by kernel_rfl) _ Try.ntmps84 (of_decide_eq_true (by kernel_rfl)) fun M w0 => ?_
  refine ve_cast (s' := ⟨[(0,.agg (eTBlockSizes v1))],[],[],[]⟩) (by kernel_rfl) ?_
  unfold g_ref17_Sum at h
  refine ve_rt 5 ?_
  have hr := Option.some.inj h
  subst hr
  exact ve_d1
end
def p90_0 : List Nat := [1, 0, 1, 0, 1]
def p90_1 : List Nat := [1, 0, 1, 0, 1, 0, 0]
def p90_2 : List Nat := [1, 0, 1, 0, 1, 0, 1]
def p90_3 : List Nat := [1, 0, 1, 0, 1, 1, 1]
def p90_4 : List Nat := [1, 0, 1, 0, 1, 1, 1, 0, 0]
def p90_5 : List Nat := [1, 0, 1, 0, 1, 1, 1, 0, 1]
noncomputable section
variable {K : Kn} {n : Nat} {M : Nat → Prop} {w0 : Base} {r : (Int × Bool)} {v1 : TCascadeLength} {v2 : Int} 
theorem g_ref17_Length_ok (hK : KnOk K) (h : g_ref17_Length K n v1 v2 = some r) : ACalls Try.prog 90 [.agg (eTCascadeLength v1), .int .i64 v2] (fun v _ => v = .tup [.int .i64 r.1, .bool r.2]) := by
  refine acalls_intro (c := cat Try.f90 []) Try.func90 (by kernel_rfl) _ Try.ntmps90 (of_decide_eq_true (by kernel_rfl)) fun M w0 => ?_
  refine ve_cast (s' := ⟨[(0,.agg (eTCascadeLength v1)),(1,.int .i64 v2)],[],[],[]⟩) (by kernel_rfl) ?_
  unfold g_ref17_Length at h
  refine ve_un (ks' := [.c (cat Try.f90 p90_0), .b 0, .c (cat Try.f90 [1, 1])]) 8 ?_
  rcases ite_some h with ⟨h1, h⟩ | ⟨h1, h⟩
  ·
   refine ve_sb 8 h1 ?_
   refine ve_un (ks' := [.c (cat Try.f90 p90_1), .c (cat Try.f90 p90_2), .b 0, .c (cat Try.f90 [1, 1])]) 2 ?_
   refine ve_in 2 ?_
   obtain ⟨v3, h2, h⟩ := bind_some h
   refine ot_cl (g_ref17_limit_ok hK h2) ?_
   refine ot_end ?_
   refine ve_rt 3 ?_
   have hr := Option.some.inj h
   subst hr
   exact ve_dt
  ·
   refine ve_sb 8 h1 ?_
   refine ve_un (ks' := [.c (cat Try.f90 p90_3), .b 0, .c (cat Try.f90 [1, 1])]) 3 ?_
   rcases ite_some h with ⟨h3, h⟩ | ⟨h3, h⟩
   ·
    refine ve_sb 13 h3 ?_
    refine ve_un (ks' := [.c (cat Try.f90 p90_4), .c (cat Try.f90 p90_5), .b 0, .c (cat Try.f90 [1, 1])]) 2 ?_
    refine ve_pk [1, 2] [2] [] ?_
    obtain ⟨v4, h4, h⟩ := bind_some h
    obtain ⟨v5, h5, h⟩ := bind_some h
    refine ve_dr 2 [(15, .int .i64 v2), (16, .int .i64 v4), (17, .ptr 2 1), (18, .int .i64 v1.Value), (19, .int .i64 (max v1.Value (-1000000))), (20, .int .i64 (min (max v1.Value (-1000000)) 1000000)), (21, .int .i64 (w64 (v4 * (min (max v1.Value (-1000000)) 1000000)))), (22, .int .i64 (w64 (Int.tdiv (w64 (v4 * (min (max v1.Value (-1000000)) 1000000))) 10000))), (23, .int .i64 v5)] [] [] [stp Try.prog 24 Try.f90 p90_4 9, stp Try.prog 24 Try.f90 p90_4 10] (d_vs [.v 0 1] (d_c1 (e_c 0 1 16 (g_ref17_Width_ok hK h4)) (d_vs [.v 0 1, .v 0 1, .v 0 1, .v 0 1, .v 0 1, .v 0 1] (d_c1 (e_c 0 1 23 (g_ref17_limit_ok hK h5)) (d_c1 (e_d 0) (d_c1 (e_d 1) (d_nl))))))) ?_
    refine ve_rt 3 ?_
    have hr := Option.some.inj h
    subst hr
    exact ve_dt
   ·
    refine ve_sb 13 h3 ?_
    refine ve_rt 6 ?_
    have hr := Option.some.inj h
    subst hr
    exact ve_dt
end
def p85_0 : List Nat := [1, 1, 0, 1, 0]
def p85_1 : List Nat := [1, 1, 0, 1, 0, 0]
def p85_2 : List Nat := [1, 1, 0, 1, 0, 0, 1, 0, 0, 0]
def p85_3 : List Nat := [1, 1, 0, 1, 0, 0, 1, 0, 0, 1]
def p85_4 : List Nat := [1, 1, 0, 1, 0, 0, 1, 1]
def p85_5 : List Nat := [1, 1, 0, 1, 0, 0, 1, 0, 0, 1, 0]
def p85_6 : List Nat := [1, 1, 0, 1, 0, 0, 1, 0, 0, 1, 1]
def p85_7 : List Nat := [1, 1, 0, 1, 0, 0, 1, 0, 0, 1, 1, 1, 1]
noncomputable section
abbrev cx85 (M : Nat → Prop) (w0 : Base) : Cx := ⟨Try.prog, 55, M, w0⟩
abbrev q85 (M : Nat → Prop) (w0 : Base) (r : TBlockSizes) := bodyPost Try.prog Try.f85 (RetQ M w0 (fun v _ => v = .agg (eTBlockSizes r)))
variable {K : Kn} {n : Nat} {M : Nat → Prop} {w0 : Base} {r : TBlockSizes} {v1 : TCascadeStyle} {v2 : Int} {v3 : Int} 
theorem g_ref17_Edges_ok (hK : KnOk K) (h : g_ref17_Edges K n v1 v2 v3 = some r) : ACalls Try.prog 85 [.agg (eTCascadeStyle v1), .int .i64 v2, .int .i64 v3] (fun v _ => v = .agg (eTBlockSizes r)) := by
  refine acalls_intro (c := cat Try.f85 []) Try.func85 (by kernel_rfl) _ Try.ntmps85 (of_decide_eq_true (by kernel_rfl)) fun M w0 => ?_
  refine ve_cast (s' := ⟨[(0,.agg (eTCascadeStyle v1)),(1,.int .i64 v2),(2,.int .i64 v3)],[],[],[]⟩) (by kernel_rfl) ?_
  unfold g_ref17_Edges at h
  refine ve_go (ks' := [.c (cat Try.f85 p85_0), .b 0, .c (cat Try.f85 [1, 1, 1])]) 8 ⟨[(1,.int .i64 v2),(3,.ptr 3 0),(6,.ptr 6 0),(7,.ptr 7 0),(8,.int .i64 0)],[(3,eTCascadeStyle v1),(6,eTBlockSizes zTBlockSizes),(7,eTBlockSizes ({ zTBlockSizes with Content := v3 } : TBlockSizes))],[],[3,6,7]⟩ ?_
  refine lp_enter 40 (c := cat Try.f85 p85_1) (by kernel_rfl) ?_
  refine lp_round ?_
  refine ve_un (ks' := [.c (cat Try.f85 p85_2), .c (cat Try.f85 p85_3), .b 1, .c (cat Try.f85 p85_4), kl (cx85 M w0) (q85 M w0 r) [.b 0, .c (cat Try.f85 [1, 1, 1])] (cat Try.f85 p85_1) 39, .b 0, .c (cat Try.f85 [1, 1, 1])]) 8 ?_
  refine ve_in 5 ?_
  obtain ⟨v4, h1, h⟩ := bind_some h
  refine ot_cl (g_ref17_Length_ok hK h1) ?_
  refine ot_end ?_
  refine ve_un (ks' := [.c (cat Try.f85 p85_5), .c (cat Try.f85 p85_6), .b 1, .c (cat Try.f85 p85_4), kl (cx85 M w0) (q85 M w0 r) [.b 0, .c (cat Try.f85 [1, 1, 1])] (cat Try.f85 p85_1) 39, .b 0, .c (cat Try.f85 [1, 1, 1])]) 1 ?_
  refine ve_in 5 ?_
  obtain ⟨v5, h2, h⟩ := bind_some h
  refine ot_cl (g_ref17_Length_ok hK h2) ?_
  refine ot_end ?_
  refine ve_un (ks' := [.c (cat Try.f85 p85_7), .b 1, .c (cat Try.f85 p85_4), kl (cx85 M w0) (q85 M w0 r) [.b 0, .c (cat Try.f85 [1, 1, 1])] (cat Try.f85 p85_1) 39, .b 0, .c (cat Try.f85 [1, 1, 1])]) 4 ?_
  refine ve_in 5 ?_
  obtain ⟨v6, h3, h⟩ := bind_some h
  refine ot_cl (g_ref17_Width_ok hK h3) ?_
  refine ot_end ?_
  refine ve_go (ks' := [kl (cx85 M w0) (q85 M w0 r) [.b 0, .c (cat Try.f85 [1, 1, 1])] (cat Try.f85 p85_1) 39, .b 0, .c (cat Try.f85 [1, 1, 1])]) 2 ⟨[(1,.int .i64 v2),(3,.ptr 3 0),(6,.ptr 6 0),(7,.ptr 7 0),(8,.int .i64 1)],[(3,eTCascadeStyle v1),(6,eTBlockSizes zTBlockSizes),(7,eTBlockSizes (⟨⟨v4.1, 0, 0, 0⟩, ⟨v6, 0, 0, 0⟩, ⟨(max v5.1 0), 0, 0, 0⟩, v3⟩ : TBlockSizes))],[],[3,6,7]⟩ ?_
  refine lp_back ?_
  refine lp_round ?_
  refine ve_un (ks' := [.c (cat Try.f85 p85_2), .c (cat Try.f85 p85_3), .b 1, .c (cat Try.f85 p85_4), kl (cx85 M w0) (q85 M w0 r) [.b 0, .c (cat Try.f85 [1, 1, 1])] (cat Try.f85 p85_1) 38, .b 0, .c (cat Try.f85 [1, 1, 1])]) 8 ?_
  refine ve_in 5 ?_
  obtain ⟨v7, h4, h⟩ := bind_some h
  refine ot_cl (g_ref17_Length_ok hK h4) ?_
  refine ot_end ?_
  refine ve_un (ks' := [.c (cat Try.f85 p85_5), .c (cat Try.f85 p85_6), .b 1, .c (cat Try.f85 p85_4), kl (cx85 M w0) (q85 M w0 r) [.b 0, .c (cat Try.f85 [1, 1, 1])] (cat Try.f85 p85_1) 38, .b 0, .c (cat Try.f85 [1, 1, 1])]) 1 ?_
  refine ve_in 5 ?_
  obtain ⟨v8, h5, h⟩ := bind_some h
  refine ot_cl (g_ref17_Length_ok hK h5) ?_
  refine ot_end ?_
  refine ve_un (ks' := [.c (cat Try.f85 p85_7), .b 1, .c (cat Try.f85 p85_4), kl (cx85 M w0) (q85 M w0 r) [.b 0, .c (cat Try.f85 [1, 1, 1])] (cat Try.f85 p85_1) 38, .b 0, .c (cat Try.f85 [1, 1, 1])]) 4 ?_
  refine ve_in 5 ?_
  obtain ⟨v9, h6, h⟩ := bind_some h
  refine ot_cl (g_ref17_Width_ok hK h6) ?_
  refine ot_end ?_
  refine ve_go (ks' := [kl (cx85 M w0) (q85 M w0 r) [.b 0, .c (cat Try.f85 [1, 1, 1])] (cat Try.f85 p85_1) 38, .b 0, .c (cat Try.f85 [1, 1, 1])]) 2 ⟨[(1,.int .i64 v2),(3,.ptr 3 0),(6,.ptr 6 0),(7,.ptr 7 0),(8,.int .i64 2)],[(3,eTCascadeStyle v1),(6,eTBlockSizes zTBlockSizes),(7,eTBlockSizes (⟨⟨v4.1, v7.1, 0, 0⟩, ⟨v6, v9, 0, 0⟩, ⟨(max v5.1 0), (max v8.1 0), 0, 0⟩, v3⟩ : TBlockSizes))],[],[3,6,7]⟩ ?_
  refine lp_back ?_
  refine lp_round ?_
  refine ve_un (ks' := [.c (cat Try.f85 p85_2), .c (cat Try.f85 p85_3), .b 1, .c (cat Try.f85 p85_4), kl (cx85 M w0) (q85 M w0 r) [.b 0, .c (cat Try.f85 [1, 1, 1])] (cat Try.f85 p85_1) 37, .b 0, .c (cat Try.f85 [1, 1, 1])]) 8 ?_
  refine ve_in 5 ?_
  obtain ⟨v10, h7, h⟩ := bind_some h
  refine ot_cl (g_ref17_Length_ok hK h7) ?_
  refine ot_end ?_
  refine ve_un (ks' := [.c (cat Try.f85 p85_5), .c (cat Try.f85 p85_6), .b 1, .c (cat Try.f85 p85_4), kl (cx85 M w0) (q85 M w0 r) [.b 0, .c (cat Try.f85 [1, 1, 1])] (cat Try.f85 p85_1) 37, .b 0, .c (cat Try.f85 [1, 1, 1])]) 1 ?_
  refine ve_in 5 ?_
  obtain ⟨v11, h8, h⟩ := bind_some h
  refine ot_cl (g_ref17_Length_ok hK h8) ?_
  refine ot_end ?_
  refine ve_un (ks' := [.c (cat Try.f85 p85_7), .b 1, .c (cat Try.f85 p85_4), kl (cx85 M w0) (q85 M w0 r) [.b 0, .c (cat Try.f85 [1, 1, 1])] (cat Try.f85 p85_1) 37, .b 0, .c (cat Try.f85 [1, 1, 1])]) 4 ?_
  refine ve_in 5 ?_
  obtain ⟨v12, h9, h⟩ := bind_some h
  refine ot_cl (g_ref17_Width_ok hK h9) ?_
  refine ot_end ?_
  refine ve_go (ks' := [kl (cx85 M w0) (q85 M w0 r) [.b 0, .c (cat Try.f85 [1, 1, 1])] (cat Try.f85 p85_1) 37, .b 0, .c (cat Try.f85 [1, 1, 1])]) 2 ⟨[(1,.int .i64 v2),(3,.ptr 3 0),(6,.ptr 6 0),(7,.ptr 7 0),(8,.int .i64 3)],[(3,eTCascadeStyle v1),(6,eTBlockSizes zTBlockSizes),(7,eTBlockSizes (⟨⟨v4.1, v7.1, v10.1, 0⟩, ⟨v6, v9, v12, 0⟩, ⟨(max v5.1 0), (max v8.1 0), (max v11.1 0), 0⟩, v3⟩ : TBlockSizes))],[],[3,6,7]⟩ ?_
  refine lp_back ?_
  refine lp_round ?_
  refine ve_un (ks' := [.c (cat Try.f85 p85_2), .c (cat Try.f85 p85_3), .b 1, .c (cat Try.f85 p85_4), kl (cx85 M w0) (q85 M w0 r) [.b 0, .c (cat Try.f85 [1, 1, 1])] (cat Try.f85 p85_1) 36, .b 0, .c (cat Try.f85 [1, 1, 1])]) 8 ?_
  refine ve_in 5 ?_
  obtain ⟨v13, h10, h⟩ := bind_some h
  refine ot_cl (g_ref17_Length_ok hK h10) ?_
  refine ot_end ?_
  refine ve_un (ks' := [.c (cat Try.f85 p85_5), .c (cat Try.f85 p85_6), .b 1, .c (cat Try.f85 p85_4), kl (cx85 M w0) (q85 M w0 r) [.b 0, .c (cat Try.f85 [1, 1, 1])] (cat Try.f85 p85_1) 36, .b 0, .c (cat Try.f85 [1, 1, 1])]) 1 ?_
  refine ve_in 5 ?_
  obtain ⟨v14, h11, h⟩ := bind_some h
  refine ot_cl (g_ref17_Length_ok hK h11) ?_
  refine ot_end ?_
  refine ve_un (ks' := [.c (cat Try.f85 p85_7), .b 1, .c (cat Try.f85 p85_4), kl (cx85 M w0) (q85 M w0 r) [.b 0, .c (cat Try.f85 [1, 1, 1])] (cat Try.f85 p85_1) 36, .b 0, .c (cat Try.f85 [1, 1, 1])]) 4 ?_
  refine ve_in 5 ?_
  obtain ⟨v15, h12, h⟩ := bind_some h
  refine ot_cl (g_ref17_Width_ok hK h12) ?_
  refine ot_end ?_
  refine ve_go (ks' := [kl (cx85 M w0) (q85 M w0 r) [.b 0, .c (cat Try.f85 [1, 1, 1])] (cat Try.f85 p85_1) 36, .b 0, .c (cat Try.f85 [1, 1, 1])]) 2 ⟨[(1,.int .i64 v2),(3,.ptr 3 0),(6,.ptr 6 0),(7,.ptr 7 0),(8,.int .i64 4)],[(3,eTCascadeStyle v1),(6,eTBlockSizes zTBlockSizes),(7,eTBlockSizes (⟨⟨v4.1, v7.1, v10.1, v13.1⟩, ⟨v6, v9, v12, v15⟩, ⟨(max v5.1 0), (max v8.1 0), (max v11.1 0), (max v14.1 0)⟩, v3⟩ : TBlockSizes))],[],[3,6,7]⟩ ?_
  refine lp_back ?_
  refine lp_round ?_
  refine ve_rt 11 ?_
  have hr := Option.some.inj h
  subst hr
  exact ve_d1
end
def p86_0 : List Nat := ones 6 []
def p86_1 : List Nat := [1, 1, 1, 1]
def p86_2 : List Nat := [1, 1, 1, 1, 0]
def p86_3 : List Nat := ones 5 []
def p86_4 : List Nat := ones 5 [0, 1]
def p86_5 : List Nat := [1, 1, 1, 0, 1]
noncomputable section
abbrev cx86 (M : Nat → Prop) (w0 : Base) : Cx := ⟨Try.prog, 37, M, w0⟩
abbrev q86 (M : Nat → Prop) (w0 : Base) (r : Int) := bodyPost Try.prog Try.f86 (RetQ M w0 (fun v _ => v = .int .i64 r))
def s86_j2 (v7 : Int) : AS := ⟨[(7,.int .i64 v7)],[],[],[]⟩
def s86_j1 (v1 : TCascadeStyle) (v2 : Int) (v5 : Int) : AS := ⟨[(1,.int .i64 v2),(3,.ptr 3 0),(7,.int .i64 v5)],[(3,eTCascadeStyle v1)],[],[3]⟩
variable {K : Kn} {n : Nat} {M : Nat → Prop} {w0 : Base} {r : Int} {v1 : TCascadeStyle} {v2 : Int} {v3 : Int} {v5 : Int} {v7 : Int} 
theorem g_ref17_Clamp_j2_ok (hK : KnOk K) (h : g_ref17_Clamp_j2 K n v7 = some r) : VE (cx86 M w0) (q86 M w0 r) [.c (cat Try.f86 p86_0)] .normal (s86_j2 v7) := by
  unfold g_ref17_Clamp_j2 at h
  refine ve_rt 3 ?_
  have hr := Option.some.inj h
  subst hr
  exact ve_d1
theorem g_ref17_Clamp_j1_ok (hK : KnOk K) (h : g_ref17_Clamp_j1 K n v1 v2 v5 = some r) : VE (cx86 M w0) (q86 M w0 r) [.c (cat Try.f86 p86_1)] .normal (s86_j1 v1 v2 v5) := by
  unfold g_ref17_Clamp_j1 at h
  refine ve_un (ks' := [.c (cat Try.f86 p86_2), .c (cat Try.f86 p86_3)]) 1 ?_
  refine ve_in 3 ?_
  obtain ⟨v6, h3, h⟩ := bind_some h
  refine ot_cl (g_ref17_Length_ok hK h3) ?_
  refine ot_end ?_
  refine ve_un (ks' := [.c (cat Try.f86 p86_4), .c (cat Try.f86 p86_0)]) 3 ?_
  rcases ite_some h with ⟨h4, h⟩ | ⟨h4, h⟩
  ·
   refine ve_sb 32 h4 ?_
   exact ve_arr 2 (g_ref17_Clamp_j2_ok hK h)
  ·
   refine ve_sb 32 h4 ?_
   exact ve_arr 2 (g_ref17_Clamp_j2_ok hK h)
theorem g_ref17_Clamp_ok (hK : KnOk K) (h : g_ref17_Clamp K n v1 v2 v3 = some r) : ACalls Try.prog 86 [.agg (eTCascadeStyle v1), .int .i64 v2, .int .i64 v3] (fun v _ => v = .int .i64 r) := by
  refine acalls_intro (c := cat Try.f86 []) Try.func86 (by kernel_rfl) _ Try.ntmps86 (of_decide_eq_true (by kernel_rfl)) fun M w0 => ?_
  refine ve_cast (s' := ⟨[(0,.agg (eTCascadeStyle v1)),(1,.int .i64 v2),(2,.int .i64 v3)],[],[],[]⟩) (by kernel_rfl) ?_
  unfold g_ref17_Clamp at h
  refine ve_un (ks' := [.c (cat Try.f86 [1, 1, 0]), .c (cat Try.f86 [1, 1, 1])]) 5 ?_
  refine ve_in 3 ?_
  obtain ⟨v4, h1, h⟩ := bind_some h
  refine ot_cl (g_ref17_Length_ok hK h1) ?_
  refine ot_end ?_
  refine ve_un (ks' := [.c (cat Try.f86 p86_5), .c (cat Try.f86 p86_1)]) 3 ?_
  rcases ite_some h with ⟨h2, h⟩ | ⟨h2, h⟩
  ·
   refine ve_sb 20 h2 ?_
   exact ve_arr 2 (g_ref17_Clamp_j1_ok hK h)
  ·
   refine ve_sb 20 h2 ?_
   exact ve_arr 2 (g_ref17_Clamp_j1_ok hK h)
end
def p60_0 : List Nat := ones 6 []
def p60_1 : List Nat := ones 6 [0]
def p60_2 : List Nat := ones 7 []
def p60_3 : List Nat := ones 7 [0]
def p60_4 : List Nat := ones 8 []
def p60_5 : List Nat := [1, 1, 1, 0]
def p60_6 : List Nat := [1, 1, 1, 1]
def p60_7 : List Nat := [1, 1, 1, 1, 0]
def p60_8 : List Nat := ones 5 []
def p60_9 : List Nat := ones 5 [0, 1]
noncomputable section
abbrev cx60 (M : Nat → Prop) (w0 : Base) : Cx := ⟨Try.prog, 39, M, w0⟩
abbrev q60 (M : Nat → Prop) (w0 : Base) (r : (Int × Int)) := bodyPost Try.prog Try.f60 (RetQ M w0 (fun v _ => v = .tup [.int .i64 r.1, .int .i64 r.2]))
def s60_j1 (v4 : TCascadeStyle) (v8 : Int) (v9 : Int) : AS := ⟨[(1,.int .i64 v8),(2,.int .i64 v9),(3,.ptr 3 0)],[(3,eTCascadeStyle v4)],[],[3]⟩
variable {K : Kn} {n : Nat} {M : Nat → Prop} {w0 : Base} {r : (Int × Int)} {v1 : TCascadeStyle} {v2 : Int} {v3 : Int} {v4 : TCascadeStyle} {v8 : Int} {v9 : Int} 
theorem g_ref17_Framed_j1_ok (hK : KnOk K) (h : g_ref17_Framed_j1 K n v4 v8 v9 = some r) : VE (cx60 M w0) (q60 M w0 r) [.c (cat Try.f60 p60_0)] .normal (s60_j1 v4 v8 v9) := by
  unfold g_ref17_Framed_j1 at h
  refine ve_un (ks' := [.c (cat Try.f60 p60_1), .c (cat Try.f60 p60_2)]) 1 ?_
  refine ve_in 1 ?_
  obtain ⟨v10, h6, h⟩ := bind_some h
  refine ot_cl (g_ref17_Edges_ok hK h6) ?_
  obtain ⟨v11, h7, h⟩ := bind_some h
  refine ot_cl (g_ref17_Sum_ok hK h7) ?_
  refine ot_end ?_
  refine ve_un (ks' := [.c (cat Try.f60 p60_3), .c (cat Try.f60 p60_4)]) 1 ?_
  refine ve_pk [1, 2, 3, 10] [3] [] ?_
  obtain ⟨v12, h8, h⟩ := bind_some h
  obtain ⟨v13, h9, h⟩ := bind_some h
  refine ve_dr 2 [(29, .agg (eTCascadeStyle v4)), (30, .int .i64 v8), (31, .int .i64 v12), (32, .int .i64 v11), (33, .int .i64 (w64 (v12 + v11))), (34, .agg (eTCascadeStyle v4)), (35, .int .i64 v9), (36, .int .i64 v13), (37, .int .i64 v11), (38, .int .i64 (w64 (v13 + v11)))] [] [] [stp Try.prog 39 Try.f60 p60_3 10, stp Try.prog 39 Try.f60 p60_3 11] (d_vs [.v 0 1, .v 0 1] (d_c1 (e_c 0 1 31 (g_ref17_Clamp_ok hK h8)) (d_vs [.v 0 1, .v 0 1, .v 0 2, .v 0 2] (d_c1 (e_c 0 1 36 (g_ref17_Clamp_ok hK h9)) (d_vs [.v 0 2, .v 0 2] (d_c1 (e_d 0) (d_c1 (e_d 1) (d_nl)))))))) ?_
  refine ve_rt 1 ?_
  have hr := Option.some.inj h
  subst hr
  exact ve_dt
theorem g_ref17_Framed_ok (hK : KnOk K) (h : g_ref17_Framed K n v1 v2 v3 = some r) : ACalls Try.prog 60 [.agg (eTCascadeStyle v1), .int .i64 v2, .int .i64 v3] (fun v _ => v = .tup [.int .i64 r.1, .int .i64 r.2]) := by
  refine acalls_intro (c := cat Try.f60 []) Try.func60 (by kernel_rfl) _ Try.ntmps60 (of_decide_eq_true (by kernel_rfl)) fun M w0 => ?_
  refine ve_cast (s' := ⟨[(0,.agg (eTCascadeStyle v1)),(1,.int .i64 v2),(2,.int .i64 v3)],[],[],[]⟩) (by kernel_rfl) ?_
  unfold g_ref17_Framed at h
  refine ve_un (ks' := [.c (cat Try.f60 [1, 0]), .c (cat Try.f60 [1, 1])]) 3 ?_
  refine ve_in 1 ?_
  obtain ⟨v4, h1, h⟩ := bind_some h
  refine ot_cl (g_ref17_plain_ok hK h1) ?_
  refine ot_end ?_
  refine ve_un (ks' := [.c (cat Try.f60 [1, 1, 0]), .c (cat Try.f60 [1, 1, 1])]) 1 ?_
  refine ve_in 1 ?_
  obtain ⟨v5, h2, h⟩ := bind_some h
  refine ot_cl (g_ref17_Width_ok hK h2) ?_
  refine ot_end ?_
  refine ve_un (ks' := [.c (cat Try.f60 p60_5), .c (cat Try.f60 p60_6)]) 1 ?_
  refine ve_in 1 ?_
  obtain ⟨v6, h3, h⟩ := bind_some h
  refine ot_cl (g_ref17_Width_ok hK h3) ?_
  refine ot_end ?_
  refine ve_un (ks' := [.c (cat Try.f60 p60_7), .c (cat Try.f60 p60_8)]) 1 ?_
  refine ve_in 2 ?_
  obtain ⟨v7, h4, h⟩ := bind_some h
  refine ot_cl (g_ref17_pixels_ok hK h4) ?_
  refine ot_end ?_
  refine ve_un (ks' := [.c (cat Try.f60 p60_9), .c (cat Try.f60 p60_0)]) 3 ?_
  rcases ite_some h with ⟨h5, h⟩ | ⟨h5, h⟩
  ·
   refine ve_sb 23 h5 ?_
   exact ve_arr 4 (g_ref17_Framed_j1_ok hK h)
  ·
   refine ve_sb 23 h5 ?_
   exact ve_arr 2 (g_ref17_Framed_j1_ok hK h)
end
def p57_0 : List Nat := [1, 1, 1, 1]
def p57_1 : List Nat := [1, 1, 1, 0, 1, 0, 0]
def p57_2 : List Nat := [1, 1, 1, 0, 1, 0, 0, 0, 0]
def p57_3 : List Nat := [1, 1, 1, 0, 1, 0, 0, 0, 1]
def p57_4 : List Nat := [1, 1, 1, 0, 1, 0, 0, 1]
def p57_5 : List Nat := [1, 1, 1, 0, 1, 0, 0, 1, 0, 0, 0]
def p57_6 : List Nat := [1, 1, 1, 0, 1, 0, 0, 1, 0, 0, 1]
def p57_7 : List Nat := [1, 1, 1, 0, 1, 0, 0, 1, 1]
def p57_8 : List Nat := [1, 1, 1, 0, 1, 0]
noncomputable section
abbrev cx57 (M : Nat → Prop) (w0 : Base) : Cx := ⟨Try.prog, 31, M, w0⟩
abbrev q57 (M : Nat → Prop) (w0 : Base) (r : (Int × Int)) := bodyPost Try.prog Try.f57 (RetQ M w0 (fun v _ => v = .tup [.int .i64 r.1, .int .i64 r.2]))
abbrev k57_1 (M : Nat → Prop) (w0 : Base) (r : (Int × Int)) (m1 : Nat) : Kont := kl (cx57 M w0) (q57 M w0 r) [.b 0, .c (cat Try.f57 p57_0)] (cat Try.f57 p57_1) m1
def s57_l1 (v1 : (List TBoxtreeBox)) (v3 : Int) (v4 : Int) (v5 : Int) : AS := ⟨[(0,.sl (List.map eTBoxtreeBox v1)),(6,.int .i64 v3),(7,.int .i64 v4),(8,.int .i64 v5)],[],[],[]⟩
abbrev H57_1 (M : Nat → Prop) (w0 : Base) (r : (Int × Int)) (v1 : (List TBoxtreeBox)) (m1 : Nat) (L1 : Int → Int → Int → Option (Int × Int)) : Prop := ∀ {v3 : Int} {v4 : Int} {v5 : Int}, L1 v3 v4 v5 = some r → LP (cx57 M w0) (q57 M w0 r) [.b 0, .c (cat Try.f57 p57_0)] (cat Try.f57 p57_1) m1 (s57_l1 v1 v3 v4 v5)
variable {K : Kn} {n : Nat} {M : Nat → Prop} {w0 : Base} {r : (Int × Int)} {v1 : (List TBoxtreeBox)} {v2 : TCascadeStyle} {v3 : Int} {v4 : Int} {v5 : Int} {m1 : Nat} {L1 : Int → Int → Int → Option (Int × Int)}
theorem g_ref17_Spread_l1_b_ok (hK : KnOk K) (hL1 : H57_1 M w0 r v1 m1 L1) (h : g_ref17_Spread_l1_b K n v1 L1 v3 v4 v5 = some r) : VE (cx57 M w0) (q57 M w0 r) [.c (cat Try.f57 p57_1), k57_1 M w0 r m1, .b 0, .c (cat Try.f57 p57_0)] .normal (s57_l1 v1 v3 v4 v5) := by
  unfold g_ref17_Spread_l1_b at h
  refine ve_un (ks' := [.c (cat Try.f57 p57_2), .c (cat Try.f57 p57_3), .c (cat Try.f57 p57_4), k57_1 M w0 r m1, .b 0, .c (cat Try.f57 p57_0)]) 2 ?_
  refine ve_in 2 ?_
  refine ot_sp (y_len eTBoxtreeBox v1) ?_
  refine ot_end ?_
  rcases ite_some h with ⟨h3, h⟩ | ⟨h3, h⟩
  ·
   refine ve_sb 13 h3 ?_
   refine ve_un (ks' := [.c (cat Try.f57 p57_5), .c (cat Try.f57 p57_6), .b 1, .c (cat Try.f57 p57_7), k57_1 M w0 r m1, .b 0, .c (cat Try.f57 p57_0)]) 5 ?_
   refine ve_in 2 ?_
   obtain ⟨h4, h⟩ := chk_some h
   refine ot_sp (y_ixs eTBoxtreeBox xTBoxtreeBox h4 (eTBoxtreeBox_len) (xTBoxtreeBox_eq)) ?_
   refine ot_end ?_
   exact ve_arr 5 (lp_back (hL1 h))
  ·
   refine ve_sb 13 h3 ?_
   refine ve_rt 8 ?_
   have hr := Option.some.inj h
   subst hr
   exact ve_dt
theorem g_ref17_Spread_l1_ok (hK : KnOk K) (m : Nat) : H57_1 M w0 r v1 m (g_ref17_Spread_l1 K n v1 m) := by
  induction m with
 | zero => intro v3 v4 v5 h; cases h
 | succ m ih => intro v3 v4 v5 h; have h : g_ref17_Spread_l1_b K n v1 (g_ref17_Spread_l1 K n v1 m) v3 v4 v5 = some r := h; exact lp_round (g_ref17_Spread_l1_b_ok hK ih h)
theorem g_ref17_Spread_ok (hK : KnOk K) (h : g_ref17_Spread K n v1 v2 = some r) : ACalls Try.prog 57 [.sl (List.map eTBoxtreeBox v1), .agg (eTCascadeStyle v2)] (fun v _ => v = .tup [.int .i64 r.1, .int .i64 r.2]) := by
  refine acalls_intro (c := cat Try.f57 []) Try.func57 (by kernel_rfl) _ Try.ntmps57 (of_decide_eq_true (by kernel_rfl)) fun M w0 => ?_
  refine ve_cast (s' := ⟨[(0,.sl (List.map eTBoxtreeBox v1)),(1,.agg (eTCascadeStyle v2))],[],[],[]⟩) (by kernel_rfl) ?_
  unfold g_ref17_Spread at h
  exact ve_arr 10 (lp_en (p := p57_8) n (g_ref17_Spread_l1_ok hK n h))
end
def p101_0 : List Nat := [1, 1, 0, 1, 0, 0]
def p101_1 : List Nat := [1, 1, 0, 1, 0, 0, 0, 0]
def p101_2 : List Nat := [1, 1, 0, 1, 0, 0, 0, 1]
def p101_3 : List Nat := [1, 1, 0, 1, 0, 0, 1]
def p101_4 : List Nat := [1, 1, 0, 1, 0, 0, 1, 0, 0, 0]
def p101_5 : List Nat := [1, 1, 0, 1, 0, 0, 1, 0, 0, 1]
def p101_6 : List Nat := [1, 1, 0, 1, 0, 0, 1, 1]
def p101_7 : List Nat := [1, 1, 0, 1, 0]
noncomputable section
abbrev cx101 (M : Nat → Prop) (w0 : Base) : Cx := ⟨Try.prog, 19, M, w0⟩
abbrev q101 (M : Nat → Prop) (w0 : Base) (r : Bool) := bodyPost Try.prog Try.f101 (RetQ M w0 (fun v _ => v = .bool r))
abbrev k101_1 (M : Nat → Prop) (w0 : Base) (r : Bool) (m1 : Nat) : Kont := kl (cx101 M w0) (q101 M w0 r) [.b 0, .c (cat Try.f101 [1, 1, 1])] (cat Try.f101 p101_0) m1
def s101_l1 (v2 : (List TBoxtreeBox)) (v4 : Int) : AS := ⟨[(3,.ref 1006),(4,.int .i64 v4)],[],[(1006,⟨50,59,List.map eTBoxtreeBox v2⟩)],[1006]⟩
abbrev H101_1 (M : Nat → Prop) (w0 : Base) (r : Bool) (v2 : (List TBoxtreeBox)) (m1 : Nat) (L1 : Int → Option Bool) : Prop := ∀ {v4 : Int}, L1 v4 = some r → LP (cx101 M w0) (q101 M w0 r) [.b 0, .c (cat Try.f101 [1, 1, 1])] (cat Try.f101 p101_0) m1 (s101_l1 v2 v4)
variable {K : Kn} {n : Nat} {M : Nat → Prop} {w0 : Base} {r : Bool} {v1 : TBoxtreeBox} {v2 : (List TBoxtreeBox)} {v4 : Int} {m1 : Nat} {L1 : Int → Option Bool}
theorem g_ref17_outer_l1_b_ok (hK : KnOk K) (hL1 : H101_1 M w0 r v2 m1 L1) (h : g_ref17_outer_l1_b K n v2 L1 v4 = some r) : VE (cx101 M w0) (q101 M w0 r) [.c (cat Try.f101 p101_0), k101_1 M w0 r m1, .b 0, .c (cat Try.f101 [1, 1, 1])] .normal (s101_l1 v2 v4) := by
  unfold g_ref17_outer_l1_b at h
  refine ve_un (ks' := [.c (cat Try.f101 p101_1), .c (cat Try.f101 p101_2), .c (cat Try.f101 p101_3), k101_1 M w0 r m1, .b 0, .c (cat Try.f101 [1, 1, 1])]) 2 ?_
  refine ve_in 2 ?_
  refine ot_sp (y_len eTBoxtreeBox v2) ?_
  refine ot_end ?_
  rcases ite_some h with ⟨h6, h⟩ | ⟨h6, h⟩
  ·
   refine ve_sb 10 h6 ?_
   refine ve_un (ks' := [.c (cat Try.f101 p101_4), .c (cat Try.f101 p101_5), .b 1, .c (cat Try.f101 p101_6), k101_1 M w0 r m1, .b 0, .c (cat Try.f101 [1, 1, 1])]) 5 ?_
   refine ve_in 2 ?_
   obtain ⟨h7, h⟩ := chk_some h
   refine ot_sp (y_ixr 1006 59 eTBoxtreeBox h7) ?_
   refine ot_go 4 1 ?_
   refine ot_sp (y_ldr 3 0 eTBoxtreeBox xTBoxtreeBox (inb_spec h7).2 (xTBoxtreeBox_eq)) ?_
   refine ot_end ?_
   obtain ⟨v5, h8, h⟩ := bind_some h
   have h8 := Option.some.inj h8
   refine ve_go (ks' := [.c (cat Try.f101 p101_5), .b 1, .c (cat Try.f101 p101_6), k101_1 M w0 r m1, .b 0, .c (cat Try.f101 [1, 1, 1])]) 0 ⟨[(3,.ref 1006),(4,.int .i64 v4),(18,.bool v5)],[],[(1006,⟨50,59,List.map eTBoxtreeBox v2⟩)],[1006]⟩ ?_ (by subst h8; kernel_rfl)
   rcases ite_some h with ⟨h9, h⟩ | ⟨h9, h⟩
   ·
    refine ve_sb 18 h9 ?_
    refine ve_rt 9 ?_
    have hr := Option.some.inj h
    subst hr
    exact ve_d1
   ·
    refine ve_sb 18 h9 ?_
    exact ve_arr 4 (lp_back (hL1 h))
  ·
   refine ve_sb 10 h6 ?_
   refine ve_rt 8 ?_
   have hr := Option.some.inj h
   subst hr
   exact ve_d1
theorem g_ref17_outer_l1_ok (hK : KnOk K) (m : Nat) : H101_1 M w0 r v2 m (g_ref17_outer_l1 K n v2 m) := by
  induction m with
 | zero => intro v4 h; cases h
 | succ m ih => intro v4 h; have h : g_ref17_outer_l1_b K n v2 (g_ref17_outer_l1 K n v2 m) v4 = some r := h; exact lp_round (g_ref17_outer_l1_b_ok hK ih h)
theorem g_ref17_outer_ok (hK : KnOk K) (h : g_ref17_outer K n v1 = some r) : ACalls Try.prog 101 [.agg (xTBoxtreeBox v1)] (fun v _ => v = .bool r) := by
  refine acalls_intro (c := cat Try.f101 []) Try.func101 (by kernel_rfl) _ Try.ntmps101 (of_decide_eq_true (by kernel_rfl)) fun M w0 => ?_
  refine ve_cast (s' := ⟨[(0,.agg (xTBoxtreeBox v1))],[],[],[]⟩) (by kernel_rfl) ?_
  unfold g_ref17_outer at h
  refine ve_un (ks' := [.c (cat Try.f101 [1, 0]), .c (cat Try.f101 [1, 1])]) 3 ?_
  refine ve_in 1 ?_
  obtain ⟨v2, h1, h⟩ := bind_some h
  refine ot_co 1006 (g_ref17_Inside_ok hK h1) (one_ref 25) ?_
  refine ot_end ?_
  exact ve_arr 4 (lp_en (p := p101_7) n (g_ref17_outer_l1_ok hK n h))
end
def p80_0 : List Nat := ones 6 []
def p80_1 : List Nat := ones 5 [0, 1, 0, 0]
def p80_2 : List Nat := ones 5 [0, 1, 0, 0, 0, 0]
def p80_3 : List Nat := ones 5 [0, 1, 0, 0, 0, 1]
def p80_4 : List Nat := ones 5 [0, 1, 0, 0, 1]
def p80_5 : List Nat := ones 5 [0, 1, 0, 0, 1, 0, 0, 0]
def p80_6 : List Nat := ones 5 [0, 1, 0, 0, 1, 0, 0, 1]
def p80_7 : List Nat := ones 5 [0, 1, 0, 0, 1, 1]
def p80_8 : List Nat := ones 6 [0]
def p80_9 : List Nat := ones 7 []
def p80_10 : List Nat := [1, 1, 0, 0]
def p80_11 : List Nat := [1, 1, 0, 1]
def p80_12 : List Nat := [1, 1, 0, 1, 0, 0]
def p80_13 : List Nat := [1, 1, 0, 1, 0, 1]
def p80_14 : List Nat := [1, 1, 0, 1, 0, 1, 0]
def p80_15 : List Nat := [1, 1, 0, 1, 0, 1, 1]
def p80_16 : List Nat := ones 5 [0, 1, 0]
noncomputable section
abbrev cx80 (M : Nat → Prop) (w0 : Base) : Cx := ⟨Try.prog, 52, M, w0⟩
abbrev q80 (M : Nat → Prop) (w0 : Base) (r : (Int × Int)) := bodyPost Try.prog Try.f80 (RetQ M w0 (fun v _ => v = .tup [.int .i64 r.1, .int .i64 r.2]))
abbrev k80_1 (M : Nat → Prop) (w0 : Base) (r : (Int × Int)) (m1 : Nat) : Kont := kl (cx80 M w0) (q80 M w0 r) [.b 0, .c (cat Try.f80 p80_0)] (cat Try.f80 p80_1) m1
def s80_l1 (v2 : (List TBoxtreeBox)) (v8 : Int) (v9 : Int) (v10 : Int) : AS := ⟨[(4,.ref 1013),(7,.int .i64 v8),(8,.int .i64 v9),(9,.int .i64 v10)],[],[(1013,⟨50,59,List.map eTBoxtreeBox v2⟩)],[1013]⟩
abbrev H80_1 (M : Nat → Prop) (w0 : Base) (r : (Int × Int)) (v2 : (List TBoxtreeBox)) (m1 : Nat) (L1 : Int → Int → Int → Option (Int × Int)) : Prop := ∀ {v8 : Int} {v9 : Int} {v10 : Int}, L1 v8 v9 v10 = some r → LP (cx80 M w0) (q80 M w0 r) [.b 0, .c (cat Try.f80 p80_0)] (cat Try.f80 p80_1) m1 (s80_l1 v2 v8 v9 v10)
variable {K : Kn} {n : Nat} {M : Nat → Prop} {w0 : Base} {r : (Int × Int)} {v1 : TBoxtreeBox} {v2 : (List TBoxtreeBox)} {v8 : Int} {v9 : Int} {v10 : Int} {m1 : Nat} {L1 : Int → Int → Int → Option (Int × Int)}
theorem g_ref17_contents_l1_b_ok (hK : KnOk K) (hL1 : H80_1 M w0 r v2 m1 L1) (h : g_ref17_contents_l1_b K n v2 L1 v8 v9 v10 = some r) : VE (cx80 M w0) (q80 M w0 r) [.c (cat Try.f80 p80_1), k80_1 M w0 r m1, .b 0, .c (cat Try.f80 p80_0)] .normal (s80_l1 v2 v8 v9 v10) := by
  unfold g_ref17_contents_l1_b at h
  refine ve_un (ks' := [.c (cat Try.f80 p80_2), .c (cat Try.f80 p80_3), .c (cat Try.f80 p80_4), k80_1 M w0 r m1, .b 0, .c (cat Try.f80 p80_0)]) 2 ?_
  refine ve_in 2 ?_
  refine ot_sp (y_len eTBoxtreeBox v2) ?_
  refine ot_end ?_
  rcases ite_some h with ⟨h10, h⟩ | ⟨h10, h⟩
  ·
   refine ve_sb 31 h10 ?_
   refine ve_un (ks' := [.c (cat Try.f80 p80_5), .c (cat Try.f80 p80_6), .b 1, .c (cat Try.f80 p80_7), k80_1 M w0 r m1, .b 0, .c (cat Try.f80 p80_0)]) 5 ?_
   refine ve_in 2 ?_
   obtain ⟨h11, h⟩ := chk_some h
   refine ot_sp (y_ixr 1013 59 eTBoxtreeBox h11) ?_
   refine ot_sp (y_ldr 50 0 eTBoxtreeBox xTBoxtreeBox (inb_spec h11).2 (xTBoxtreeBox_eq)) ?_
   obtain ⟨v11, h12, h⟩ := bind_some h
   refine ot_cl (hK.k_g_ref17_Widths h12) ?_
   refine ot_end ?_
   exact ve_arr 5 (lp_back (hL1 h))
  ·
   refine ve_sb 31 h10 ?_
   refine ve_un (ks' := [.c (cat Try.f80 p80_8), .c (cat Try.f80 p80_9)]) 6 ?_
   refine ve_in 1 ?_
   obtain ⟨v12, h13, h⟩ := bind_some h
   refine ot_cl (g_ref17_Width_ok hK h13) ?_
   refine ot_go 3 1 ?_
   obtain ⟨v13, h14, h⟩ := bind_some h
   refine ot_cl (g_ref17_Width_ok hK h14) ?_
   refine ot_end ?_
   refine ve_rt 1 ?_
   have hr := Option.some.inj h
   subst hr
   exact ve_dt
theorem g_ref17_contents_l1_ok (hK : KnOk K) (m : Nat) : H80_1 M w0 r v2 m (g_ref17_contents_l1 K n v2 m) := by
  induction m with
 | zero => intro v8 v9 v10 h; cases h
 | succ m ih => intro v8 v9 v10 h; have h : g_ref17_contents_l1_b K n v2 (g_ref17_contents_l1 K n v2 m) v8 v9 v10 = some r := h; exact lp_round (g_ref17_contents_l1_b_ok hK ih h)
theorem g_ref17_contents_ok (hK : KnOk K) (h : g_ref17_contents K n v1 = some r) : ACalls Try.prog 80 [.agg (xTBoxtreeBox v1)] (fun v _ => v = .tup [.int .i64 r.1, .int .i64 r.2]) := by
  refine acalls_intro (c := cat Try.f80 []) Try.func80 (by kernel_rfl) _ Try.ntmps80 (of_decide_eq_true (by kernel_rfl)) fun M w0 => ?_
  refine ve_cast (s' := ⟨[(0,.agg (xTBoxtreeBox v1))],[],[],[]⟩) (by kernel_rfl) ?_
  unfold g_ref17_contents at h
  refine ve_un (ks' := [.c (cat Try.f80 [1, 0]), .c (cat Try.f80 [1, 1])]) 3 ?_
  refine ve_in 1 ?_
  obtain ⟨v2, h1, h⟩ := bind_some h
  refine ot_co 1013 (g_ref17_Inside_ok hK h1) (one_ref 25) ?_
  refine ot_end ?_
  refine ve_un (ks' := [.c (cat Try.f80 p80_10), .c (cat Try.f80 p80_11), .c (cat Try.f80 [1, 1, 1])]) 2 ?_
  refine ve_in 1 ?_
  obtain ⟨v3, h2, h⟩ := bind_some h
  refine ot_cl (g_ref17_outer_ok hK h2) ?_
  refine ot_end ?_
  rcases ite_some h with ⟨h3, h⟩ | ⟨h3, h⟩
  ·
   refine ve_sb 16 h3 ?_
   refine ve_un (ks' := [.c (cat Try.f80 p80_12), .c (cat Try.f80 p80_13), .c (cat Try.f80 [1, 1, 1])]) 2 ?_
   refine ve_in 3 ?_
   refine ot_f 1013 ?_
   obtain ⟨v4, h4, h⟩ := bind_some h
   refine ot_cl (g_ref17_Spread_ok hK h4) ?_
   refine ot_end ?_
   refine ve_un (ks' := [.c (cat Try.f80 p80_14), .c (cat Try.f80 p80_15), .c (cat Try.f80 [1, 1, 1])]) 1 ?_
   refine ve_in 1 ?_
   obtain ⟨v5, h5, h⟩ := bind_some h
   refine ot_cl (g_ref17_Width_ok hK h5) ?_
   refine ot_go 3 1 ?_
   obtain ⟨v6, h6, h⟩ := bind_some h
   refine ot_cl (g_ref17_Width_ok hK h6) ?_
   refine ot_end ?_
   refine ve_rt 2 ?_
   have hr := Option.some.inj h
   subst hr
   exact ve_dt
  ·
   refine ve_sb 16 h3 ?_
   exact ve_arr 10 (lp_en (p := p80_16) n (g_ref17_contents_l1_ok hK n h))
end
noncomputable section
variable {K : Kn} {n : Nat} {M : Nat → Prop} {w0 : Base} {r : (Int × Int)} {v1 : TBoxtreeBox} 
theorem g_ref17_Widths_ok (hK : KnOk K) (h : g_ref17_Widths K n v1 = some r) : ACalls Try.prog 59 [.agg (xTBoxtreeBox v1)] (fun v _ => v = .tup [.int .i64 r.1, .int .i64 r.2]) := by
  refine acalls_intro (c := cat Try.f59 []) Try.func59 (by kernel_rfl) _ Try.ntmps59 (of_decide_eq_true (by kernel_rfl)) fun M w0 => ?_
  refine ve_cast (s' := ⟨[(0,.agg (xTBoxtreeBox v1))],[],[],[]⟩) (by kernel_rfl) ?_
  unfold g_ref17_Widths at h
  refine ve_un (ks' := [.c (cat Try.f59 [1, 0]), .c (cat Try.f59 [1, 1])]) 3 ?_
  refine ve_in 1 ?_
  obtain ⟨v2, h1, h⟩ := bind_some h
  refine ot_cl (g_ref17_contents_ok hK h1) ?_
  refine ot_end ?_
  refine ve_un (ks' := [.c (cat Try.f59 [1, 1, 0]), .c (cat Try.f59 [1, 1, 1])]) 1 ?_
  refine ve_in 4 ?_
  obtain ⟨v3, h2, h⟩ := bind_some h
  refine ot_cl (g_ref17_Framed_ok hK h2) ?_
  refine ot_end ?_
  refine ve_rt 1 ?_
  have hr := Option.some.inj h
  subst hr
  exact ve_dt
end
def p30_0 : List Nat := ones 5 []
def p30_1 : List Nat := [1, 1, 1, 1, 0, 1, 0, 0]
def p30_2 : List Nat := [1, 1, 1, 1, 0, 1, 0, 0, 1, 1]
def p30_3 : List Nat := [1, 1, 1, 1, 0, 1, 0, 0, 0, 0]
def p30_4 : List Nat := [1, 1, 1, 1, 0, 1, 0, 0, 0, 1]
def p30_5 : List Nat := [1, 1, 1, 1, 0, 1, 0, 0, 1]
def p30_6 : List Nat := [1, 1, 1, 1, 0, 1, 0, 0, 1, 0, 0, 0]
def p30_7 : List Nat := [1, 1, 1, 1, 0, 1, 0, 0, 1, 0, 0, 1]
def p30_8 : List Nat := [1, 1, 1, 1, 0, 1, 0, 0, 1, 0, 0, 1, 0, 1]
def p30_9 : List Nat := [1, 1, 1, 1, 0, 1, 0, 0, 1, 0, 0, 1, 1]
def p30_10 : List Nat := [1, 1, 1, 1, 0, 1, 0, 0, 1, 0, 0, 1, 1, 1, 1]
def p30_11 : List Nat := ones 5 [0]
def p30_12 : List Nat := ones 6 []
def p30_13 : List Nat := [1, 1, 1, 1, 0, 1, 0]
noncomputable section
abbrev cx30 (M : Nat → Prop) (w0 : Base) : Cx := ⟨Try.prog, 55, M, w0⟩
abbrev q30 (M : Nat → Prop) (w0 : Base) (r : (Int × Int)) := bodyPost Try.prog Try.f30 (RetQ M w0 (fun v _ => v = .tup [.int .i64 r.1, .int .i64 r.2]))
abbrev k30_1 (M : Nat → Prop) (w0 : Base) (r : (Int × Int)) (m1 : Nat) : Kont := kl (cx30 M w0) (q30 M w0 r) [.b 0, .c (cat Try.f30 p30_0)] (cat Try.f30 p30_1) m1
def s30_j2 (v1 : TBoxtreeBox) (v2 : (List TBoxtreeBox)) (v9 : Int) (v12 : Int) (v13 : Int) : AS := ⟨[(1,.ptr 1 0),(4,.ref 1011),(5,.int .i64 v12),(6,.int .i64 v13),(7,.int .i64 v9)],[(1,xTBoxtreeBox v1)],[(1011,⟨50,59,List.map eTBoxtreeBox v2⟩)],[1,1011]⟩
def s30_j1 (v1 : TBoxtreeBox) (v2 : (List TBoxtreeBox)) (v8 : Int) (v9 : Int) (v10 : (Int × Int)) (v11 : Int) : AS := ⟨[(1,.ptr 1 0),(4,.ref 1011),(5,.int .i64 v11),(6,.int .i64 (w64 (v8 + v10.2))),(7,.int .i64 v9)],[(1,xTBoxtreeBox v1)],[(1011,⟨50,59,List.map eTBoxtreeBox v2⟩)],[1,1011]⟩
def s30_l3 (v1 : TBoxtreeBox) (v2 : (List TBoxtreeBox)) (v7 : Int) (v8 : Int) (v9 : Int) : AS := ⟨[(1,.ptr 1 0),(4,.ref 1011),(5,.int .i64 v7),(6,.int .i64 v8),(7,.int .i64 v9)],[(1,xTBoxtreeBox v1)],[(1011,⟨50,59,List.map eTBoxtreeBox v2⟩)],[1,1011]⟩
abbrev H30_1 (M : Nat → Prop) (w0 : Base) (r : (Int × Int)) (v1 : TBoxtreeBox) (v2 : (List TBoxtreeBox)) (m1 : Nat) (L1 : Int → Int → Int → Option (Int × Int)) : Prop := ∀ {v7 : Int} {v8 : Int} {v9 : Int}, L1 v7 v8 v9 = some r → LP (cx30 M w0) (q30 M w0 r) [.b 0, .c (cat Try.f30 p30_0)] (cat Try.f30 p30_1) m1 (s30_l3 v1 v2 v7 v8 v9)
variable {K : Kn} {n : Nat} {M : Nat → Prop} {w0 : Base} {r : (Int × Int)} {v1 : TBoxtreeBox} {v2 : (List TBoxtreeBox)} {v7 : Int} {v8 : Int} {v9 : Int} {v10 : (Int × Int)} {v11 : Int} {v12 : Int} {v13 : Int} {m1 : Nat} {L1 : Int → Int → Int → Option (Int × Int)}
theorem g_ref19_Widths_j2_ok (hK : KnOk K) (hL1 : H30_1 M w0 r v1 v2 m1 L1) (h : g_ref19_Widths_j2 K n v1 v2 v9 L1 v12 v13 = some r) : VE (cx30 M w0) (q30 M w0 r) [.c (cat Try.f30 p30_2), k30_1 M w0 r m1, .b 0, .c (cat Try.f30 p30_0)] .normal (s30_j2 v1 v2 v9 v12 v13) := by
  unfold g_ref19_Widths_j2 at h
  exact ve_arr 1 (lp_back (hL1 h))
theorem g_ref19_Widths_j1_ok (hK : KnOk K) (hL1 : H30_1 M w0 r v1 v2 m1 L1) (h : g_ref19_Widths_j1 K n v1 v2 v8 v9 v10 L1 v11 = some r) : VE (cx30 M w0) (q30 M w0 r) [.b 1, .c (cat Try.f30 p30_2), k30_1 M w0 r m1, .b 0, .c (cat Try.f30 p30_0)] .normal (s30_j1 v1 v2 v8 v9 v10 v11) := by
  unfold g_ref19_Widths_j1 at h
  exact ve_arr 1 (g_ref19_Widths_j2_ok hK hL1 h)
theorem g_ref19_Widths_l3_b_ok (hK : KnOk K) (hL1 : H30_1 M w0 r v1 v2 m1 L1) (h : g_ref19_Widths_l3_b K n v1 v2 L1 v7 v8 v9 = some r) : VE (cx30 M w0) (q30 M w0 r) [.c (cat Try.f30 p30_1), k30_1 M w0 r m1, .b 0, .c (cat Try.f30 p30_0)] .normal (s30_l3 v1 v2 v7 v8 v9) := by
  unfold g_ref19_Widths_l3_b at h
  refine ve_un (ks' := [.c (cat Try.f30 p30_3), .c (cat Try.f30 p30_4), .c (cat Try.f30 p30_5), k30_1 M w0 r m1, .b 0, .c (cat Try.f30 p30_0)]) 2 ?_
  refine ve_in 2 ?_
  refine ot_sp (y_len eTBoxtreeBox v2) ?_
  refine ot_end ?_
  rcases ite_some h with ⟨h7, h⟩ | ⟨h7, h⟩
  ·
   refine ve_sb 15 h7 ?_
   refine ve_un (ks' := [.c (cat Try.f30 p30_6), .c (cat Try.f30 p30_7), .b 1, .c (cat Try.f30 p30_2), k30_1 M w0 r m1, .b 0, .c (cat Try.f30 p30_0)]) 5 ?_
   refine ve_in 2 ?_
   obtain ⟨h8, h⟩ := chk_some h
   refine ot_sp (y_ixr 1011 59 eTBoxtreeBox h8) ?_
   refine ot_sp (y_ldr 50 0 eTBoxtreeBox xTBoxtreeBox (inb_spec h8).2 (xTBoxtreeBox_eq)) ?_
   obtain ⟨v10, h9, h⟩ := bind_some h
   refine ot_cl (g_ref17_Widths_ok hK h9) ?_
   refine ot_end ?_
   refine ve_un (ks' := [.c (cat Try.f30 p30_8), .c (cat Try.f30 p30_9), .b 1, .c (cat Try.f30 p30_2), k30_1 M w0 r m1, .b 0, .c (cat Try.f30 p30_0)]) 3 ?_
   rcases ite_some h with ⟨h10, h⟩ | ⟨h10, h⟩
   ·
    refine ve_sb 29 h10 ?_
    exact ve_arr 8 (g_ref19_Widths_j2_ok hK hL1 h)
   ·
    refine ve_sb 29 h10 ?_
    refine ve_un (ks' := [.c (cat Try.f30 p30_10), .b 1, .c (cat Try.f30 p30_2), k30_1 M w0 r m1, .b 0, .c (cat Try.f30 p30_0)]) 6 ?_
    rcases ite_some h with ⟨h11, h⟩ | ⟨h11, h⟩
    ·
     refine ve_sb 41 h11 ?_
     exact ve_arr 2 (g_ref19_Widths_j1_ok hK hL1 h)
    ·
     refine ve_sb 41 h11 ?_
     exact ve_arr 2 (g_ref19_Widths_j1_ok hK hL1 h)
  ·
   refine ve_sb 15 h7 ?_
   refine ve_un (ks' := [.c (cat Try.f30 p30_11), .c (cat Try.f30 p30_12)]) 6 ?_
   refine ve_in 4 ?_
   obtain ⟨v14, h12, h⟩ := bind_some h
   refine ot_cl (g_ref17_Framed_ok hK h12) ?_
   refine ot_end ?_
   refine ve_rt 1 ?_
   have hr := Option.some.inj h
   subst hr
   exact ve_dt
theorem g_ref19_Widths_l3_ok (hK : KnOk K) (m : Nat) : H30_1 M w0 r v1 v2 m (g_ref19_Widths_l3 K n v1 v2 m) := by
  induction m with
 | zero => intro v7 v8 v9 h; cases h
 | succ m ih => intro v7 v8 v9 h; have h : g_ref19_Widths_l3_b K n v1 v2 (g_ref19_Widths_l3 K n v1 v2 m) v7 v8 v9 = some r := h; exact lp_round (g_ref19_Widths_l3_b_ok hK ih h)
theorem g_ref19_Widths_ok (hK : KnOk K) (h : g_ref19_Widths K n v1 = some r) : ACalls Try.prog 30 [.agg (xTBoxtreeBox v1)] (fun v _ => v = .tup [.int .i64 r.1, .int .i64 r.2]) := by
  refine acalls_intro (c := cat Try.f30 []) Try.func30 (by kernel_rfl) _ Try.ntmps30 (of_decide_eq_true (by kernel_rfl)) fun M w0 => ?_
  refine ve_cast (s' := ⟨[(0,.agg (xTBoxtreeBox v1))],[],[],[]⟩) (by kernel_rfl) ?_
  unfold g_ref19_Widths at h
  refine ve_un (ks' := [.c (cat Try.f30 [1, 0]), .c (cat Try.f30 [1, 1])]) 3 ?_
  refine ve_in 1 ?_
  obtain ⟨v2, h1, h⟩ := bind_some h
  refine ot_co 1011 (g_ref17_Inside_ok hK h1) (one_ref 25) ?_
  refine ot_end ?_
  exact ve_arr 8 (lp_en (p := p30_13) n (g_ref19_Widths_l3_ok hK n h))
end
def p10_0 : List Nat := ones 6 []
def p10_1 : List Nat := [1, 1, 0, 0]
def p10_2 : List Nat := [1, 1, 0, 1]
def p10_3 : List Nat := [1, 1, 1, 0]
def p10_4 : List Nat := [1, 1, 1, 1]
def p10_5 : List Nat := [1, 1, 1, 1, 0]
def p10_6 : List Nat := ones 5 []
def p10_7 : List Nat := ones 5 [0]
noncomputable section
abbrev cx10 (M : Nat → Prop) (w0 : Base) : Cx := ⟨Try.prog, 33, M, w0⟩
abbrev q10 (M : Nat → Prop) (w0 : Base) (r : Bool) := bodyPost Try.prog Try.f10 (RetQ M w0 (fun v _ => v = .bool r))
def s10_j1 (v9 : Bool) : AS := ⟨[(2,.bool v9)],[],[],[]⟩
variable {K : Kn} {n : Nat} {M : Nat → Prop} {w0 : Base} {r : Bool} {v1 : (List TKnapsackref17Spec)} {v9 : Bool} 
theorem g_law19_FlexWidths_j1_ok (hK : KnOk K) (h : g_law19_FlexWidths_j1 K n v9 = some r) : VE (cx10 M w0) (q10 M w0 r) [.c (cat Try.f10 p10_0)] .normal (s10_j1 v9) := by
  unfold g_law19_FlexWidths_j1 at h
  refine ve_rt 1 ?_
  have hr := Option.some.inj h
  subst hr
  exact ve_d1
theorem g_law19_FlexWidths_ok (hK : KnOk K) (h : g_law19_FlexWidths K n v1 = some r) : ACalls Try.prog 10 [.sl (List.map eTKnapsackref17Spec v1)] (fun v _ => v = .bool r) := by
  refine acalls_intro (c := cat Try.f10 []) Try.func10 (by kernel_rfl) _ Try.ntmps10 (of_decide_eq_true (by kernel_rfl)) fun M w0 => ?_
  refine ve_cast (s' := ⟨[(0,.sl (List.map eTKnapsackref17Spec v1))],[],[],[]⟩) (by kernel_rfl) ?_
  unfold g_law19_FlexWidths at h
  refine ve_un (ks' := [.c (cat Try.f10 [1, 0, 0]), .c (cat Try.f10 [1, 0, 1]), .c (cat Try.f10 [1, 1])]) 4 ?_
  refine ve_in 0 ?_
  obtain ⟨v2, h1, h⟩ := bind_some h
  refine ot_cl (g_law19_fit_ok hK h1) ?_
  refine ot_end ?_
  rcases ite_some h with ⟨h2, h⟩ | ⟨h2, h⟩
  ·
   refine ve_sb 8 h2 ?_
   refine ve_rt 5 ?_
   have hr := Option.some.inj h
   subst hr
   exact ve_d1
  ·
   refine ve_sb 8 h2 ?_
   refine ve_un (ks' := [.c (cat Try.f10 p10_1), .c (cat Try.f10 p10_2), .c (cat Try.f10 [1, 1, 1])]) 4 ?_
   refine ve_in 1 ?_
   obtain ⟨v3, h3, h⟩ := bind_some h
   refine ot_cl (g_law19_fits_ok hK h3) ?_
   refine ot_end ?_
   rcases ite_some h with ⟨h4, h⟩ | ⟨h4, h⟩
   ·
    refine ve_sb 11 h4 ?_
    refine ve_rt 5 ?_
    have hr := Option.some.inj h
    subst hr
    exact ve_d1
   ·
    refine ve_sb 11 h4 ?_
    refine ve_un (ks' := [.c (cat Try.f10 p10_3), .c (cat Try.f10 p10_4)]) 3 ?_
    refine ve_in 1 ?_
    obtain ⟨v4, h5, h⟩ := bind_some h
    refine ot_co 1014 (g_law19_box_ok hK h5) (one_agg (i := 58) (by kernel_rfl)) ?_
    obtain ⟨v5, h6, h⟩ := bind_some h
    refine ot_cl (g_law17_Env_ok hK h6) ?_
    refine ot_f 1014 ?_
    obtain ⟨v6, h7, h⟩ := bind_some h
    refine ot_cl (g_flex_Widths_ok hK h7) ?_
    refine ot_end ?_
    refine ve_un (ks' := [.c (cat Try.f10 p10_5), .c (cat Try.f10 p10_6)]) 1 ?_
    refine ve_in 1 ?_
    obtain ⟨v7, h8, h⟩ := bind_some h
    refine ot_co 1021 (g_law19_box_ok hK h8) (one_agg (i := 58) (by kernel_rfl)) ?_
    refine ot_f 1021 ?_
    obtain ⟨v8, h9, h⟩ := bind_some h
    refine ot_cl (g_ref19_Widths_ok hK h9) ?_
    refine ot_end ?_
    refine ve_un (ks' := [.c (cat Try.f10 p10_7), .c (cat Try.f10 p10_0)]) 1 ?_
    refine ve_in 4 ?_
    rcases ite_some h with ⟨h10, h⟩ | ⟨h10, h⟩
    ·
     refine ot_sb 28 h10 ?_
     refine ot_end ?_
     exact ve_arr 0 (g_law19_FlexWidths_j1_ok hK h)
    ·
     refine ot_sb 28 h10 ?_
     refine ot_end ?_
     exact ve_arr 0 (g_law19_FlexWidths_j1_ok hK h)
end
def p116_0 : List Nat := [1, 0, 1, 0, 0]
def p116_1 : List Nat := [1, 0, 1, 0, 0, 1, 0]
def p116_2 : List Nat := [1, 0, 1, 0, 0, 1, 1]
def p116_3 : List Nat := [1, 0, 1, 0, 0, 1, 1, 0, 0, 1, 0]
def p116_4 : List Nat := [1, 0, 1, 0, 0, 1, 1, 0, 0, 1, 1]
def p116_5 : List Nat := [1, 0, 1, 0, 0, 1, 1, 1]
def p116_6 : List Nat := [1, 0, 1, 0]
noncomputable section
abbrev cx116 (M : Nat → Prop) (w0 : Base) : Cx := ⟨Try.prog, 19, M, w0⟩
abbrev q116 (M : Nat → Prop) (w0 : Base) (r : Int) := bodyPost Try.prog Try.f116 (RetQ M w0 (fun v _ => v = .int .i64 r))
abbrev k116_1 (M : Nat → Prop) (w0 : Base) (r : Int) (m1 : Nat) : Kont := kl (cx116 M w0) (q116 M w0 r) [.b 0, .c (cat Try.f116 [1, 1])] (cat Try.f116 p116_0) m1
def s116_l1 (v1 : (List TBoxtreeBox)) (v2 : Fv) (v4 : Int) : AS := ⟨[(0,.sl (List.map eTBoxtreeBox v1)),(1,.fn v2.id v2.caps),(7,.int .i64 (v1.length : Int)),(8,.int .i64 v4)],[],[],[]⟩
abbrev H116_1 (M : Nat → Prop) (w0 : Base) (r : Int) (v1 : (List TBoxtreeBox)) (v2 : Fv) (m1 : Nat) (L1 : Int → Option Int) : Prop := ∀ {v4 : Int}, L1 v4 = some r → LP (cx116 M w0) (q116 M w0 r) [.b 0, .c (cat Try.f116 [1, 1])] (cat Try.f116 p116_0) m1 (s116_l1 v1 v2 v4)
variable {K : Kn} {n : Nat} {M : Nat → Prop} {w0 : Base} {r : Int} {v1 : (List TBoxtreeBox)} {v2 : Fv} {v4 : Int} {m1 : Nat} {L1 : Int → Option Int}
theorem g_slices_IndexFunc_BoxtreeBox_BoxtreeBox_l1_b_ok (hK : KnOk K) (hL1 : H116_1 M w0 r v1 v2 m1 L1) (h : g_slices_IndexFunc_BoxtreeBox_BoxtreeBox_l1_b K n v1 v2 L1 v4 = some r) : VE (cx116 M w0) (q116 M w0 r) [.c (cat Try.f116 p116_0), k116_1 M w0 r m1, .b 0, .c (cat Try.f116 [1, 1])] .normal (s116_l1 v1 v2 v4) := by
  unfold g_slices_IndexFunc_BoxtreeBox_BoxtreeBox_l1_b at h
  refine ve_un (ks' := [.c (cat Try.f116 p116_1), .c (cat Try.f116 p116_2), k116_1 M w0 r m1, .b 0, .c (cat Try.f116 [1, 1])]) 3 ?_
  rcases ite_some h with ⟨h5, h⟩ | ⟨h5, h⟩
  ·
   refine ve_sb 9 h5 ?_
   refine ve_un (ks' := [.c (cat Try.f116 p116_3), .c (cat Try.f116 p116_4), .b 1, .c (cat Try.f116 p116_5), k116_1 M w0 r m1, .b 0, .c (cat Try.f116 [1, 1])]) 7 ?_
   refine ve_in 3 ?_
   obtain ⟨h6, h⟩ := chk_some h
   refine ot_sp (y_ixs eTBoxtreeBox xTBoxtreeBox h6 (eTBoxtreeBox_len) (xTBoxtreeBox_eq)) ?_
   refine ot_go 5 1 ?_
   obtain ⟨v5, h7, h⟩ := bind_some h
   refine ot_cd (hK.d_TBoxtreeBox__Bool h7) ?_
   refine ot_end ?_
   rcases ite_some h with ⟨h8, h⟩ | ⟨h8, h⟩
   ·
    refine ve_sb 16 h8 ?_
    refine ve_rt 9 ?_
    have hr := Option.some.inj h
    subst hr
    exact ve_d1
   ·
    refine ve_sb 16 h8 ?_
    exact ve_arr 4 (lp_back (hL1 h))
  ·
   refine ve_sb 9 h5 ?_
   refine ve_rt 8 ?_
   have hr := Option.some.inj h
   subst hr
   exact ve_d1
theorem g_slices_IndexFunc_BoxtreeBox_BoxtreeBox_l1_ok (hK : KnOk K) (m : Nat) : H116_1 M w0 r v1 v2 m (g_slices_IndexFunc_BoxtreeBox_BoxtreeBox_l1 K n v1 v2 m) := by
  induction m with
 | zero => intro v4 h; cases h
 | succ m ih => intro v4 h; have h : g_slices_IndexFunc_BoxtreeBox_BoxtreeBox_l1_b K n v1 v2 (g_slices_IndexFunc_BoxtreeBox_BoxtreeBox_l1 K n v1 v2 m) v4 = some r := h; exact lp_round (g_slices_IndexFunc_BoxtreeBox_BoxtreeBox_l1_b_ok hK ih h)
theorem g_slices_IndexFunc_BoxtreeBox_BoxtreeBox_ok (hK : KnOk K) (h : g_slices_IndexFunc_BoxtreeBox_BoxtreeBox K n v1 v2 = some r) : ACalls Try.prog 116 [.sl (List.map eTBoxtreeBox v1), .fn v2.id v2.caps] (fun v _ => v = .int .i64 r) := by
  refine acalls_intro (c := cat Try.f116 []) Try.func116 (by kernel_rfl) _ Try.ntmps116 (of_decide_eq_true (by kernel_rfl)) fun M w0 => ?_
  refine ve_cast (s' := ⟨[(0,.sl (List.map eTBoxtreeBox v1)),(1,.fn v2.id v2.caps)],[],[],[]⟩) (by kernel_rfl) ?_
  unfold g_slices_IndexFunc_BoxtreeBox_BoxtreeBox at h
  refine ve_un (ks' := [.c (cat Try.f116 [1, 0, 0]), .c (cat Try.f116 [1, 0, 1]), .c (cat Try.f116 [1, 1])]) 4 ?_
  refine ve_in 1 ?_
  refine ot_sp (y_len eTBoxtreeBox v1) ?_
  refine ot_end ?_
  exact ve_arr 1 (lp_en (p := p116_6) n (g_slices_IndexFunc_BoxtreeBox_BoxtreeBox_l1_ok hK n h))
end
noncomputable section
variable {K : Kn} {n : Nat} {M : Nat → Prop} {w0 : Base} {r : Bool} {v1 : (List TBoxtreeBox)} {v2 : Fv} 
theorem g_slices_ContainsFunc_BoxtreeBox_BoxtreeBox_ok (hK : KnOk K) (h : g_slices_ContainsFunc_BoxtreeBox_BoxtreeBox K n v1 v2 = some r) : ACalls Try.prog 115 [.sl (List.map eTBoxtreeBox v1), .fn v2.id v2.caps] (fun v _ => v = .bool r) := by
  refine acalls_intro (c := cat Try.f115 []) Try.func115 (by kernel_rfl) _ Try.ntmps115 (of_decide_eq_true (by kernel_rfl)) fun M w0 => ?_
  refine ve_cast (s' := ⟨[(0,.sl (List.map eTBoxtreeBox v1)),(1,.fn v2.id v2.caps)],[],[],[]⟩) (by kernel_rfl) ?_
  unfold g_slices_ContainsFunc_BoxtreeBox_BoxtreeBox at h
  refine ve_un (ks' := [.c (cat Try.f115 [1, 0]), .c (cat Try.f115 [1, 1])]) 3 ?_
  refine ve_in 2 ?_
  obtain ⟨v3, h1, h⟩ := bind_some h
  refine ot_cl (g_slices_IndexFunc_BoxtreeBox_BoxtreeBox_ok hK h1) ?_
  refine ot_end ?_
  refine ve_rt 1 ?_
  have hr := Option.some.inj h
  subst hr
  exact ve_d1
end
def p106_0 : List Nat := [1, 1, 0, 1, 0, 0]
def p106_1 : List Nat := [1, 1, 0, 1, 0, 0, 1, 1, 1]
def p106_2 : List Nat := [1, 1, 0, 1, 0, 0, 1, 0]
def p106_3 : List Nat := [1, 1, 0, 1, 0, 0, 1, 1]
def p106_4 : List Nat := [1, 1, 0, 1, 0, 0, 1, 1, 0, 0, 0]
def p106_5 : List Nat := [1, 1, 0, 1, 0, 0, 1, 1, 0, 0, 1]
def p106_6 : List Nat := [1, 1, 0, 1, 0, 0, 1, 1, 0, 0, 1, 0]
def p106_7 : List Nat := [1, 1, 0, 1, 0, 0, 1, 1, 0, 0, 1, 1]
def p106_8 : List Nat := [1, 1, 0, 1, 0, 0, 1, 1, 0, 0, 1, 1, 0]
def p106_9 : List Nat := [1, 1, 1, 0]
def p106_10 : List Nat := [1, 1, 1, 1]
def p106_11 : List Nat := [1, 1, 0, 0]
def p106_12 : List Nat := [1, 1, 0, 1]
def p106_13 : List Nat := [1, 1, 0, 1, 0]
noncomputable section
abbrev cx106 (M : Nat → Prop) (w0 : Base) : Cx := ⟨Try.prog, 24, M, w0⟩
abbrev q106 (M : Nat → Prop) (w0 : Base) (r : ((List TBoxtreeBox) × Bool)) := bodyPost Try.prog Try.f106 (RetQ M w0 (fun v _ => v = .tup [.sl (List.map eTBoxtreeBox r.1), .bool r.2]))
abbrev k106_1 (M : Nat → Prop) (w0 : Base) (r : ((List TBoxtreeBox) × Bool)) (m1 : Nat) : Kont := kl (cx106 M w0) (q106 M w0 r) [.b 0, .c (cat Try.f106 [1, 1, 1])] (cat Try.f106 p106_0) m1
def s106_j1 (v1 : TBoxtreeBox) (v8 : Int) (v11 : (List TBoxtreeBox)) : AS := ⟨[(4,.ref 19),(8,.sl (List.map eTBoxtreeBox v1.Kids)),(9,.int .i64 (v1.Kids.length : Int)),(10,.int .i64 v8)],[],[(19,⟨50,59,List.map eTBoxtreeBox v11⟩)],[19]⟩
def s106_l2 (v1 : TBoxtreeBox) (v8 : Int) (v9 : (List TBoxtreeBox)) : AS := ⟨[(4,.ref 19),(8,.sl (List.map eTBoxtreeBox v1.Kids)),(9,.int .i64 (v1.Kids.length : Int)),(10,.int .i64 v8)],[],[(19,⟨50,59,List.map eTBoxtreeBox v9⟩)],[19]⟩
abbrev H106_1 (M : Nat → Prop) (w0 : Base) (r : ((List TBoxtreeBox) × Bool)) (v1 : TBoxtreeBox) (m1 : Nat) (L1 : Int → (List TBoxtreeBox) → Option ((List TBoxtreeBox) × Bool)) : Prop := ∀ {v8 : Int} {v9 : (List TBoxtreeBox)}, L1 v8 v9 = some r → LP (cx106 M w0) (q106 M w0 r) [.b 0, .c (cat Try.f106 [1, 1, 1])] (cat Try.f106 p106_0) m1 (s106_l2 v1 v8 v9)
variable {K : Kn} {n : Nat} {M : Nat → Prop} {w0 : Base} {r : ((List TBoxtreeBox) × Bool)} {v1 : TBoxtreeBox} {v8 : Int} {v9 : (List TBoxtreeBox)} {v11 : (List TBoxtreeBox)} {m1 : Nat} {L1 : Int → (List TBoxtreeBox) → Option ((List TBoxtreeBox) × Bool)}
theorem g_block_flow_j1_ok (hK : KnOk K) (hL1 : H106_1 M w0 r v1 m1 L1) (h : g_block_flow_j1 K n v1 v8 L1 v11 = some r) : VE (cx106 M w0) (q106 M w0 r) [.b 1, .c (cat Try.f106 p106_1), k106_1 M w0 r m1, .b 0, .c (cat Try.f106 [1, 1, 1])] .normal (s106_j1 v1 v8 v11) := by
  unfold g_block_flow_j1 at h
  exact ve_arr 2 (lp_back (hL1 h))
theorem g_block_flow_l2_b_ok (hK : KnOk K) (hL1 : H106_1 M w0 r v1 m1 L1) (h : g_block_flow_l2_b K n v1 L1 v8 v9 = some r) : VE (cx106 M w0) (q106 M w0 r) [.c (cat Try.f106 p106_0), k106_1 M w0 r m1, .b 0, .c (cat Try.f106 [1, 1, 1])] .normal (s106_l2 v1 v8 v9) := by
  unfold g_block_flow_l2_b at h
  refine ve_un (ks' := [.c (cat Try.f106 p106_2), .c (cat Try.f106 p106_3), k106_1 M w0 r m1, .b 0, .c (cat Try.f106 [1, 1, 1])]) 3 ?_
  rcases ite_some h with ⟨h13, h⟩ | ⟨h13, h⟩
  ·
   refine ve_sb 11 h13 ?_
   refine ve_un (ks' := [.c (cat Try.f106 p106_4), .c (cat Try.f106 p106_5), .b 1, .c (cat Try.f106 p106_1), k106_1 M w0 r m1, .b 0, .c (cat Try.f106 [1, 1, 1])]) 5 ?_
   refine ve_in 0 ?_
   obtain ⟨h14, h⟩ := chk_some h
   refine ot_sp (y_ixs eTBoxtreeBox xTBoxtreeBox h14 (eTBoxtreeBox_len) (xTBoxtreeBox_eq)) ?_
   refine ot_end ?_
   refine ve_un (ks' := [.c (cat Try.f106 p106_6), .c (cat Try.f106 p106_7), .b 1, .c (cat Try.f106 p106_1), k106_1 M w0 r m1, .b 0, .c (cat Try.f106 [1, 1, 1])]) 1 ?_
   refine ve_in 1 ?_
   obtain ⟨v10, h15, h⟩ := bind_some h
   refine ot_cl (g_block_Flow_ok hK h15) ?_
   refine ot_end ?_
   rcases ite_some h with ⟨h16, h⟩ | ⟨h16, h⟩
   ·
    refine ve_sb 15 h16 ?_
    refine ve_un (ks' := [.c (cat Try.f106 p106_8), .b 1, .c (cat Try.f106 p106_1), k106_1 M w0 r m1, .b 0, .c (cat Try.f106 [1, 1, 1])]) 1 ?_
    refine ve_in 2 ?_
    refine ot_sp (y_bsl eTBoxtreeBox ([(List.getD v1.Kids (v8).toNat default)] : List TBoxtreeBox) (new := [xTBoxtreeBox (List.getD v1.Kids (v8).toNat default)]) (by simp only [List.map_cons, List.map_nil, xTBoxtreeBox_eq])) ?_
    obtain ⟨h17, h⟩ := chk_some h
    refine ot_sp (y_app 19 19 50 59 eTBoxtreeBox (rfl) (eTBoxtreeBox_len) h17) ?_
    refine ot_end ?_
    exact ve_arr 0 (g_block_flow_j1_ok hK hL1 h)
   ·
    refine ve_sb 15 h16 ?_
    exact ve_arr 2 (g_block_flow_j1_ok hK hL1 h)
  ·
   refine ve_sb 11 h13 ?_
   refine ve_un (ks' := [.c (cat Try.f106 p106_9), .c (cat Try.f106 p106_10)]) 6 ?_
   refine ve_in 2 ?_
   refine ot_f 19 ?_
   obtain ⟨v12, h18, h⟩ := bind_some h
   refine ot_cl (g_slices_ContainsFunc_BoxtreeBox_BoxtreeBox_ok hK h18) ?_
   refine ot_end ?_
   refine ve_rt 1 ?_
   have hr := Option.some.inj h
   subst hr
   exact ve_dt
theorem g_block_flow_l2_ok (hK : KnOk K) (m : Nat) : H106_1 M w0 r v1 m (g_block_flow_l2 K n v1 m) := by
  induction m with
 | zero => intro v8 v9 h; cases h
 | succ m ih => intro v8 v9 h; have h : g_block_flow_l2_b K n v1 (g_block_flow_l2 K n v1 m) v8 v9 = some r := h; exact lp_round (g_block_flow_l2_b_ok hK ih h)
theorem g_block_flow_ok (hK : KnOk K) (h : g_block_flow K n v1 = some r) : ACalls Try.prog 106 [.agg (xTBoxtreeBox v1)] (fun v _ => v = .tup [.sl (List.map eTBoxtreeBox r.1), .bool r.2]) := by
  refine acalls_intro (c := cat Try.f106 []) Try.func106 (by kernel_rfl) _ Try.ntmps106 (of_decide_eq_true (by kernel_rfl)) fun M w0 => ?_
  refine ve_cast (s' := ⟨[(0,.agg (xTBoxtreeBox v1))],[],[],[]⟩) (by kernel_rfl) ?_
  unfold g_block_flow at h
  refine ve_un (ks' := [.c (cat Try.f106 p106_11), .c (cat Try.f106 p106_12), .c (cat Try.f106 [1, 1, 1])]) 6 ?_
  refine ve_in 2 ?_
  refine ot_sp (y_len eTBoxtreeBox v1.Kids) ?_
  refine ot_end ?_
  refine ve_un (ks' := [.c (cat Try.f106 p106_13), .b 0, .c (cat Try.f106 [1, 1, 1])]) 1 ?_
  refine ve_w 19 4 50 59 ?_
  exact ve_arr 0 (lp_en (p := p106_13) n (g_block_flow_l2_ok hK n h))
end
end Go.Proofs.Ytlpndemhnpajiaa
