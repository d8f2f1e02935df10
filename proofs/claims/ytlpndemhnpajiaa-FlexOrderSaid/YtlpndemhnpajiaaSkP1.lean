/- The runs of the functions that FlexOrder reaches do what their plain forms say, part 1. Made by a program. -/
import Derived.Test.YtlpndemhnpajiaaSkGk
import Derived.Test.YtlpndemhnpajiaaSkP0
namespace Go.Proofs.Ytlpndemhnpajiaa
open Go.RowKit
set_option maxRecDepth 20000
set_option linter.all false
set_option linter.unusedVariables false
set_option linter.unusedSimpArgs false
noncomputable section
abbrev cx24 (M : Nat → Prop) (w0 : Base) : Cx := ⟨Try.prog, 29, M, w0⟩
abbrev q24 (M : Nat → Prop) (w0 : Base) (r : Bool) := bodyPost Try.prog Try.f24 (RetQ M w0 (fun v _ => v = .bool r))
def s24_j1 (v3 : Bool) : AS := ⟨[(2,.bool v3)],[],[],[]⟩
variable {K : Kn} {n : Nat} {M : Nat → Prop} {w0 : Base} {r : Bool} {v1 : (List TKnapsackref17Spec)} {v3 : Bool} 
theorem g_law19_fits_j1_ok (hK : KnOk K) (h : g_law19_fits_j1 K n v3 = some r) : VE (cx24 M w0) (q24 M w0 r) [.c (cat Try.f24 [1, 1])] .normal (s24_j1 v3) := by
  unfold g_law19_fits_j1 at h
  refine ve_rt 1 ?_
  have hr := Option.some.inj h
  subst hr
  exact ve_d1
theorem g_law19_fits_ok (hK : KnOk K) (h : g_law19_fits K n v1 = some r) : ACalls Try.prog 24 [.sl (List.map eTKnapsackref17Spec v1)] (fun v _ => v = .bool r) := by
  refine acalls_intro (c := cat Try.f24 []) Try.func24 (by kernel_rfl) _ Try.ntmps24 (of_decide_eq_true (by kernel_rfl)) fun M w0 => ?_
  refine ve_cast (s' := ⟨[(0,.sl (List.map eTKnapsackref17Spec v1))],[],[],[]⟩) (by kernel_rfl) ?_
  unfold g_law19_fits at h
  refine ve_un (ks' := [.c (cat Try.f24 [1, 0]), .c (cat Try.f24 [1, 1])]) 3 ?_
  refine ve_pk [0] [] [] ?_
  obtain ⟨v2, h1, h⟩ := bind_some h
  rcases ite_some h with ⟨h2, h⟩ | ⟨h2, h⟩
  ·
   rcases ite_some h with ⟨h3, h⟩ | ⟨h3, h⟩
   ·
    obtain ⟨h4, h⟩ := chk_some h
    obtain ⟨h5, h⟩ := chk_some h
    rcases ite_some h with ⟨h6, h⟩ | ⟨h6, h⟩
    ·
     obtain ⟨h7, h⟩ := chk_some h
     refine ve_dr 1 [(3, .sl (List.map eTKnapsackref17Spec v1)), (4, .bool v2), (5, .bool true), (6, .sl (List.map eTKnapsackref17Spec v1)), (7, .int .i64 (v1.length : Int)), (8, .bool (decide ((v1.length : Int) > 1))), (9, .bool (decide ((v1.length : Int) > 1))), (10, .bool true), (11, .sl (List.map eTKnapsackref17Spec v1)), (12, .cptr (eTKnapsackref17Spec (List.getD v1 (1 : Int).toNat default))), (13, .cptr (List.drop 0 (eTKnapsackref17Spec (List.getD v1 (1 : Int).toNat default)))), (14, .int .u8 ((List.getD v1 (1 : Int).toNat default).Depth)), (15, .sl (List.map eTKnapsackref17Spec v1)), (16, .cptr (eTKnapsackref17Spec (List.getD v1 (0 : Int).toNat default))), (17, .cptr (List.drop 0 (eTKnapsackref17Spec (List.getD v1 (0 : Int).toNat default)))), (18, .int .u8 ((List.getD v1 (0 : Int).toNat default).Depth)), (19, .bool (decide (((List.getD v1 (1 : Int).toNat default).Depth) > ((List.getD v1 (0 : Int).toNat default).Depth)))), (20, .bool (decide (((List.getD v1 (1 : Int).toNat default).Depth) > ((List.getD v1 (0 : Int).toNat default).Depth)))), (21, .bool true), (22, .sl (List.map eTKnapsackref17Spec v1)), (23, .cptr (eTKnapsackref17Spec (List.getD v1 (1 : Int).toNat default))), (24, .cptr (List.drop 1 (eTKnapsackref17Spec (List.getD v1 (1 : Int).toNat default)))), (25, .int .u8 ((List.getD v1 (1 : Int).toNat default).Kind)), (26, .int .u8 (Int.tmod ((List.getD v1 (1 : Int).toNat default).Kind) 2)), (27, .bool ((Int.tmod ((List.getD v1 (1 : Int).toNat default).Kind) 2) == 0)), (28, .bool ((Int.tmod ((List.getD v1 (1 : Int).toNat default).Kind) 2) == 0))] [] [] [stp Try.prog 29 Try.f24 [1, 0] 26] (d_vs [.v 0 1] (d_c1 (e_c 0 1 4 (g_ref17_Few_ok hK h1)) (d_c1 (k_v (lo := 0) (k := 1) (kallS ⟨(by kernel_rfl), (aop_boolc 5 (e := v2) (b := true) h2 (by kernel_rfl) (by kernel_rfl))⟩ (kall0))) (d_vs [.v 0 1] (d_c1 (e_v (lo := 0) (y_len eTKnapsackref17Spec v1)) (d_vs [.v 0 1, .v 0 1] (d_c1 (k_v (lo := 0) (k := 1) (kallS ⟨(by kernel_rfl), (aop_boolc 10 (e := (decide ((v1.length : Int) > 1))) (b := true) h3 (by kernel_rfl) (by kernel_rfl))⟩ (kall0))) (d_vs [.v 0 1] (d_c1 (e_v (lo := 0) (y_ixs eTKnapsackref17Spec eTKnapsackref17Spec h4 (eTKnapsackref17Spec_len) (fun _ => rfl))) (d_vs [.v 0 1, .v 0 1, .v 0 1] (d_c1 (e_v (lo := 0) (y_ixs eTKnapsackref17Spec eTKnapsackref17Spec h5 (eTKnapsackref17Spec_len) (fun _ => rfl))) (d_vs [.v 0 1, .v 0 1, .v 0 1, .v 0 1] (d_c1 (k_v (lo := 0) (k := 1) (kallS ⟨(by kernel_rfl), (aop_boolc 21 (e := (decide (((List.getD v1 (1 : Int).toNat default).Depth) > ((List.getD v1 (0 : Int).toNat default).Depth)))) (b := true) h6 (by kernel_rfl) (by kernel_rfl))⟩ (kall0))) (d_vs [.v 0 1] (d_c1 (e_v (lo := 0) (y_ixs eTKnapsackref17Spec eTKnapsackref17Spec h7 (eTKnapsackref17Spec_len) (fun _ => rfl))) (d_vs [.v 0 1, .v 0 1, .v 0 1, .v 0 1, .v 0 1] (d_c1 (e_d 0) (d_nl)))))))))))))))))) ?_
     exact ve_arr 0 (g_law19_fits_j1_ok hK h)
    ·
     refine ve_dr 1 [(3, .sl (List.map eTKnapsackref17Spec v1)), (4, .bool v2), (5, .bool true), (6, .sl (List.map eTKnapsackref17Spec v1)), (7, .int .i64 (v1.length : Int)), (8, .bool (decide ((v1.length : Int) > 1))), (9, .bool (decide ((v1.length : Int) > 1))), (10, .bool true), (11, .sl (List.map eTKnapsackref17Spec v1)), (12, .cptr (eTKnapsackref17Spec (List.getD v1 (1 : Int).toNat default))), (13, .cptr (List.drop 0 (eTKnapsackref17Spec (List.getD v1 (1 : Int).toNat default)))), (14, .int .u8 ((List.getD v1 (1 : Int).toNat default).Depth)), (15, .sl (List.map eTKnapsackref17Spec v1)), (16, .cptr (eTKnapsackref17Spec (List.getD v1 (0 : Int).toNat default))), (17, .cptr (List.drop 0 (eTKnapsackref17Spec (List.getD v1 (0 : Int).toNat default)))), (18, .int .u8 ((List.getD v1 (0 : Int).toNat default).Depth)), (19, .bool (decide (((List.getD v1 (1 : Int).toNat default).Depth) > ((List.getD v1 (0 : Int).toNat default).Depth)))), (20, .bool (decide (((List.getD v1 (1 : Int).toNat default).Depth) > ((List.getD v1 (0 : Int).toNat default).Depth)))), (21, .bool false), (22, .tup []), (23, .tup []), (24, .tup []), (25, .tup []), (26, .tup []), (27, .tup []), (28, .bool false)] [] [] [stp Try.prog 29 Try.f24 [1, 0] 26] (d_vs [.v 0 1] (d_c1 (e_c 0 1 4 (g_ref17_Few_ok hK h1)) (d_c1 (k_v (lo := 0) (k := 1) (kallS ⟨(by kernel_rfl), (aop_boolc 5 (e := v2) (b := true) h2 (by kernel_rfl) (by kernel_rfl))⟩ (kall0))) (d_vs [.v 0 1] (d_c1 (e_v (lo := 0) (y_len eTKnapsackref17Spec v1)) (d_vs [.v 0 1, .v 0 1] (d_c1 (k_v (lo := 0) (k := 1) (kallS ⟨(by kernel_rfl), (aop_boolc 10 (e := (decide ((v1.length : Int) > 1))) (b := true) h3 (by kernel_rfl) (by kernel_rfl))⟩ (kall0))) (d_vs [.v 0 1] (d_c1 (e_v (lo := 0) (y_ixs eTKnapsackref17Spec eTKnapsackref17Spec h4 (eTKnapsackref17Spec_len) (fun _ => rfl))) (d_vs [.v 0 1, .v 0 1, .v 0 1] (d_c1 (e_v (lo := 0) (y_ixs eTKnapsackref17Spec eTKnapsackref17Spec h5 (eTKnapsackref17Spec_len) (fun _ => rfl))) (d_vs [.v 0 1, .v 0 1, .v 0 1, .v 0 1] (d_c1 (k_v (lo := 0) (k := 1) (kallS ⟨(by kernel_rfl), (aop_boolc 21 (e := (decide (((List.getD v1 (1 : Int).toNat default).Depth) > ((List.getD v1 (0 : Int).toNat default).Depth)))) (b := false) h6 (by kernel_rfl) (by kernel_rfl))⟩ (kall0))) (d_c1 (k_off (lo := 0) (k := 1) (by kernel_rfl) (kallS (by kernel_rfl) (kall0)) (kallS (by kernel_rfl) (kallS (by kernel_rfl) (kall0)))) (d_c1 (k_off (lo := 0) (k := 1) (by kernel_rfl) (kallS (by kernel_rfl) (kall0)) (kallS (by kernel_rfl) (kallS (by kernel_rfl) (kall0)))) (d_c1 (k_off (lo := 0) (k := 1) (by kernel_rfl) (kallS (by kernel_rfl) (kall0)) (kallS (by kernel_rfl) (kallS (by kernel_rfl) (kall0)))) (d_c1 (k_off (lo := 0) (k := 1) (by kernel_rfl) (kallS (by kernel_rfl) (kall0)) (kallS (by kernel_rfl) (kallS (by kernel_rfl) (kall0)))) (d_c1 (k_off (lo := 0) (k := 1) (by kernel_rfl) (kallS (by kernel_rfl) (kall0)) (kallS (by kernel_rfl) (kallS (by kernel_rfl) (kall0)))) (d_c1 (k_off (lo := 0) (k := 1) (by kernel_rfl) (kallS (by kernel_rfl) (kall0)) (kallS (by kernel_rfl) (kallS (by kernel_rfl) (kall0)))) (d_vs [.v 0 1] (d_c1 (e_d 0) (d_nl)))))))))))))))))))))) ?_
     exact ve_arr 0 (g_law19_fits_j1_ok hK h)
   ·
    refine ve_dr 1 [(3, .sl (List.map eTKnapsackref17Spec v1)), (4, .bool v2), (5, .bool true), (6, .sl (List.map eTKnapsackref17Spec v1)), (7, .int .i64 (v1.length : Int)), (8, .bool (decide ((v1.length : Int) > 1))), (9, .bool (decide ((v1.length : Int) > 1))), (10, .bool false), (11, .tup []), (12, .tup []), (13, .tup []), (14, .tup []), (15, .tup []), (16, .tup []), (17, .tup []), (18, .tup []), (19, .tup []), (20, .bool false), (21, .bool false), (22, .tup []), (23, .tup []), (24, .tup []), (25, .tup []), (26, .tup []), (27, .tup []), (28, .bool false)] [] [] [stp Try.prog 29 Try.f24 [1, 0] 26] (d_vs [.v 0 1] (d_c1 (e_c 0 1 4 (g_ref17_Few_ok hK h1)) (d_c1 (k_v (lo := 0) (k := 1) (kallS ⟨(by kernel_rfl), (aop_boolc 5 (e := v2) (b := true) h2 (by kernel_rfl) (by kernel_rfl))⟩ (kall0))) (d_vs [.v 0 1] (d_c1 (e_v (lo := 0) (y_len eTKnapsackref17Spec v1)) (d_vs [.v 0 1, .v 0 1] (d_c1 (k_v (lo := 0) (k := 1) (kallS ⟨(by kernel_rfl), (aop_boolc 10 (e := (decide ((v1.length : Int) > 1))) (b := false) h3 (by kernel_rfl) (by kernel_rfl))⟩ (kall0))) (d_c1 (k_off (lo := 0) (k := 1) (by kernel_rfl) (kallS (by kernel_rfl) (kall0)) (kallS (by kernel_rfl) (kallS (by kernel_rfl) (kall0)))) (d_c1 (k_off (lo := 0) (k := 1) (by kernel_rfl) (kallS (by kernel_rfl) (kall0)) (kallS (by kernel_rfl) (kallS (by kernel_rfl) (kall0)))) (d_c1 (k_off (lo := 0) (k := 1) (by kernel_rfl) (kallS (by kernel_rfl) (kall0)) (kallS (by kernel_rfl) (kallS (by kernel_rfl) (kall0)))) (d_c1 (k_off (lo := 0) (k := 1) (by kernel_rfl) (kallS (by kernel_rfl) (kall0)) (kallS (by kernel_rfl) (kallS (by kernel_rfl) (kall0)))) (d_c1 (k_off (lo := 0) (k := 1) (by kernel_rfl) (kallS (by kernel_rfl) (kall0)) (kallS (by kernel_rfl) (kallS (by kernel_rfl) (kall0)))) (d_c1 (k_off (lo := 0) (k := 1) (by kernel_rfl) (kallS (by kernel_rfl) (kall0)) (kallS (by kernel_rfl) (kallS (by kernel_rfl) (kall0)))) (d_c1 (k_off (lo := 0) (k := 1) (by kernel_rfl) (kallS (by kernel_rfl) (kall0)) (kallS (by kernel_rfl) (kallS (by kernel_rfl) (kall0)))) (d_c1 (k_off (lo := 0) (k := 1) (by kernel_rfl) (kallS (by kernel_rfl) (kall0)) (kallS (by kernel_rfl) (kallS (by kernel_rfl) (kall0)))) (d_c1 (k_off (lo := 0) (k := 1) (by kernel_rfl) (kallS (by kernel_rfl) (kall0)) (kallS (by kernel_rfl) (kallS (by kernel_rfl) (kall0)))) (d_vs [.v 0 1, .v 0 1] (d_c1 (k_off (lo := 0) (k := 1) (by kernel_rfl) (kallS (by kernel_rfl) (kall0)) (kallS (by kernel_rfl) (kallS (by kernel_rfl) (kall0)))) (d_c1 (k_off (lo := 0) (k := 1) (by kernel_rfl) (kallS (by kernel_rfl) (kall0)) (kallS (by kernel_rfl) (kallS (by kernel_rfl) (kall0)))) (d_c1 (k_off (lo := 0) (k := 1) (by kernel_rfl) (kallS (by kernel_rfl) (kall0)) (kallS (by kernel_rfl) (kallS (by kernel_rfl) (kall0)))) (d_c1 (k_off (lo := 0) (k := 1) (by kernel_rfl) (kallS (by kernel_rfl) (kall0)) (kallS (by kernel_rfl) (kallS (by kernel_rfl) (kall0)))) (d_c1 (k_off (lo := 0) (k := 1) (by kernel_rfl) (kallS (by kernel_rfl) (kall0)) (kallS (by kernel_rfl) (kallS (by kernel_rfl) (kall0)))) (d_c1 (k_off (lo := 0) (k := 1) (by kernel_rfl) (kallS (by kernel_rfl) (kall0)) (kallS (by kernel_rfl) (kallS (by kernel_rfl) (kall0)))) (d_vs [.v 0 1] (d_c1 (e_d 0) (d_nl)))))))))))))))))))))))))) ?_
    exact ve_arr 0 (g_law19_fits_j1_ok hK h)
  ·
   refine ve_dr 1 [(3, .sl (List.map eTKnapsackref17Spec v1)), (4, .bool v2), (5, .bool false), (6, .tup []), (7, .tup []), (8, .tup []), (9, .bool false), (10, .bool false), (11, .tup []), (12, .tup []), (13, .tup []), (14, .tup []), (15, .tup []), (16, .tup []), (17, .tup []), (18, .tup []), (19, .tup []), (20, .bool false), (21, .bool false), (22, .tup []), (23, .tup []), (24, .tup []), (25, .tup []), (26, .tup []), (27, .tup []), (28, .bool false)] [] [] [stp Try.prog 29 Try.f24 [1, 0] 26] (d_vs [.v 0 1] (d_c1 (e_c 0 1 4 (g_ref17_Few_ok hK h1)) (d_c1 (k_v (lo := 0) (k := 1) (kallS ⟨(by kernel_rfl), (aop_boolc 5 (e := v2) (b := false) h2 (by kernel_rfl) (by kernel_rfl))⟩ (kall0))) (d_c1 (k_off (lo := 0) (k := 1) (by kernel_rfl) (kallS (by kernel_rfl) (kall0)) (kallS (by kernel_rfl) (kallS (by kernel_rfl) (kall0)))) (d_c1 (k_off (lo := 0) (k := 1) (by kernel_rfl) (kallS (by kernel_rfl) (kall0)) (kallS (by kernel_rfl) (kallS (by kernel_rfl) (kall0)))) (d_c1 (k_off (lo := 0) (k := 1) (by kernel_rfl) (kallS (by kernel_rfl) (kall0)) (kallS (by kernel_rfl) (kallS (by kernel_rfl) (kall0)))) (d_vs [.v 0 1, .v 0 1] (d_c1 (k_off (lo := 0) (k := 1) (by kernel_rfl) (kallS (by kernel_rfl) (kall0)) (kallS (by kernel_rfl) (kallS (by kernel_rfl) (kall0)))) (d_c1 (k_off (lo := 0) (k := 1) (by kernel_rfl) (kallS (by kernel_rfl) (kall0)) (kallS (by kernel_rfl) (kallS (by kernel_rfl) (kall0)))) (d_c1 (k_off (lo := 0) (k := 1) (by kernel_rfl) (kallS (by kernel_rfl) (kall0)) (kallS (by kernel_rfl) (kallS (by kernel_rfl) (kall0)))) (d_c1 (k_off (lo := 0) (k := 1) (by kernel_rfl) (kallS (by kernel_rfl) (kall0)) (kallS (by kernel_rfl) (kallS (by kernel_rfl) (kall0)))) (d_c1 (k_off (lo := 0) (k := 1) (by kernel_rfl) (kallS (by kernel_rfl) (kall0)) (kallS (by kernel_rfl) (kallS (by kernel_rfl) (kall0)))) (d_c1 (k_off (lo := 0) (k := 1) (by kernel_rfl) (kallS (by kernel_rfl) (kall0)) (kallS (by kernel_rfl) (kallS (by kernel_rfl) (kall0)))) (d_c1 (k_off (lo := 0) (k := 1) (by kernel_rfl) (kallS (by kernel_rfl) (kall0)) (kallS (by kernel_rfl) (kallS (by kernel_rfl) (kall0)))) (d_c1 (k_off (lo := 0) (k := 1) (by kernel_rfl) (kallS (by kernel_rfl) (kall0)) (kallS (by kernel_rfl) (kallS (by kernel_rfl) (kall0)))) (d_c1 (k_off (lo := 0) (k := 1) (by kernel_rfl) (kallS (by kernel_rfl) (kall0)) (kallS (by kernel_rfl) (kallS (by kernel_rfl) (kall0)))) (d_vs [.v 0 1, .v 0 1] (d_c1 (k_off (lo := 0) (k := 1) (by kernel_rfl) (kallS (by kernel_rfl) (kall0)) (kallS (by kernel_rfl) (kallS (by kernel_rfl) (kall0)))) (d_c1 (k_off (lo := 0) (k := 1) (by kernel_rfl) (kallS (by kernel_rfl) (kall0)) (kallS (by kernel_rfl) (kallS (by kernel_rfl) (kall0)))) (d_c1 (k_off (lo := 0) (k := 1) (by kernel_rfl) (kallS (by kernel_rfl) (kall0)) (kallS (by kernel_rfl) (kallS (by kernel_rfl) (kall0)))) (d_c1 (k_off (lo := 0) (k := 1) (by kernel_rfl) (kallS (by kernel_rfl) (kall0)) (kallS (by kernel_rfl) (kallS (by kernel_rfl) (kall0)))) (d_c1 (k_off (lo := 0) (k := 1) (by kernel_rfl) (kallS (by kernel_rfl) (kall0)) (kallS (by kernel_rfl) (kallS (by kernel_rfl) (kall0)))) (d_c1 (k_off (lo := 0) (k := 1) (by kernel_rfl) (kallS (by kernel_rfl) (kall0)) (kallS (by kernel_rfl) (kallS (by kernel_rfl) (kall0)))) (d_vs [.v 0 1] (d_c1 (e_d 0) (d_nl)))))))))))))))))))))))))) ?_
   exact ve_arr 0 (g_law19_fits_j1_ok hK h)
end
def p43_0 : List Nat := ones 6 []
def p43_1 : List Nat := ones 5 [0, 0, 0]
def p43_2 : List Nat := ones 5 [0, 0, 0, 0, 1]
def p43_3 : List Nat := ones 5 [0, 0, 0, 1]
def p43_4 : List Nat := ones 5 [0, 0, 0, 1, 0, 0, 1]
def p43_5 : List Nat := ones 5 [0, 0, 0, 1, 0, 1]
def p43_6 : List Nat := ones 5 [0, 0, 0, 1, 0, 0, 1, 0, 0]
def p43_7 : List Nat := ones 5 [0, 0, 0, 1, 0, 0, 1, 0, 1]
def p43_8 : List Nat := ones 5 [0, 0, 0, 1, 0, 0, 1, 0, 1, 0]
def p43_9 : List Nat := ones 5 [0, 0, 0, 1, 0, 0, 1, 0, 1, 1]
def p43_10 : List Nat := ones 5 [0, 0, 0, 1, 0, 1, 0]
def p43_11 : List Nat := ones 5 [0, 0, 0, 1, 0, 1, 1]
def p43_12 : List Nat := ones 5 [0, 0, 0, 0, 0]
def p43_13 : List Nat := ones 5 []
def p43_14 : List Nat := ones 5 [0, 0]
def p43_15 : List Nat := [1, 1, 1, 1, 0]
noncomputable section
abbrev cx43 (M : Nat → Prop) (w0 : Base) : Cx := ⟨Try.prog, 95, M, w0⟩
abbrev q43 (M : Nat → Prop) (w0 : Base) (r : (TBoxtreeBox × Int)) := bodyPost Try.prog Try.f43 (RetQ M w0 (fun v s => v = .tup [.agg (List.set (xTBoxtreeBox ({ r.1 with Kids := [] } : TBoxtreeBox)) 58 (.ref 72)), .int .i64 r.2] ∧ look 72 s.r = some ⟨50, 59, List.map eTBoxtreeBox r.1.Kids⟩))
abbrev k43_1 (M : Nat → Prop) (w0 : Base) (r : (TBoxtreeBox × Int)) (m1 : Nat) : Kont := kl (cx43 M w0) (q43 M w0 r) [.b 0, .c (cat Try.f43 p43_0)] (cat Try.f43 p43_1) m1
def s43_j2 (v1 : (List TKnapsackref17Spec)) (v2 : Int) (v3 : Bool) (v8 : Int) (v9 : (List TBoxtreeBox)) (v10 : Bool) : AS := ⟨[(0,.sl (List.map eTKnapsackref17Spec v1)),(1,.int .i64 v8),(4,.ptr 4 0),(6,.ptr 6 0),(7,.int .u8 ((List.getD v1 (v2).toNat default).Depth)),(8,.bool v3),(60,.bool v10)],[(4,List.set (xTBoxtreeBox zTBoxtreeBox) 58 (.nils)),(6,List.set (xTBoxtreeBox ({ zTBoxtreeBox with Kind := 1, Node := (w64 (10 + v2)), Style := (List.getD v1 (v2).toNat default).Style } : TBoxtreeBox)) 58 (.ref 72))],[(72,⟨50,59,List.map eTBoxtreeBox v9⟩)],[4,6,72]⟩
def s43_l3 (v1 : (List TKnapsackref17Spec)) (v2 : Int) (v3 : Bool) (v8 : Int) (v9 : (List TBoxtreeBox)) : AS := ⟨[(0,.sl (List.map eTKnapsackref17Spec v1)),(1,.int .i64 v8),(4,.ptr 4 0),(6,.ptr 6 0),(7,.int .u8 ((List.getD v1 (v2).toNat default).Depth)),(8,.bool v3)],[(4,List.set (xTBoxtreeBox zTBoxtreeBox) 58 (.nils)),(6,List.set (xTBoxtreeBox ({ zTBoxtreeBox with Kind := 1, Node := (w64 (10 + v2)), Style := (List.getD v1 (v2).toNat default).Style } : TBoxtreeBox)) 58 (.ref 72))],[(72,⟨50,59,List.map eTBoxtreeBox v9⟩)],[4,6,72]⟩
def s43_j1 (v1 : (List TKnapsackref17Spec)) (v2 : Int) (v3 : Bool) : AS := ⟨[(0,.sl (List.map eTKnapsackref17Spec v1)),(1,.int .i64 (w64 (v2 + 1))),(4,.ptr 4 0),(6,.ptr 6 0),(7,.int .u8 ((List.getD v1 (v2).toNat default).Depth)),(8,.bool v3)],[(4,List.set (xTBoxtreeBox zTBoxtreeBox) 58 (.nils)),(6,List.set (xTBoxtreeBox ({ zTBoxtreeBox with Kind := 1, Node := (w64 (10 + v2)), Style := (List.getD v1 (v2).toNat default).Style } : TBoxtreeBox)) 58 (.nils))],[],[4,6]⟩
abbrev H43_1 (M : Nat → Prop) (w0 : Base) (r : (TBoxtreeBox × Int)) (v1 : (List TKnapsackref17Spec)) (v2 : Int) (v3 : Bool) (m1 : Nat) (L1 : Int → (List TBoxtreeBox) → Option (TBoxtreeBox × Int)) : Prop := ∀ {v8 : Int} {v9 : (List TBoxtreeBox)}, L1 v8 v9 = some r → LP (cx43 M w0) (q43 M w0 r) [.b 0, .c (cat Try.f43 p43_0)] (cat Try.f43 p43_1) m1 (s43_l3 v1 v2 v3 v8 v9)
variable {K : Kn} {n : Nat} {M : Nat → Prop} {w0 : Base} {r : (TBoxtreeBox × Int)} {v1 : (List TKnapsackref17Spec)} {v2 : Int} {v3 : Bool} {v8 : Int} {v9 : (List TBoxtreeBox)} {v10 : Bool} {m1 : Nat} {L1 : Int → (List TBoxtreeBox) → Option (TBoxtreeBox × Int)}
theorem g_ref17_Tree_j2_ok (hK : KnOk K) (hL1 : H43_1 M w0 r v1 v2 v3 m1 L1) (h : g_ref17_Tree_j2 K n v1 v2 v3 v8 v9 L1 v10 = some r) : VE (cx43 M w0) (q43 M w0 r) [.c (cat Try.f43 p43_2), .c (cat Try.f43 p43_3), k43_1 M w0 r m1, .b 0, .c (cat Try.f43 p43_0)] .normal (s43_j2 v1 v2 v3 v8 v9 v10) := by
  unfold g_ref17_Tree_j2 at h
  rcases ite_some h with ⟨h27, h⟩ | ⟨h27, h⟩
  ·
   refine ve_sb 60 h27 ?_
   refine ve_un (ks' := [.c (cat Try.f43 p43_4), .c (cat Try.f43 p43_5), .b 1, k43_1 M w0 r m1, .b 0, .c (cat Try.f43 p43_0)]) 6 ?_
   rcases ite_some h with ⟨h28, h⟩ | ⟨h28, h⟩
   ·
    refine ve_sb 61 h28 ?_
    refine ve_un (ks' := [.c (cat Try.f43 p43_6), .c (cat Try.f43 p43_7), .c (cat Try.f43 p43_5), .b 1, k43_1 M w0 r m1, .b 0, .c (cat Try.f43 p43_0)]) 2 ?_
    refine ve_in 2 ?_
    obtain ⟨v11, h29, h⟩ := bind_some h
    refine ot_cl (hK.k_g_ref17_Tree h29) ?_
    refine ot_end ?_
    refine ve_un (ks' := [.c (cat Try.f43 p43_8), .c (cat Try.f43 p43_9), .c (cat Try.f43 p43_5), .b 1, k43_1 M w0 r m1, .b 0, .c (cat Try.f43 p43_0)]) 1 ?_
    refine ve_in 3 ?_
    refine ot_sp (y_bsl eTBoxtreeBox ([v11.1] : List TBoxtreeBox) (new := [xTBoxtreeBox v11.1]) (by simp only [List.map_cons, List.map_nil, xTBoxtreeBox_eq])) ?_
    obtain ⟨h30, h⟩ := chk_some h
    refine ot_sp (y_app 72 72 50 59 eTBoxtreeBox (rfl) (eTBoxtreeBox_len) h30) ?_
    refine ot_end ?_
    exact ve_arr 5 (lp_back (hL1 h))
   ·
    refine ve_sb 61 h28 ?_
    refine ve_un (ks' := [.c (cat Try.f43 p43_10), .c (cat Try.f43 p43_11), .b 1, k43_1 M w0 r m1, .b 0, .c (cat Try.f43 p43_0)]) 3 ?_
    refine ve_pk [0, 1, 4, 6, 7, 8] [4, 6] [72] ?_
    obtain ⟨h31, h⟩ := chk_some h
    obtain ⟨h32, h⟩ := chk_some h
    obtain ⟨h33, h⟩ := chk_some h
    refine ve_dr 2 [(75, .ptr 6 58), (76, .ref 72), (77, .sl (List.map eTKnapsackref17Spec v1)), (78, .int .i64 v8), (79, .cptr (eTKnapsackref17Spec (List.getD v1 (v8).toNat default))), (80, .cptr (List.drop 5 (eTKnapsackref17Spec (List.getD v1 (v8).toNat default)))), (81, .agg (eTCascadeStyle ((List.getD v1 (v8).toNat default).Style))), (82, .sl (List.map eTKnapsackref17Spec v1)), (83, .int .i64 v8), (84, .cptr (eTKnapsackref17Spec (List.getD v1 (v8).toNat default))), (85, .cptr (List.drop 2 (eTKnapsackref17Spec (List.getD v1 (v8).toNat default)))), (86, .str ((List.getD v1 (v8).toNat default).Text)), (87, .agg (List.set (xTBoxtreeBox ({ zTBoxtreeBox with Kind := 3, Style := (List.getD v1 (v8).toNat default).Style, Text := (List.getD v1 (v8).toNat default).Text } : TBoxtreeBox)) 58 (.nils))), (88, .sl (List.map eTBoxtreeBox [({ zTBoxtreeBox with Kind := 3, Style := (List.getD v1 (v8).toNat default).Style, Text := (List.getD v1 (v8).toNat default).Text } : TBoxtreeBox)])), (90, .ptr 6 58)] [] [] [appS 89 72 ⟨50, 59, List.map eTBoxtreeBox (v9 ++ [({ zTBoxtreeBox with Kind := 3, Style := (List.getD v1 (v8).toNat default).Style, Text := (List.getD v1 (v8).toNat default).Text } : TBoxtreeBox)])⟩, stp Try.prog 95 Try.f43 p43_10 16] (d_vs [.v 0 2, .v 0 1, .v 0 2, .v 0 2] (d_c1 (k_v (lo := 0) (k := 2) (kallS ⟨(by kernel_rfl), (aop_eq (y_ixs eTKnapsackref17Spec eTKnapsackref17Spec h31 (eTKnapsackref17Spec_len) (fun _ => rfl)) (by kernel_rfl))⟩ (kallS ⟨(by kernel_rfl), (aop_eq (y_ixs eTKnapsackref17Spec eTKnapsackref17Spec h31 (eTKnapsackref17Spec_len) (fun _ => rfl)) (by kernel_rfl))⟩ (kall0)))) (d_vs [.v 0 2, .v 0 2, .v 0 2, .v 0 2] (d_c1 (k_v (lo := 0) (k := 2) (kallS ⟨(by kernel_rfl), (aop_eq (y_ixs eTKnapsackref17Spec eTKnapsackref17Spec h32 (eTKnapsackref17Spec_len) (fun _ => rfl)) (by kernel_rfl))⟩ (kallS ⟨(by kernel_rfl), (aop_eq (y_ixs eTKnapsackref17Spec eTKnapsackref17Spec h32 (eTKnapsackref17Spec_len) (fun _ => rfl)) (by kernel_rfl))⟩ (kall0)))) (d_vs [.v 0 2, .v 0 2, .v 0 2] (d_c1 (e_v (lo := 0) (y_bsl eTBoxtreeBox ([({ zTBoxtreeBox with Kind := 3, Style := (List.getD v1 (v8).toNat default).Style, Text := (List.getD v1 (v8).toNat default).Text } : TBoxtreeBox)] : List TBoxtreeBox) (new := [xTBoxtreeBox ({ zTBoxtreeBox with Kind := 3, Style := (List.getD v1 (v8).toNat default).Style, Text := (List.getD v1 (v8).toNat default).Text } : TBoxtreeBox)]) (by simp only [List.map_cons, List.map_nil, xTBoxtreeBox_eq]))) (d_c1 (e_s (m := 0) (y_app 89 72 50 59 eTBoxtreeBox (rfl) (eTBoxtreeBox_len) h33)) (d_vs [.v 1 1] (d_c1 (e_d 1) (d_nl)))))))))) ?_
    exact ve_arr 2 (lp_back (hL1 h))
  ·
   refine ve_sb 60 h27 ?_
   refine ve_rt 8 ?_
   have hr := Option.some.inj h
   subst hr
   exact ve_ot
theorem g_ref17_Tree_l3_b_ok (hK : KnOk K) (hL1 : H43_1 M w0 r v1 v2 v3 m1 L1) (h : g_ref17_Tree_l3_b K n v1 v2 v3 L1 v8 v9 = some r) : VE (cx43 M w0) (q43 M w0 r) [.c (cat Try.f43 p43_1), k43_1 M w0 r m1, .b 0, .c (cat Try.f43 p43_0)] .normal (s43_l3 v1 v2 v3 v8 v9) := by
  unfold g_ref17_Tree_l3_b at h
  refine ve_un (ks' := [.c (cat Try.f43 p43_12), .c (cat Try.f43 p43_2), .c (cat Try.f43 p43_3), k43_1 M w0 r m1, .b 0, .c (cat Try.f43 p43_0)]) 2 ?_
  refine ve_in 2 ?_
  refine ot_sp (y_len eTKnapsackref17Spec v1) ?_
  refine ot_go 5 2 ?_
  rcases ite_some h with ⟨h25, h⟩ | ⟨h25, h⟩
  ·
   refine ot_sb 52 h25 ?_
   refine ot_go 7 2 ?_
   obtain ⟨h26, h⟩ := chk_some h
   refine ot_sp (y_ixs eTKnapsackref17Spec eTKnapsackref17Spec h26 (eTKnapsackref17Spec_len) (fun _ => rfl)) ?_
   refine ot_end ?_
   exact ve_arr 0 (g_ref17_Tree_j2_ok hK hL1 h)
  ·
   refine ot_sb 52 h25 ?_
   refine ot_end ?_
   exact ve_arr 0 (g_ref17_Tree_j2_ok hK hL1 h)
theorem g_ref17_Tree_l3_ok (hK : KnOk K) (m : Nat) : H43_1 M w0 r v1 v2 v3 m (g_ref17_Tree_l3 K n v1 v2 v3 m) := by
  induction m with
 | zero => intro v8 v9 h; cases h
 | succ m ih => intro v8 v9 h; have h : g_ref17_Tree_l3_b K n v1 v2 v3 (g_ref17_Tree_l3 K n v1 v2 v3 m) v8 v9 = some r := h; exact lp_round (g_ref17_Tree_l3_b_ok hK ih h)
theorem g_ref17_Tree_j1_ok (hK : KnOk K) (h : g_ref17_Tree_j1 K n v1 v2 v3 = some r) : VE (cx43 M w0) (q43 M w0 r) [.c (cat Try.f43 p43_13)] .normal (s43_j1 v1 v2 v3) := by
  unfold g_ref17_Tree_j1 at h
  refine ve_un (ks' := [.c (cat Try.f43 p43_14), .b 0, .c (cat Try.f43 p43_0)]) 2 ?_
  refine ve_wo 72 6 58 50 59 ?_
  exact ve_arr 0 (lp_en (p := p43_14) n (g_ref17_Tree_l3_ok hK n h))
theorem g_ref17_Tree_ok (hK : KnOk K) (h : g_ref17_Tree K n v1 v2 = some r) : ACalls Try.prog 43 [.sl (List.map eTKnapsackref17Spec v1), .int .i64 v2] (fun v s => v = .tup [.agg (List.set (xTBoxtreeBox ({ r.1 with Kids := [] } : TBoxtreeBox)) 58 (.ref 72)), .int .i64 r.2] ∧ look 72 s.r = some ⟨50, 59, List.map eTBoxtreeBox r.1.Kids⟩) := by
  refine acalls_intro (c := cat Try.f43 []) Try.func43 (by kernel_rfl) _ Try.ntmps43 (of_decide_eq_true (by kernel_rfl)) fun M w0 => ?_
  refine ve_cast (s' := ⟨[(0,.sl (List.map eTKnapsackref17Spec v1)),(1,.int .i64 v2)],[],[],[]⟩) (by kernel_rfl) ?_
  unfold g_ref17_Tree at h
  refine ve_un (ks' := [.c (cat Try.f43 [1, 0]), .c (cat Try.f43 [1, 1])]) 3 ?_
  refine ve_in 4 ?_
  obtain ⟨h1, h⟩ := chk_some h
  refine ot_sp (y_ixs eTKnapsackref17Spec eTKnapsackref17Spec h1 (eTKnapsackref17Spec_len) (fun _ => rfl)) ?_
  refine ot_end ?_
  refine ve_un (ks' := [.c (cat Try.f43 [1, 1, 0]), .c (cat Try.f43 [1, 1, 1])]) 1 ?_
  refine ve_in 2 ?_
  obtain ⟨h2, h⟩ := chk_some h
  refine ot_sp (y_ixs eTKnapsackref17Spec eTKnapsackref17Spec h2 (eTKnapsackref17Spec_len) (fun _ => rfl)) ?_
  refine ot_end ?_
  refine ve_un (ks' := [.c (cat Try.f43 p43_15), .c (cat Try.f43 p43_13)]) 3 ?_
  refine ve_in 2 ?_
  refine ot_sp (y_len eTKnapsackref17Spec v1) ?_
  refine ot_go 5 2 ?_
  rcases ite_some h with ⟨h3, h⟩ | ⟨h3, h⟩
  ·
   refine ot_sb 30 h3 ?_
   refine ot_go 7 2 ?_
   obtain ⟨h4, h⟩ := chk_some h
   refine ot_sp (y_ixs eTKnapsackref17Spec eTKnapsackref17Spec h4 (eTKnapsackref17Spec_len) (fun _ => rfl)) ?_
   refine ot_go 14 6 ?_
   rcases ite_some h with ⟨h5, h⟩ | ⟨h5, h⟩
   ·
    refine ot_sb 39 h5 ?_
    refine ot_go 16 2 ?_
    obtain ⟨h6, h⟩ := chk_some h
    refine ot_sp (y_ixs eTKnapsackref17Spec eTKnapsackref17Spec h6 (eTKnapsackref17Spec_len) (fun _ => rfl)) ?_
    refine ot_end ?_
    exact ve_arr 0 (g_ref17_Tree_j1_ok hK h)
   ·
    refine ot_sb 39 h5 ?_
    refine ot_end ?_
    exact ve_arr 0 (g_ref17_Tree_j1_ok hK h)
  ·
   refine ot_sb 30 h3 ?_
   refine ot_end ?_
   exact ve_arr 0 (g_ref17_Tree_j1_ok hK h)
end
noncomputable section
variable {K : Kn} {n : Nat} {M : Nat → Prop} {w0 : Base} {r : TBoxtreeBox} {v1 : (List TKnapsackref17Spec)} 
theorem g_law19_box_ok (hK : KnOk K) (h : g_law19_box K n v1 = some r) : ACalls Try.prog 25 [.sl (List.map eTKnapsackref17Spec v1)] (fun v s => v = .agg (List.set (xTBoxtreeBox ({ r with Kids := [] } : TBoxtreeBox)) 58 (.ref 1007)) ∧ look 1007 s.r = some ⟨50, 59, List.map eTBoxtreeBox r.Kids⟩) := by
  refine acalls_intro (c := cat Try.f25 []) Try.func25 (by kernel_rfl) _ Try.ntmps25 (of_decide_eq_true (by kernel_rfl)) fun M w0 => ?_
  refine ve_cast (s' := ⟨[(0,.sl (List.map eTKnapsackref17Spec v1))],[],[],[]⟩) (by kernel_rfl) ?_
  unfold g_law19_box at h
  refine ve_un (ks' := [.c (cat Try.f25 [1, 0]), .c (cat Try.f25 [1, 1])]) 3 ?_
  refine ve_in 1 ?_
  obtain ⟨v2, h1, h⟩ := bind_some h
  refine ot_co 1007 (g_ref17_Tree_ok hK h1) (one_tupa (i := 0) (j := 58) rfl (by kernel_rfl)) ?_
  refine ot_end ?_
  refine ve_rt 5 ?_
  have hr := Option.some.inj h
  subst hr
  exact ve_o1
end
noncomputable section
abbrev cx44 (M : Nat → Prop) (w0 : Base) : Cx := ⟨Try.prog, 12, M, w0⟩
abbrev q44 (M : Nat → Prop) (w0 : Base) (r : Bool) := bodyPost Try.prog Try.f44 (RetQ M w0 (fun v _ => v = .bool r))
def s44_j1 (v2 : Bool) : AS := ⟨[(2,.bool v2)],[],[],[]⟩
variable {K : Kn} {n : Nat} {M : Nat → Prop} {w0 : Base} {r : Bool} {v1 : TBoxtreeBox} {v2 : Bool} 
theorem g_block_Flow_j1_ok (hK : KnOk K) (h : g_block_Flow_j1 K n v2 = some r) : VE (cx44 M w0) (q44 M w0 r) [.c (cat Try.f44 [1, 1])] .normal (s44_j1 v2) := by
  unfold g_block_Flow_j1 at h
  refine ve_rt 1 ?_
  have hr := Option.some.inj h
  subst hr
  exact ve_d1
theorem g_block_Flow_ok (hK : KnOk K) (h : g_block_Flow K n v1 = some r) : ACalls Try.prog 44 [.agg (xTBoxtreeBox v1)] (fun v _ => v = .bool r) := by
  refine acalls_intro (c := cat Try.f44 []) Try.func44 (by kernel_rfl) _ Try.ntmps44 (of_decide_eq_true (by kernel_rfl)) fun M w0 => ?_
  refine ve_cast (s' := ⟨[(0,.agg (xTBoxtreeBox v1))],[],[],[]⟩) (by kernel_rfl) ?_
  unfold g_block_Flow at h
  refine ve_un (ks' := [.c (cat Try.f44 [1, 0]), .c (cat Try.f44 [1, 1])]) 3 ?_
  refine ve_in 4 ?_
  rcases ite_some h with ⟨h1, h⟩ | ⟨h1, h⟩
  ·
   refine ot_sb 6 h1 ?_
   refine ot_end ?_
   exact ve_arr 0 (g_block_Flow_j1_ok hK h)
  ·
   refine ot_sb 6 h1 ?_
   refine ot_end ?_
   exact ve_arr 0 (g_block_Flow_j1_ok hK h)
end
noncomputable section
variable {K : Kn} {n : Nat} {M : Nat → Prop} {w0 : Base} {r : Int} {v1 : Int} {v2 : Int} {v3 : (List TBoxtreeBox)} 
theorem g_flex_Order_1_ok (hK : KnOk K) (h : g_flex_Order_1 K n v1 v2 v3 = some r) : ACalls Try.prog 45 [.int .i64 v1, .int .i64 v2, .cptr ([.sl (List.map eTBoxtreeBox v3)])] (fun v _ => v = .int .i64 r) := by
  refine acalls_intro (c := cat Try.f45 []) Try.func45 (by kernel_rfl) _ Try.ntmps45 (of_decide_eq_true (by kernel_rfl)) fun M w0 => ?_
  refine ve_cast (s' := ⟨[(0,.int .i64 v1),(1,.int .i64 v2),(2,.cptr ([.sl (List.map eTBoxtreeBox v3)]))],[],[],[]⟩) (by kernel_rfl) ?_
  unfold g_flex_Order_1 at h
  refine ve_un (ks' := [.c (cat Try.f45 [1, 0]), .c (cat Try.f45 [1, 1])]) 3 ?_
  refine ve_pk [0, 1, 2] [] [] ?_
  obtain ⟨h1, h⟩ := chk_some h
  obtain ⟨h2, h⟩ := chk_some h
  obtain ⟨v4, h3, h⟩ := bind_some h
  refine ve_dr 1 [(6, .sl (List.map eTBoxtreeBox v3)), (7, .int .i64 v1), (8, .cptr (xTBoxtreeBox (List.getD v3 (v1).toNat default))), (9, .cptr (List.drop 2 (xTBoxtreeBox (List.getD v3 (v1).toNat default)))), (10, .cptr (List.drop 48 (List.drop 2 (xTBoxtreeBox (List.getD v3 (v1).toNat default))))), (11, .int .i64 (((List.getD v3 (v1).toNat default).Style).Order)), (12, .sl (List.map eTBoxtreeBox v3)), (13, .int .i64 v2), (14, .cptr (xTBoxtreeBox (List.getD v3 (v2).toNat default))), (15, .cptr (List.drop 2 (xTBoxtreeBox (List.getD v3 (v2).toNat default)))), (16, .cptr (List.drop 48 (List.drop 2 (xTBoxtreeBox (List.getD v3 (v2).toNat default))))), (17, .int .i64 (((List.getD v3 (v2).toNat default).Style).Order)), (18, .int .i64 v4)] [] [] [stp Try.prog 19 Try.f45 [1, 0] 13] (d_vs [.v 0 1, .v 0 1] (d_c1 (e_v (lo := 0) (y_ixs eTBoxtreeBox xTBoxtreeBox h1 (eTBoxtreeBox_len) (xTBoxtreeBox_eq))) (d_vs [.v 0 1, .v 0 1, .v 0 1, .v 0 1, .v 0 1] (d_c1 (e_v (lo := 0) (y_ixs eTBoxtreeBox xTBoxtreeBox h2 (eTBoxtreeBox_len) (xTBoxtreeBox_eq))) (d_vs [.v 0 1, .v 0 1, .v 0 1] (d_c1 (e_c 0 1 18 (g_cmp_Compare_int_ok hK h3)) (d_c1 (e_d 0) (d_nl)))))))) ?_
  refine ve_rt 1 ?_
  have hr := Option.some.inj h
  subst hr
  exact ve_d1
end
def p26_0 : List Nat := [1, 1, 0, 1, 0, 0]
def p26_1 : List Nat := [1, 1, 0, 1, 0, 0, 1, 1, 1]
def p26_2 : List Nat := [1, 1, 0, 1, 0, 0, 1, 0]
def p26_3 : List Nat := [1, 1, 0, 1, 0, 0, 1, 1]
def p26_4 : List Nat := [1, 1, 0, 1, 0, 0, 1, 1, 0, 0, 0]
def p26_5 : List Nat := [1, 1, 0, 1, 0, 0, 1, 1, 0, 0, 1]
def p26_6 : List Nat := [1, 1, 0, 1, 0, 0, 1, 1, 0, 0, 1, 0]
def p26_7 : List Nat := [1, 1, 0, 1, 0, 0, 1, 1, 0, 0, 1, 1]
def p26_8 : List Nat := [1, 1, 0, 1, 0, 0, 1, 1, 0, 0, 1, 1, 0]
def p26_9 : List Nat := [1, 1, 1, 0]
def p26_10 : List Nat := [1, 1, 1, 1]
def p26_11 : List Nat := [1, 1, 0, 0]
def p26_12 : List Nat := [1, 1, 0, 1]
def p26_13 : List Nat := [1, 1, 0, 1, 0]
noncomputable section
abbrev cx26 (M : Nat → Prop) (w0 : Base) : Cx := ⟨Try.prog, 24, M, w0⟩
abbrev q26 (M : Nat → Prop) (w0 : Base) (r : (List Int)) := bodyPost Try.prog Try.f26 (RetQ M w0 (fun v s => v = .ref 18 ∧ look 18 s.r = some ⟨3, 1, List.map (eInt .i64) r⟩))
abbrev k26_1 (M : Nat → Prop) (w0 : Base) (r : (List Int)) (m1 : Nat) : Kont := kl (cx26 M w0) (q26 M w0 r) [.b 0, .c (cat Try.f26 [1, 1, 1])] (cat Try.f26 p26_0) m1
def s26_j1 (v1 : (List TBoxtreeBox)) (v6 : Int) (v9 : (List Int)) : AS := ⟨[(1,.ptr 1 0),(3,.ref 18),(6,.sl (List.map eTBoxtreeBox v1)),(7,.int .i64 (v1.length : Int)),(8,.int .i64 v6)],[(1,[.sl (List.map eTBoxtreeBox v1)])],[(18,⟨3,1,List.map (eInt .i64) v9⟩)],[1,18]⟩
def s26_l2 (v1 : (List TBoxtreeBox)) (v6 : Int) (v7 : (List Int)) : AS := ⟨[(1,.ptr 1 0),(3,.ref 18),(6,.sl (List.map eTBoxtreeBox v1)),(7,.int .i64 (v1.length : Int)),(8,.int .i64 v6)],[(1,[.sl (List.map eTBoxtreeBox v1)])],[(18,⟨3,1,List.map (eInt .i64) v7⟩)],[1,18]⟩
abbrev H26_1 (M : Nat → Prop) (w0 : Base) (r : (List Int)) (v1 : (List TBoxtreeBox)) (m1 : Nat) (L1 : Int → (List Int) → Option (List Int)) : Prop := ∀ {v6 : Int} {v7 : (List Int)}, L1 v6 v7 = some r → LP (cx26 M w0) (q26 M w0 r) [.b 0, .c (cat Try.f26 [1, 1, 1])] (cat Try.f26 p26_0) m1 (s26_l2 v1 v6 v7)
variable {K : Kn} {n : Nat} {M : Nat → Prop} {w0 : Base} {r : (List Int)} {v1 : (List TBoxtreeBox)} {v6 : Int} {v7 : (List Int)} {v9 : (List Int)} {m1 : Nat} {L1 : Int → (List Int) → Option (List Int)}
theorem g_flex_Order_j1_ok (hK : KnOk K) (hL1 : H26_1 M w0 r v1 m1 L1) (h : g_flex_Order_j1 K n v1 v6 L1 v9 = some r) : VE (cx26 M w0) (q26 M w0 r) [.b 1, .c (cat Try.f26 p26_1), k26_1 M w0 r m1, .b 0, .c (cat Try.f26 [1, 1, 1])] .normal (s26_j1 v1 v6 v9) := by
  unfold g_flex_Order_j1 at h
  exact ve_arr 2 (lp_back (hL1 h))
theorem g_flex_Order_l2_b_ok (hK : KnOk K) (hL1 : H26_1 M w0 r v1 m1 L1) (h : g_flex_Order_l2_b K n v1 L1 v6 v7 = some r) : VE (cx26 M w0) (q26 M w0 r) [.c (cat Try.f26 p26_0), k26_1 M w0 r m1, .b 0, .c (cat Try.f26 [1, 1, 1])] .normal (s26_l2 v1 v6 v7) := by
  unfold g_flex_Order_l2_b at h
  refine ve_un (ks' := [.c (cat Try.f26 p26_2), .c (cat Try.f26 p26_3), k26_1 M w0 r m1, .b 0, .c (cat Try.f26 [1, 1, 1])]) 3 ?_
  rcases ite_some h with ⟨h11, h⟩ | ⟨h11, h⟩
  ·
   refine ve_sb 9 h11 ?_
   refine ve_un (ks' := [.c (cat Try.f26 p26_4), .c (cat Try.f26 p26_5), .b 1, .c (cat Try.f26 p26_1), k26_1 M w0 r m1, .b 0, .c (cat Try.f26 [1, 1, 1])]) 5 ?_
   refine ve_in 1 ?_
   obtain ⟨h12, h⟩ := chk_some h
   refine ot_sp (y_ixs eTBoxtreeBox xTBoxtreeBox h12 (eTBoxtreeBox_len) (xTBoxtreeBox_eq)) ?_
   refine ot_end ?_
   refine ve_un (ks' := [.c (cat Try.f26 p26_6), .c (cat Try.f26 p26_7), .b 1, .c (cat Try.f26 p26_1), k26_1 M w0 r m1, .b 0, .c (cat Try.f26 [1, 1, 1])]) 1 ?_
   refine ve_in 1 ?_
   obtain ⟨v8, h13, h⟩ := bind_some h
   refine ot_cl (g_block_Flow_ok hK h13) ?_
   refine ot_end ?_
   rcases ite_some h with ⟨h14, h⟩ | ⟨h14, h⟩
   ·
    refine ve_sb 14 h14 ?_
    refine ve_un (ks' := [.c (cat Try.f26 p26_8), .b 1, .c (cat Try.f26 p26_1), k26_1 M w0 r m1, .b 0, .c (cat Try.f26 [1, 1, 1])]) 1 ?_
    refine ve_in 3 ?_
    obtain ⟨h15, h⟩ := chk_some h
    refine ot_sp (y_app 18 18 3 1 (eInt .i64) (rfl) (fun _ => rfl) h15) ?_
    refine ot_end ?_
    exact ve_arr 0 (g_flex_Order_j1_ok hK hL1 h)
   ·
    refine ve_sb 14 h14 ?_
    exact ve_arr 2 (g_flex_Order_j1_ok hK hL1 h)
  ·
   refine ve_sb 9 h11 ?_
   refine ve_un (ks' := [.c (cat Try.f26 p26_9), .c (cat Try.f26 p26_10)]) 6 ?_
   refine ve_in 1 ?_
   refine ot_fo 1 1 ([.sl (List.map eTBoxtreeBox v1)]) ?_
   refine ot_mf 45 #[(.tmp 1)] [.cptr ([.sl (List.map eTBoxtreeBox v1)])] ?_
   obtain ⟨v10, h16, h⟩ := bind_some h
   refine ot_io 18 0 (g_slices_SortStableFunc_int_int_ok hK h16) ?_
   refine ot_end ?_
   refine ve_rt 3 ?_
   have hr := Option.some.inj h
   subst hr
   exact ve_o1
theorem g_flex_Order_l2_ok (hK : KnOk K) (m : Nat) : H26_1 M w0 r v1 m (g_flex_Order_l2 K n v1 m) := by
  induction m with
 | zero => intro v6 v7 h; cases h
 | succ m ih => intro v6 v7 h; have h : g_flex_Order_l2_b K n v1 (g_flex_Order_l2 K n v1 m) v6 v7 = some r := h; exact lp_round (g_flex_Order_l2_b_ok hK ih h)
theorem g_flex_Order_ok (hK : KnOk K) (h : g_flex_Order K n v1 = some r) : ACalls Try.prog 26 [.sl (List.map eTBoxtreeBox v1)] (fun v s => v = .ref 18 ∧ look 18 s.r = some ⟨3, 1, List.map (eInt .i64) r⟩) := by
  refine acalls_intro (c := cat Try.f26 []) Try.func26 (by kernel_rfl) _ Try.ntmps26 (of_decide_eq_true (by kernel_rfl)) fun M w0 => ?_
  refine ve_cast (s' := ⟨[(0,.sl (List.map eTBoxtreeBox v1))],[],[],[]⟩) (by kernel_rfl) ?_
  unfold g_flex_Order at h
  refine ve_un (ks' := [.c (cat Try.f26 p26_11), .c (cat Try.f26 p26_12), .c (cat Try.f26 [1, 1, 1])]) 6 ?_
  refine ve_in 1 ?_
  refine ot_sp (y_len eTBoxtreeBox v1) ?_
  refine ot_end ?_
  refine ve_un (ks' := [.c (cat Try.f26 p26_13), .b 0, .c (cat Try.f26 [1, 1, 1])]) 1 ?_
  refine ve_w 18 3 3 1 ?_
  exact ve_arr 0 (lp_en (p := p26_13) n (g_flex_Order_l2_ok hK n h))
end
noncomputable section
abbrev cx46 (M : Nat → Prop) (w0 : Base) : Cx := ⟨Try.prog, 12, M, w0⟩
abbrev q46 (M : Nat → Prop) (w0 : Base) (r : Bool) := bodyPost Try.prog Try.f46 (RetQ M w0 (fun v _ => v = .bool r))
def s46_j1 (v2 : Bool) : AS := ⟨[(2,.bool v2)],[],[],[]⟩
variable {K : Kn} {n : Nat} {M : Nat → Prop} {w0 : Base} {r : Bool} {v1 : TBoxtreeBox} {v2 : Bool} 
theorem g_ref17_In_j1_ok (hK : KnOk K) (h : g_ref17_In_j1 K n v2 = some r) : VE (cx46 M w0) (q46 M w0 r) [.c (cat Try.f46 [1, 1])] .normal (s46_j1 v2) := by
  unfold g_ref17_In_j1 at h
  refine ve_rt 1 ?_
  have hr := Option.some.inj h
  subst hr
  exact ve_d1
theorem g_ref17_In_ok (hK : KnOk K) (h : g_ref17_In K n v1 = some r) : ACalls Try.prog 46 [.agg (xTBoxtreeBox v1)] (fun v _ => v = .bool r) := by
  refine acalls_intro (c := cat Try.f46 []) Try.func46 (by kernel_rfl) _ Try.ntmps46 (of_decide_eq_true (by kernel_rfl)) fun M w0 => ?_
  refine ve_cast (s' := ⟨[(0,.agg (xTBoxtreeBox v1))],[],[],[]⟩) (by kernel_rfl) ?_
  unfold g_ref17_In at h
  refine ve_un (ks' := [.c (cat Try.f46 [1, 0]), .c (cat Try.f46 [1, 1])]) 3 ?_
  refine ve_in 4 ?_
  rcases ite_some h with ⟨h1, h⟩ | ⟨h1, h⟩
  ·
   refine ot_sb 6 h1 ?_
   refine ot_end ?_
   exact ve_arr 0 (g_ref17_In_j1_ok hK h)
  ·
   refine ot_sb 6 h1 ?_
   refine ot_end ?_
   exact ve_arr 0 (g_ref17_In_j1_ok hK h)
end
def p27_0 : List Nat := [1, 1, 0, 1, 0, 0]
def p27_1 : List Nat := [1, 1, 0, 1, 0, 0, 1, 0, 0, 1, 1, 1]
def p27_2 : List Nat := [1, 1, 0, 1, 0, 0, 1, 1]
def p27_3 : List Nat := [1, 1, 0, 1, 0, 0, 1, 0, 0, 1, 1, 0, 0, 0]
def p27_4 : List Nat := [1, 1, 0, 1, 0, 0, 1, 0, 0, 1, 1, 0, 0, 0, 0, 1]
def p27_5 : List Nat := [1, 1, 0, 1, 0, 0, 1, 0, 0, 1, 1, 0, 0, 0, 1]
def p27_6 : List Nat := [1, 1, 0, 1, 0, 0, 1, 0, 0, 1, 1, 1, 1, 0]
def p27_7 : List Nat := [1, 1, 0, 1, 0, 0, 1, 0, 0, 1, 1, 1, 1, 1]
def p27_8 : List Nat := [1, 1, 0, 1, 0, 0, 1, 0, 0, 1, 1, 1, 1, 1, 0]
def p27_9 : List Nat := [1, 1, 0, 1, 0, 0, 1, 0, 0, 1, 1, 1, 1, 1, 1]
def p27_10 : List Nat := [1, 1, 0, 1, 0, 0, 1, 0, 0, 1, 1, 0, 0, 0, 0, 0]
def p27_11 : List Nat := [1, 1, 0, 1, 0, 0, 0, 0]
def p27_12 : List Nat := [1, 1, 0, 1, 0, 0, 0, 1]
def p27_13 : List Nat := [1, 1, 0, 1, 0, 0, 1]
def p27_14 : List Nat := [1, 1, 0, 1, 0, 0, 1, 0, 0, 0, 0]
def p27_15 : List Nat := [1, 1, 0, 1, 0, 0, 1, 0, 0, 0, 1]
def p27_16 : List Nat := [1, 1, 0, 1, 0, 0, 1, 0, 0, 1]
def p27_17 : List Nat := [1, 1, 0, 1, 0, 0, 1, 0, 0, 1, 0]
def p27_18 : List Nat := [1, 1, 0, 1, 0, 0, 1, 0, 0, 1, 1]
def p27_19 : List Nat := [1, 1, 0, 1, 0, 0, 1, 0, 0, 1, 1, 0, 0]
def p27_20 : List Nat := [1, 1, 0, 1, 0]
noncomputable section
abbrev cx27 (M : Nat → Prop) (w0 : Base) : Cx := ⟨Try.prog, 59, M, w0⟩
abbrev q27 (M : Nat → Prop) (w0 : Base) (r : (List Int)) := bodyPost Try.prog Try.f27 (RetQ M w0 (fun v s => v = .ref 2003 ∧ look 2003 s.r = some ⟨3, 1, List.map (eInt .i64) r⟩))
abbrev k27_1 (M : Nat → Prop) (w0 : Base) (r : (List Int)) (m1 : Nat) : Kont := kl (cx27 M w0) (q27 M w0 r) [.b 0, .c (cat Try.f27 [1, 1, 1])] (cat Try.f27 p27_0) m1
abbrev k27_2 (M : Nat → Prop) (w0 : Base) (r : (List Int)) (m1 m2 : Nat) : Kont := kl (cx27 M w0) (q27 M w0 r) [.b 2, .c (cat Try.f27 p27_1), .b 1, .c (cat Try.f27 p27_2), k27_1 M w0 r m1, .b 0, .c (cat Try.f27 [1, 1, 1])] (cat Try.f27 p27_3) m2
def s27_j3 (v1 : (List TBoxtreeBox)) (v10 : Int) (v17 : (List Int)) : AS := ⟨[(0,.sl (List.map eTBoxtreeBox v1)),(3,.ref 2003),(4,.int .i64 v10)],[],[(2003,⟨3,1,List.map (eInt .i64) v17⟩)],[2003]⟩
def s27_j1 (v1 : (List TBoxtreeBox)) (v10 : Int) (v11 : (List Int)) (v14 : Int) (v15 : Bool) : AS := ⟨[(0,.sl (List.map eTBoxtreeBox v1)),(3,.ref 2003),(4,.int .i64 v10),(5,.int .i64 v14),(41,.bool v15)],[],[(2003,⟨3,1,List.map (eInt .i64) v11⟩)],[2003]⟩
def s27_l2 (v1 : (List TBoxtreeBox)) (v10 : Int) (v11 : (List Int)) (v14 : Int) : AS := ⟨[(0,.sl (List.map eTBoxtreeBox v1)),(3,.ref 2003),(4,.int .i64 v10),(5,.int .i64 v14)],[],[(2003,⟨3,1,List.map (eInt .i64) v11⟩)],[2003]⟩
def s27_l4 (v1 : (List TBoxtreeBox)) (v10 : Int) (v11 : (List Int)) : AS := ⟨[(0,.sl (List.map eTBoxtreeBox v1)),(3,.ref 2003),(4,.int .i64 v10)],[],[(2003,⟨3,1,List.map (eInt .i64) v11⟩)],[2003]⟩
abbrev H27_1 (M : Nat → Prop) (w0 : Base) (r : (List Int)) (v1 : (List TBoxtreeBox)) (m1 : Nat) (L1 : Int → (List Int) → Option (List Int)) : Prop := ∀ {v10 : Int} {v11 : (List Int)}, L1 v10 v11 = some r → LP (cx27 M w0) (q27 M w0 r) [.b 0, .c (cat Try.f27 [1, 1, 1])] (cat Try.f27 p27_0) m1 (s27_l4 v1 v10 v11)
abbrev H27_2 (M : Nat → Prop) (w0 : Base) (r : (List Int)) (v1 : (List TBoxtreeBox)) (v10 : Int) (v11 : (List Int)) (m1 m2 : Nat) (L2 : Int → Option (List Int)) : Prop := ∀ {v14 : Int}, L2 v14 = some r → LP (cx27 M w0) (q27 M w0 r) [.b 2, .c (cat Try.f27 p27_1), .b 1, .c (cat Try.f27 p27_2), k27_1 M w0 r m1, .b 0, .c (cat Try.f27 [1, 1, 1])] (cat Try.f27 p27_3) m2 (s27_l2 v1 v10 v11 v14)
variable {K : Kn} {n : Nat} {M : Nat → Prop} {w0 : Base} {r : (List Int)} {v1 : (List TBoxtreeBox)} {v10 : Int} {v11 : (List Int)} {v14 : Int} {v15 : Bool} {v17 : (List Int)} {m1 : Nat} {L1 : Int → (List Int) → Option (List Int)} {m2 : Nat} {L2 : Int → Option (List Int)}
theorem g_ref19_Order_j3_ok (hK : KnOk K) (hL1 : H27_1 M w0 r v1 m1 L1) (h : g_ref19_Order_j3 K n v1 v10 L1 v17 = some r) : VE (cx27 M w0) (q27 M w0 r) [.c (cat Try.f27 p27_2), k27_1 M w0 r m1, .b 0, .c (cat Try.f27 [1, 1, 1])] .normal (s27_j3 v1 v10 v17) := by
  unfold g_ref19_Order_j3 at h
  exact ve_arr 1 (lp_back (hL1 h))
theorem g_ref19_Order_j1_ok (hK : KnOk K) (hL1 : H27_1 M w0 r v1 m1 L1) (hL2 : H27_2 M w0 r v1 v10 v11 m1 m2 L2) (h : g_ref19_Order_j1 K n v1 v10 v11 v14 L1 L2 v15 = some r) : VE (cx27 M w0) (q27 M w0 r) [.c (cat Try.f27 p27_4), .c (cat Try.f27 p27_5), k27_2 M w0 r m1 m2, .b 2, .c (cat Try.f27 p27_1), .b 1, .c (cat Try.f27 p27_2), k27_1 M w0 r m1, .b 0, .c (cat Try.f27 [1, 1, 1])] .normal (s27_j1 v1 v10 v11 v14 v15) := by
  unfold g_ref19_Order_j1 at h
  rcases ite_some h with ⟨h43, h⟩ | ⟨h43, h⟩
  ·
   refine ve_sb 41 h43 ?_
   exact ve_arr 5 (lp_back (hL2 h))
  ·
   refine ve_sb 41 h43 ?_
   refine ve_un (ks' := [.c (cat Try.f27 p27_6), .c (cat Try.f27 p27_7), .b 1, .c (cat Try.f27 p27_2), k27_1 M w0 r m1, .b 0, .c (cat Try.f27 [1, 1, 1])]) 8 ?_
   refine ve_in 3 ?_
   refine ot_f 2003 ?_
   obtain ⟨h44, h⟩ := chk_some h
   refine ot_sp (aop_slice_sl (eInt .i64) v11 (0 : Int) v14 22 (.tmp 45) none (some (.tmp 46)) 47 (e := 3) (sz := 1) (by kernel_rfl) (by kernel_rfl) (by kernel_rfl) (by kernel_rfl) (by kernel_rfl) (by kernel_rfl) (fun _ => rfl) (fun k hk => by subst hk; kernel_rfl) h44) ?_
   obtain ⟨h45, h⟩ := chk_some h
   refine ot_sp (y_apn 48 3 1 (eInt .i64) (rfl) (fun _ => rfl) h45) ?_
   refine ot_end ?_
   obtain ⟨v16, h46, h⟩ := bind_some h
   have h46 := Option.some.inj h46
   refine ve_go (ks' := [.c (cat Try.f27 p27_8), .c (cat Try.f27 p27_9), .b 1, .c (cat Try.f27 p27_2), k27_1 M w0 r m1, .b 0, .c (cat Try.f27 [1, 1, 1])]) 1 ⟨[(0,.sl (List.map eTBoxtreeBox v1)),(3,.sl (List.map (eInt .i64) v11)),(4,.int .i64 v10),(5,.int .i64 v14),(6,.ref 48)],[],[(48,⟨3,1,List.map (eInt .i64) v16⟩)],[48]⟩ ?_ (by subst h46; kernel_rfl)
   refine ve_in 3 ?_
   obtain ⟨h47, h⟩ := chk_some h
   refine ot_sp (y_app 52 48 3 1 (eInt .i64) (rfl) (fun _ => rfl) h47) ?_
   refine ot_end ?_
   refine ve_in 3 ?_
   obtain ⟨h48, h⟩ := chk_some h
   refine ot_sp (aop_slice_sl (eInt .i64) v11 v14 (v11.length : Int) 22 (.tmp 54) (some (.tmp 55)) none 56 (e := 3) (sz := 1) (by kernel_rfl) (by kernel_rfl) (by kernel_rfl) (by kernel_rfl) (by kernel_rfl) (by kernel_rfl) (fun _ => rfl) (fun k hk => by subst hk; kernel_rfl) h48) ?_
   obtain ⟨h49, h⟩ := chk_some h
   refine ot_sp (y_app 57 48 3 1 (eInt .i64) (rfl) (fun _ => rfl) h49) ?_
   refine ot_end ?_
   refine ve_un (ks' := [.c (cat Try.f27 p27_2), k27_1 M w0 r m1, .b 0, .c (cat Try.f27 [1, 1, 1])]) 1 ?_
   refine ve_m 48 2003 ?_
   exact ve_arr 0 (g_ref19_Order_j3_ok hK hL1 h)
theorem g_ref19_Order_l2_b_ok (hK : KnOk K) (hL1 : H27_1 M w0 r v1 m1 L1) (hL2 : H27_2 M w0 r v1 v10 v11 m1 m2 L2) (h : g_ref19_Order_l2_b K n v1 v10 v11 L1 L2 v14 = some r) : VE (cx27 M w0) (q27 M w0 r) [.c (cat Try.f27 p27_3), k27_2 M w0 r m1 m2, .b 2, .c (cat Try.f27 p27_1), .b 1, .c (cat Try.f27 p27_2), k27_1 M w0 r m1, .b 0, .c (cat Try.f27 [1, 1, 1])] .normal (s27_l2 v1 v10 v11 v14) := by
  unfold g_ref19_Order_l2_b at h
  refine ve_un (ks' := [.c (cat Try.f27 p27_10), .c (cat Try.f27 p27_4), .c (cat Try.f27 p27_5), k27_2 M w0 r m1 m2, .b 2, .c (cat Try.f27 p27_1), .b 1, .c (cat Try.f27 p27_2), k27_1 M w0 r m1, .b 0, .c (cat Try.f27 [1, 1, 1])]) 2 ?_
  refine ve_pk [0, 3, 4, 5] [] [2003] ?_
  rcases ite_some h with ⟨h39, h⟩ | ⟨h39, h⟩
  ·
   obtain ⟨h40, h⟩ := chk_some h
   obtain ⟨h41, h⟩ := chk_some h
   obtain ⟨h42, h⟩ := chk_some h
   refine ve_dr 0 [(21, .int .i64 v14), (22, .bool (decide (v14 > 0))), (23, .bool true), (24, .sl (List.map eTBoxtreeBox v1)), (25, .ref 2003), (26, .int .i64 v14), (27, .int .i64 (w64 (v14 - 1))), (28, .eptr 2003 1 (((w64 (v14 - 1))).toNat) 0), (29, .int .i64 (List.getD v11 ((w64 (v14 - 1))).toNat default)), (30, .cptr (xTBoxtreeBox (List.getD v1 ((List.getD v11 ((w64 (v14 - 1))).toNat default)).toNat default))), (31, .cptr (List.drop 2 (xTBoxtreeBox (List.getD v1 ((List.getD v11 ((w64 (v14 - 1))).toNat default)).toNat default)))), (32, .cptr (List.drop 48 (List.drop 2 (xTBoxtreeBox (List.getD v1 ((List.getD v11 ((w64 (v14 - 1))).toNat default)).toNat default))))), (33, .int .i64 (((List.getD v1 ((List.getD v11 ((w64 (v14 - 1))).toNat default)).toNat default).Style).Order)), (34, .sl (List.map eTBoxtreeBox v1)), (35, .int .i64 v10), (36, .cptr (xTBoxtreeBox (List.getD v1 (v10).toNat default))), (37, .cptr (List.drop 2 (xTBoxtreeBox (List.getD v1 (v10).toNat default)))), (38, .cptr (List.drop 48 (List.drop 2 (xTBoxtreeBox (List.getD v1 (v10).toNat default))))), (39, .int .i64 (((List.getD v1 (v10).toNat default).Style).Order)), (40, .bool (decide ((((List.getD v1 ((List.getD v11 ((w64 (v14 - 1))).toNat default)).toNat default).Style).Order) > (((List.getD v1 (v10).toNat default).Style).Order)))), (41, .bool (decide ((((List.getD v1 ((List.getD v11 ((w64 (v14 - 1))).toNat default)).toNat default).Style).Order) > (((List.getD v1 (v10).toNat default).Style).Order))))] [] [] [] (d_vs [.v 0 1, .v 0 1] (d_c1 (k_v (lo := 0) (k := 1) (kallS ⟨(by kernel_rfl), (aop_boolc 23 (e := (decide (v14 > 0))) (b := true) h39 (by kernel_rfl) (by kernel_rfl))⟩ (kall0))) (d_vs [.v 0 1, .v 0 1, .v 0 1, .v 0 1] (d_c1 (e_v (lo := 0) (y_ixr 2003 1 (eInt .i64) (L := v11) (i := (w64 (v14 - 1))) (by first | exact h40 | exact Eq.trans (by simp only [List.length_set]) h40))) (d_c1 (e_v (lo := 0) (y_ldr 3 0 (eInt .i64) (eInt .i64) (inb_spec h40).2 (fun _ => rfl))) (d_c1 (e_v (lo := 0) (y_ixs eTBoxtreeBox xTBoxtreeBox h41 (eTBoxtreeBox_len) (xTBoxtreeBox_eq))) (d_vs [.v 0 1, .v 0 1, .v 0 1, .v 0 1, .v 0 1] (d_c1 (e_v (lo := 0) (y_ixs eTBoxtreeBox xTBoxtreeBox h42 (eTBoxtreeBox_len) (xTBoxtreeBox_eq))) (d_vs [.v 0 1, .v 0 1, .v 0 1, .v 0 1, .v 0 1] (d_nl)))))))))) ?_
   exact ve_arr 0 (g_ref19_Order_j1_ok hK hL1 hL2 h)
  ·
   refine ve_dr 0 [(21, .int .i64 v14), (22, .bool (decide (v14 > 0))), (23, .bool false), (24, .tup []), (25, .tup []), (26, .tup []), (27, .tup []), (28, .tup []), (29, .tup []), (30, .tup []), (31, .tup []), (32, .tup []), (33, .tup []), (34, .tup []), (35, .tup []), (36, .tup []), (37, .tup []), (38, .tup []), (39, .tup []), (40, .tup []), (41, .bool false)] [] [] [] (d_vs [.v 0 1, .v 0 1] (d_c1 (k_v (lo := 0) (k := 1) (kallS ⟨(by kernel_rfl), (aop_boolc 23 (e := (decide (v14 > 0))) (b := false) h39 (by kernel_rfl) (by kernel_rfl))⟩ (kall0))) (d_c1 (k_off (lo := 0) (k := 1) (by kernel_rfl) (kallS (by kernel_rfl) (kall0)) (kallS (by kernel_rfl) (kall0))) (d_c1 (k_off (lo := 0) (k := 1) (by kernel_rfl) (kallS (by kernel_rfl) (kall0)) (kallS (by kernel_rfl) (kall0))) (d_c1 (k_off (lo := 0) (k := 1) (by kernel_rfl) (kallS (by kernel_rfl) (kall0)) (kallS (by kernel_rfl) (kall0))) (d_c1 (k_off (lo := 0) (k := 1) (by kernel_rfl) (kallS (by kernel_rfl) (kall0)) (kallS (by kernel_rfl) (kall0))) (d_c1 (k_off (lo := 0) (k := 1) (by kernel_rfl) (kallS (by kernel_rfl) (kall0)) (kallS (by kernel_rfl) (kall0))) (d_c1 (k_off (lo := 0) (k := 1) (by kernel_rfl) (kallS (by kernel_rfl) (kall0)) (kallS (by kernel_rfl) (kall0))) (d_c1 (k_off (lo := 0) (k := 1) (by kernel_rfl) (kallS (by kernel_rfl) (kall0)) (kallS (by kernel_rfl) (kall0))) (d_c1 (k_off (lo := 0) (k := 1) (by kernel_rfl) (kallS (by kernel_rfl) (kall0)) (kallS (by kernel_rfl) (kall0))) (d_c1 (k_off (lo := 0) (k := 1) (by kernel_rfl) (kallS (by kernel_rfl) (kall0)) (kallS (by kernel_rfl) (kall0))) (d_c1 (k_off (lo := 0) (k := 1) (by kernel_rfl) (kallS (by kernel_rfl) (kall0)) (kallS (by kernel_rfl) (kall0))) (d_c1 (k_off (lo := 0) (k := 1) (by kernel_rfl) (kallS (by kernel_rfl) (kall0)) (kallS (by kernel_rfl) (kall0))) (d_c1 (k_off (lo := 0) (k := 1) (by kernel_rfl) (kallS (by kernel_rfl) (kall0)) (kallS (by kernel_rfl) (kall0))) (d_c1 (k_off (lo := 0) (k := 1) (by kernel_rfl) (kallS (by kernel_rfl) (kall0)) (kallS (by kernel_rfl) (kall0))) (d_c1 (k_off (lo := 0) (k := 1) (by kernel_rfl) (kallS (by kernel_rfl) (kall0)) (kallS (by kernel_rfl) (kall0))) (d_c1 (k_off (lo := 0) (k := 1) (by kernel_rfl) (kallS (by kernel_rfl) (kall0)) (kallS (by kernel_rfl) (kall0))) (d_c1 (k_off (lo := 0) (k := 1) (by kernel_rfl) (kallS (by kernel_rfl) (kall0)) (kallS (by kernel_rfl) (kall0))) (d_c1 (k_off (lo := 0) (k := 1) (by kernel_rfl) (kallS (by kernel_rfl) (kall0)) (kallS (by kernel_rfl) (kall0))) (d_vs [.v 0 1] (d_nl))))))))))))))))))))) ?_
   exact ve_arr 0 (g_ref19_Order_j1_ok hK hL1 hL2 h)
theorem g_ref19_Order_l2_ok (hK : KnOk K) (hL1 : H27_1 M w0 r v1 m1 L1) (m : Nat) : H27_2 M w0 r v1 v10 v11 m1 m (g_ref19_Order_l2 K n v1 v10 v11 L1 m) := by
  induction m with
 | zero => intro v14 h; cases h
 | succ m ih => intro v14 h; have h : g_ref19_Order_l2_b K n v1 v10 v11 L1 (g_ref19_Order_l2 K n v1 v10 v11 L1 m) v14 = some r := h; exact lp_round (g_ref19_Order_l2_b_ok hK hL1 ih h)
theorem g_ref19_Order_l4_b_ok (hK : KnOk K) (hL1 : H27_1 M w0 r v1 m1 L1) (h : g_ref19_Order_l4_b K n v1 L1 v10 v11 = some r) : VE (cx27 M w0) (q27 M w0 r) [.c (cat Try.f27 p27_0), k27_1 M w0 r m1, .b 0, .c (cat Try.f27 [1, 1, 1])] .normal (s27_l4 v1 v10 v11) := by
  unfold g_ref19_Order_l4_b at h
  refine ve_un (ks' := [.c (cat Try.f27 p27_11), .c (cat Try.f27 p27_12), .c (cat Try.f27 p27_13), k27_1 M w0 r m1, .b 0, .c (cat Try.f27 [1, 1, 1])]) 2 ?_
  refine ve_in 2 ?_
  refine ot_sp (y_len eTBoxtreeBox v1) ?_
  refine ot_end ?_
  rcases ite_some h with ⟨h30, h⟩ | ⟨h30, h⟩
  ·
   refine ve_sb 10 h30 ?_
   refine ve_un (ks' := [.c (cat Try.f27 p27_14), .c (cat Try.f27 p27_15), .c (cat Try.f27 p27_16), .b 1, .c (cat Try.f27 p27_2), k27_1 M w0 r m1, .b 0, .c (cat Try.f27 [1, 1, 1])]) 6 ?_
   refine ve_in 2 ?_
   obtain ⟨h31, h⟩ := chk_some h
   refine ot_sp (y_ixs eTBoxtreeBox xTBoxtreeBox h31 (eTBoxtreeBox_len) (xTBoxtreeBox_eq)) ?_
   refine ot_go 4 1 ?_
   obtain ⟨v12, h32, h⟩ := bind_some h
   refine ot_cl (g_ref17_In_ok hK h32) ?_
   refine ot_end ?_
   rcases ite_some h with ⟨h33, h⟩ | ⟨h33, h⟩
   ·
    refine ve_sb 18 h33 ?_
    exact ve_arr 4 (g_ref19_Order_j3_ok hK hL1 h)
   ·
    refine ve_sb 18 h33 ?_
    refine ve_un (ks' := [.c (cat Try.f27 p27_17), .c (cat Try.f27 p27_18), .b 1, .c (cat Try.f27 p27_2), k27_1 M w0 r m1, .b 0, .c (cat Try.f27 [1, 1, 1])]) 3 ?_
    refine ve_in 1 ?_
    refine ot_sp (y_len (eInt .i64) v11) ?_
    refine ot_end ?_
    exact ve_arr 2 (lp_en (p := p27_19) n (g_ref19_Order_l2_ok hK hL1 n h))
  ·
   refine ve_sb 10 h30 ?_
   refine ve_rt 8 ?_
   have hr := Option.some.inj h
   subst hr
   exact ve_o1
theorem g_ref19_Order_l4_ok (hK : KnOk K) (m : Nat) : H27_1 M w0 r v1 m (g_ref19_Order_l4 K n v1 m) := by
  induction m with
 | zero => intro v10 v11 h; cases h
 | succ m ih => intro v10 v11 h; have h : g_ref19_Order_l4_b K n v1 (g_ref19_Order_l4 K n v1 m) v10 v11 = some r := h; exact lp_round (g_ref19_Order_l4_b_ok hK ih h)
theorem g_ref19_Order_ok (hK : KnOk K) (h : g_ref19_Order K n v1 = some r) : ACalls Try.prog 27 [.sl (List.map eTBoxtreeBox v1)] (fun v s => v = .ref 2003 ∧ look 2003 s.r = some ⟨3, 1, List.map (eInt .i64) r⟩) := by
  refine acalls_intro (c := cat Try.f27 []) Try.func27 (by kernel_rfl) _ Try.ntmps27 (of_decide_eq_true (by kernel_rfl)) fun M w0 => ?_
  refine ve_cast (s' := ⟨[(0,.sl (List.map eTBoxtreeBox v1))],[],[],[]⟩) (by kernel_rfl) ?_
  unfold g_ref19_Order at h
  refine ve_un (ks' := [.c (cat Try.f27 p27_20), .b 0, .c (cat Try.f27 [1, 1, 1])]) 8 ?_
  refine ve_w 2003 3 3 1 ?_
  exact ve_arr 0 (lp_en (p := p27_20) n (g_ref19_Order_l4_ok hK n h))
end
def p9_0 : List Nat := ones 6 []
def p9_1 : List Nat := ones 5 [0, 1, 0, 0]
def p9_2 : List Nat := ones 5 [0, 1, 0, 0, 1, 0, 0, 1, 1]
def p9_3 : List Nat := ones 5 [0, 1, 0, 0, 1, 1]
def p9_4 : List Nat := ones 5 [0, 1, 0, 0, 0, 0]
def p9_5 : List Nat := ones 5 [0, 1, 0, 0, 0, 1]
def p9_6 : List Nat := ones 5 [0, 1, 0, 0, 1]
def p9_7 : List Nat := ones 5 [0, 1, 0, 0, 1, 0, 0, 0]
def p9_8 : List Nat := ones 5 [0, 1, 0, 0, 1, 0, 0, 1]
def p9_9 : List Nat := ones 5 [0, 1, 0, 0, 1, 0, 0, 1, 0]
def p9_10 : List Nat := ones 6 [0]
def p9_11 : List Nat := ones 7 []
def p9_12 : List Nat := [1, 1, 0, 0]
def p9_13 : List Nat := [1, 1, 0, 1]
def p9_14 : List Nat := [1, 1, 1, 0]
def p9_15 : List Nat := [1, 1, 1, 1]
def p9_16 : List Nat := [1, 1, 1, 1, 0]
def p9_17 : List Nat := ones 5 []
def p9_18 : List Nat := ones 5 [0, 1, 0]
noncomputable section
abbrev cx9 (M : Nat → Prop) (w0 : Base) : Cx := ⟨Try.prog, 90, M, w0⟩
abbrev q9 (M : Nat → Prop) (w0 : Base) (r : Bool) := bodyPost Try.prog Try.f9 (RetQ M w0 (fun v _ => v = .bool r))
abbrev k9_1 (M : Nat → Prop) (w0 : Base) (r : Bool) (m1 : Nat) : Kont := kl (cx9 M w0) (q9 M w0 r) [.b 0, .c (cat Try.f9 p9_0)] (cat Try.f9 p9_1) m1
def s9_j1 (v4 : TBoxtreeBox) (v5 : (List Int)) (v7 : Int) (v9 : Bool) : AS := ⟨[(3,.sl (List.map eTBoxtreeBox v4.Kids)),(4,.ref 1017),(5,.int .i64 v7),(85,.bool v9)],[],[(1017,⟨3,1,List.map (eInt .i64) v5⟩)],[1017]⟩
def s9_l2 (v4 : TBoxtreeBox) (v5 : (List Int)) (v7 : Int) : AS := ⟨[(3,.sl (List.map eTBoxtreeBox v4.Kids)),(4,.ref 1017),(5,.int .i64 v7)],[],[(1017,⟨3,1,List.map (eInt .i64) v5⟩)],[1017]⟩
abbrev H9_1 (M : Nat → Prop) (w0 : Base) (r : Bool) (v4 : TBoxtreeBox) (v5 : (List Int)) (m1 : Nat) (L1 : Int → Option Bool) : Prop := ∀ {v7 : Int}, L1 v7 = some r → LP (cx9 M w0) (q9 M w0 r) [.b 0, .c (cat Try.f9 p9_0)] (cat Try.f9 p9_1) m1 (s9_l2 v4 v5 v7)
variable {K : Kn} {n : Nat} {M : Nat → Prop} {w0 : Base} {r : Bool} {v1 : (List TKnapsackref17Spec)} {v4 : TBoxtreeBox} {v5 : (List Int)} {v7 : Int} {v9 : Bool} {m1 : Nat} {L1 : Int → Option Bool}
theorem g_law19_FlexOrder_j1_ok (hK : KnOk K) (hL1 : H9_1 M w0 r v4 v5 m1 L1) (h : g_law19_FlexOrder_j1 K n v4 v5 v7 L1 v9 = some r) : VE (cx9 M w0) (q9 M w0 r) [.c (cat Try.f9 p9_2), .b 1, .c (cat Try.f9 p9_3), k9_1 M w0 r m1, .b 0, .c (cat Try.f9 p9_0)] .normal (s9_j1 v4 v5 v7 v9) := by
  unfold g_law19_FlexOrder_j1 at h
  rcases ite_some h with ⟨h35, h⟩ | ⟨h35, h⟩
  ·
   refine ve_sb 85 h35 ?_
   refine ve_rt 9 ?_
   have hr := Option.some.inj h
   subst hr
   exact ve_d1
  ·
   refine ve_sb 85 h35 ?_
   exact ve_arr 4 (lp_back (hL1 h))
theorem g_law19_FlexOrder_l2_b_ok (hK : KnOk K) (hL1 : H9_1 M w0 r v4 v5 m1 L1) (h : g_law19_FlexOrder_l2_b K n v4 v5 L1 v7 = some r) : VE (cx9 M w0) (q9 M w0 r) [.c (cat Try.f9 p9_1), k9_1 M w0 r m1, .b 0, .c (cat Try.f9 p9_0)] .normal (s9_l2 v4 v5 v7) := by
  unfold g_law19_FlexOrder_l2_b at h
  refine ve_un (ks' := [.c (cat Try.f9 p9_4), .c (cat Try.f9 p9_5), .c (cat Try.f9 p9_6), k9_1 M w0 r m1, .b 0, .c (cat Try.f9 p9_0)]) 2 ?_
  refine ve_in 2 ?_
  refine ot_sp (y_len (eInt .i64) v5) ?_
  refine ot_end ?_
  rcases ite_some h with ⟨h21, h⟩ | ⟨h21, h⟩
  ·
   refine ve_sb 21 h21 ?_
   refine ve_un (ks' := [.c (cat Try.f9 p9_7), .c (cat Try.f9 p9_8), .b 1, .c (cat Try.f9 p9_3), k9_1 M w0 r m1, .b 0, .c (cat Try.f9 p9_0)]) 5 ?_
   refine ve_pk [3, 4, 5] [] [1017] ?_
   obtain ⟨h22, h⟩ := chk_some h
   obtain ⟨h23, h⟩ := chk_some h
   refine ve_dr 2 [(24, .ref 1017), (25, .int .i64 v7), (26, .int .i64 (w64 (v7 - 1))), (27, .eptr 1017 1 (((w64 (v7 - 1))).toNat) 0), (28, .int .i64 (List.getD v5 ((w64 (v7 - 1))).toNat default)), (29, .ref 1017), (30, .int .i64 v7), (31, .eptr 1017 1 ((v7).toNat) 0), (32, .int .i64 (List.getD v5 (v7).toNat default))] [] [] [stp Try.prog 90 Try.f9 p9_7 9, stp Try.prog 90 Try.f9 p9_7 10] (d_vs [.v 0 1, .v 0 1, .v 0 1] (d_c1 (e_v (lo := 0) (y_ixr 1017 1 (eInt .i64) (L := v5) (i := (w64 (v7 - 1))) (by first | exact h22 | exact Eq.trans (by simp only [List.length_set]) h22))) (d_c1 (e_v (lo := 0) (y_ldr 3 0 (eInt .i64) (eInt .i64) (inb_spec h22).2 (fun _ => rfl))) (d_vs [.v 0 2, .v 0 2] (d_c1 (k_v (lo := 0) (k := 2) (kallS ⟨(by kernel_rfl), (aop_eq (y_ixr 1017 1 (eInt .i64) (L := v5) (i := v7) (by first | exact h23 | exact Eq.trans (by simp only [List.length_set]) h23)) (by kernel_rfl))⟩ (kallS ⟨(by kernel_rfl), (aop_eq (y_ixr 1017 1 (eInt .i64) (L := v5) (i := v7) (by first | exact h23 | exact Eq.trans (by simp only [List.length_set]) h23)) (by kernel_rfl))⟩ (kall0)))) (d_c1 (k_v (lo := 0) (k := 2) (kallS ⟨(by kernel_rfl), (aop_eq (y_ldr 3 0 (eInt .i64) (eInt .i64) (inb_spec h23).2 (fun _ => rfl)) (by kernel_rfl))⟩ (kallS ⟨(by kernel_rfl), (aop_eq (y_ldr 3 0 (eInt .i64) (eInt .i64) (inb_spec h23).2 (fun _ => rfl)) (by kernel_rfl))⟩ (kall0)))) (d_c1 (e_d 0) (d_c1 (e_d 1) (d_nl))))))))) ?_
   obtain ⟨v8, h24, h⟩ := bind_some h
   have h24 := Option.some.inj h24
   refine ve_go (ks' := [.c (cat Try.f9 p9_9), .c (cat Try.f9 p9_2), .b 1, .c (cat Try.f9 p9_3), k9_1 M w0 r m1, .b 0, .c (cat Try.f9 p9_0)]) 1 ⟨[(3,.sl (List.map eTBoxtreeBox v4.Kids)),(4,.ref 1017),(5,.int .i64 v7),(6,.int .i64 v8),(7,.int .i64 (List.getD v5 (v7).toNat default))],[],[(1017,⟨3,1,List.map (eInt .i64) v5⟩)],[1017]⟩ ?_ (by subst h24; kernel_rfl)
   rcases ite_some h with ⟨h25, h⟩ | ⟨h25, h⟩
   ·
    refine ve_dr 0 [(33, .int .i64 v8), (34, .bool (decide (v8 < 0))), (35, .bool true), (36, .tup []), (37, .tup []), (38, .bool true), (39, .bool true), (40, .tup []), (41, .tup []), (42, .tup []), (43, .tup []), (44, .bool true), (45, .bool true), (46, .tup []), (47, .tup []), (48, .tup []), (49, .tup []), (50, .bool true), (51, .bool true), (52, .tup []), (53, .tup []), (54, .tup []), (55, .tup []), (56, .tup []), (57, .tup []), (58, .tup []), (59, .tup []), (60, .tup []), (61, .tup []), (62, .tup []), (63, .tup []), (64, .tup []), (65, .bool true), (66, .bool true), (67, .tup []), (68, .tup []), (69, .tup []), (70, .tup []), (71, .tup []), (72, .tup []), (73, .tup []), (74, .tup []), (75, .tup []), (76, .tup []), (77, .tup []), (78, .tup []), (79, .tup []), (80, .tup []), (81, .tup []), (82, .tup []), (83, .tup []), (84, .tup []), (85, .bool true)] [] [] [] (d_vs [.v 0 1, .v 0 1] (d_c1 (k_v (lo := 0) (k := 1) (kallS ⟨(by kernel_rfl), (aop_boolc 35 (e := (decide (v8 < 0))) (b := true) h25 (by kernel_rfl) (by kernel_rfl))⟩ (kall0))) (d_c1 (k_off (lo := 0) (k := 1) (by kernel_rfl) (kallS (by kernel_rfl) (kall0)) (kallS (by kernel_rfl) (kall0))) (d_c1 (k_off (lo := 0) (k := 1) (by kernel_rfl) (kallS (by kernel_rfl) (kall0)) (kallS (by kernel_rfl) (kall0))) (d_vs [.v 0 1, .v 0 1] (d_c1 (k_off (lo := 0) (k := 1) (by kernel_rfl) (kallS (by kernel_rfl) (kall0)) (kallS (by kernel_rfl) (kall0))) (d_c1 (k_off (lo := 0) (k := 1) (by kernel_rfl) (kallS (by kernel_rfl) (kall0)) (kallS (by kernel_rfl) (kall0))) (d_c1 (k_off (lo := 0) (k := 1) (by kernel_rfl) (kallS (by kernel_rfl) (kall0)) (kallS (by kernel_rfl) (kall0))) (d_c1 (k_off (lo := 0) (k := 1) (by kernel_rfl) (kallS (by kernel_rfl) (kall0)) (kallS (by kernel_rfl) (kall0))) (d_vs [.v 0 1, .v 0 1] (d_c1 (k_off (lo := 0) (k := 1) (by kernel_rfl) (kallS (by kernel_rfl) (kall0)) (kallS (by kernel_rfl) (kall0))) (d_c1 (k_off (lo := 0) (k := 1) (by kernel_rfl) (kallS (by kernel_rfl) (kall0)) (kallS (by kernel_rfl) (kall0))) (d_c1 (k_off (lo := 0) (k := 1) (by kernel_rfl) (kallS (by kernel_rfl) (kall0)) (kallS (by kernel_rfl) (kall0))) (d_c1 (k_off (lo := 0) (k := 1) (by kernel_rfl) (kallS (by kernel_rfl) (kall0)) (kallS (by kernel_rfl) (kall0))) (d_vs [.v 0 1, .v 0 1] (d_c1 (k_off (lo := 0) (k := 1) (by kernel_rfl) (kallS (by kernel_rfl) (kall0)) (kallS (by kernel_rfl) (kall0))) (d_c1 (k_off (lo := 0) (k := 1) (by kernel_rfl) (kallS (by kernel_rfl) (kall0)) (kallS (by kernel_rfl) (kall0))) (d_c1 (k_off (lo := 0) (k := 1) (by kernel_rfl) (kallS (by kernel_rfl) (kall0)) (kallS (by kernel_rfl) (kall0))) (d_c1 (k_off (lo := 0) (k := 1) (by kernel_rfl) (kallS (by kernel_rfl) (kall0)) (kallS (by kernel_rfl) (kall0))) (d_c1 (k_off (lo := 0) (k := 1) (by kernel_rfl) (kallS (by kernel_rfl) (kall0)) (kallS (by kernel_rfl) (kall0))) (d_c1 (k_off (lo := 0) (k := 1) (by kernel_rfl) (kallS (by kernel_rfl) (kall0)) (kallS (by kernel_rfl) (kall0))) (d_c1 (k_off (lo := 0) (k := 1) (by kernel_rfl) (kallS (by kernel_rfl) (kall0)) (kallS (by kernel_rfl) (kall0))) (d_c1 (k_off (lo := 0) (k := 1) (by kernel_rfl) (kallS (by kernel_rfl) (kall0)) (kallS (by kernel_rfl) (kall0))) (d_c1 (k_off (lo := 0) (k := 1) (by kernel_rfl) (kallS (by kernel_rfl) (kall0)) (kallS (by kernel_rfl) (kall0))) (d_c1 (k_off (lo := 0) (k := 1) (by kernel_rfl) (kallS (by kernel_rfl) (kall0)) (kallS (by kernel_rfl) (kall0))) (d_c1 (k_off (lo := 0) (k := 1) (by kernel_rfl) (kallS (by kernel_rfl) (kall0)) (kallS (by kernel_rfl) (kall0))) (d_c1 (k_off (lo := 0) (k := 1) (by kernel_rfl) (kallS (by kernel_rfl) (kall0)) (kallS (by kernel_rfl) (kall0))) (d_c1 (k_off (lo := 0) (k := 1) (by kernel_rfl) (kallS (by kernel_rfl) (kall0)) (kallS (by kernel_rfl) (kall0))) (d_vs [.v 0 1, .v 0 1] (d_c1 (k_off (lo := 0) (k := 1) (by kernel_rfl) (kallS (by kernel_rfl) (kall0)) (kallS (by kernel_rfl) (kall0))) (d_c1 (k_off (lo := 0) (k := 1) (by kernel_rfl) (kallS (by kernel_rfl) (kall0)) (kallS (by kernel_rfl) (kall0))) (d_c1 (k_off (lo := 0) (k := 1) (by kernel_rfl) (kallS (by kernel_rfl) (kall0)) (kallS (by kernel_rfl) (kall0))) (d_c1 (k_off (lo := 0) (k := 1) (by kernel_rfl) (kallS (by kernel_rfl) (kall0)) (kallS (by kernel_rfl) (kall0))) (d_c1 (k_off (lo := 0) (k := 1) (by kernel_rfl) (kallS (by kernel_rfl) (kall0)) (kallS (by kernel_rfl) (kall0))) (d_c1 (k_off (lo := 0) (k := 1) (by kernel_rfl) (kallS (by kernel_rfl) (kall0)) (kallS (by kernel_rfl) (kall0))) (d_c1 (k_off (lo := 0) (k := 1) (by kernel_rfl) (kallS (by kernel_rfl) (kall0)) (kallS (by kernel_rfl) (kall0))) (d_c1 (k_off (lo := 0) (k := 1) (by kernel_rfl) (kallS (by kernel_rfl) (kall0)) (kallS (by kernel_rfl) (kall0))) (d_c1 (k_off (lo := 0) (k := 1) (by kernel_rfl) (kallS (by kernel_rfl) (kall0)) (kallS (by kernel_rfl) (kall0))) (d_c1 (k_off (lo := 0) (k := 1) (by kernel_rfl) (kallS (by kernel_rfl) (kall0)) (kallS (by kernel_rfl) (kall0))) (d_c1 (k_off (lo := 0) (k := 1) (by kernel_rfl) (kallS (by kernel_rfl) (kall0)) (kallS (by kernel_rfl) (kall0))) (d_c1 (k_off (lo := 0) (k := 1) (by kernel_rfl) (kallS (by kernel_rfl) (kall0)) (kallS (by kernel_rfl) (kall0))) (d_c1 (k_off (lo := 0) (k := 1) (by kernel_rfl) (kallS (by kernel_rfl) (kall0)) (kallS (by kernel_rfl) (kall0))) (d_c1 (k_off (lo := 0) (k := 1) (by kernel_rfl) (kallS (by kernel_rfl) (kall0)) (kallS (by kernel_rfl) (kall0))) (d_c1 (k_off (lo := 0) (k := 1) (by kernel_rfl) (kallS (by kernel_rfl) (kall0)) (kallS (by kernel_rfl) (kall0))) (d_c1 (k_off (lo := 0) (k := 1) (by kernel_rfl) (kallS (by kernel_rfl) (kall0)) (kallS (by kernel_rfl) (kall0))) (d_c1 (k_off (lo := 0) (k := 1) (by kernel_rfl) (kallS (by kernel_rfl) (kall0)) (kallS (by kernel_rfl) (kall0))) (d_c1 (k_off (lo := 0) (k := 1) (by kernel_rfl) (kallS (by kernel_rfl) (kall0)) (kallS (by kernel_rfl) (kall0))) (d_vs [.v 0 1] (d_nl))))))))))))))))))))))))))))))))))))))))))))))))) ?_
    exact ve_arr 0 (g_law19_FlexOrder_j1_ok hK hL1 h)
   ·
    rcases ite_some h with ⟨h26, h⟩ | ⟨h26, h⟩
    ·
     refine ve_dr 0 [(33, .int .i64 v8), (34, .bool (decide (v8 < 0))), (35, .bool false), (36, .int .i64 (List.getD v5 (v7).toNat default)), (37, .bool (decide ((List.getD v5 (v7).toNat default) < 0))), (38, .bool (decide ((List.getD v5 (v7).toNat default) < 0))), (39, .bool true), (40, .tup []), (41, .tup []), (42, .tup []), (43, .tup []), (44, .bool true), (45, .bool true), (46, .tup []), (47, .tup []), (48, .tup []), (49, .tup []), (50, .bool true), (51, .bool true), (52, .tup []), (53, .tup []), (54, .tup []), (55, .tup []), (56, .tup []), (57, .tup []), (58, .tup []), (59, .tup []), (60, .tup []), (61, .tup []), (62, .tup []), (63, .tup []), (64, .tup []), (65, .bool true), (66, .bool true), (67, .tup []), (68, .tup []), (69, .tup []), (70, .tup []), (71, .tup []), (72, .tup []), (73, .tup []), (74, .tup []), (75, .tup []), (76, .tup []), (77, .tup []), (78, .tup []), (79, .tup []), (80, .tup []), (81, .tup []), (82, .tup []), (83, .tup []), (84, .tup []), (85, .bool true)] [] [] [] (d_vs [.v 0 1, .v 0 1] (d_c1 (k_v (lo := 0) (k := 1) (kallS ⟨(by kernel_rfl), (aop_boolc 35 (e := (decide (v8 < 0))) (b := false) h25 (by kernel_rfl) (by kernel_rfl))⟩ (kall0))) (d_vs [.v 0 1, .v 0 1, .v 0 1] (d_c1 (k_v (lo := 0) (k := 1) (kallS ⟨(by kernel_rfl), (aop_boolc 39 (e := (decide ((List.getD v5 (v7).toNat default) < 0))) (b := true) h26 (by kernel_rfl) (by kernel_rfl))⟩ (kall0))) (d_c1 (k_off (lo := 0) (k := 1) (by kernel_rfl) (kallS (by kernel_rfl) (kall0)) (kallS (by kernel_rfl) (kall0))) (d_c1 (k_off (lo := 0) (k := 1) (by kernel_rfl) (kallS (by kernel_rfl) (kall0)) (kallS (by kernel_rfl) (kall0))) (d_c1 (k_off (lo := 0) (k := 1) (by kernel_rfl) (kallS (by kernel_rfl) (kall0)) (kallS (by kernel_rfl) (kall0))) (d_c1 (k_off (lo := 0) (k := 1) (by kernel_rfl) (kallS (by kernel_rfl) (kall0)) (kallS (by kernel_rfl) (kall0))) (d_vs [.v 0 1, .v 0 1] (d_c1 (k_off (lo := 0) (k := 1) (by kernel_rfl) (kallS (by kernel_rfl) (kall0)) (kallS (by kernel_rfl) (kall0))) (d_c1 (k_off (lo := 0) (k := 1) (by kernel_rfl) (kallS (by kernel_rfl) (kall0)) (kallS (by kernel_rfl) (kall0))) (d_c1 (k_off (lo := 0) (k := 1) (by kernel_rfl) (kallS (by kernel_rfl) (kall0)) (kallS (by kernel_rfl) (kall0))) (d_c1 (k_off (lo := 0) (k := 1) (by kernel_rfl) (kallS (by kernel_rfl) (kall0)) (kallS (by kernel_rfl) (kall0))) (d_vs [.v 0 1, .v 0 1] (d_c1 (k_off (lo := 0) (k := 1) (by kernel_rfl) (kallS (by kernel_rfl) (kall0)) (kallS (by kernel_rfl) (kall0))) (d_c1 (k_off (lo := 0) (k := 1) (by kernel_rfl) (kallS (by kernel_rfl) (kall0)) (kallS (by kernel_rfl) (kall0))) (d_c1 (k_off (lo := 0) (k := 1) (by kernel_rfl) (kallS (by kernel_rfl) (kall0)) (kallS (by kernel_rfl) (kall0))) (d_c1 (k_off (lo := 0) (k := 1) (by kernel_rfl) (kallS (by kernel_rfl) (kall0)) (kallS (by kernel_rfl) (kall0))) (d_c1 (k_off (lo := 0) (k := 1) (by kernel_rfl) (kallS (by kernel_rfl) (kall0)) (kallS (by kernel_rfl) (kall0))) (d_c1 (k_off (lo := 0) (k := 1) (by kernel_rfl) (kallS (by kernel_rfl) (kall0)) (kallS (by kernel_rfl) (kall0))) (d_c1 (k_off (lo := 0) (k := 1) (by kernel_rfl) (kallS (by kernel_rfl) (kall0)) (kallS (by kernel_rfl) (kall0))) (d_c1 (k_off (lo := 0) (k := 1) (by kernel_rfl) (kallS (by kernel_rfl) (kall0)) (kallS (by kernel_rfl) (kall0))) (d_c1 (k_off (lo := 0) (k := 1) (by kernel_rfl) (kallS (by kernel_rfl) (kall0)) (kallS (by kernel_rfl) (kall0))) (d_c1 (k_off (lo := 0) (k := 1) (by kernel_rfl) (kallS (by kernel_rfl) (kall0)) (kallS (by kernel_rfl) (kall0))) (d_c1 (k_off (lo := 0) (k := 1) (by kernel_rfl) (kallS (by kernel_rfl) (kall0)) (kallS (by kernel_rfl) (kall0))) (d_c1 (k_off (lo := 0) (k := 1) (by kernel_rfl) (kallS (by kernel_rfl) (kall0)) (kallS (by kernel_rfl) (kall0))) (d_c1 (k_off (lo := 0) (k := 1) (by kernel_rfl) (kallS (by kernel_rfl) (kall0)) (kallS (by kernel_rfl) (kall0))) (d_vs [.v 0 1, .v 0 1] (d_c1 (k_off (lo := 0) (k := 1) (by kernel_rfl) (kallS (by kernel_rfl) (kall0)) (kallS (by kernel_rfl) (kall0))) (d_c1 (k_off (lo := 0) (k := 1) (by kernel_rfl) (kallS (by kernel_rfl) (kall0)) (kallS (by kernel_rfl) (kall0))) (d_c1 (k_off (lo := 0) (k := 1) (by kernel_rfl) (kallS (by kernel_rfl) (kall0)) (kallS (by kernel_rfl) (kall0))) (d_c1 (k_off (lo := 0) (k := 1) (by kernel_rfl) (kallS (by kernel_rfl) (kall0)) (kallS (by kernel_rfl) (kall0))) (d_c1 (k_off (lo := 0) (k := 1) (by kernel_rfl) (kallS (by kernel_rfl) (kall0)) (kallS (by kernel_rfl) (kall0))) (d_c1 (k_off (lo := 0) (k := 1) (by kernel_rfl) (kallS (by kernel_rfl) (kall0)) (kallS (by kernel_rfl) (kall0))) (d_c1 (k_off (lo := 0) (k := 1) (by kernel_rfl) (kallS (by kernel_rfl) (kall0)) (kallS (by kernel_rfl) (kall0))) (d_c1 (k_off (lo := 0) (k := 1) (by kernel_rfl) (kallS (by kernel_rfl) (kall0)) (kallS (by kernel_rfl) (kall0))) (d_c1 (k_off (lo := 0) (k := 1) (by kernel_rfl) (kallS (by kernel_rfl) (kall0)) (kallS (by kernel_rfl) (kall0))) (d_c1 (k_off (lo := 0) (k := 1) (by kernel_rfl) (kallS (by kernel_rfl) (kall0)) (kallS (by kernel_rfl) (kall0))) (d_c1 (k_off (lo := 0) (k := 1) (by kernel_rfl) (kallS (by kernel_rfl) (kall0)) (kallS (by kernel_rfl) (kall0))) (d_c1 (k_off (lo := 0) (k := 1) (by kernel_rfl) (kallS (by kernel_rfl) (kall0)) (kallS (by kernel_rfl) (kall0))) (d_c1 (k_off (lo := 0) (k := 1) (by kernel_rfl) (kallS (by kernel_rfl) (kall0)) (kallS (by kernel_rfl) (kall0))) (d_c1 (k_off (lo := 0) (k := 1) (by kernel_rfl) (kallS (by kernel_rfl) (kall0)) (kallS (by kernel_rfl) (kall0))) (d_c1 (k_off (lo := 0) (k := 1) (by kernel_rfl) (kallS (by kernel_rfl) (kall0)) (kallS (by kernel_rfl) (kall0))) (d_c1 (k_off (lo := 0) (k := 1) (by kernel_rfl) (kallS (by kernel_rfl) (kall0)) (kallS (by kernel_rfl) (kall0))) (d_c1 (k_off (lo := 0) (k := 1) (by kernel_rfl) (kallS (by kernel_rfl) (kall0)) (kallS (by kernel_rfl) (kall0))) (d_c1 (k_off (lo := 0) (k := 1) (by kernel_rfl) (kallS (by kernel_rfl) (kall0)) (kallS (by kernel_rfl) (kall0))) (d_vs [.v 0 1] (d_nl)))))))))))))))))))))))))))))))))))))))))))))))) ?_
     exact ve_arr 0 (g_law19_FlexOrder_j1_ok hK hL1 h)
    ·
     rcases ite_some h with ⟨h27, h⟩ | ⟨h27, h⟩
     ·
      refine ve_dr 0 [(33, .int .i64 v8), (34, .bool (decide (v8 < 0))), (35, .bool false), (36, .int .i64 (List.getD v5 (v7).toNat default)), (37, .bool (decide ((List.getD v5 (v7).toNat default) < 0))), (38, .bool (decide ((List.getD v5 (v7).toNat default) < 0))), (39, .bool false), (40, .int .i64 v8), (41, .sl (List.map eTBoxtreeBox v4.Kids)), (42, .int .i64 (v4.Kids.length : Int)), (43, .bool (decide (v8 ≥ (v4.Kids.length : Int)))), (44, .bool (decide (v8 ≥ (v4.Kids.length : Int)))), (45, .bool true), (46, .tup []), (47, .tup []), (48, .tup []), (49, .tup []), (50, .bool true), (51, .bool true), (52, .tup []), (53, .tup []), (54, .tup []), (55, .tup []), (56, .tup []), (57, .tup []), (58, .tup []), (59, .tup []), (60, .tup []), (61, .tup []), (62, .tup []), (63, .tup []), (64, .tup []), (65, .bool true), (66, .bool true), (67, .tup []), (68, .tup []), (69, .tup []), (70, .tup []), (71, .tup []), (72, .tup []), (73, .tup []), (74, .tup []), (75, .tup []), (76, .tup []), (77, .tup []), (78, .tup []), (79, .tup []), (80, .tup []), (81, .tup []), (82, .tup []), (83, .tup []), (84, .tup []), (85, .bool true)] [] [] [] (d_vs [.v 0 1, .v 0 1] (d_c1 (k_v (lo := 0) (k := 1) (kallS ⟨(by kernel_rfl), (aop_boolc 35 (e := (decide (v8 < 0))) (b := false) h25 (by kernel_rfl) (by kernel_rfl))⟩ (kall0))) (d_vs [.v 0 1, .v 0 1, .v 0 1] (d_c1 (k_v (lo := 0) (k := 1) (kallS ⟨(by kernel_rfl), (aop_boolc 39 (e := (decide ((List.getD v5 (v7).toNat default) < 0))) (b := false) h26 (by kernel_rfl) (by kernel_rfl))⟩ (kall0))) (d_vs [.v 0 1, .v 0 1] (d_c1 (e_v (lo := 0) (y_len eTBoxtreeBox v4.Kids)) (d_vs [.v 0 1, .v 0 1] (d_c1 (k_v (lo := 0) (k := 1) (kallS ⟨(by kernel_rfl), (aop_boolc 45 (e := (decide (v8 ≥ (v4.Kids.length : Int)))) (b := true) h27 (by kernel_rfl) (by kernel_rfl))⟩ (kall0))) (d_c1 (k_off (lo := 0) (k := 1) (by kernel_rfl) (kallS (by kernel_rfl) (kall0)) (kallS (by kernel_rfl) (kall0))) (d_c1 (k_off (lo := 0) (k := 1) (by kernel_rfl) (kallS (by kernel_rfl) (kall0)) (kallS (by kernel_rfl) (kall0))) (d_c1 (k_off (lo := 0) (k := 1) (by kernel_rfl) (kallS (by kernel_rfl) (kall0)) (kallS (by kernel_rfl) (kall0))) (d_c1 (k_off (lo := 0) (k := 1) (by kernel_rfl) (kallS (by kernel_rfl) (kall0)) (kallS (by kernel_rfl) (kall0))) (d_vs [.v 0 1, .v 0 1] (d_c1 (k_off (lo := 0) (k := 1) (by kernel_rfl) (kallS (by kernel_rfl) (kall0)) (kallS (by kernel_rfl) (kall0))) (d_c1 (k_off (lo := 0) (k := 1) (by kernel_rfl) (kallS (by kernel_rfl) (kall0)) (kallS (by kernel_rfl) (kall0))) (d_c1 (k_off (lo := 0) (k := 1) (by kernel_rfl) (kallS (by kernel_rfl) (kall0)) (kallS (by kernel_rfl) (kall0))) (d_c1 (k_off (lo := 0) (k := 1) (by kernel_rfl) (kallS (by kernel_rfl) (kall0)) (kallS (by kernel_rfl) (kall0))) (d_c1 (k_off (lo := 0) (k := 1) (by kernel_rfl) (kallS (by kernel_rfl) (kall0)) (kallS (by kernel_rfl) (kall0))) (d_c1 (k_off (lo := 0) (k := 1) (by kernel_rfl) (kallS (by kernel_rfl) (kall0)) (kallS (by kernel_rfl) (kall0))) (d_c1 (k_off (lo := 0) (k := 1) (by kernel_rfl) (kallS (by kernel_rfl) (kall0)) (kallS (by kernel_rfl) (kall0))) (d_c1 (k_off (lo := 0) (k := 1) (by kernel_rfl) (kallS (by kernel_rfl) (kall0)) (kallS (by kernel_rfl) (kall0))) (d_c1 (k_off (lo := 0) (k := 1) (by kernel_rfl) (kallS (by kernel_rfl) (kall0)) (kallS (by kernel_rfl) (kall0))) (d_c1 (k_off (lo := 0) (k := 1) (by kernel_rfl) (kallS (by kernel_rfl) (kall0)) (kallS (by kernel_rfl) (kall0))) (d_c1 (k_off (lo := 0) (k := 1) (by kernel_rfl) (kallS (by kernel_rfl) (kall0)) (kallS (by kernel_rfl) (kall0))) (d_c1 (k_off (lo := 0) (k := 1) (by kernel_rfl) (kallS (by kernel_rfl) (kall0)) (kallS (by kernel_rfl) (kall0))) (d_c1 (k_off (lo := 0) (k := 1) (by kernel_rfl) (kallS (by kernel_rfl) (kall0)) (kallS (by kernel_rfl) (kall0))) (d_vs [.v 0 1, .v 0 1] (d_c1 (k_off (lo := 0) (k := 1) (by kernel_rfl) (kallS (by kernel_rfl) (kall0)) (kallS (by kernel_rfl) (kall0))) (d_c1 (k_off (lo := 0) (k := 1) (by kernel_rfl) (kallS (by kernel_rfl) (kall0)) (kallS (by kernel_rfl) (kall0))) (d_c1 (k_off (lo := 0) (k := 1) (by kernel_rfl) (kallS (by kernel_rfl) (kall0)) (kallS (by kernel_rfl) (kall0))) (d_c1 (k_off (lo := 0) (k := 1) (by kernel_rfl) (kallS (by kernel_rfl) (kall0)) (kallS (by kernel_rfl) (kall0))) (d_c1 (k_off (lo := 0) (k := 1) (by kernel_rfl) (kallS (by kernel_rfl) (kall0)) (kallS (by kernel_rfl) (kall0))) (d_c1 (k_off (lo := 0) (k := 1) (by kernel_rfl) (kallS (by kernel_rfl) (kall0)) (kallS (by kernel_rfl) (kall0))) (d_c1 (k_off (lo := 0) (k := 1) (by kernel_rfl) (kallS (by kernel_rfl) (kall0)) (kallS (by kernel_rfl) (kall0))) (d_c1 (k_off (lo := 0) (k := 1) (by kernel_rfl) (kallS (by kernel_rfl) (kall0)) (kallS (by kernel_rfl) (kall0))) (d_c1 (k_off (lo := 0) (k := 1) (by kernel_rfl) (kallS (by kernel_rfl) (kall0)) (kallS (by kernel_rfl) (kall0))) (d_c1 (k_off (lo := 0) (k := 1) (by kernel_rfl) (kallS (by kernel_rfl) (kall0)) (kallS (by kernel_rfl) (kall0))) (d_c1 (k_off (lo := 0) (k := 1) (by kernel_rfl) (kallS (by kernel_rfl) (kall0)) (kallS (by kernel_rfl) (kall0))) (d_c1 (k_off (lo := 0) (k := 1) (by kernel_rfl) (kallS (by kernel_rfl) (kall0)) (kallS (by kernel_rfl) (kall0))) (d_c1 (k_off (lo := 0) (k := 1) (by kernel_rfl) (kallS (by kernel_rfl) (kall0)) (kallS (by kernel_rfl) (kall0))) (d_c1 (k_off (lo := 0) (k := 1) (by kernel_rfl) (kallS (by kernel_rfl) (kall0)) (kallS (by kernel_rfl) (kall0))) (d_c1 (k_off (lo := 0) (k := 1) (by kernel_rfl) (kallS (by kernel_rfl) (kall0)) (kallS (by kernel_rfl) (kall0))) (d_c1 (k_off (lo := 0) (k := 1) (by kernel_rfl) (kallS (by kernel_rfl) (kall0)) (kallS (by kernel_rfl) (kall0))) (d_c1 (k_off (lo := 0) (k := 1) (by kernel_rfl) (kallS (by kernel_rfl) (kall0)) (kallS (by kernel_rfl) (kall0))) (d_c1 (k_off (lo := 0) (k := 1) (by kernel_rfl) (kallS (by kernel_rfl) (kall0)) (kallS (by kernel_rfl) (kall0))) (d_vs [.v 0 1] (d_nl))))))))))))))))))))))))))))))))))))))))))))))) ?_
      exact ve_arr 0 (g_law19_FlexOrder_j1_ok hK hL1 h)
     ·
      rcases ite_some h with ⟨h28, h⟩ | ⟨h28, h⟩
      ·
       refine ve_dr 0 [(33, .int .i64 v8), (34, .bool (decide (v8 < 0))), (35, .bool false), (36, .int .i64 (List.getD v5 (v7).toNat default)), (37, .bool (decide ((List.getD v5 (v7).toNat default) < 0))), (38, .bool (decide ((List.getD v5 (v7).toNat default) < 0))), (39, .bool false), (40, .int .i64 v8), (41, .sl (List.map eTBoxtreeBox v4.Kids)), (42, .int .i64 (v4.Kids.length : Int)), (43, .bool (decide (v8 ≥ (v4.Kids.length : Int)))), (44, .bool (decide (v8 ≥ (v4.Kids.length : Int)))), (45, .bool false), (46, .int .i64 (List.getD v5 (v7).toNat default)), (47, .sl (List.map eTBoxtreeBox v4.Kids)), (48, .int .i64 (v4.Kids.length : Int)), (49, .bool (decide ((List.getD v5 (v7).toNat default) ≥ (v4.Kids.length : Int)))), (50, .bool (decide ((List.getD v5 (v7).toNat default) ≥ (v4.Kids.length : Int)))), (51, .bool true), (52, .tup []), (53, .tup []), (54, .tup []), (55, .tup []), (56, .tup []), (57, .tup []), (58, .tup []), (59, .tup []), (60, .tup []), (61, .tup []), (62, .tup []), (63, .tup []), (64, .tup []), (65, .bool true), (66, .bool true), (67, .tup []), (68, .tup []), (69, .tup []), (70, .tup []), (71, .tup []), (72, .tup []), (73, .tup []), (74, .tup []), (75, .tup []), (76, .tup []), (77, .tup []), (78, .tup []), (79, .tup []), (80, .tup []), (81, .tup []), (82, .tup []), (83, .tup []), (84, .tup []), (85, .bool true)] [] [] [] (d_vs [.v 0 1, .v 0 1] (d_c1 (k_v (lo := 0) (k := 1) (kallS ⟨(by kernel_rfl), (aop_boolc 35 (e := (decide (v8 < 0))) (b := false) h25 (by kernel_rfl) (by kernel_rfl))⟩ (kall0))) (d_vs [.v 0 1, .v 0 1, .v 0 1] (d_c1 (k_v (lo := 0) (k := 1) (kallS ⟨(by kernel_rfl), (aop_boolc 39 (e := (decide ((List.getD v5 (v7).toNat default) < 0))) (b := false) h26 (by kernel_rfl) (by kernel_rfl))⟩ (kall0))) (d_vs [.v 0 1, .v 0 1] (d_c1 (e_v (lo := 0) (y_len eTBoxtreeBox v4.Kids)) (d_vs [.v 0 1, .v 0 1] (d_c1 (k_v (lo := 0) (k := 1) (kallS ⟨(by kernel_rfl), (aop_boolc 45 (e := (decide (v8 ≥ (v4.Kids.length : Int)))) (b := false) h27 (by kernel_rfl) (by kernel_rfl))⟩ (kall0))) (d_vs [.v 0 1, .v 0 1] (d_c1 (e_v (lo := 0) (y_len eTBoxtreeBox v4.Kids)) (d_vs [.v 0 1, .v 0 1] (d_c1 (k_v (lo := 0) (k := 1) (kallS ⟨(by kernel_rfl), (aop_boolc 51 (e := (decide ((List.getD v5 (v7).toNat default) ≥ (v4.Kids.length : Int)))) (b := true) h28 (by kernel_rfl) (by kernel_rfl))⟩ (kall0))) (d_c1 (k_off (lo := 0) (k := 1) (by kernel_rfl) (kallS (by kernel_rfl) (kall0)) (kallS (by kernel_rfl) (kall0))) (d_c1 (k_off (lo := 0) (k := 1) (by kernel_rfl) (kallS (by kernel_rfl) (kall0)) (kallS (by kernel_rfl) (kall0))) (d_c1 (k_off (lo := 0) (k := 1) (by kernel_rfl) (kallS (by kernel_rfl) (kall0)) (kallS (by kernel_rfl) (kall0))) (d_c1 (k_off (lo := 0) (k := 1) (by kernel_rfl) (kallS (by kernel_rfl) (kall0)) (kallS (by kernel_rfl) (kall0))) (d_c1 (k_off (lo := 0) (k := 1) (by kernel_rfl) (kallS (by kernel_rfl) (kall0)) (kallS (by kernel_rfl) (kall0))) (d_c1 (k_off (lo := 0) (k := 1) (by kernel_rfl) (kallS (by kernel_rfl) (kall0)) (kallS (by kernel_rfl) (kall0))) (d_c1 (k_off (lo := 0) (k := 1) (by kernel_rfl) (kallS (by kernel_rfl) (kall0)) (kallS (by kernel_rfl) (kall0))) (d_c1 (k_off (lo := 0) (k := 1) (by kernel_rfl) (kallS (by kernel_rfl) (kall0)) (kallS (by kernel_rfl) (kall0))) (d_c1 (k_off (lo := 0) (k := 1) (by kernel_rfl) (kallS (by kernel_rfl) (kall0)) (kallS (by kernel_rfl) (kall0))) (d_c1 (k_off (lo := 0) (k := 1) (by kernel_rfl) (kallS (by kernel_rfl) (kall0)) (kallS (by kernel_rfl) (kall0))) (d_c1 (k_off (lo := 0) (k := 1) (by kernel_rfl) (kallS (by kernel_rfl) (kall0)) (kallS (by kernel_rfl) (kall0))) (d_c1 (k_off (lo := 0) (k := 1) (by kernel_rfl) (kallS (by kernel_rfl) (kall0)) (kallS (by kernel_rfl) (kall0))) (d_c1 (k_off (lo := 0) (k := 1) (by kernel_rfl) (kallS (by kernel_rfl) (kall0)) (kallS (by kernel_rfl) (kall0))) (d_vs [.v 0 1, .v 0 1] (d_c1 (k_off (lo := 0) (k := 1) (by kernel_rfl) (kallS (by kernel_rfl) (kall0)) (kallS (by kernel_rfl) (kall0))) (d_c1 (k_off (lo := 0) (k := 1) (by kernel_rfl) (kallS (by kernel_rfl) (kall0)) (kallS (by kernel_rfl) (kall0))) (d_c1 (k_off (lo := 0) (k := 1) (by kernel_rfl) (kallS (by kernel_rfl) (kall0)) (kallS (by kernel_rfl) (kall0))) (d_c1 (k_off (lo := 0) (k := 1) (by kernel_rfl) (kallS (by kernel_rfl) (kall0)) (kallS (by kernel_rfl) (kall0))) (d_c1 (k_off (lo := 0) (k := 1) (by kernel_rfl) (kallS (by kernel_rfl) (kall0)) (kallS (by kernel_rfl) (kall0))) (d_c1 (k_off (lo := 0) (k := 1) (by kernel_rfl) (kallS (by kernel_rfl) (kall0)) (kallS (by kernel_rfl) (kall0))) (d_c1 (k_off (lo := 0) (k := 1) (by kernel_rfl) (kallS (by kernel_rfl) (kall0)) (kallS (by kernel_rfl) (kall0))) (d_c1 (k_off (lo := 0) (k := 1) (by kernel_rfl) (kallS (by kernel_rfl) (kall0)) (kallS (by kernel_rfl) (kall0))) (d_c1 (k_off (lo := 0) (k := 1) (by kernel_rfl) (kallS (by kernel_rfl) (kall0)) (kallS (by kernel_rfl) (kall0))) (d_c1 (k_off (lo := 0) (k := 1) (by kernel_rfl) (kallS (by kernel_rfl) (kall0)) (kallS (by kernel_rfl) (kall0))) (d_c1 (k_off (lo := 0) (k := 1) (by kernel_rfl) (kallS (by kernel_rfl) (kall0)) (kallS (by kernel_rfl) (kall0))) (d_c1 (k_off (lo := 0) (k := 1) (by kernel_rfl) (kallS (by kernel_rfl) (kall0)) (kallS (by kernel_rfl) (kall0))) (d_c1 (k_off (lo := 0) (k := 1) (by kernel_rfl) (kallS (by kernel_rfl) (kall0)) (kallS (by kernel_rfl) (kall0))) (d_c1 (k_off (lo := 0) (k := 1) (by kernel_rfl) (kallS (by kernel_rfl) (kall0)) (kallS (by kernel_rfl) (kall0))) (d_c1 (k_off (lo := 0) (k := 1) (by kernel_rfl) (kallS (by kernel_rfl) (kall0)) (kallS (by kernel_rfl) (kall0))) (d_c1 (k_off (lo := 0) (k := 1) (by kernel_rfl) (kallS (by kernel_rfl) (kall0)) (kallS (by kernel_rfl) (kall0))) (d_c1 (k_off (lo := 0) (k := 1) (by kernel_rfl) (kallS (by kernel_rfl) (kall0)) (kallS (by kernel_rfl) (kall0))) (d_c1 (k_off (lo := 0) (k := 1) (by kernel_rfl) (kallS (by kernel_rfl) (kall0)) (kallS (by kernel_rfl) (kall0))) (d_vs [.v 0 1] (d_nl)))))))))))))))))))))))))))))))))))))))))))))) ?_
       exact ve_arr 0 (g_law19_FlexOrder_j1_ok hK hL1 h)
      ·
       obtain ⟨h29, h⟩ := chk_some h
       obtain ⟨h30, h⟩ := chk_some h
       rcases ite_some h with ⟨h31, h⟩ | ⟨h31, h⟩
       ·
        refine ve_dr 0 [(33, .int .i64 v8), (34, .bool (decide (v8 < 0))), (35, .bool false), (36, .int .i64 (List.getD v5 (v7).toNat default)), (37, .bool (decide ((List.getD v5 (v7).toNat default) < 0))), (38, .bool (decide ((List.getD v5 (v7).toNat default) < 0))), (39, .bool false), (40, .int .i64 v8), (41, .sl (List.map eTBoxtreeBox v4.Kids)), (42, .int .i64 (v4.Kids.length : Int)), (43, .bool (decide (v8 ≥ (v4.Kids.length : Int)))), (44, .bool (decide (v8 ≥ (v4.Kids.length : Int)))), (45, .bool false), (46, .int .i64 (List.getD v5 (v7).toNat default)), (47, .sl (List.map eTBoxtreeBox v4.Kids)), (48, .int .i64 (v4.Kids.length : Int)), (49, .bool (decide ((List.getD v5 (v7).toNat default) ≥ (v4.Kids.length : Int)))), (50, .bool (decide ((List.getD v5 (v7).toNat default) ≥ (v4.Kids.length : Int)))), (51, .bool false), (52, .sl (List.map eTBoxtreeBox v4.Kids)), (53, .int .i64 v8), (54, .cptr (xTBoxtreeBox (List.getD v4.Kids (v8).toNat default))), (55, .cptr (List.drop 2 (xTBoxtreeBox (List.getD v4.Kids (v8).toNat default)))), (56, .cptr (List.drop 48 (List.drop 2 (xTBoxtreeBox (List.getD v4.Kids (v8).toNat default))))), (57, .int .i64 (((List.getD v4.Kids (v8).toNat default).Style).Order)), (58, .sl (List.map eTBoxtreeBox v4.Kids)), (59, .int .i64 (List.getD v5 (v7).toNat default)), (60, .cptr (xTBoxtreeBox (List.getD v4.Kids ((List.getD v5 (v7).toNat default)).toNat default))), (61, .cptr (List.drop 2 (xTBoxtreeBox (List.getD v4.Kids ((List.getD v5 (v7).toNat default)).toNat default)))), (62, .cptr (List.drop 48 (List.drop 2 (xTBoxtreeBox (List.getD v4.Kids ((List.getD v5 (v7).toNat default)).toNat default))))), (63, .int .i64 (((List.getD v4.Kids ((List.getD v5 (v7).toNat default)).toNat default).Style).Order)), (64, .bool (decide ((((List.getD v4.Kids (v8).toNat default).Style).Order) > (((List.getD v4.Kids ((List.getD v5 (v7).toNat default)).toNat default).Style).Order)))), (65, .bool (decide ((((List.getD v4.Kids (v8).toNat default).Style).Order) > (((List.getD v4.Kids ((List.getD v5 (v7).toNat default)).toNat default).Style).Order)))), (66, .bool true), (67, .tup []), (68, .tup []), (69, .tup []), (70, .tup []), (71, .tup []), (72, .tup []), (73, .tup []), (74, .tup []), (75, .tup []), (76, .tup []), (77, .tup []), (78, .tup []), (79, .tup []), (80, .tup []), (81, .tup []), (82, .tup []), (83, .tup []), (84, .tup []), (85, .bool true)] [] [] [] (d_vs [.v 0 1, .v 0 1] (d_c1 (k_v (lo := 0) (k := 1) (kallS ⟨(by kernel_rfl), (aop_boolc 35 (e := (decide (v8 < 0))) (b := false) h25 (by kernel_rfl) (by kernel_rfl))⟩ (kall0))) (d_vs [.v 0 1, .v 0 1, .v 0 1] (d_c1 (k_v (lo := 0) (k := 1) (kallS ⟨(by kernel_rfl), (aop_boolc 39 (e := (decide ((List.getD v5 (v7).toNat default) < 0))) (b := false) h26 (by kernel_rfl) (by kernel_rfl))⟩ (kall0))) (d_vs [.v 0 1, .v 0 1] (d_c1 (e_v (lo := 0) (y_len eTBoxtreeBox v4.Kids)) (d_vs [.v 0 1, .v 0 1] (d_c1 (k_v (lo := 0) (k := 1) (kallS ⟨(by kernel_rfl), (aop_boolc 45 (e := (decide (v8 ≥ (v4.Kids.length : Int)))) (b := false) h27 (by kernel_rfl) (by kernel_rfl))⟩ (kall0))) (d_vs [.v 0 1, .v 0 1] (d_c1 (e_v (lo := 0) (y_len eTBoxtreeBox v4.Kids)) (d_vs [.v 0 1, .v 0 1] (d_c1 (k_v (lo := 0) (k := 1) (kallS ⟨(by kernel_rfl), (aop_boolc 51 (e := (decide ((List.getD v5 (v7).toNat default) ≥ (v4.Kids.length : Int)))) (b := false) h28 (by kernel_rfl) (by kernel_rfl))⟩ (kall0))) (d_vs [.v 0 1, .v 0 1] (d_c1 (e_v (lo := 0) (y_ixs eTBoxtreeBox xTBoxtreeBox h29 (eTBoxtreeBox_len) (xTBoxtreeBox_eq))) (d_vs [.v 0 1, .v 0 1, .v 0 1, .v 0 1, .v 0 1] (d_c1 (e_v (lo := 0) (y_ixs eTBoxtreeBox xTBoxtreeBox h30 (eTBoxtreeBox_len) (xTBoxtreeBox_eq))) (d_vs [.v 0 1, .v 0 1, .v 0 1, .v 0 1, .v 0 1] (d_c1 (k_v (lo := 0) (k := 1) (kallS ⟨(by kernel_rfl), (aop_boolc 66 (e := (decide ((((List.getD v4.Kids (v8).toNat default).Style).Order) > (((List.getD v4.Kids ((List.getD v5 (v7).toNat default)).toNat default).Style).Order)))) (b := true) h31 (by kernel_rfl) (by kernel_rfl))⟩ (kall0))) (d_c1 (k_off (lo := 0) (k := 1) (by kernel_rfl) (kallS (by kernel_rfl) (kall0)) (kallS (by kernel_rfl) (kall0))) (d_c1 (k_off (lo := 0) (k := 1) (by kernel_rfl) (kallS (by kernel_rfl) (kall0)) (kallS (by kernel_rfl) (kall0))) (d_c1 (k_off (lo := 0) (k := 1) (by kernel_rfl) (kallS (by kernel_rfl) (kall0)) (kallS (by kernel_rfl) (kall0))) (d_c1 (k_off (lo := 0) (k := 1) (by kernel_rfl) (kallS (by kernel_rfl) (kall0)) (kallS (by kernel_rfl) (kall0))) (d_c1 (k_off (lo := 0) (k := 1) (by kernel_rfl) (kallS (by kernel_rfl) (kall0)) (kallS (by kernel_rfl) (kall0))) (d_c1 (k_off (lo := 0) (k := 1) (by kernel_rfl) (kallS (by kernel_rfl) (kall0)) (kallS (by kernel_rfl) (kall0))) (d_c1 (k_off (lo := 0) (k := 1) (by kernel_rfl) (kallS (by kernel_rfl) (kall0)) (kallS (by kernel_rfl) (kall0))) (d_c1 (k_off (lo := 0) (k := 1) (by kernel_rfl) (kallS (by kernel_rfl) (kall0)) (kallS (by kernel_rfl) (kall0))) (d_c1 (k_off (lo := 0) (k := 1) (by kernel_rfl) (kallS (by kernel_rfl) (kall0)) (kallS (by kernel_rfl) (kall0))) (d_c1 (k_off (lo := 0) (k := 1) (by kernel_rfl) (kallS (by kernel_rfl) (kall0)) (kallS (by kernel_rfl) (kall0))) (d_c1 (k_off (lo := 0) (k := 1) (by kernel_rfl) (kallS (by kernel_rfl) (kall0)) (kallS (by kernel_rfl) (kall0))) (d_c1 (k_off (lo := 0) (k := 1) (by kernel_rfl) (kallS (by kernel_rfl) (kall0)) (kallS (by kernel_rfl) (kall0))) (d_c1 (k_off (lo := 0) (k := 1) (by kernel_rfl) (kallS (by kernel_rfl) (kall0)) (kallS (by kernel_rfl) (kall0))) (d_c1 (k_off (lo := 0) (k := 1) (by kernel_rfl) (kallS (by kernel_rfl) (kall0)) (kallS (by kernel_rfl) (kall0))) (d_c1 (k_off (lo := 0) (k := 1) (by kernel_rfl) (kallS (by kernel_rfl) (kall0)) (kallS (by kernel_rfl) (kall0))) (d_c1 (k_off (lo := 0) (k := 1) (by kernel_rfl) (kallS (by kernel_rfl) (kall0)) (kallS (by kernel_rfl) (kall0))) (d_c1 (k_off (lo := 0) (k := 1) (by kernel_rfl) (kallS (by kernel_rfl) (kall0)) (kallS (by kernel_rfl) (kall0))) (d_c1 (k_off (lo := 0) (k := 1) (by kernel_rfl) (kallS (by kernel_rfl) (kall0)) (kallS (by kernel_rfl) (kall0))) (d_vs [.v 0 1] (d_nl)))))))))))))))))))))))))))))))))))))) ?_
        exact ve_arr 0 (g_law19_FlexOrder_j1_ok hK hL1 h)
       ·
        obtain ⟨h32, h⟩ := chk_some h
        obtain ⟨h33, h⟩ := chk_some h
        rcases ite_some h with ⟨h34, h⟩ | ⟨h34, h⟩
        ·
         refine ve_dr 0 [(33, .int .i64 v8), (34, .bool (decide (v8 < 0))), (35, .bool false), (36, .int .i64 (List.getD v5 (v7).toNat default)), (37, .bool (decide ((List.getD v5 (v7).toNat default) < 0))), (38, .bool (decide ((List.getD v5 (v7).toNat default) < 0))), (39, .bool false), (40, .int .i64 v8), (41, .sl (List.map eTBoxtreeBox v4.Kids)), (42, .int .i64 (v4.Kids.length : Int)), (43, .bool (decide (v8 ≥ (v4.Kids.length : Int)))), (44, .bool (decide (v8 ≥ (v4.Kids.length : Int)))), (45, .bool false), (46, .int .i64 (List.getD v5 (v7).toNat default)), (47, .sl (List.map eTBoxtreeBox v4.Kids)), (48, .int .i64 (v4.Kids.length : Int)), (49, .bool (decide ((List.getD v5 (v7).toNat default) ≥ (v4.Kids.length : Int)))), (50, .bool (decide ((List.getD v5 (v7).toNat default) ≥ (v4.Kids.length : Int)))), (51, .bool false), (52, .sl (List.map eTBoxtreeBox v4.Kids)), (53, .int .i64 v8), (54, .cptr (xTBoxtreeBox (List.getD v4.Kids (v8).toNat default))), (55, .cptr (List.drop 2 (xTBoxtreeBox (List.getD v4.Kids (v8).toNat default)))), (56, .cptr (List.drop 48 (List.drop 2 (xTBoxtreeBox (List.getD v4.Kids (v8).toNat default))))), (57, .int .i64 (((List.getD v4.Kids (v8).toNat default).Style).Order)), (58, .sl (List.map eTBoxtreeBox v4.Kids)), (59, .int .i64 (List.getD v5 (v7).toNat default)), (60, .cptr (xTBoxtreeBox (List.getD v4.Kids ((List.getD v5 (v7).toNat default)).toNat default))), (61, .cptr (List.drop 2 (xTBoxtreeBox (List.getD v4.Kids ((List.getD v5 (v7).toNat default)).toNat default)))), (62, .cptr (List.drop 48 (List.drop 2 (xTBoxtreeBox (List.getD v4.Kids ((List.getD v5 (v7).toNat default)).toNat default))))), (63, .int .i64 (((List.getD v4.Kids ((List.getD v5 (v7).toNat default)).toNat default).Style).Order)), (64, .bool (decide ((((List.getD v4.Kids (v8).toNat default).Style).Order) > (((List.getD v4.Kids ((List.getD v5 (v7).toNat default)).toNat default).Style).Order)))), (65, .bool (decide ((((List.getD v4.Kids (v8).toNat default).Style).Order) > (((List.getD v4.Kids ((List.getD v5 (v7).toNat default)).toNat default).Style).Order)))), (66, .bool false), (67, .sl (List.map eTBoxtreeBox v4.Kids)), (68, .int .i64 v8), (69, .cptr (xTBoxtreeBox (List.getD v4.Kids (v8).toNat default))), (70, .cptr (List.drop 2 (xTBoxtreeBox (List.getD v4.Kids (v8).toNat default)))), (71, .cptr (List.drop 48 (List.drop 2 (xTBoxtreeBox (List.getD v4.Kids (v8).toNat default))))), (72, .int .i64 (((List.getD v4.Kids (v8).toNat default).Style).Order)), (73, .sl (List.map eTBoxtreeBox v4.Kids)), (74, .int .i64 (List.getD v5 (v7).toNat default)), (75, .cptr (xTBoxtreeBox (List.getD v4.Kids ((List.getD v5 (v7).toNat default)).toNat default))), (76, .cptr (List.drop 2 (xTBoxtreeBox (List.getD v4.Kids ((List.getD v5 (v7).toNat default)).toNat default)))), (77, .cptr (List.drop 48 (List.drop 2 (xTBoxtreeBox (List.getD v4.Kids ((List.getD v5 (v7).toNat default)).toNat default))))), (78, .int .i64 (((List.getD v4.Kids ((List.getD v5 (v7).toNat default)).toNat default).Style).Order)), (79, .bool ((((List.getD v4.Kids (v8).toNat default).Style).Order) == (((List.getD v4.Kids ((List.getD v5 (v7).toNat default)).toNat default).Style).Order))), (80, .bool true), (81, .int .i64 v8), (82, .int .i64 (List.getD v5 (v7).toNat default)), (83, .bool (decide (v8 ≥ (List.getD v5 (v7).toNat default)))), (84, .bool (decide (v8 ≥ (List.getD v5 (v7).toNat default)))), (85, .bool (decide (v8 ≥ (List.getD v5 (v7).toNat default))))] [] [] [] (d_vs [.v 0 1, .v 0 1] (d_c1 (k_v (lo := 0) (k := 1) (kallS ⟨(by kernel_rfl), (aop_boolc 35 (e := (decide (v8 < 0))) (b := false) h25 (by kernel_rfl) (by kernel_rfl))⟩ (kall0))) (d_vs [.v 0 1, .v 0 1, .v 0 1] (d_c1 (k_v (lo := 0) (k := 1) (kallS ⟨(by kernel_rfl), (aop_boolc 39 (e := (decide ((List.getD v5 (v7).toNat default) < 0))) (b := false) h26 (by kernel_rfl) (by kernel_rfl))⟩ (kall0))) (d_vs [.v 0 1, .v 0 1] (d_c1 (e_v (lo := 0) (y_len eTBoxtreeBox v4.Kids)) (d_vs [.v 0 1, .v 0 1] (d_c1 (k_v (lo := 0) (k := 1) (kallS ⟨(by kernel_rfl), (aop_boolc 45 (e := (decide (v8 ≥ (v4.Kids.length : Int)))) (b := false) h27 (by kernel_rfl) (by kernel_rfl))⟩ (kall0))) (d_vs [.v 0 1, .v 0 1] (d_c1 (e_v (lo := 0) (y_len eTBoxtreeBox v4.Kids)) (d_vs [.v 0 1, .v 0 1] (d_c1 (k_v (lo := 0) (k := 1) (kallS ⟨(by kernel_rfl), (aop_boolc 51 (e := (decide ((List.getD v5 (v7).toNat default) ≥ (v4.Kids.length : Int)))) (b := false) h28 (by kernel_rfl) (by kernel_rfl))⟩ (kall0))) (d_vs [.v 0 1, .v 0 1] (d_c1 (e_v (lo := 0) (y_ixs eTBoxtreeBox xTBoxtreeBox h29 (eTBoxtreeBox_len) (xTBoxtreeBox_eq))) (d_vs [.v 0 1, .v 0 1, .v 0 1, .v 0 1, .v 0 1] (d_c1 (e_v (lo := 0) (y_ixs eTBoxtreeBox xTBoxtreeBox h30 (eTBoxtreeBox_len) (xTBoxtreeBox_eq))) (d_vs [.v 0 1, .v 0 1, .v 0 1, .v 0 1, .v 0 1] (d_c1 (k_v (lo := 0) (k := 1) (kallS ⟨(by kernel_rfl), (aop_boolc 66 (e := (decide ((((List.getD v4.Kids (v8).toNat default).Style).Order) > (((List.getD v4.Kids ((List.getD v5 (v7).toNat default)).toNat default).Style).Order)))) (b := false) h31 (by kernel_rfl) (by kernel_rfl))⟩ (kall0))) (d_vs [.v 0 1, .v 0 1] (d_c1 (e_v (lo := 0) (y_ixs eTBoxtreeBox xTBoxtreeBox h32 (eTBoxtreeBox_len) (xTBoxtreeBox_eq))) (d_vs [.v 0 1, .v 0 1, .v 0 1, .v 0 1, .v 0 1] (d_c1 (e_v (lo := 0) (y_ixs eTBoxtreeBox xTBoxtreeBox h33 (eTBoxtreeBox_len) (xTBoxtreeBox_eq))) (d_vs [.v 0 1, .v 0 1, .v 0 1, .v 0 1] (d_c1 (k_v (lo := 0) (k := 1) (kallS ⟨(by kernel_rfl), (aop_boolc 80 (e := ((((List.getD v4.Kids (v8).toNat default).Style).Order) == (((List.getD v4.Kids ((List.getD v5 (v7).toNat default)).toNat default).Style).Order))) (b := true) h34 (by kernel_rfl) (by kernel_rfl))⟩ (kall0))) (d_vs [.v 0 1, .v 0 1, .v 0 1, .v 0 1, .v 0 1] (d_nl)))))))))))))))))))))))))) ?_
         exact ve_arr 0 (g_law19_FlexOrder_j1_ok hK hL1 h)
        ·
         refine ve_dr 0 [(33, .int .i64 v8), (34, .bool (decide (v8 < 0))), (35, .bool false), (36, .int .i64 (List.getD v5 (v7).toNat default)), (37, .bool (decide ((List.getD v5 (v7).toNat default) < 0))), (38, .bool (decide ((List.getD v5 (v7).toNat default) < 0))), (39, .bool false), (40, .int .i64 v8), (41, .sl (List.map eTBoxtreeBox v4.Kids)), (42, .int .i64 (v4.Kids.length : Int)), (43, .bool (decide (v8 ≥ (v4.Kids.length : Int)))), (44, .bool (decide (v8 ≥ (v4.Kids.length : Int)))), (45, .bool false), (46, .int .i64 (List.getD v5 (v7).toNat default)), (47, .sl (List.map eTBoxtreeBox v4.Kids)), (48, .int .i64 (v4.Kids.length : Int)), (49, .bool (decide ((List.getD v5 (v7).toNat default) ≥ (v4.Kids.length : Int)))), (50, .bool (decide ((List.getD v5 (v7).toNat default) ≥ (v4.Kids.length : Int)))), (51, .bool false), (52, .sl (List.map eTBoxtreeBox v4.Kids)), (53, .int .i64 v8), (54, .cptr (xTBoxtreeBox (List.getD v4.Kids (v8).toNat default))), (55, .cptr (List.drop 2 (xTBoxtreeBox (List.getD v4.Kids (v8).toNat default)))), (56, .cptr (List.drop 48 (List.drop 2 (xTBoxtreeBox (List.getD v4.Kids (v8).toNat default))))), (57, .int .i64 (((List.getD v4.Kids (v8).toNat default).Style).Order)), (58, .sl (List.map eTBoxtreeBox v4.Kids)), (59, .int .i64 (List.getD v5 (v7).toNat default)), (60, .cptr (xTBoxtreeBox (List.getD v4.Kids ((List.getD v5 (v7).toNat default)).toNat default))), (61, .cptr (List.drop 2 (xTBoxtreeBox (List.getD v4.Kids ((List.getD v5 (v7).toNat default)).toNat default)))), (62, .cptr (List.drop 48 (List.drop 2 (xTBoxtreeBox (List.getD v4.Kids ((List.getD v5 (v7).toNat default)).toNat default))))), (63, .int .i64 (((List.getD v4.Kids ((List.getD v5 (v7).toNat default)).toNat default).Style).Order)), (64, .bool (decide ((((List.getD v4.Kids (v8).toNat default).Style).Order) > (((List.getD v4.Kids ((List.getD v5 (v7).toNat default)).toNat default).Style).Order)))), (65, .bool (decide ((((List.getD v4.Kids (v8).toNat default).Style).Order) > (((List.getD v4.Kids ((List.getD v5 (v7).toNat default)).toNat default).Style).Order)))), (66, .bool false), (67, .sl (List.map eTBoxtreeBox v4.Kids)), (68, .int .i64 v8), (69, .cptr (xTBoxtreeBox (List.getD v4.Kids (v8).toNat default))), (70, .cptr (List.drop 2 (xTBoxtreeBox (List.getD v4.Kids (v8).toNat default)))), (71, .cptr (List.drop 48 (List.drop 2 (xTBoxtreeBox (List.getD v4.Kids (v8).toNat default))))), (72, .int .i64 (((List.getD v4.Kids (v8).toNat default).Style).Order)), (73, .sl (List.map eTBoxtreeBox v4.Kids)), (74, .int .i64 (List.getD v5 (v7).toNat default)), (75, .cptr (xTBoxtreeBox (List.getD v4.Kids ((List.getD v5 (v7).toNat default)).toNat default))), (76, .cptr (List.drop 2 (xTBoxtreeBox (List.getD v4.Kids ((List.getD v5 (v7).toNat default)).toNat default)))), (77, .cptr (List.drop 48 (List.drop 2 (xTBoxtreeBox (List.getD v4.Kids ((List.getD v5 (v7).toNat default)).toNat default))))), (78, .int .i64 (((List.getD v4.Kids ((List.getD v5 (v7).toNat default)).toNat default).Style).Order)), (79, .bool ((((List.getD v4.Kids (v8).toNat default).Style).Order) == (((List.getD v4.Kids ((List.getD v5 (v7).toNat default)).toNat default).Style).Order))), (80, .bool false), (81, .tup []), (82, .tup []), (83, .tup []), (84, .bool false), (85, .bool false)] [] [] [] (d_vs [.v 0 1, .v 0 1] (d_c1 (k_v (lo := 0) (k := 1) (kallS ⟨(by kernel_rfl), (aop_boolc 35 (e := (decide (v8 < 0))) (b := false) h25 (by kernel_rfl) (by kernel_rfl))⟩ (kall0))) (d_vs [.v 0 1, .v 0 1, .v 0 1] (d_c1 (k_v (lo := 0) (k := 1) (kallS ⟨(by kernel_rfl), (aop_boolc 39 (e := (decide ((List.getD v5 (v7).toNat default) < 0))) (b := false) h26 (by kernel_rfl) (by kernel_rfl))⟩ (kall0))) (d_vs [.v 0 1, .v 0 1] (d_c1 (e_v (lo := 0) (y_len eTBoxtreeBox v4.Kids)) (d_vs [.v 0 1, .v 0 1] (d_c1 (k_v (lo := 0) (k := 1) (kallS ⟨(by kernel_rfl), (aop_boolc 45 (e := (decide (v8 ≥ (v4.Kids.length : Int)))) (b := false) h27 (by kernel_rfl) (by kernel_rfl))⟩ (kall0))) (d_vs [.v 0 1, .v 0 1] (d_c1 (e_v (lo := 0) (y_len eTBoxtreeBox v4.Kids)) (d_vs [.v 0 1, .v 0 1] (d_c1 (k_v (lo := 0) (k := 1) (kallS ⟨(by kernel_rfl), (aop_boolc 51 (e := (decide ((List.getD v5 (v7).toNat default) ≥ (v4.Kids.length : Int)))) (b := false) h28 (by kernel_rfl) (by kernel_rfl))⟩ (kall0))) (d_vs [.v 0 1, .v 0 1] (d_c1 (e_v (lo := 0) (y_ixs eTBoxtreeBox xTBoxtreeBox h29 (eTBoxtreeBox_len) (xTBoxtreeBox_eq))) (d_vs [.v 0 1, .v 0 1, .v 0 1, .v 0 1, .v 0 1] (d_c1 (e_v (lo := 0) (y_ixs eTBoxtreeBox xTBoxtreeBox h30 (eTBoxtreeBox_len) (xTBoxtreeBox_eq))) (d_vs [.v 0 1, .v 0 1, .v 0 1, .v 0 1, .v 0 1] (d_c1 (k_v (lo := 0) (k := 1) (kallS ⟨(by kernel_rfl), (aop_boolc 66 (e := (decide ((((List.getD v4.Kids (v8).toNat default).Style).Order) > (((List.getD v4.Kids ((List.getD v5 (v7).toNat default)).toNat default).Style).Order)))) (b := false) h31 (by kernel_rfl) (by kernel_rfl))⟩ (kall0))) (d_vs [.v 0 1, .v 0 1] (d_c1 (e_v (lo := 0) (y_ixs eTBoxtreeBox xTBoxtreeBox h32 (eTBoxtreeBox_len) (xTBoxtreeBox_eq))) (d_vs [.v 0 1, .v 0 1, .v 0 1, .v 0 1, .v 0 1] (d_c1 (e_v (lo := 0) (y_ixs eTBoxtreeBox xTBoxtreeBox h33 (eTBoxtreeBox_len) (xTBoxtreeBox_eq))) (d_vs [.v 0 1, .v 0 1, .v 0 1, .v 0 1] (d_c1 (k_v (lo := 0) (k := 1) (kallS ⟨(by kernel_rfl), (aop_boolc 80 (e := ((((List.getD v4.Kids (v8).toNat default).Style).Order) == (((List.getD v4.Kids ((List.getD v5 (v7).toNat default)).toNat default).Style).Order))) (b := false) h34 (by kernel_rfl) (by kernel_rfl))⟩ (kall0))) (d_c1 (k_off (lo := 0) (k := 1) (by kernel_rfl) (kallS (by kernel_rfl) (kall0)) (kallS (by kernel_rfl) (kall0))) (d_c1 (k_off (lo := 0) (k := 1) (by kernel_rfl) (kallS (by kernel_rfl) (kall0)) (kallS (by kernel_rfl) (kall0))) (d_c1 (k_off (lo := 0) (k := 1) (by kernel_rfl) (kallS (by kernel_rfl) (kall0)) (kallS (by kernel_rfl) (kall0))) (d_vs [.v 0 1, .v 0 1] (d_nl))))))))))))))))))))))))))))) ?_
         exact ve_arr 0 (g_law19_FlexOrder_j1_ok hK hL1 h)
  ·
   refine ve_sb 21 h21 ?_
   refine ve_un (ks' := [.c (cat Try.f9 p9_10), .c (cat Try.f9 p9_11)]) 6 ?_
   refine ve_in 2 ?_
   obtain ⟨v10, h36, h⟩ := bind_some h
   refine ot_co 1088 (g_ref19_Order_ok hK h36) (one_ref 2003) ?_
   refine ot_f 1017 ?_
   refine ot_f 1088 ?_
   obtain ⟨v11, h37, h⟩ := bind_some h
   refine ot_cl (g_law19_equal_ok hK h37) ?_
   refine ot_end ?_
   refine ve_rt 1 ?_
   have hr := Option.some.inj h
   subst hr
   exact ve_d1
theorem g_law19_FlexOrder_l2_ok (hK : KnOk K) (m : Nat) : H9_1 M w0 r v4 v5 m (g_law19_FlexOrder_l2 K n v4 v5 m) := by
  induction m with
 | zero => intro v7 h; cases h
 | succ m ih => intro v7 h; have h : g_law19_FlexOrder_l2_b K n v4 v5 (g_law19_FlexOrder_l2 K n v4 v5 m) v7 = some r := h; exact lp_round (g_law19_FlexOrder_l2_b_ok hK ih h)
theorem g_law19_FlexOrder_ok (hK : KnOk K) (h : g_law19_FlexOrder K n v1 = some r) : ACalls Try.prog 9 [.sl (List.map eTKnapsackref17Spec v1)] (fun v _ => v = .bool r) := by
  refine acalls_intro (c := cat Try.f9 []) Try.func9 (by kernel_rfl) _ Try.ntmps9 (of_decide_eq_true (by kernel_rfl)) fun M w0 => ?_
  refine ve_cast (s' := ⟨[(0,.sl (List.map eTKnapsackref17Spec v1))],[],[],[]⟩) (by kernel_rfl) ?_
  unfold g_law19_FlexOrder at h
  refine ve_un (ks' := [.c (cat Try.f9 [1, 0, 0]), .c (cat Try.f9 [1, 0, 1]), .c (cat Try.f9 [1, 1])]) 4 ?_
  refine ve_in 0 ?_
  obtain ⟨v2, h1, h⟩ := bind_some h
  refine ot_cl (g_law19_fit_ok hK h1) ?_
  refine ot_end ?_
  rcases ite_some h with ⟨h2, h⟩ | ⟨h2, h⟩
  ·
   refine ve_sb 9 h2 ?_
   refine ve_rt 5 ?_
   have hr := Option.some.inj h
   subst hr
   exact ve_d1
  ·
   refine ve_sb 9 h2 ?_
   refine ve_un (ks' := [.c (cat Try.f9 p9_12), .c (cat Try.f9 p9_13), .c (cat Try.f9 [1, 1, 1])]) 4 ?_
   refine ve_in 1 ?_
   obtain ⟨v3, h3, h⟩ := bind_some h
   refine ot_cl (g_law19_fits_ok hK h3) ?_
   refine ot_end ?_
   rcases ite_some h with ⟨h4, h⟩ | ⟨h4, h⟩
   ·
    refine ve_sb 12 h4 ?_
    refine ve_rt 5 ?_
    have hr := Option.some.inj h
    subst hr
    exact ve_d1
   ·
    refine ve_sb 12 h4 ?_
    refine ve_un (ks' := [.c (cat Try.f9 p9_14), .c (cat Try.f9 p9_15)]) 3 ?_
    refine ve_in 1 ?_
    obtain ⟨v4, h5, h⟩ := bind_some h
    refine ot_co 1014 (g_law19_box_ok hK h5) (one_agg (i := 58) (by kernel_rfl)) ?_
    refine ot_end ?_
    refine ve_un (ks' := [.c (cat Try.f9 p9_16), .c (cat Try.f9 p9_17)]) 1 ?_
    refine ve_in 1 ?_
    refine ot_f 1014 ?_
    obtain ⟨v5, h6, h⟩ := bind_some h
    refine ot_co 1017 (g_flex_Order_ok hK h6) (one_ref 18) ?_
    refine ot_end ?_
    exact ve_arr 4 (lp_en (p := p9_18) n (g_law19_FlexOrder_l2_ok hK n h))
end
end Go.Proofs.Ytlpndemhnpajiaa
