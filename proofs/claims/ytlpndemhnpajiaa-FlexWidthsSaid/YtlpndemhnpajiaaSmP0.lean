/- The runs of the functions that FlexWidths reaches do what their plain forms say, part 0. Made by a program. -/
import Derived.Test.YtlpndemhnpajiaaSmGk
namespace Go.Proofs.Ytlpndemhnpajiaa
open Go.RowKit
set_option maxRecDepth 20000
set_option linter.all false
set_option linter.unusedVariables false
set_option linter.unusedSimpArgs false
def p13_0 : List Nat := [1, 1, 0, 1, 0, 0]
def p13_1 : List Nat := [1, 1, 0, 1, 0, 0, 1, 0]
def p13_2 : List Nat := [1, 1, 0, 1, 0, 0, 1, 1]
def p13_3 : List Nat := [1, 1, 0, 1, 0, 0, 1, 1, 0, 0, 1, 0]
def p13_4 : List Nat := [1, 1, 0, 1, 0, 0, 1, 1, 0, 0, 1, 1]
def p13_5 : List Nat := [1, 1, 0, 1, 0, 0, 1, 1, 1]
def p13_6 : List Nat := [1, 1, 0, 0]
def p13_7 : List Nat := [1, 1, 0, 1]
def p13_8 : List Nat := [1, 1, 0, 1, 0]
noncomputable section
abbrev cx13 (M : Nat → Prop) (w0 : Base) : Cx := ⟨Try.prog, 26, M, w0⟩
abbrev q13 (M : Nat → Prop) (w0 : Base) (r : Bool) := bodyPost Try.prog Try.f13 (RetQ M w0 (fun v _ => v = .bool r))
abbrev k13_1 (M : Nat → Prop) (w0 : Base) (r : Bool) (m1 : Nat) : Kont := kl (cx13 M w0) (q13 M w0 r) [.b 0, .c (cat Try.f13 [1, 1, 1])] (cat Try.f13 p13_0) m1
def s13_l1 (v1 : (List Int)) (v2 : (List Int)) (v4 : Int) : AS := ⟨[(0,.sl (List.map (eInt .i64) v1)),(1,.sl (List.map (eInt .i64) v2)),(12,.int .i64 (v1.length : Int)),(13,.int .i64 v4)],[],[],[]⟩
abbrev H13_1 (M : Nat → Prop) (w0 : Base) (r : Bool) (v1 : (List Int)) (v2 : (List Int)) (m1 : Nat) (L1 : Int → Option Bool) : Prop := ∀ {v4 : Int}, L1 v4 = some r → LP (cx13 M w0) (q13 M w0 r) [.b 0, .c (cat Try.f13 [1, 1, 1])] (cat Try.f13 p13_0) m1 (s13_l1 v1 v2 v4)
variable {K : Kn} {n : Nat} {M : Nat → Prop} {w0 : Base} {r : Bool} {v1 : (List Int)} {v2 : (List Int)} {v4 : Int} {m1 : Nat} {L1 : Int → Option Bool}
theorem g_law19_equal_l1_b_ok (hK : KnOk K) (hL1 : H13_1 M w0 r v1 v2 m1 L1) (h : g_law19_equal_l1_b K n v1 v2 L1 v4 = some r) : VE (cx13 M w0) (q13 M w0 r) [.c (cat Try.f13 p13_0), k13_1 M w0 r m1, .b 0, .c (cat Try.f13 [1, 1, 1])] .normal (s13_l1 v1 v2 v4) := by
  unfold g_law19_equal_l1_b at h
  refine ve_un (ks' := [.c (cat Try.f13 p13_1), .c (cat Try.f13 p13_2), k13_1 M w0 r m1, .b 0, .c (cat Try.f13 [1, 1, 1])]) 3 ?_
  rcases ite_some h with ⟨h7, h⟩ | ⟨h7, h⟩
  ·
   refine ve_sb 14 h7 ?_
   refine ve_un (ks' := [.c (cat Try.f13 p13_3), .c (cat Try.f13 p13_4), .b 1, .c (cat Try.f13 p13_5), k13_1 M w0 r m1, .b 0, .c (cat Try.f13 [1, 1, 1])]) 7 ?_
   refine ve_pk [0, 1, 5, 12, 13] [] [] ?_
   obtain ⟨h8, h⟩ := chk_some h
   obtain ⟨h9, h⟩ := chk_some h
   refine ve_dr 0 [(16, .sl (List.map (eInt .i64) v1)), (17, .int .i64 v4), (18, .cptr ([.int .i64 (List.getD v1 (v4).toNat default)])), (19, .int .i64 (List.getD v1 (v4).toNat default)), (20, .sl (List.map (eInt .i64) v2)), (21, .int .i64 v4), (22, .cptr ([.int .i64 (List.getD v2 (v4).toNat default)])), (23, .int .i64 (List.getD v2 (v4).toNat default)), (24, .bool ((List.getD v1 (v4).toNat default) != (List.getD v2 (v4).toNat default)))] [] [] [] (d_vs [.v 0 1, .v 0 1] (d_c1 (e_v (lo := 0) (y_ixs (eInt .i64) (eInt .i64) h8 (fun _ => rfl) (fun _ => rfl))) (d_vs [.v 0 1, .v 0 1, .v 0 1] (d_c1 (e_v (lo := 0) (y_ixs (eInt .i64) (eInt .i64) h9 (fun _ => rfl) (fun _ => rfl))) (d_vs [.v 0 1, .v 0 1] (d_nl)))))) ?_
   obtain ⟨v5, h10, h⟩ := bind_some h
   have h10 := Option.some.inj h10
   refine ve_go (ks' := [.c (cat Try.f13 p13_4), .b 1, .c (cat Try.f13 p13_5), k13_1 M w0 r m1, .b 0, .c (cat Try.f13 [1, 1, 1])]) 0 ⟨[(0,.sl (List.map (eInt .i64) v1)),(1,.sl (List.map (eInt .i64) v2)),(12,.int .i64 (v1.length : Int)),(13,.int .i64 v4),(24,.bool v5)],[],[],[]⟩ ?_ (by subst h10; kernel_rfl)
   rcases ite_some h with ⟨h11, h⟩ | ⟨h11, h⟩
   ·
    refine ve_sb 24 h11 ?_
    refine ve_rt 9 ?_
    have hr := Option.some.inj h
    subst hr
    exact ve_d1
   ·
    refine ve_sb 24 h11 ?_
    exact ve_arr 4 (lp_back (hL1 h))
  ·
   refine ve_sb 14 h7 ?_
   refine ve_rt 8 ?_
   have hr := Option.some.inj h
   subst hr
   exact ve_d1
theorem g_law19_equal_l1_ok (hK : KnOk K) (m : Nat) : H13_1 M w0 r v1 v2 m (g_law19_equal_l1 K n v1 v2 m) := by
  induction m with
 | zero => intro v4 h; cases h
 | succ m ih => intro v4 h; have h : g_law19_equal_l1_b K n v1 v2 (g_law19_equal_l1 K n v1 v2 m) v4 = some r := h; exact lp_round (g_law19_equal_l1_b_ok hK ih h)
theorem g_law19_equal_ok (hK : KnOk K) (h : g_law19_equal K n v1 v2 = some r) : ACalls Try.prog 13 [.sl (List.map (eInt .i64) v1), .sl (List.map (eInt .i64) v2)] (fun v _ => v = .bool r) := by
  refine acalls_intro (c := cat Try.f13 []) Try.func13 (by kernel_rfl) _ Try.ntmps13 (of_decide_eq_true (by kernel_rfl)) fun M w0 => ?_
  refine ve_cast (s' := ⟨[(0,.sl (List.map (eInt .i64) v1)),(1,.sl (List.map (eInt .i64) v2))],[],[],[]⟩) (by kernel_rfl) ?_
  unfold g_law19_equal at h
  refine ve_un (ks' := [.c (cat Try.f13 [1, 0, 0]), .c (cat Try.f13 [1, 0, 1]), .c (cat Try.f13 [1, 1])]) 4 ?_
  refine ve_in 1 ?_
  refine ot_sp (y_len (eInt .i64) v1) ?_
  refine ot_go 3 1 ?_
  refine ot_sp (y_len (eInt .i64) v2) ?_
  refine ot_end ?_
  rcases ite_some h with ⟨h1, h⟩ | ⟨h1, h⟩
  ·
   refine ve_sb 10 h1 ?_
   refine ve_rt 5 ?_
   have hr := Option.some.inj h
   subst hr
   exact ve_d1
  ·
   refine ve_sb 10 h1 ?_
   refine ve_un (ks' := [.c (cat Try.f13 p13_6), .c (cat Try.f13 p13_7), .c (cat Try.f13 [1, 1, 1])]) 4 ?_
   refine ve_in 1 ?_
   refine ot_sp (y_len (eInt .i64) v1) ?_
   refine ot_end ?_
   exact ve_arr 1 (lp_en (p := p13_8) n (g_law19_equal_l1_ok hK n h))
end
noncomputable section
variable {K : Kn} {n : Nat} {M : Nat → Prop} {w0 : Base} {r : Int} {v1 : Int} {v2 : Int} 
theorem g_flex_limit_ok (hK : KnOk K) (h : g_flex_limit K n v1 v2 = some r) : ACalls Try.prog 34 [.int .i64 v1, .int .i64 v2] (fun v _ => v = .int .i64 r) := by
  refine acalls_intro (c := cat Try.f34 []) Try.func34 (by kernel_rfl) _ Try.ntmps34 (of_decide_eq_true (by kernel_rfl)) fun M w0 => ?_
  refine ve_cast (s' := ⟨[(0,.int .i64 v1),(1,.int .i64 v2)],[],[],[]⟩) (by kernel_rfl) ?_
  unfold g_flex_limit at h
  refine ve_rt 5 ?_
  have hr := Option.some.inj h
  subst hr
  exact ve_d1
end
def p96_0 : List Nat := [1, 0, 0, 1, 1]
def p96_1 : List Nat := [1, 0, 0, 1, 0, 0, 1, 0, 0]
def p96_2 : List Nat := [1, 0, 0, 1, 0, 0, 1, 0, 0, 0, 1]
def p96_3 : List Nat := [1, 0, 0, 1, 0, 0, 1, 0, 0, 1]
def p96_4 : List Nat := [1, 0, 0, 1, 0, 0, 1, 0, 0, 1, 0, 0]
def p96_5 : List Nat := [1, 0, 0, 1, 0, 0, 1, 0, 0, 1, 1]
def p96_6 : List Nat := [1, 0, 0, 1, 0, 0, 1, 0, 0, 0, 0]
def p96_7 : List Nat := [1, 0, 0, 0, 1]
def p96_8 : List Nat := [1, 0, 0, 1]
def p96_9 : List Nat := [1, 0, 0, 1, 0, 0, 1, 0]
noncomputable section
abbrev cx96 (M : Nat → Prop) (w0 : Base) : Cx := ⟨Try.prog, 53, M, w0⟩
abbrev q96 (M : Nat → Prop) (w0 : Base) (r : (List Int)) := bodyPost Try.prog Try.f96 (RetQ M w0 (fun v s => v = .tup [] ∧ look 0 s.r = some ⟨3, 1, List.map (eInt .i64) r⟩))
abbrev k96_1 (M : Nat → Prop) (w0 : Base) (r : (List Int)) (m1 : Nat) : Kont := kl (cx96 M w0) (q96 M w0 r) [.b 0] (cat Try.f96 [1, 0, 0]) m1
abbrev k96_2 (M : Nat → Prop) (w0 : Base) (r : (List Int)) (m1 m2 : Nat) : Kont := kl (cx96 M w0) (q96 M w0 r) [.b 2, .b 1, .c (cat Try.f96 p96_0), k96_1 M w0 r m1, .b 0] (cat Try.f96 p96_1) m2
def s96_j1 (v2 : Int) (v3 : Int) (v4 : Fv) (v11 : Int) (v15 : Int) (v16 : (List Int)) (v18 : Bool) : AS := ⟨[(0,.ref 0),(1,.int .i64 v2),(2,.int .i64 v3),(3,.fn v4.id v4.caps),(8,.int .i64 v11),(9,.int .i64 v15),(34,.bool v18)],[],[(0,⟨3,1,List.map (eInt .i64) v16⟩)],[0,1000000,0]⟩
def s96_l2 (v2 : Int) (v3 : Int) (v4 : Fv) (v11 : Int) (v15 : Int) (v16 : (List Int)) : AS := ⟨[(0,.ref 0),(1,.int .i64 v2),(2,.int .i64 v3),(3,.fn v4.id v4.caps),(8,.int .i64 v11),(9,.int .i64 v15)],[],[(0,⟨3,1,List.map (eInt .i64) v16⟩)],[0,1000000,0]⟩
def s96_l3 (v2 : Int) (v3 : Int) (v4 : Fv) (v11 : Int) (v12 : (List Int)) : AS := ⟨[(0,.ref 0),(1,.int .i64 v2),(2,.int .i64 v3),(3,.fn v4.id v4.caps),(8,.int .i64 v11)],[],[(0,⟨3,1,List.map (eInt .i64) v12⟩)],[0,1000000,0]⟩
abbrev H96_1 (M : Nat → Prop) (w0 : Base) (r : (List Int)) (v2 : Int) (v3 : Int) (v4 : Fv) (m1 : Nat) (L1 : Int → (List Int) → Option (List Int)) : Prop := ∀ {v11 : Int} {v12 : (List Int)}, L1 v11 v12 = some r → LP (cx96 M w0) (q96 M w0 r) [.b 0] (cat Try.f96 [1, 0, 0]) m1 (s96_l3 v2 v3 v4 v11 v12)
abbrev H96_2 (M : Nat → Prop) (w0 : Base) (r : (List Int)) (v2 : Int) (v3 : Int) (v4 : Fv) (v11 : Int) (m1 m2 : Nat) (L2 : Int → (List Int) → Option (List Int)) : Prop := ∀ {v15 : Int} {v16 : (List Int)}, L2 v15 v16 = some r → LP (cx96 M w0) (q96 M w0 r) [.b 2, .b 1, .c (cat Try.f96 p96_0), k96_1 M w0 r m1, .b 0] (cat Try.f96 p96_1) m2 (s96_l2 v2 v3 v4 v11 v15 v16)
variable {K : Kn} {n : Nat} {M : Nat → Prop} {w0 : Base} {r : (List Int)} {v1 : (List Int)} {v2 : Int} {v3 : Int} {v4 : Fv} {v11 : Int} {v12 : (List Int)} {v15 : Int} {v16 : (List Int)} {v18 : Bool} {m1 : Nat} {L1 : Int → (List Int) → Option (List Int)} {m2 : Nat} {L2 : Int → (List Int) → Option (List Int)}
theorem g_slices_insertionSortCmpFunc_int_j1_ok (hK : KnOk K) (hL1 : H96_1 M w0 r v2 v3 v4 m1 L1) (hL2 : H96_2 M w0 r v2 v3 v4 v11 m1 m2 L2) (h : g_slices_insertionSortCmpFunc_int_j1 K n v2 v3 v4 v11 v15 v16 L1 L2 v18 = some r) : VE (cx96 M w0) (q96 M w0 r) [.c (cat Try.f96 p96_2), .c (cat Try.f96 p96_3), k96_2 M w0 r m1 m2, .b 2, .b 1, .c (cat Try.f96 p96_0), k96_1 M w0 r m1, .b 0] .normal (s96_j1 v2 v3 v4 v11 v15 v16 v18) := by
  unfold g_slices_insertionSortCmpFunc_int_j1 at h
  rcases ite_some h with ⟨h34, h⟩ | ⟨h34, h⟩
  ·
   refine ve_sb 34 h34 ?_
   refine ve_un (ks' := [.c (cat Try.f96 p96_4), .b 3, .c (cat Try.f96 p96_5), k96_2 M w0 r m1 m2, .b 2, .b 1, .c (cat Try.f96 p96_0), k96_1 M w0 r m1, .b 0]) 4 ?_
   refine ve_pk [0, 1, 2, 3, 8, 9] [] [0] ?_
   obtain ⟨h35, h⟩ := chk_some h
   obtain ⟨h36, h⟩ := chk_some h
   obtain ⟨h37, h⟩ := chk_some h
   obtain ⟨h38, h⟩ := chk_some h
   refine ve_dr 2 [(37, .ref 0), (38, .int .i64 v15), (39, .ref 0), (40, .int .i64 v15), (41, .int .i64 (w64 (v15 - 1))), (42, .ref 0), (43, .int .i64 v15), (44, .int .i64 (w64 (v15 - 1))), (45, .eptr 0 1 (((w64 (v15 - 1))).toNat) 0), (46, .int .i64 (List.getD v16 ((w64 (v15 - 1))).toNat default)), (47, .ref 0), (48, .int .i64 v15), (49, .eptr 0 1 ((v15).toNat) 0), (50, .int .i64 (List.getD v16 (v15).toNat default)), (51, .eptr 0 1 ((v15).toNat) 0), (52, .eptr 0 1 (((w64 (v15 - 1))).toNat) 0)] [] [] [strS 0 ⟨3, 1, List.map (eInt .i64) (List.set v16 (v15).toNat (List.getD v16 ((w64 (v15 - 1))).toNat default))⟩, strS 0 ⟨3, 1, List.map (eInt .i64) (List.set (List.set v16 (v15).toNat (List.getD v16 ((w64 (v15 - 1))).toNat default)) ((w64 (v15 - 1))).toNat (List.getD v16 (v15).toNat default))⟩] (d_vs [.v 0 1, .v 0 1, .v 0 2, .v 0 2, .v 0 2, .v 0 1, .v 0 1, .v 0 1] (d_c1 (e_v (lo := 0) (y_ixr 0 1 (eInt .i64) (L := v16) (i := (w64 (v15 - 1))) (by first | exact h35 | exact Eq.trans (by simp only [List.length_set]) h35))) (d_c1 (e_v (lo := 0) (y_ldr 3 0 (eInt .i64) (eInt .i64) (inb_spec h35).2 (fun _ => rfl))) (d_vs [.v 0 2, .v 0 2] (d_c1 (k_v (lo := 0) (k := 2) (kallS ⟨(by kernel_rfl), (aop_eq (y_ixr 0 1 (eInt .i64) (L := v16) (i := v15) (by first | exact h36 | exact Eq.trans (by simp only [List.length_set]) h36)) (by kernel_rfl))⟩ (kallS ⟨(by kernel_rfl), (aop_eq (y_ixr 0 1 (eInt .i64) (L := (List.set v16 (v15).toNat (List.getD v16 ((w64 (v15 - 1))).toNat default))) (i := v15) (by first | exact h36 | exact Eq.trans (by simp only [List.length_set]) h36)) (by kernel_rfl))⟩ (kall0)))) (d_c1 (e_v (lo := 0) (y_ldr 3 0 (eInt .i64) (eInt .i64) (inb_spec h37).2 (fun _ => rfl))) (d_c1 (e_v (lo := 0) (y_ixr 0 1 (eInt .i64) (L := v16) (i := v15) (by first | exact h37 | exact Eq.trans (by simp only [List.length_set]) h37))) (d_c1 (e_s (m := 0) (y_str 0 3 1 0 (eInt .i64) (eInt .i64) (List.getD v16 ((w64 (v15 - 1))).toNat default) (inb_spec h37).2 (fun _ => rfl))) (d_c1 (e_v (lo := 1) (y_ixr 0 1 (eInt .i64) (L := (List.set v16 (v15).toNat (List.getD v16 ((w64 (v15 - 1))).toNat default))) (i := (w64 (v15 - 1))) (by first | exact h38 | exact Eq.trans (by simp only [List.length_set]) h38))) (d_c1 (e_s (m := 1) (y_str 0 3 1 0 (eInt .i64) (eInt .i64) (List.getD v16 (v15).toNat default) (inb_spec h38).2 (fun _ => rfl))) (d_nl))))))))))) ?_
   exact ve_arr 2 (lp_back (hL2 h))
  ·
   refine ve_sb 34 h34 ?_
   exact ve_arr 7 (lp_back (hL1 h))
theorem g_slices_insertionSortCmpFunc_int_l2_b_ok (hK : KnOk K) (hL1 : H96_1 M w0 r v2 v3 v4 m1 L1) (hL2 : H96_2 M w0 r v2 v3 v4 v11 m1 m2 L2) (h : g_slices_insertionSortCmpFunc_int_l2_b K n v2 v3 v4 v11 L1 L2 v15 v16 = some r) : VE (cx96 M w0) (q96 M w0 r) [.c (cat Try.f96 p96_1), k96_2 M w0 r m1 m2, .b 2, .b 1, .c (cat Try.f96 p96_0), k96_1 M w0 r m1, .b 0] .normal (s96_l2 v2 v3 v4 v11 v15 v16) := by
  unfold g_slices_insertionSortCmpFunc_int_l2_b at h
  refine ve_un (ks' := [.c (cat Try.f96 p96_6), .c (cat Try.f96 p96_2), .c (cat Try.f96 p96_3), k96_2 M w0 r m1 m2, .b 2, .b 1, .c (cat Try.f96 p96_0), k96_1 M w0 r m1, .b 0]) 2 ?_
  refine ve_pk [0, 1, 2, 3, 8, 9] [] [0] ?_
  rcases ite_some h with ⟨h30, h⟩ | ⟨h30, h⟩
  ·
   obtain ⟨h31, h⟩ := chk_some h
   obtain ⟨h32, h⟩ := chk_some h
   obtain ⟨v17, h33, h⟩ := bind_some h
   refine ve_dr 0 [(18, .int .i64 v15), (19, .int .i64 v2), (20, .bool (decide (v15 > v2))), (21, .bool true), (22, .fn v4.id v4.caps), (23, .ref 0), (24, .int .i64 v15), (25, .eptr 0 1 ((v15).toNat) 0), (26, .int .i64 (List.getD v16 (v15).toNat default)), (27, .ref 0), (28, .int .i64 v15), (29, .int .i64 (w64 (v15 - 1))), (30, .eptr 0 1 (((w64 (v15 - 1))).toNat) 0), (31, .int .i64 (List.getD v16 ((w64 (v15 - 1))).toNat default)), (32, .int .i64 v17), (33, .bool (decide (v17 < 0))), (34, .bool (decide (v17 < 0)))] [] [] [] (d_vs [.v 0 1, .v 0 1, .v 0 1] (d_c1 (k_v (lo := 0) (k := 1) (kallS ⟨(by kernel_rfl), (aop_boolc 21 (e := (decide (v15 > v2))) (b := true) h30 (by kernel_rfl) (by kernel_rfl))⟩ (kall0))) (d_vs [.v 0 1, .v 0 1, .v 0 1] (d_c1 (e_v (lo := 0) (y_ixr 0 1 (eInt .i64) (L := v16) (i := v15) (by first | exact h31 | exact Eq.trans (by simp only [List.length_set]) h31))) (d_c1 (e_v (lo := 0) (y_ldr 3 0 (eInt .i64) (eInt .i64) (inb_spec h31).2 (fun _ => rfl))) (d_vs [.v 0 1, .v 0 1, .v 0 1] (d_c1 (e_v (lo := 0) (y_ixr 0 1 (eInt .i64) (L := v16) (i := (w64 (v15 - 1))) (by first | exact h32 | exact Eq.trans (by simp only [List.length_set]) h32))) (d_c1 (e_v (lo := 0) (y_ldr 3 0 (eInt .i64) (eInt .i64) (inb_spec h32).2 (fun _ => rfl))) (d_c1 (e_c 0 1 32 (hK.d_Int_Int__Int h33).2 (hK.d_Int_Int__Int h33).1) (d_vs [.v 0 1, .v 0 1] (d_nl))))))))))) ?_
   exact ve_arr 0 (g_slices_insertionSortCmpFunc_int_j1_ok hK hL1 hL2 h)
  ·
   refine ve_dr 0 [(18, .int .i64 v15), (19, .int .i64 v2), (20, .bool (decide (v15 > v2))), (21, .bool false), (22, .tup []), (23, .tup []), (24, .tup []), (25, .tup []), (26, .tup []), (27, .tup []), (28, .tup []), (29, .tup []), (30, .tup []), (31, .tup []), (32, .tup []), (33, .tup []), (34, .bool false)] [] [] [] (d_vs [.v 0 1, .v 0 1, .v 0 1] (d_c1 (k_v (lo := 0) (k := 1) (kallS ⟨(by kernel_rfl), (aop_boolc 21 (e := (decide (v15 > v2))) (b := false) h30 (by kernel_rfl) (by kernel_rfl))⟩ (kall0))) (d_c1 (k_off (lo := 0) (k := 1) (by kernel_rfl) (kallS (by kernel_rfl) (kall0)) (kallS (by kernel_rfl) (kall0))) (d_c1 (k_off (lo := 0) (k := 1) (by kernel_rfl) (kallS (by kernel_rfl) (kall0)) (kallS (by kernel_rfl) (kall0))) (d_c1 (k_off (lo := 0) (k := 1) (by kernel_rfl) (kallS (by kernel_rfl) (kall0)) (kallS (by kernel_rfl) (kall0))) (d_c1 (k_off (lo := 0) (k := 1) (by kernel_rfl) (kallS (by kernel_rfl) (kall0)) (kallS (by kernel_rfl) (kall0))) (d_c1 (k_off (lo := 0) (k := 1) (by kernel_rfl) (kallS (by kernel_rfl) (kall0)) (kallS (by kernel_rfl) (kall0))) (d_c1 (k_off (lo := 0) (k := 1) (by kernel_rfl) (kallS (by kernel_rfl) (kall0)) (kallS (by kernel_rfl) (kall0))) (d_c1 (k_off (lo := 0) (k := 1) (by kernel_rfl) (kallS (by kernel_rfl) (kall0)) (kallS (by kernel_rfl) (kall0))) (d_c1 (k_off (lo := 0) (k := 1) (by kernel_rfl) (kallS (by kernel_rfl) (kall0)) (kallS (by kernel_rfl) (kall0))) (d_c1 (k_off (lo := 0) (k := 1) (by kernel_rfl) (kallS (by kernel_rfl) (kall0)) (kallS (by kernel_rfl) (kall0))) (d_c1 (k_off (lo := 0) (k := 1) (by kernel_rfl) (kallS (by kernel_rfl) (kall0)) (kallS (by kernel_rfl) (kall0))) (d_c1 (k_off (lo := 0) (k := 1) (by kernel_rfl) (kallS (by kernel_rfl) (kall0)) (kallS (by kernel_rfl) (kall0))) (d_c1 (k_off (lo := 0) (k := 1) (by kernel_rfl) (kallS (by kernel_rfl) (kall0)) (kallS (by kernel_rfl) (kall0))) (d_vs [.v 0 1] (d_nl)))))))))))))))) ?_
   exact ve_arr 0 (g_slices_insertionSortCmpFunc_int_j1_ok hK hL1 hL2 h)
theorem g_slices_insertionSortCmpFunc_int_l2_ok (hK : KnOk K) (hL1 : H96_1 M w0 r v2 v3 v4 m1 L1) (m : Nat) : H96_2 M w0 r v2 v3 v4 v11 m1 m (g_slices_insertionSortCmpFunc_int_l2 K n v2 v3 v4 v11 L1 m) := by
  induction m with
 | zero => intro v15 v16 h; cases h
 | succ m ih => intro v15 v16 h; have h : g_slices_insertionSortCmpFunc_int_l2_b K n v2 v3 v4 v11 L1 (g_slices_insertionSortCmpFunc_int_l2 K n v2 v3 v4 v11 L1 m) v15 v16 = some r := h; exact lp_round (g_slices_insertionSortCmpFunc_int_l2_b_ok hK hL1 ih h)
theorem g_slices_insertionSortCmpFunc_int_l3_b_ok (hK : KnOk K) (hL1 : H96_1 M w0 r v2 v3 v4 m1 L1) (h : g_slices_insertionSortCmpFunc_int_l3_b K n v2 v3 v4 L1 v11 v12 = some r) : VE (cx96 M w0) (q96 M w0 r) [.c (cat Try.f96 [1, 0, 0]), k96_1 M w0 r m1, .b 0] .normal (s96_l3 v2 v3 v4 v11 v12) := by
  unfold g_slices_insertionSortCmpFunc_int_l3_b at h
  refine ve_un (ks' := [.c (cat Try.f96 p96_7), .c (cat Try.f96 p96_8), k96_1 M w0 r m1, .b 0]) 3 ?_
  rcases ite_some h with ⟨h20, h⟩ | ⟨h20, h⟩
  ·
   refine ve_sb 14 h20 ?_
   exact ve_arr 7 (lp_en (p := p96_9) n (g_slices_insertionSortCmpFunc_int_l2_ok hK hL1 n h))
  ·
   refine ve_sb 14 h20 ?_
   refine ve_un (ks' := []) 5 ?_
   refine ve_nrm ?_
   have hr := Option.some.inj h
   subst hr
   exact ve_ot
theorem g_slices_insertionSortCmpFunc_int_l3_ok (hK : KnOk K) (m : Nat) : H96_1 M w0 r v2 v3 v4 m (g_slices_insertionSortCmpFunc_int_l3 K n v2 v3 v4 m) := by
  induction m with
 | zero => intro v11 v12 h; cases h
 | succ m ih => intro v11 v12 h; have h : g_slices_insertionSortCmpFunc_int_l3_b K n v2 v3 v4 (g_slices_insertionSortCmpFunc_int_l3 K n v2 v3 v4 m) v11 v12 = some r := h; exact lp_round (g_slices_insertionSortCmpFunc_int_l3_b_ok hK ih h)
theorem g_slices_insertionSortCmpFunc_int_ok (hK : KnOk K) (h : g_slices_insertionSortCmpFunc_int K n v1 v2 v3 v4 = some r) : AIO Try.prog 96 [.ref 0, .int .i64 v2, .int .i64 v3, .fn v4.id v4.caps] 0 ⟨3, 1, List.map (eInt .i64) v1⟩ (fun v s => v = .tup [] ∧ look 0 s.r = some ⟨3, 1, List.map (eInt .i64) r⟩) := by
  refine aio_intro (c := cat Try.f96 []) Try.func96 (by kernel_rfl) _ Try.ntmps96 (of_decide_eq_true (by kernel_rfl)) fun M w0 => ?_
  refine ve_cast (s' := ⟨[(0,.ref 0),(1,.int .i64 v2),(2,.int .i64 v3),(3,.fn v4.id v4.caps)],[],[(0,⟨3,1,List.map (eInt .i64) v1⟩)],[0,1000000]⟩) (by kernel_rfl) ?_
  unfold g_slices_insertionSortCmpFunc_int at h
  exact ve_arr 3 (lp_en (p := [1, 0]) n (g_slices_insertionSortCmpFunc_int_l3_ok hK n h))
end
def p114_0 : List Nat := [1, 0, 0, 0, 1]
def p114_1 : List Nat := [1, 0, 0, 1]
def p114_2 : List Nat := [1, 0, 0, 1, 0, 0]
def p114_3 : List Nat := [1, 0, 0, 1, 1]
noncomputable section
abbrev cx114 (M : Nat → Prop) (w0 : Base) : Cx := ⟨Try.prog, 38, M, w0⟩
abbrev q114 (M : Nat → Prop) (w0 : Base) (r : (List Int)) := bodyPost Try.prog Try.f114 (RetQ M w0 (fun v s => v = .tup [] ∧ look 0 s.r = some ⟨3, 1, List.map (eInt .i64) r⟩))
abbrev k114_1 (M : Nat → Prop) (w0 : Base) (r : (List Int)) (m1 : Nat) : Kont := kl (cx114 M w0) (q114 M w0 r) [.b 0] (cat Try.f114 [1, 0, 0]) m1
def s114_l1 (v2 : Int) (v3 : Int) (v4 : Int) (v6 : Int) (v7 : (List Int)) : AS := ⟨[(0,.ref 0),(1,.int .i64 v2),(2,.int .i64 v3),(3,.int .i64 v4),(10,.int .i64 v6)],[],[(0,⟨3,1,List.map (eInt .i64) v7⟩)],[0,1000000,0]⟩
abbrev H114_1 (M : Nat → Prop) (w0 : Base) (r : (List Int)) (v2 : Int) (v3 : Int) (v4 : Int) (m1 : Nat) (L1 : Int → (List Int) → Option (List Int)) : Prop := ∀ {v6 : Int} {v7 : (List Int)}, L1 v6 v7 = some r → LP (cx114 M w0) (q114 M w0 r) [.b 0] (cat Try.f114 [1, 0, 0]) m1 (s114_l1 v2 v3 v4 v6 v7)
variable {K : Kn} {n : Nat} {M : Nat → Prop} {w0 : Base} {r : (List Int)} {v1 : (List Int)} {v2 : Int} {v3 : Int} {v4 : Int} {v5 : Fv} {v6 : Int} {v7 : (List Int)} {m1 : Nat} {L1 : Int → (List Int) → Option (List Int)}
theorem g_slices_swapRangeCmpFunc_int_l1_b_ok (hK : KnOk K) (hL1 : H114_1 M w0 r v2 v3 v4 m1 L1) (h : g_slices_swapRangeCmpFunc_int_l1_b K n v2 v3 v4 L1 v6 v7 = some r) : VE (cx114 M w0) (q114 M w0 r) [.c (cat Try.f114 [1, 0, 0]), k114_1 M w0 r m1, .b 0] .normal (s114_l1 v2 v3 v4 v6 v7) := by
  unfold g_slices_swapRangeCmpFunc_int_l1_b at h
  refine ve_un (ks' := [.c (cat Try.f114 p114_0), .c (cat Try.f114 p114_1), k114_1 M w0 r m1, .b 0]) 3 ?_
  rcases ite_some h with ⟨h6, h⟩ | ⟨h6, h⟩
  ·
   refine ve_sb 13 h6 ?_
   refine ve_un (ks' := [.c (cat Try.f114 p114_2), .b 1, .c (cat Try.f114 p114_3), k114_1 M w0 r m1, .b 0]) 4 ?_
   refine ve_pk [0, 1, 2, 3, 10] [] [0] ?_
   obtain ⟨h7, h⟩ := chk_some h
   obtain ⟨h8, h⟩ := chk_some h
   obtain ⟨h9, h⟩ := chk_some h
   obtain ⟨h10, h⟩ := chk_some h
   refine ve_dr 2 [(16, .ref 0), (17, .int .i64 v2), (18, .int .i64 v6), (19, .int .i64 (w64 (v2 + v6))), (20, .ref 0), (21, .int .i64 v3), (22, .int .i64 v6), (23, .int .i64 (w64 (v3 + v6))), (24, .ref 0), (25, .int .i64 v3), (26, .int .i64 v6), (27, .int .i64 (w64 (v3 + v6))), (28, .eptr 0 1 (((w64 (v3 + v6))).toNat) 0), (29, .int .i64 (List.getD v7 ((w64 (v3 + v6))).toNat default)), (30, .ref 0), (31, .int .i64 v2), (32, .int .i64 v6), (33, .int .i64 (w64 (v2 + v6))), (34, .eptr 0 1 (((w64 (v2 + v6))).toNat) 0), (35, .int .i64 (List.getD v7 ((w64 (v2 + v6))).toNat default)), (36, .eptr 0 1 (((w64 (v2 + v6))).toNat) 0), (37, .eptr 0 1 (((w64 (v3 + v6))).toNat) 0)] [] [] [strS 0 ⟨3, 1, List.map (eInt .i64) (List.set v7 ((w64 (v2 + v6))).toNat (List.getD v7 ((w64 (v3 + v6))).toNat default))⟩, strS 0 ⟨3, 1, List.map (eInt .i64) (List.set (List.set v7 ((w64 (v2 + v6))).toNat (List.getD v7 ((w64 (v3 + v6))).toNat default)) ((w64 (v3 + v6))).toNat (List.getD v7 ((w64 (v2 + v6))).toNat default))⟩] (d_vs [.v 0 1, .v 0 1, .v 0 1, .v 0 1, .v 0 2, .v 0 2, .v 0 2, .v 0 2, .v 0 1, .v 0 1, .v 0 1, .v 0 1] (d_c1 (e_v (lo := 0) (y_ixr 0 1 (eInt .i64) (L := v7) (i := (w64 (v3 + v6))) (by first | exact h7 | exact Eq.trans (by simp only [List.length_set]) h7))) (d_c1 (e_v (lo := 0) (y_ldr 3 0 (eInt .i64) (eInt .i64) (inb_spec h7).2 (fun _ => rfl))) (d_vs [.v 0 2, .v 0 2, .v 0 2, .v 0 2] (d_c1 (k_v (lo := 0) (k := 2) (kallS ⟨(by kernel_rfl), (aop_eq (y_ixr 0 1 (eInt .i64) (L := v7) (i := (w64 (v2 + v6))) (by first | exact h8 | exact Eq.trans (by simp only [List.length_set]) h8)) (by kernel_rfl))⟩ (kallS ⟨(by kernel_rfl), (aop_eq (y_ixr 0 1 (eInt .i64) (L := (List.set v7 ((w64 (v2 + v6))).toNat (List.getD v7 ((w64 (v3 + v6))).toNat default))) (i := (w64 (v2 + v6))) (by first | exact h8 | exact Eq.trans (by simp only [List.length_set]) h8)) (by kernel_rfl))⟩ (kall0)))) (d_c1 (e_v (lo := 0) (y_ldr 3 0 (eInt .i64) (eInt .i64) (inb_spec h9).2 (fun _ => rfl))) (d_c1 (e_v (lo := 0) (y_ixr 0 1 (eInt .i64) (L := v7) (i := (w64 (v2 + v6))) (by first | exact h9 | exact Eq.trans (by simp only [List.length_set]) h9))) (d_c1 (e_s (m := 0) (y_str 0 3 1 0 (eInt .i64) (eInt .i64) (List.getD v7 ((w64 (v3 + v6))).toNat default) (inb_spec h9).2 (fun _ => rfl))) (d_c1 (e_v (lo := 1) (y_ixr 0 1 (eInt .i64) (L := (List.set v7 ((w64 (v2 + v6))).toNat (List.getD v7 ((w64 (v3 + v6))).toNat default))) (i := (w64 (v3 + v6))) (by first | exact h10 | exact Eq.trans (by simp only [List.length_set]) h10))) (d_c1 (e_s (m := 1) (y_str 0 3 1 0 (eInt .i64) (eInt .i64) (List.getD v7 ((w64 (v2 + v6))).toNat default) (inb_spec h10).2 (fun _ => rfl))) (d_nl))))))))))) ?_
   exact ve_arr 2 (lp_back (hL1 h))
  ·
   refine ve_sb 13 h6 ?_
   refine ve_un (ks' := []) 5 ?_
   refine ve_nrm ?_
   have hr := Option.some.inj h
   subst hr
   exact ve_ot
theorem g_slices_swapRangeCmpFunc_int_l1_ok (hK : KnOk K) (m : Nat) : H114_1 M w0 r v2 v3 v4 m (g_slices_swapRangeCmpFunc_int_l1 K n v2 v3 v4 m) := by
  induction m with
 | zero => intro v6 v7 h; cases h
 | succ m ih => intro v6 v7 h; have h : g_slices_swapRangeCmpFunc_int_l1_b K n v2 v3 v4 (g_slices_swapRangeCmpFunc_int_l1 K n v2 v3 v4 m) v6 v7 = some r := h; exact lp_round (g_slices_swapRangeCmpFunc_int_l1_b_ok hK ih h)
theorem g_slices_swapRangeCmpFunc_int_ok (hK : KnOk K) (h : g_slices_swapRangeCmpFunc_int K n v1 v2 v3 v4 v5 = some r) : AIO Try.prog 114 [.ref 0, .int .i64 v2, .int .i64 v3, .int .i64 v4, .fn v5.id v5.caps] 0 ⟨3, 1, List.map (eInt .i64) v1⟩ (fun v s => v = .tup [] ∧ look 0 s.r = some ⟨3, 1, List.map (eInt .i64) r⟩) := by
  refine aio_intro (c := cat Try.f114 []) Try.func114 (by kernel_rfl) _ Try.ntmps114 (of_decide_eq_true (by kernel_rfl)) fun M w0 => ?_
  refine ve_cast (s' := ⟨[(0,.ref 0),(1,.int .i64 v2),(2,.int .i64 v3),(3,.int .i64 v4),(4,.fn v5.id v5.caps)],[],[(0,⟨3,1,List.map (eInt .i64) v1⟩)],[0,1000000]⟩) (by kernel_rfl) ?_
  unfold g_slices_swapRangeCmpFunc_int at h
  exact ve_arr 3 (lp_en (p := [1, 0]) n (g_slices_swapRangeCmpFunc_int_l1_ok hK n h))
end
def p105_0 : List Nat := [1, 1, 0, 0, 0]
def p105_1 : List Nat := [1, 1, 0, 0, 0, 0, 1]
def p105_2 : List Nat := [1, 1, 0, 0, 0, 1]
def p105_3 : List Nat := [1, 1, 0, 0, 0, 1, 0, 1]
def p105_4 : List Nat := [1, 1, 0, 0, 0, 1, 0, 1, 0, 0]
def p105_5 : List Nat := [1, 1, 0, 0, 0, 1, 0, 1, 0, 1]
def p105_6 : List Nat := [1, 1, 0, 0, 0, 1, 0, 1, 1, 0]
def p105_7 : List Nat := [1, 1, 0, 0, 0, 1, 0, 1, 1, 1]
def p105_8 : List Nat := [1, 1, 0, 0]
noncomputable section
abbrev cx105 (M : Nat → Prop) (w0 : Base) : Cx := ⟨Try.prog, 58, M, w0⟩
abbrev q105 (M : Nat → Prop) (w0 : Base) (r : (List Int)) := bodyPost Try.prog Try.f105 (RetQ M w0 (fun v s => v = .tup [] ∧ look 0 s.r = some ⟨3, 1, List.map (eInt .i64) r⟩))
abbrev k105_1 (M : Nat → Prop) (w0 : Base) (r : (List Int)) (m1 : Nat) : Kont := kl (cx105 M w0) (q105 M w0 r) [.b 0, .c (cat Try.f105 [1, 1, 1])] (cat Try.f105 p105_0) m1
def s105_j1 (v3 : Int) (v5 : Fv) (v16 : Int) (v17 : Int) (v18 : (List Int)) : AS := ⟨[(0,.ref 0),(2,.int .i64 v3),(4,.fn v5.id v5.caps),(10,.int .i64 v16),(11,.int .i64 v17)],[],[(0,⟨3,1,List.map (eInt .i64) v18⟩)],[0,1000000,0]⟩
def s105_l2 (v3 : Int) (v5 : Fv) (v11 : Int) (v12 : Int) (v13 : (List Int)) : AS := ⟨[(0,.ref 0),(2,.int .i64 v3),(4,.fn v5.id v5.caps),(10,.int .i64 v11),(11,.int .i64 v12)],[],[(0,⟨3,1,List.map (eInt .i64) v13⟩)],[0,1000000,0]⟩
abbrev H105_1 (M : Nat → Prop) (w0 : Base) (r : (List Int)) (v3 : Int) (v5 : Fv) (m1 : Nat) (L1 : Int → Int → (List Int) → Option (List Int)) : Prop := ∀ {v11 : Int} {v12 : Int} {v13 : (List Int)}, L1 v11 v12 v13 = some r → LP (cx105 M w0) (q105 M w0 r) [.b 0, .c (cat Try.f105 [1, 1, 1])] (cat Try.f105 p105_0) m1 (s105_l2 v3 v5 v11 v12 v13)
variable {K : Kn} {n : Nat} {M : Nat → Prop} {w0 : Base} {r : (List Int)} {v1 : (List Int)} {v2 : Int} {v3 : Int} {v4 : Int} {v5 : Fv} {v11 : Int} {v12 : Int} {v13 : (List Int)} {v16 : Int} {v17 : Int} {v18 : (List Int)} {m1 : Nat} {L1 : Int → Int → (List Int) → Option (List Int)}
theorem g_slices_rotateCmpFunc_int_j1_ok (hK : KnOk K) (hL1 : H105_1 M w0 r v3 v5 m1 L1) (h : g_slices_rotateCmpFunc_int_j1 K n v3 v5 L1 v16 v17 v18 = some r) : VE (cx105 M w0) (q105 M w0 r) [.b 1, k105_1 M w0 r m1, .b 0, .c (cat Try.f105 [1, 1, 1])] .normal (s105_j1 v3 v5 v16 v17 v18) := by
  unfold g_slices_rotateCmpFunc_int_j1 at h
  exact ve_arr 1 (lp_back (hL1 h))
theorem g_slices_rotateCmpFunc_int_l2_b_ok (hK : KnOk K) (hL1 : H105_1 M w0 r v3 v5 m1 L1) (h : g_slices_rotateCmpFunc_int_l2_b K n v3 v5 L1 v11 v12 v13 = some r) : VE (cx105 M w0) (q105 M w0 r) [.c (cat Try.f105 p105_0), k105_1 M w0 r m1, .b 0, .c (cat Try.f105 [1, 1, 1])] .normal (s105_l2 v3 v5 v11 v12 v13) := by
  unfold g_slices_rotateCmpFunc_int_l2_b at h
  refine ve_un (ks' := [.c (cat Try.f105 p105_1), .c (cat Try.f105 p105_2), k105_1 M w0 r m1, .b 0, .c (cat Try.f105 [1, 1, 1])]) 3 ?_
  rcases ite_some h with ⟨h5, h⟩ | ⟨h5, h⟩
  ·
   refine ve_sb 20 h5 ?_
   refine ve_un (ks' := [.c (cat Try.f105 p105_3), .b 1, k105_1 M w0 r m1, .b 0, .c (cat Try.f105 [1, 1, 1])]) 5 ?_
   rcases ite_some h with ⟨h6, h⟩ | ⟨h6, h⟩
   ·
    refine ve_sb 23 h6 ?_
    refine ve_un (ks' := [.c (cat Try.f105 p105_4), .c (cat Try.f105 p105_5), .b 1, k105_1 M w0 r m1, .b 0, .c (cat Try.f105 [1, 1, 1])]) 2 ?_
    refine ve_in 7 ?_
    obtain ⟨v14, h7, h⟩ := bind_some h
    refine ot_io 0 0 (g_slices_swapRangeCmpFunc_int_ok hK h7) ?_
    refine ot_end ?_
    exact ve_arr 1 (g_slices_rotateCmpFunc_int_j1_ok hK hL1 h)
   ·
    refine ve_sb 23 h6 ?_
    refine ve_un (ks' := [.c (cat Try.f105 p105_6), .c (cat Try.f105 p105_7), .b 1, k105_1 M w0 r m1, .b 0, .c (cat Try.f105 [1, 1, 1])]) 2 ?_
    refine ve_in 11 ?_
    obtain ⟨v15, h8, h⟩ := bind_some h
    refine ot_io 0 0 (g_slices_swapRangeCmpFunc_int_ok hK h8) ?_
    refine ot_end ?_
    exact ve_arr 1 (g_slices_rotateCmpFunc_int_j1_ok hK hL1 h)
  ·
   refine ve_sb 20 h5 ?_
   refine ve_un (ks' := [.c (cat Try.f105 [1, 1, 1])]) 5 ?_
   refine ve_in 7 ?_
   obtain ⟨v19, h9, h⟩ := bind_some h
   refine ot_io 0 0 (g_slices_swapRangeCmpFunc_int_ok hK h9) ?_
   refine ot_end ?_
   refine ve_nrm ?_
   have hr := Option.some.inj h
   subst hr
   exact ve_ot
theorem g_slices_rotateCmpFunc_int_l2_ok (hK : KnOk K) (m : Nat) : H105_1 M w0 r v3 v5 m (g_slices_rotateCmpFunc_int_l2 K n v3 v5 m) := by
  induction m with
 | zero => intro v11 v12 v13 h; cases h
 | succ m ih => intro v11 v12 v13 h; have h : g_slices_rotateCmpFunc_int_l2_b K n v3 v5 (g_slices_rotateCmpFunc_int_l2 K n v3 v5 m) v11 v12 v13 = some r := h; exact lp_round (g_slices_rotateCmpFunc_int_l2_b_ok hK ih h)
theorem g_slices_rotateCmpFunc_int_ok (hK : KnOk K) (h : g_slices_rotateCmpFunc_int K n v1 v2 v3 v4 v5 = some r) : AIO Try.prog 105 [.ref 0, .int .i64 v2, .int .i64 v3, .int .i64 v4, .fn v5.id v5.caps] 0 ⟨3, 1, List.map (eInt .i64) v1⟩ (fun v s => v = .tup [] ∧ look 0 s.r = some ⟨3, 1, List.map (eInt .i64) r⟩) := by
  refine aio_intro (c := cat Try.f105 []) Try.func105 (by kernel_rfl) _ Try.ntmps105 (of_decide_eq_true (by kernel_rfl)) fun M w0 => ?_
  refine ve_cast (s' := ⟨[(0,.ref 0),(1,.int .i64 v2),(2,.int .i64 v3),(3,.int .i64 v4),(4,.fn v5.id v5.caps)],[],[(0,⟨3,1,List.map (eInt .i64) v1⟩)],[0,1000000]⟩) (by kernel_rfl) ?_
  unfold g_slices_rotateCmpFunc_int at h
  exact ve_arr 6 (lp_en (p := p105_8) n (g_slices_rotateCmpFunc_int_l2_ok hK n h))
end
def p97_0 : List Nat := [0, 1, 0, 1, 1, 1, 1]
def p97_1 : List Nat := [0, 1, 0, 1, 1, 1, 0, 1, 0, 0]
def p97_2 : List Nat := [0, 1, 0, 1, 1, 1]
def p97_3 : List Nat := [0, 1, 0, 1, 1, 0, 0, 0]
def p97_4 : List Nat := [1, 0, 1, 0, 1, 1, 1, 1]
def p97_5 : List Nat := [1, 0, 1, 0, 1, 1, 1, 0, 1, 0, 0]
def p97_6 : List Nat := [1, 0, 1, 0, 1, 1, 1]
def p97_7 : List Nat := [1, 0, 1, 0, 1, 1, 0, 0, 0]
def p97_8 : List Nat := ones 8 []
def p97_9 : List Nat := ones 7 [0, 0, 0]
def p97_10 : List Nat := [0, 1, 0, 1, 1, 1, 0, 1, 0, 0, 0, 1]
def p97_11 : List Nat := [0, 1, 0, 1, 1, 1, 0, 1, 0, 0, 1]
def p97_12 : List Nat := [0, 1, 0, 1, 1, 1, 0, 1, 0, 0, 1, 0, 0]
def p97_13 : List Nat := [0, 1, 0, 1, 1, 1, 0, 1, 0, 0, 1, 1]
def p97_14 : List Nat := [0, 1, 0, 1, 1, 0, 0, 0, 0, 1]
def p97_15 : List Nat := [0, 1, 0, 1, 1, 0, 0, 0, 1]
def p97_16 : List Nat := [0, 1, 0, 1, 1, 0, 0, 0, 1, 0, 1, 0]
def p97_17 : List Nat := [0, 1, 0, 1, 1, 0, 0, 0, 1, 0, 1, 1]
def p97_18 : List Nat := [0, 1, 0, 1, 1, 1, 0, 1, 0]
def p97_19 : List Nat := [1, 0, 1, 0, 1, 1, 1, 0, 1, 0, 0, 0, 1]
def p97_20 : List Nat := [1, 0, 1, 0, 1, 1, 1, 0, 1, 0, 0, 1]
def p97_21 : List Nat := [1, 0, 1, 0, 1, 1, 1, 0, 1, 0, 0, 1, 0, 0]
def p97_22 : List Nat := [1, 0, 1, 0, 1, 1, 1, 0, 1, 0, 0, 1, 1]
def p97_23 : List Nat := [1, 0, 1, 0, 1, 1, 0, 0, 0, 0, 1]
def p97_24 : List Nat := [1, 0, 1, 0, 1, 1, 0, 0, 0, 1]
def p97_25 : List Nat := [1, 0, 1, 0, 1, 1, 0, 0, 0, 1, 0, 1, 0]
def p97_26 : List Nat := [1, 0, 1, 0, 1, 1, 0, 0, 0, 1, 0, 1, 1]
def p97_27 : List Nat := [1, 0, 1, 0, 1, 1, 1, 0, 1, 0]
def p97_28 : List Nat := ones 12 []
def p97_29 : List Nat := ones 12 [0]
def p97_30 : List Nat := ones 11 []
def p97_31 : List Nat := ones 11 [0]
def p97_32 : List Nat := ones 10 [0, 1]
def p97_33 : List Nat := ones 10 [0, 1, 0]
def p97_34 : List Nat := ones 10 []
def p97_35 : List Nat := ones 10 [0, 0]
def p97_36 : List Nat := ones 9 [0, 1]
def p97_37 : List Nat := ones 9 [0, 1, 0]
def p97_38 : List Nat := ones 7 [0, 0, 0, 0, 1]
def p97_39 : List Nat := ones 7 [0, 0, 0, 1]
def p97_40 : List Nat := ones 7 [0, 0, 0, 1, 0, 1, 0]
def p97_41 : List Nat := ones 7 [0, 0, 0, 1, 0, 1, 1]
def p97_42 : List Nat := ones 9 [0, 0]
def p97_43 : List Nat := ones 6 []
def p97_44 : List Nat := ones 7 [0, 0]
def p97_45 : List Nat := [0, 1, 0, 1, 1, 0, 0]
def p97_46 : List Nat := [1, 0, 1, 0, 1, 1, 0, 0]
def p97_47 : List Nat := ones 5 [0, 1]
noncomputable section
abbrev cx97 (M : Nat → Prop) (w0 : Base) : Cx := ⟨Try.prog, 220, M, w0⟩
abbrev q97 (M : Nat → Prop) (w0 : Base) (r : (List Int)) := bodyPost Try.prog Try.f97 (RetQ M w0 (fun v s => v = .tup [] ∧ look 0 s.r = some ⟨3, 1, List.map (eInt .i64) r⟩))
abbrev k97_2 (M : Nat → Prop) (w0 : Base) (r : (List Int)) (m2 : Nat) : Kont := kl (cx97 M w0) (q97 M w0 r) [.b 2, .c (cat Try.f97 p97_0), .c (cat Try.f97 [1])] (cat Try.f97 p97_1) m2
abbrev k97_1 (M : Nat → Prop) (w0 : Base) (r : (List Int)) (m1 : Nat) : Kont := kl (cx97 M w0) (q97 M w0 r) [.b 0, .c (cat Try.f97 p97_2), .c (cat Try.f97 [1])] (cat Try.f97 p97_3) m1
abbrev k97_4 (M : Nat → Prop) (w0 : Base) (r : (List Int)) (m4 : Nat) : Kont := kl (cx97 M w0) (q97 M w0 r) [.b 6, .c (cat Try.f97 p97_4), .c (cat Try.f97 [1, 1])] (cat Try.f97 p97_5) m4
abbrev k97_3 (M : Nat → Prop) (w0 : Base) (r : (List Int)) (m3 : Nat) : Kont := kl (cx97 M w0) (q97 M w0 r) [.b 4, .c (cat Try.f97 p97_6), .c (cat Try.f97 [1, 1])] (cat Try.f97 p97_7) m3
abbrev k97_5 (M : Nat → Prop) (w0 : Base) (r : (List Int)) (m5 : Nat) : Kont := kl (cx97 M w0) (q97 M w0 r) [.b 8, .c (cat Try.f97 p97_8)] (cat Try.f97 p97_9) m5
def s97_j1 (v1 : (List Int)) (v2 : Int) (v5 : Fv) (v14 : Int) (v15 : Int) : AS := ⟨[(0,.ref 0),(1,.int .i64 v2),(4,.fn v5.id v5.caps),(10,.int .i64 v14),(11,.int .i64 v15)],[],[(0,⟨3,1,List.map (eInt .i64) v1⟩)],[0,1000000,0]⟩
def s97_l3 (v10 : Int) (v16 : Int) (v17 : (List Int)) : AS := ⟨[(0,.ref 0),(10,.int .i64 v10),(13,.int .i64 v16)],[],[(0,⟨3,1,List.map (eInt .i64) v17⟩)],[0,1000000,0]⟩
def s97_l2 (v1 : (List Int)) (v2 : Int) (v5 : Fv) (v10 : Int) (v11 : Int) : AS := ⟨[(0,.ref 0),(1,.int .i64 v2),(4,.fn v5.id v5.caps),(10,.int .i64 v10),(11,.int .i64 v11)],[],[(0,⟨3,1,List.map (eInt .i64) v1⟩)],[0,1000000,0]⟩
def s97_j4 (v1 : (List Int)) (v3 : Int) (v5 : Fv) (v26 : Int) (v27 : Int) : AS := ⟨[(0,.ref 0),(2,.int .i64 v3),(4,.fn v5.id v5.caps),(14,.int .i64 v26),(15,.int .i64 v27)],[],[(0,⟨3,1,List.map (eInt .i64) v1⟩)],[0,1000000,0]⟩
def s97_l6 (v22 : Int) (v28 : Int) (v29 : (List Int)) : AS := ⟨[(0,.ref 0),(14,.int .i64 v22),(17,.int .i64 v28)],[],[(0,⟨3,1,List.map (eInt .i64) v29⟩)],[0,1000000,0]⟩
def s97_l5 (v1 : (List Int)) (v3 : Int) (v5 : Fv) (v22 : Int) (v23 : Int) : AS := ⟨[(0,.ref 0),(2,.int .i64 v3),(4,.fn v5.id v5.caps),(14,.int .i64 v22),(15,.int .i64 v23)],[],[(0,⟨3,1,List.map (eInt .i64) v1⟩)],[0,1000000,0]⟩
def s97_j8 (v1 : (List Int)) (v2 : Int) (v3 : Int) (v4 : Int) (v5 : Fv) (v30 : Int) (v31 : Int) (v43 : Int) (v44 : Int) : AS := ⟨[(0,.ref 0),(1,.int .i64 v2),(2,.int .i64 v3),(3,.int .i64 v4),(4,.fn v5.id v5.caps),(18,.int .i64 v30),(19,.int .i64 v31),(20,.int .i64 v43),(21,.int .i64 v44),(22,.int .i64 (w64 (v31 - 1)))],[],[(0,⟨3,1,List.map (eInt .i64) v1⟩)],[0,1000000,0]⟩
def s97_j15 (v53 : (List Int)) : AS := ⟨[],[],[(0,⟨3,1,List.map (eInt .i64) v53⟩)],[0,1000000,0]⟩
def s97_j14 (v4 : Int) (v5 : Fv) (v30 : Int) (v31 : Int) (v39 : Int) (v50 : (List Int)) (v51 : Bool) : AS := ⟨[(0,.ref 0),(3,.int .i64 v4),(4,.fn v5.id v5.caps),(18,.int .i64 v30),(24,.int .i64 (w64 (v31 - v39))),(213,.bool v51)],[],[(0,⟨3,1,List.map (eInt .i64) v50⟩)],[0,1000000,0]⟩
def s97_j13 (v4 : Int) (v5 : Fv) (v30 : Int) (v31 : Int) (v39 : Int) (v50 : (List Int)) : AS := ⟨[(0,.ref 0),(3,.int .i64 v4),(4,.fn v5.id v5.caps),(18,.int .i64 v30),(24,.int .i64 (w64 (v31 - v39)))],[],[(0,⟨3,1,List.map (eInt .i64) v50⟩)],[0,1000000,0]⟩
def s97_j12 (v2 : Int) (v4 : Int) (v5 : Fv) (v30 : Int) (v31 : Int) (v39 : Int) (v47 : (List Int)) (v48 : Bool) : AS := ⟨[(0,.ref 0),(1,.int .i64 v2),(3,.int .i64 v4),(4,.fn v5.id v5.caps),(18,.int .i64 v30),(20,.int .i64 v39),(24,.int .i64 (w64 (v31 - v39))),(199,.bool v48)],[],[(0,⟨3,1,List.map (eInt .i64) v47⟩)],[0,1000000,0]⟩
def s97_j11 (v2 : Int) (v4 : Int) (v5 : Fv) (v30 : Int) (v31 : Int) (v39 : Int) (v47 : (List Int)) : AS := ⟨[(0,.ref 0),(1,.int .i64 v2),(3,.int .i64 v4),(4,.fn v5.id v5.caps),(18,.int .i64 v30),(20,.int .i64 v39),(24,.int .i64 (w64 (v31 - v39)))],[],[(0,⟨3,1,List.map (eInt .i64) v47⟩)],[0,1000000,0]⟩
def s97_j10 (v1 : (List Int)) (v2 : Int) (v3 : Int) (v4 : Int) (v5 : Fv) (v30 : Int) (v31 : Int) (v39 : Int) (v45 : Bool) : AS := ⟨[(0,.ref 0),(1,.int .i64 v2),(2,.int .i64 v3),(3,.int .i64 v4),(4,.fn v5.id v5.caps),(18,.int .i64 v30),(20,.int .i64 v39),(24,.int .i64 (w64 (v31 - v39))),(185,.bool v45)],[],[(0,⟨3,1,List.map (eInt .i64) v1⟩)],[0,1000000,0]⟩
def s97_l9 (v1 : (List Int)) (v2 : Int) (v3 : Int) (v4 : Int) (v5 : Fv) (v30 : Int) (v31 : Int) (v39 : Int) (v40 : Int) : AS := ⟨[(0,.ref 0),(1,.int .i64 v2),(2,.int .i64 v3),(3,.int .i64 v4),(4,.fn v5.id v5.caps),(18,.int .i64 v30),(19,.int .i64 v31),(20,.int .i64 v39),(21,.int .i64 v40),(22,.int .i64 (w64 (v31 - 1)))],[],[(0,⟨3,1,List.map (eInt .i64) v1⟩)],[0,1000000,0]⟩
def s97_j7 (v1 : (List Int)) (v2 : Int) (v3 : Int) (v4 : Int) (v5 : Fv) (v30 : Int) (v31 : Int) (v33 : Int) (v34 : Int) : AS := ⟨[(0,.ref 0),(1,.int .i64 v2),(2,.int .i64 v3),(3,.int .i64 v4),(4,.fn v5.id v5.caps),(18,.int .i64 v30),(19,.int .i64 v31),(20,.int .i64 v33),(21,.int .i64 v34)],[],[(0,⟨3,1,List.map (eInt .i64) v1⟩)],[0,1000000,0]⟩
abbrev H97_1 (M : Nat → Prop) (w0 : Base) (r : (List Int)) (v1 : (List Int)) (v2 : Int) (v5 : Fv) (m1 : Nat) (L1 : Int → Int → Option (List Int)) : Prop := ∀ {v10 : Int} {v11 : Int}, L1 v10 v11 = some r → LP (cx97 M w0) (q97 M w0 r) [.b 0, .c (cat Try.f97 p97_2), .c (cat Try.f97 [1])] (cat Try.f97 p97_3) m1 (s97_l2 v1 v2 v5 v10 v11)
abbrev H97_2 (M : Nat → Prop) (w0 : Base) (r : (List Int)) (v10 : Int) (m2 : Nat) (L2 : Int → (List Int) → Option (List Int)) : Prop := ∀ {v16 : Int} {v17 : (List Int)}, L2 v16 v17 = some r → LP (cx97 M w0) (q97 M w0 r) [.b 2, .c (cat Try.f97 p97_0), .c (cat Try.f97 [1])] (cat Try.f97 p97_1) m2 (s97_l3 v10 v16 v17)
abbrev H97_3 (M : Nat → Prop) (w0 : Base) (r : (List Int)) (v1 : (List Int)) (v3 : Int) (v5 : Fv) (m3 : Nat) (L3 : Int → Int → Option (List Int)) : Prop := ∀ {v22 : Int} {v23 : Int}, L3 v22 v23 = some r → LP (cx97 M w0) (q97 M w0 r) [.b 4, .c (cat Try.f97 p97_6), .c (cat Try.f97 [1, 1])] (cat Try.f97 p97_7) m3 (s97_l5 v1 v3 v5 v22 v23)
abbrev H97_4 (M : Nat → Prop) (w0 : Base) (r : (List Int)) (v22 : Int) (m4 : Nat) (L4 : Int → (List Int) → Option (List Int)) : Prop := ∀ {v28 : Int} {v29 : (List Int)}, L4 v28 v29 = some r → LP (cx97 M w0) (q97 M w0 r) [.b 6, .c (cat Try.f97 p97_4), .c (cat Try.f97 [1, 1])] (cat Try.f97 p97_5) m4 (s97_l6 v22 v28 v29)
abbrev H97_5 (M : Nat → Prop) (w0 : Base) (r : (List Int)) (v1 : (List Int)) (v2 : Int) (v3 : Int) (v4 : Int) (v5 : Fv) (v30 : Int) (v31 : Int) (m5 : Nat) (L5 : Int → Int → Option (List Int)) : Prop := ∀ {v39 : Int} {v40 : Int}, L5 v39 v40 = some r → LP (cx97 M w0) (q97 M w0 r) [.b 8, .c (cat Try.f97 p97_8)] (cat Try.f97 p97_9) m5 (s97_l9 v1 v2 v3 v4 v5 v30 v31 v39 v40)
variable {K : Kn} {n : Nat} {M : Nat → Prop} {w0 : Base} {r : (List Int)} {v1 : (List Int)} {v2 : Int} {v3 : Int} {v4 : Int} {v5 : Fv} {v10 : Int} {v11 : Int} {v14 : Int} {v15 : Int} {v16 : Int} {v17 : (List Int)} {v22 : Int} {v23 : Int} {v26 : Int} {v27 : Int} {v28 : Int} {v29 : (List Int)} {v30 : Int} {v31 : Int} {v33 : Int} {v34 : Int} {v39 : Int} {v40 : Int} {v43 : Int} {v44 : Int} {v45 : Bool} {v47 : (List Int)} {v48 : Bool} {v50 : (List Int)} {v51 : Bool} {v53 : (List Int)} {m1 : Nat} {L1 : Int → Int → Option (List Int)} {m2 : Nat} {L2 : Int → (List Int) → Option (List Int)} {m3 : Nat} {L3 : Int → Int → Option (List Int)} {m4 : Nat} {L4 : Int → (List Int) → Option (List Int)} {m5 : Nat} {L5 : Int → Int → Option (List Int)}
theorem g_slices_symMergeCmpFunc_int_j1_ok (hK : KnOk K) (hL1 : H97_1 M w0 r v1 v2 v5 m1 L1) (h : g_slices_symMergeCmpFunc_int_j1 K n v1 v2 v5 L1 v14 v15 = some r) : VE (cx97 M w0) (q97 M w0 r) [.b 1, k97_1 M w0 r m1, .b 0, .c (cat Try.f97 p97_2), .c (cat Try.f97 [1])] .normal (s97_j1 v1 v2 v5 v14 v15) := by
  unfold g_slices_symMergeCmpFunc_int_j1 at h
  exact ve_arr 1 (lp_back (hL1 h))
theorem g_slices_symMergeCmpFunc_int_l3_b_ok (hK : KnOk K) (hL2 : H97_2 M w0 r v10 m2 L2) (h : g_slices_symMergeCmpFunc_int_l3_b K n v10 L2 v16 v17 = some r) : VE (cx97 M w0) (q97 M w0 r) [.c (cat Try.f97 p97_1), k97_2 M w0 r m2, .b 2, .c (cat Try.f97 p97_0), .c (cat Try.f97 [1])] .normal (s97_l3 v10 v16 v17) := by
  unfold g_slices_symMergeCmpFunc_int_l3_b at h
  refine ve_un (ks' := [.c (cat Try.f97 p97_10), .c (cat Try.f97 p97_11), k97_2 M w0 r m2, .b 2, .c (cat Try.f97 p97_0), .c (cat Try.f97 [1])]) 3 ?_
  rcases ite_some h with ⟨h19, h⟩ | ⟨h19, h⟩
  ·
   refine ve_sb 58 h19 ?_
   refine ve_un (ks' := [.c (cat Try.f97 p97_12), .b 3, .c (cat Try.f97 p97_13), k97_2 M w0 r m2, .b 2, .c (cat Try.f97 p97_0), .c (cat Try.f97 [1])]) 4 ?_
   refine ve_pk [0, 10, 13] [] [0] ?_
   obtain ⟨h20, h⟩ := chk_some h
   obtain ⟨h21, h⟩ := chk_some h
   obtain ⟨h22, h⟩ := chk_some h
   obtain ⟨h23, h⟩ := chk_some h
   refine ve_dr 2 [(61, .ref 0), (62, .int .i64 v16), (63, .ref 0), (64, .int .i64 v16), (65, .int .i64 (w64 (v16 + 1))), (66, .ref 0), (67, .int .i64 v16), (68, .int .i64 (w64 (v16 + 1))), (69, .eptr 0 1 (((w64 (v16 + 1))).toNat) 0), (70, .int .i64 (List.getD v17 ((w64 (v16 + 1))).toNat default)), (71, .ref 0), (72, .int .i64 v16), (73, .eptr 0 1 ((v16).toNat) 0), (74, .int .i64 (List.getD v17 (v16).toNat default)), (75, .eptr 0 1 ((v16).toNat) 0), (76, .eptr 0 1 (((w64 (v16 + 1))).toNat) 0)] [] [] [strS 0 ⟨3, 1, List.map (eInt .i64) (List.set v17 (v16).toNat (List.getD v17 ((w64 (v16 + 1))).toNat default))⟩, strS 0 ⟨3, 1, List.map (eInt .i64) (List.set (List.set v17 (v16).toNat (List.getD v17 ((w64 (v16 + 1))).toNat default)) ((w64 (v16 + 1))).toNat (List.getD v17 (v16).toNat default))⟩] (d_vs [.v 0 1, .v 0 1, .v 0 2, .v 0 2, .v 0 2, .v 0 1, .v 0 1, .v 0 1] (d_c1 (e_v (lo := 0) (y_ixr 0 1 (eInt .i64) (L := v17) (i := (w64 (v16 + 1))) (by first | exact h20 | exact Eq.trans (by simp only [List.length_set]) h20))) (d_c1 (e_v (lo := 0) (y_ldr 3 0 (eInt .i64) (eInt .i64) (inb_spec h20).2 (fun _ => rfl))) (d_vs [.v 0 2, .v 0 2] (d_c1 (k_v (lo := 0) (k := 2) (kallS ⟨(by kernel_rfl), (aop_eq (y_ixr 0 1 (eInt .i64) (L := v17) (i := v16) (by first | exact h21 | exact Eq.trans (by simp only [List.length_set]) h21)) (by kernel_rfl))⟩ (kallS ⟨(by kernel_rfl), (aop_eq (y_ixr 0 1 (eInt .i64) (L := (List.set v17 (v16).toNat (List.getD v17 ((w64 (v16 + 1))).toNat default))) (i := v16) (by first | exact h21 | exact Eq.trans (by simp only [List.length_set]) h21)) (by kernel_rfl))⟩ (kall0)))) (d_c1 (e_v (lo := 0) (y_ldr 3 0 (eInt .i64) (eInt .i64) (inb_spec h22).2 (fun _ => rfl))) (d_c1 (e_v (lo := 0) (y_ixr 0 1 (eInt .i64) (L := v17) (i := v16) (by first | exact h22 | exact Eq.trans (by simp only [List.length_set]) h22))) (d_c1 (e_s (m := 0) (y_str 0 3 1 0 (eInt .i64) (eInt .i64) (List.getD v17 ((w64 (v16 + 1))).toNat default) (inb_spec h22).2 (fun _ => rfl))) (d_c1 (e_v (lo := 1) (y_ixr 0 1 (eInt .i64) (L := (List.set v17 (v16).toNat (List.getD v17 ((w64 (v16 + 1))).toNat default))) (i := (w64 (v16 + 1))) (by first | exact h23 | exact Eq.trans (by simp only [List.length_set]) h23))) (d_c1 (e_s (m := 1) (y_str 0 3 1 0 (eInt .i64) (eInt .i64) (List.getD v17 (v16).toNat default) (inb_spec h23).2 (fun _ => rfl))) (d_nl))))))))))) ?_
   exact ve_arr 2 (lp_back (hL2 h))
  ·
   refine ve_sb 58 h19 ?_
   refine ve_rt 7 ?_
   have hr := Option.some.inj h
   subst hr
   exact ve_ot
theorem g_slices_symMergeCmpFunc_int_l3_ok (hK : KnOk K) (m : Nat) : H97_2 M w0 r v10 m (g_slices_symMergeCmpFunc_int_l3 K n v10 m) := by
  induction m with
 | zero => intro v16 v17 h; cases h
 | succ m ih => intro v16 v17 h; have h : g_slices_symMergeCmpFunc_int_l3_b K n v10 (g_slices_symMergeCmpFunc_int_l3 K n v10 m) v16 v17 = some r := h; exact lp_round (g_slices_symMergeCmpFunc_int_l3_b_ok hK ih h)
theorem g_slices_symMergeCmpFunc_int_l2_b_ok (hK : KnOk K) (hL1 : H97_1 M w0 r v1 v2 v5 m1 L1) (h : g_slices_symMergeCmpFunc_int_l2_b K n v1 v2 v5 L1 v10 v11 = some r) : VE (cx97 M w0) (q97 M w0 r) [.c (cat Try.f97 p97_3), k97_1 M w0 r m1, .b 0, .c (cat Try.f97 p97_2), .c (cat Try.f97 [1])] .normal (s97_l2 v1 v2 v5 v10 v11) := by
  unfold g_slices_symMergeCmpFunc_int_l2_b at h
  refine ve_un (ks' := [.c (cat Try.f97 p97_14), .c (cat Try.f97 p97_15), k97_1 M w0 r m1, .b 0, .c (cat Try.f97 p97_2), .c (cat Try.f97 [1])]) 3 ?_
  rcases ite_some h with ⟨h8, h⟩ | ⟨h8, h⟩
  ·
   refine ve_sb 33 h8 ?_
   obtain ⟨v12, h9, h⟩ := bind_some h
   have h9 := Option.some.inj h9
   refine ve_go (ks' := [.c (cat Try.f97 p97_16), .c (cat Try.f97 p97_17), .b 1, k97_1 M w0 r m1, .b 0, .c (cat Try.f97 p97_2), .c (cat Try.f97 [1])]) 6 ⟨[(0,.ref 0),(1,.int .i64 v2),(4,.fn v5.id v5.caps),(10,.int .i64 v10),(11,.int .i64 v11),(12,.int .i64 v12)],[],[(0,⟨3,1,List.map (eInt .i64) v1⟩)],[0,1000000,0]⟩ ?_ (by subst h9; kernel_rfl)
   obtain ⟨h10, h⟩ := chk_some h
   obtain ⟨h11, h⟩ := chk_some h
   obtain ⟨v13, h12, h⟩ := bind_some h
   refine ve_dr 0 [(40, .fn v5.id v5.caps), (41, .ref 0), (42, .int .i64 v12), (43, .eptr 0 1 ((v12).toNat) 0), (44, .int .i64 (List.getD v1 (v12).toNat default)), (45, .ref 0), (46, .int .i64 v2), (47, .eptr 0 1 ((v2).toNat) 0), (48, .int .i64 (List.getD v1 (v2).toNat default)), (49, .int .i64 v13), (50, .bool (decide (v13 < 0)))] [] [] [] (d_vs [.v 0 1, .v 0 1, .v 0 1] (d_c1 (e_v (lo := 0) (y_ixr 0 1 (eInt .i64) (L := v1) (i := v12) (by first | exact h10 | exact Eq.trans (by simp only [List.length_set]) h10))) (d_c1 (e_v (lo := 0) (y_ldr 3 0 (eInt .i64) (eInt .i64) (inb_spec h10).2 (fun _ => rfl))) (d_vs [.v 0 1, .v 0 1] (d_c1 (e_v (lo := 0) (y_ixr 0 1 (eInt .i64) (L := v1) (i := v2) (by first | exact h11 | exact Eq.trans (by simp only [List.length_set]) h11))) (d_c1 (e_v (lo := 0) (y_ldr 3 0 (eInt .i64) (eInt .i64) (inb_spec h11).2 (fun _ => rfl))) (d_c1 (e_c 0 1 49 (hK.d_Int_Int__Int h12).2 (hK.d_Int_Int__Int h12).1) (d_vs [.v 0 1] (d_nl))))))))) ?_
   rcases ite_some h with ⟨h13, h⟩ | ⟨h13, h⟩
   ·
    refine ve_sb 50 h13 ?_
    exact ve_arr 2 (g_slices_symMergeCmpFunc_int_j1_ok hK hL1 h)
   ·
    refine ve_sb 50 h13 ?_
    exact ve_arr 2 (g_slices_symMergeCmpFunc_int_j1_ok hK hL1 h)
  ·
   refine ve_sb 33 h8 ?_
   exact ve_arr 9 (lp_en (p := p97_18) n (g_slices_symMergeCmpFunc_int_l3_ok hK n h))
theorem g_slices_symMergeCmpFunc_int_l2_ok (hK : KnOk K) (m : Nat) : H97_1 M w0 r v1 v2 v5 m (g_slices_symMergeCmpFunc_int_l2 K n v1 v2 v5 m) := by
  induction m with
 | zero => intro v10 v11 h; cases h
 | succ m ih => intro v10 v11 h; have h : g_slices_symMergeCmpFunc_int_l2_b K n v1 v2 v5 (g_slices_symMergeCmpFunc_int_l2 K n v1 v2 v5 m) v10 v11 = some r := h; exact lp_round (g_slices_symMergeCmpFunc_int_l2_b_ok hK ih h)
theorem g_slices_symMergeCmpFunc_int_j4_ok (hK : KnOk K) (hL3 : H97_3 M w0 r v1 v3 v5 m3 L3) (h : g_slices_symMergeCmpFunc_int_j4 K n v1 v3 v5 L3 v26 v27 = some r) : VE (cx97 M w0) (q97 M w0 r) [.b 5, k97_3 M w0 r m3, .b 4, .c (cat Try.f97 p97_6), .c (cat Try.f97 [1, 1])] .normal (s97_j4 v1 v3 v5 v26 v27) := by
  unfold g_slices_symMergeCmpFunc_int_j4 at h
  exact ve_arr 1 (lp_back (hL3 h))
theorem g_slices_symMergeCmpFunc_int_l6_b_ok (hK : KnOk K) (hL4 : H97_4 M w0 r v22 m4 L4) (h : g_slices_symMergeCmpFunc_int_l6_b K n v22 L4 v28 v29 = some r) : VE (cx97 M w0) (q97 M w0 r) [.c (cat Try.f97 p97_5), k97_4 M w0 r m4, .b 6, .c (cat Try.f97 p97_4), .c (cat Try.f97 [1, 1])] .normal (s97_l6 v22 v28 v29) := by
  unfold g_slices_symMergeCmpFunc_int_l6_b at h
  refine ve_un (ks' := [.c (cat Try.f97 p97_19), .c (cat Try.f97 p97_20), k97_4 M w0 r m4, .b 6, .c (cat Try.f97 p97_4), .c (cat Try.f97 [1, 1])]) 3 ?_
  rcases ite_some h with ⟨h42, h⟩ | ⟨h42, h⟩
  ·
   refine ve_sb 110 h42 ?_
   refine ve_un (ks' := [.c (cat Try.f97 p97_21), .b 7, .c (cat Try.f97 p97_22), k97_4 M w0 r m4, .b 6, .c (cat Try.f97 p97_4), .c (cat Try.f97 [1, 1])]) 4 ?_
   refine ve_pk [0, 14, 17] [] [0] ?_
   obtain ⟨h43, h⟩ := chk_some h
   obtain ⟨h44, h⟩ := chk_some h
   obtain ⟨h45, h⟩ := chk_some h
   obtain ⟨h46, h⟩ := chk_some h
   refine ve_dr 2 [(113, .ref 0), (114, .int .i64 v28), (115, .ref 0), (116, .int .i64 v28), (117, .int .i64 (w64 (v28 - 1))), (118, .ref 0), (119, .int .i64 v28), (120, .int .i64 (w64 (v28 - 1))), (121, .eptr 0 1 (((w64 (v28 - 1))).toNat) 0), (122, .int .i64 (List.getD v29 ((w64 (v28 - 1))).toNat default)), (123, .ref 0), (124, .int .i64 v28), (125, .eptr 0 1 ((v28).toNat) 0), (126, .int .i64 (List.getD v29 (v28).toNat default)), (127, .eptr 0 1 ((v28).toNat) 0), (128, .eptr 0 1 (((w64 (v28 - 1))).toNat) 0)] [] [] [strS 0 ⟨3, 1, List.map (eInt .i64) (List.set v29 (v28).toNat (List.getD v29 ((w64 (v28 - 1))).toNat default))⟩, strS 0 ⟨3, 1, List.map (eInt .i64) (List.set (List.set v29 (v28).toNat (List.getD v29 ((w64 (v28 - 1))).toNat default)) ((w64 (v28 - 1))).toNat (List.getD v29 (v28).toNat default))⟩] (d_vs [.v 0 1, .v 0 1, .v 0 2, .v 0 2, .v 0 2, .v 0 1, .v 0 1, .v 0 1] (d_c1 (e_v (lo := 0) (y_ixr 0 1 (eInt .i64) (L := v29) (i := (w64 (v28 - 1))) (by first | exact h43 | exact Eq.trans (by simp only [List.length_set]) h43))) (d_c1 (e_v (lo := 0) (y_ldr 3 0 (eInt .i64) (eInt .i64) (inb_spec h43).2 (fun _ => rfl))) (d_vs [.v 0 2, .v 0 2] (d_c1 (k_v (lo := 0) (k := 2) (kallS ⟨(by kernel_rfl), (aop_eq (y_ixr 0 1 (eInt .i64) (L := v29) (i := v28) (by first | exact h44 | exact Eq.trans (by simp only [List.length_set]) h44)) (by kernel_rfl))⟩ (kallS ⟨(by kernel_rfl), (aop_eq (y_ixr 0 1 (eInt .i64) (L := (List.set v29 (v28).toNat (List.getD v29 ((w64 (v28 - 1))).toNat default))) (i := v28) (by first | exact h44 | exact Eq.trans (by simp only [List.length_set]) h44)) (by kernel_rfl))⟩ (kall0)))) (d_c1 (e_v (lo := 0) (y_ldr 3 0 (eInt .i64) (eInt .i64) (inb_spec h45).2 (fun _ => rfl))) (d_c1 (e_v (lo := 0) (y_ixr 0 1 (eInt .i64) (L := v29) (i := v28) (by first | exact h45 | exact Eq.trans (by simp only [List.length_set]) h45))) (d_c1 (e_s (m := 0) (y_str 0 3 1 0 (eInt .i64) (eInt .i64) (List.getD v29 ((w64 (v28 - 1))).toNat default) (inb_spec h45).2 (fun _ => rfl))) (d_c1 (e_v (lo := 1) (y_ixr 0 1 (eInt .i64) (L := (List.set v29 (v28).toNat (List.getD v29 ((w64 (v28 - 1))).toNat default))) (i := (w64 (v28 - 1))) (by first | exact h46 | exact Eq.trans (by simp only [List.length_set]) h46))) (d_c1 (e_s (m := 1) (y_str 0 3 1 0 (eInt .i64) (eInt .i64) (List.getD v29 (v28).toNat default) (inb_spec h46).2 (fun _ => rfl))) (d_nl))))))))))) ?_
   exact ve_arr 2 (lp_back (hL4 h))
  ·
   refine ve_sb 110 h42 ?_
   refine ve_rt 7 ?_
   have hr := Option.some.inj h
   subst hr
   exact ve_ot
theorem g_slices_symMergeCmpFunc_int_l6_ok (hK : KnOk K) (m : Nat) : H97_4 M w0 r v22 m (g_slices_symMergeCmpFunc_int_l6 K n v22 m) := by
  induction m with
 | zero => intro v28 v29 h; cases h
 | succ m ih => intro v28 v29 h; have h : g_slices_symMergeCmpFunc_int_l6_b K n v22 (g_slices_symMergeCmpFunc_int_l6 K n v22 m) v28 v29 = some r := h; exact lp_round (g_slices_symMergeCmpFunc_int_l6_b_ok hK ih h)
theorem g_slices_symMergeCmpFunc_int_l5_b_ok (hK : KnOk K) (hL3 : H97_3 M w0 r v1 v3 v5 m3 L3) (h : g_slices_symMergeCmpFunc_int_l5_b K n v1 v3 v5 L3 v22 v23 = some r) : VE (cx97 M w0) (q97 M w0 r) [.c (cat Try.f97 p97_7), k97_3 M w0 r m3, .b 4, .c (cat Try.f97 p97_6), .c (cat Try.f97 [1, 1])] .normal (s97_l5 v1 v3 v5 v22 v23) := by
  unfold g_slices_symMergeCmpFunc_int_l5_b at h
  refine ve_un (ks' := [.c (cat Try.f97 p97_23), .c (cat Try.f97 p97_24), k97_3 M w0 r m3, .b 4, .c (cat Try.f97 p97_6), .c (cat Try.f97 [1, 1])]) 3 ?_
  rcases ite_some h with ⟨h31, h⟩ | ⟨h31, h⟩
  ·
   refine ve_sb 85 h31 ?_
   obtain ⟨v24, h32, h⟩ := bind_some h
   have h32 := Option.some.inj h32
   refine ve_go (ks' := [.c (cat Try.f97 p97_25), .c (cat Try.f97 p97_26), .b 5, k97_3 M w0 r m3, .b 4, .c (cat Try.f97 p97_6), .c (cat Try.f97 [1, 1])]) 6 ⟨[(0,.ref 0),(2,.int .i64 v3),(4,.fn v5.id v5.caps),(14,.int .i64 v22),(15,.int .i64 v23),(16,.int .i64 v24)],[],[(0,⟨3,1,List.map (eInt .i64) v1⟩)],[0,1000000,0]⟩ ?_ (by subst h32; kernel_rfl)
   obtain ⟨h33, h⟩ := chk_some h
   obtain ⟨h34, h⟩ := chk_some h
   obtain ⟨v25, h35, h⟩ := bind_some h
   refine ve_dr 0 [(92, .fn v5.id v5.caps), (93, .ref 0), (94, .int .i64 v3), (95, .eptr 0 1 ((v3).toNat) 0), (96, .int .i64 (List.getD v1 (v3).toNat default)), (97, .ref 0), (98, .int .i64 v24), (99, .eptr 0 1 ((v24).toNat) 0), (100, .int .i64 (List.getD v1 (v24).toNat default)), (101, .int .i64 v25), (102, .bool (decide (v25 < 0))), (103, .bool (!(decide (v25 < 0))))] [] [] [] (d_vs [.v 0 1, .v 0 1, .v 0 1] (d_c1 (e_v (lo := 0) (y_ixr 0 1 (eInt .i64) (L := v1) (i := v3) (by first | exact h33 | exact Eq.trans (by simp only [List.length_set]) h33))) (d_c1 (e_v (lo := 0) (y_ldr 3 0 (eInt .i64) (eInt .i64) (inb_spec h33).2 (fun _ => rfl))) (d_vs [.v 0 1, .v 0 1] (d_c1 (e_v (lo := 0) (y_ixr 0 1 (eInt .i64) (L := v1) (i := v24) (by first | exact h34 | exact Eq.trans (by simp only [List.length_set]) h34))) (d_c1 (e_v (lo := 0) (y_ldr 3 0 (eInt .i64) (eInt .i64) (inb_spec h34).2 (fun _ => rfl))) (d_c1 (e_c 0 1 101 (hK.d_Int_Int__Int h35).2 (hK.d_Int_Int__Int h35).1) (d_vs [.v 0 1, .v 0 1] (d_nl))))))))) ?_
   rcases ite_some h with ⟨h36, h⟩ | ⟨h36, h⟩
   ·
    refine ve_sb 103 h36 ?_
    exact ve_arr 2 (g_slices_symMergeCmpFunc_int_j4_ok hK hL3 h)
   ·
    refine ve_sb 103 h36 ?_
    exact ve_arr 2 (g_slices_symMergeCmpFunc_int_j4_ok hK hL3 h)
  ·
   refine ve_sb 85 h31 ?_
   exact ve_arr 9 (lp_en (p := p97_27) n (g_slices_symMergeCmpFunc_int_l6_ok hK n h))
theorem g_slices_symMergeCmpFunc_int_l5_ok (hK : KnOk K) (m : Nat) : H97_3 M w0 r v1 v3 v5 m (g_slices_symMergeCmpFunc_int_l5 K n v1 v3 v5 m) := by
  induction m with
 | zero => intro v22 v23 h; cases h
 | succ m ih => intro v22 v23 h; have h : g_slices_symMergeCmpFunc_int_l5_b K n v1 v3 v5 (g_slices_symMergeCmpFunc_int_l5 K n v1 v3 v5 m) v22 v23 = some r := h; exact lp_round (g_slices_symMergeCmpFunc_int_l5_b_ok hK ih h)
theorem g_slices_symMergeCmpFunc_int_j8_ok (hK : KnOk K) (hL5 : H97_5 M w0 r v1 v2 v3 v4 v5 v30 v31 m5 L5) (h : g_slices_symMergeCmpFunc_int_j8 K n v1 v2 v3 v4 v5 v30 v31 L5 v43 v44 = some r) : VE (cx97 M w0) (q97 M w0 r) [.b 9, k97_5 M w0 r m5, .b 8, .c (cat Try.f97 p97_8)] .normal (s97_j8 v1 v2 v3 v4 v5 v30 v31 v43 v44) := by
  unfold g_slices_symMergeCmpFunc_int_j8 at h
  exact ve_arr 1 (lp_back (hL5 h))
theorem g_slices_symMergeCmpFunc_int_j15_ok (hK : KnOk K) (h : g_slices_symMergeCmpFunc_int_j15 K n v53 = some r) : VE (cx97 M w0) (q97 M w0 r) [] .normal (s97_j15 v53) := by
  unfold g_slices_symMergeCmpFunc_int_j15 at h
  refine ve_nrm ?_
  have hr := Option.some.inj h
  subst hr
  exact ve_ot
theorem g_slices_symMergeCmpFunc_int_j14_ok (hK : KnOk K) (h : g_slices_symMergeCmpFunc_int_j14 K n v4 v5 v30 v31 v39 v50 v51 = some r) : VE (cx97 M w0) (q97 M w0 r) [.c (cat Try.f97 p97_28)] .normal (s97_j14 v4 v5 v30 v31 v39 v50 v51) := by
  unfold g_slices_symMergeCmpFunc_int_j14 at h
  rcases ite_some h with ⟨h70, h⟩ | ⟨h70, h⟩
  ·
   refine ve_sb 213 h70 ?_
   refine ve_un (ks' := [.c (cat Try.f97 p97_29)]) 1 ?_
   refine ve_in 5 ?_
   obtain ⟨v52, h71, h⟩ := bind_some h
   refine ot_io 0 0 (hK.k_g_slices_symMergeCmpFunc_int h71) ?_
   refine ot_end ?_
   exact ve_arr 0 (g_slices_symMergeCmpFunc_int_j15_ok hK h)
  ·
   refine ve_sb 213 h70 ?_
   exact ve_arr 2 (g_slices_symMergeCmpFunc_int_j15_ok hK h)
theorem g_slices_symMergeCmpFunc_int_j13_ok (hK : KnOk K) (h : g_slices_symMergeCmpFunc_int_j13 K n v4 v5 v30 v31 v39 v50 = some r) : VE (cx97 M w0) (q97 M w0 r) [.c (cat Try.f97 p97_30)] .normal (s97_j13 v4 v5 v30 v31 v39 v50) := by
  unfold g_slices_symMergeCmpFunc_int_j13 at h
  refine ve_un (ks' := [.c (cat Try.f97 p97_31), .c (cat Try.f97 p97_28)]) 1 ?_
  refine ve_in 4 ?_
  rcases ite_some h with ⟨h69, h⟩ | ⟨h69, h⟩
  ·
   refine ot_sb 209 h69 ?_
   refine ot_end ?_
   exact ve_arr 0 (g_slices_symMergeCmpFunc_int_j14_ok hK h)
  ·
   refine ot_sb 209 h69 ?_
   refine ot_end ?_
   exact ve_arr 0 (g_slices_symMergeCmpFunc_int_j14_ok hK h)
theorem g_slices_symMergeCmpFunc_int_j12_ok (hK : KnOk K) (h : g_slices_symMergeCmpFunc_int_j12 K n v2 v4 v5 v30 v31 v39 v47 v48 = some r) : VE (cx97 M w0) (q97 M w0 r) [.c (cat Try.f97 p97_32), .c (cat Try.f97 p97_30)] .normal (s97_j12 v2 v4 v5 v30 v31 v39 v47 v48) := by
  unfold g_slices_symMergeCmpFunc_int_j12 at h
  rcases ite_some h with ⟨h67, h⟩ | ⟨h67, h⟩
  ·
   refine ve_sb 199 h67 ?_
   refine ve_un (ks' := [.c (cat Try.f97 p97_33), .c (cat Try.f97 p97_30)]) 1 ?_
   refine ve_in 5 ?_
   obtain ⟨v49, h68, h⟩ := bind_some h
   refine ot_io 0 0 (hK.k_g_slices_symMergeCmpFunc_int h68) ?_
   refine ot_end ?_
   exact ve_arr 0 (g_slices_symMergeCmpFunc_int_j13_ok hK h)
  ·
   refine ve_sb 199 h67 ?_
   exact ve_arr 2 (g_slices_symMergeCmpFunc_int_j13_ok hK h)
theorem g_slices_symMergeCmpFunc_int_j11_ok (hK : KnOk K) (h : g_slices_symMergeCmpFunc_int_j11 K n v2 v4 v5 v30 v31 v39 v47 = some r) : VE (cx97 M w0) (q97 M w0 r) [.c (cat Try.f97 p97_34)] .normal (s97_j11 v2 v4 v5 v30 v31 v39 v47) := by
  unfold g_slices_symMergeCmpFunc_int_j11 at h
  refine ve_un (ks' := [.c (cat Try.f97 p97_35), .c (cat Try.f97 p97_32), .c (cat Try.f97 p97_30)]) 2 ?_
  refine ve_in 4 ?_
  rcases ite_some h with ⟨h66, h⟩ | ⟨h66, h⟩
  ·
   refine ot_sb 195 h66 ?_
   refine ot_end ?_
   exact ve_arr 0 (g_slices_symMergeCmpFunc_int_j12_ok hK h)
  ·
   refine ot_sb 195 h66 ?_
   refine ot_end ?_
   exact ve_arr 0 (g_slices_symMergeCmpFunc_int_j12_ok hK h)
theorem g_slices_symMergeCmpFunc_int_j10_ok (hK : KnOk K) (h : g_slices_symMergeCmpFunc_int_j10 K n v1 v2 v3 v4 v5 v30 v31 v39 v45 = some r) : VE (cx97 M w0) (q97 M w0 r) [.c (cat Try.f97 p97_36), .c (cat Try.f97 p97_34)] .normal (s97_j10 v1 v2 v3 v4 v5 v30 v31 v39 v45) := by
  unfold g_slices_symMergeCmpFunc_int_j10 at h
  rcases ite_some h with ⟨h64, h⟩ | ⟨h64, h⟩
  ·
   refine ve_sb 185 h64 ?_
   refine ve_un (ks' := [.c (cat Try.f97 p97_37), .c (cat Try.f97 p97_34)]) 1 ?_
   refine ve_in 5 ?_
   obtain ⟨v46, h65, h⟩ := bind_some h
   refine ot_io 0 0 (g_slices_rotateCmpFunc_int_ok hK h65) ?_
   refine ot_end ?_
   exact ve_arr 0 (g_slices_symMergeCmpFunc_int_j11_ok hK h)
  ·
   refine ve_sb 185 h64 ?_
   exact ve_arr 2 (g_slices_symMergeCmpFunc_int_j11_ok hK h)
theorem g_slices_symMergeCmpFunc_int_l9_b_ok (hK : KnOk K) (hL5 : H97_5 M w0 r v1 v2 v3 v4 v5 v30 v31 m5 L5) (h : g_slices_symMergeCmpFunc_int_l9_b K n v1 v2 v3 v4 v5 v30 v31 L5 v39 v40 = some r) : VE (cx97 M w0) (q97 M w0 r) [.c (cat Try.f97 p97_9), k97_5 M w0 r m5, .b 8, .c (cat Try.f97 p97_8)] .normal (s97_l9 v1 v2 v3 v4 v5 v30 v31 v39 v40) := by
  unfold g_slices_symMergeCmpFunc_int_l9_b at h
  refine ve_un (ks' := [.c (cat Try.f97 p97_38), .c (cat Try.f97 p97_39), k97_5 M w0 r m5, .b 8, .c (cat Try.f97 p97_8)]) 3 ?_
  rcases ite_some h with ⟨h57, h⟩ | ⟨h57, h⟩
  ·
   refine ve_sb 151 h57 ?_
   obtain ⟨v41, h58, h⟩ := bind_some h
   have h58 := Option.some.inj h58
   refine ve_go (ks' := [.c (cat Try.f97 p97_40), .c (cat Try.f97 p97_41), .b 9, k97_5 M w0 r m5, .b 8, .c (cat Try.f97 p97_8)]) 6 ⟨[(0,.ref 0),(1,.int .i64 v2),(2,.int .i64 v3),(3,.int .i64 v4),(4,.fn v5.id v5.caps),(18,.int .i64 v30),(19,.int .i64 v31),(20,.int .i64 v39),(21,.int .i64 v40),(22,.int .i64 (w64 (v31 - 1))),(23,.int .i64 v41)],[],[(0,⟨3,1,List.map (eInt .i64) v1⟩)],[0,1000000,0]⟩ ?_ (by subst h58; kernel_rfl)
   obtain ⟨h59, h⟩ := chk_some h
   obtain ⟨h60, h⟩ := chk_some h
   obtain ⟨v42, h61, h⟩ := bind_some h
   refine ve_dr 0 [(158, .fn v5.id v5.caps), (159, .ref 0), (160, .int .i64 (w64 (v31 - 1))), (161, .int .i64 v41), (162, .int .i64 (w64 ((w64 (v31 - 1)) - v41))), (163, .eptr 0 1 (((w64 ((w64 (v31 - 1)) - v41))).toNat) 0), (164, .int .i64 (List.getD v1 ((w64 ((w64 (v31 - 1)) - v41))).toNat default)), (165, .ref 0), (166, .int .i64 v41), (167, .eptr 0 1 ((v41).toNat) 0), (168, .int .i64 (List.getD v1 (v41).toNat default)), (169, .int .i64 v42), (170, .bool (decide (v42 < 0))), (171, .bool (!(decide (v42 < 0))))] [] [] [] (d_vs [.v 0 1, .v 0 1, .v 0 1, .v 0 1, .v 0 1] (d_c1 (e_v (lo := 0) (y_ixr 0 1 (eInt .i64) (L := v1) (i := (w64 ((w64 (v31 - 1)) - v41))) (by first | exact h59 | exact Eq.trans (by simp only [List.length_set]) h59))) (d_c1 (e_v (lo := 0) (y_ldr 3 0 (eInt .i64) (eInt .i64) (inb_spec h59).2 (fun _ => rfl))) (d_vs [.v 0 1, .v 0 1] (d_c1 (e_v (lo := 0) (y_ixr 0 1 (eInt .i64) (L := v1) (i := v41) (by first | exact h60 | exact Eq.trans (by simp only [List.length_set]) h60))) (d_c1 (e_v (lo := 0) (y_ldr 3 0 (eInt .i64) (eInt .i64) (inb_spec h60).2 (fun _ => rfl))) (d_c1 (e_c 0 1 169 (hK.d_Int_Int__Int h61).2 (hK.d_Int_Int__Int h61).1) (d_vs [.v 0 1, .v 0 1] (d_nl))))))))) ?_
   rcases ite_some h with ⟨h62, h⟩ | ⟨h62, h⟩
   ·
    refine ve_sb 171 h62 ?_
    exact ve_arr 2 (g_slices_symMergeCmpFunc_int_j8_ok hK hL5 h)
   ·
    refine ve_sb 171 h62 ?_
    exact ve_arr 2 (g_slices_symMergeCmpFunc_int_j8_ok hK hL5 h)
  ·
   refine ve_sb 151 h57 ?_
   refine ve_un (ks' := [.c (cat Try.f97 p97_42), .c (cat Try.f97 p97_36), .c (cat Try.f97 p97_34)]) 9 ?_
   refine ve_in 4 ?_
   rcases ite_some h with ⟨h63, h⟩ | ⟨h63, h⟩
   ·
    refine ot_sb 181 h63 ?_
    refine ot_end ?_
    exact ve_arr 0 (g_slices_symMergeCmpFunc_int_j10_ok hK h)
   ·
    refine ot_sb 181 h63 ?_
    refine ot_end ?_
    exact ve_arr 0 (g_slices_symMergeCmpFunc_int_j10_ok hK h)
theorem g_slices_symMergeCmpFunc_int_l9_ok (hK : KnOk K) (m : Nat) : H97_5 M w0 r v1 v2 v3 v4 v5 v30 v31 m (g_slices_symMergeCmpFunc_int_l9 K n v1 v2 v3 v4 v5 v30 v31 m) := by
  induction m with
 | zero => intro v39 v40 h; cases h
 | succ m ih => intro v39 v40 h; have h : g_slices_symMergeCmpFunc_int_l9_b K n v1 v2 v3 v4 v5 v30 v31 (g_slices_symMergeCmpFunc_int_l9 K n v1 v2 v3 v4 v5 v30 v31 m) v39 v40 = some r := h; exact lp_round (g_slices_symMergeCmpFunc_int_l9_b_ok hK ih h)
theorem g_slices_symMergeCmpFunc_int_j7_ok (hK : KnOk K) (h : g_slices_symMergeCmpFunc_int_j7 K n v1 v2 v3 v4 v5 v30 v31 v33 v34 = some r) : VE (cx97 M w0) (q97 M w0 r) [.c (cat Try.f97 p97_43)] .normal (s97_j7 v1 v2 v3 v4 v5 v30 v31 v33 v34) := by
  unfold g_slices_symMergeCmpFunc_int_j7 at h
  exact ve_arr 4 (lp_en (p := p97_44) n (g_slices_symMergeCmpFunc_int_l9_ok hK n h))
theorem g_slices_symMergeCmpFunc_int_ok (hK : KnOk K) (h : g_slices_symMergeCmpFunc_int K n v1 v2 v3 v4 v5 = some r) : AIO Try.prog 97 [.ref 0, .int .i64 v2, .int .i64 v3, .int .i64 v4, .fn v5.id v5.caps] 0 ⟨3, 1, List.map (eInt .i64) v1⟩ (fun v s => v = .tup [] ∧ look 0 s.r = some ⟨3, 1, List.map (eInt .i64) r⟩) := by
  refine aio_intro (c := cat Try.f97 []) Try.func97 (by kernel_rfl) _ Try.ntmps97 (of_decide_eq_true (by kernel_rfl)) fun M w0 => ?_
  refine ve_cast (s' := ⟨[(0,.ref 0),(1,.int .i64 v2),(2,.int .i64 v3),(3,.int .i64 v4),(4,.fn v5.id v5.caps)],[],[(0,⟨3,1,List.map (eInt .i64) v1⟩)],[0,1000000]⟩) (by kernel_rfl) ?_
  unfold g_slices_symMergeCmpFunc_int at h
  refine ve_un (ks' := [.c (cat Try.f97 [0, 1]), .c (cat Try.f97 [1])]) 3 ?_
  rcases ite_some h with ⟨h1, h⟩ | ⟨h1, h⟩
  ·
   refine ve_sb 28 h1 ?_
   exact ve_arr 7 (lp_en (p := p97_45) n (g_slices_symMergeCmpFunc_int_l2_ok hK n h))
  ·
   refine ve_sb 28 h1 ?_
   refine ve_un (ks' := [.c (cat Try.f97 [1, 0, 1]), .c (cat Try.f97 [1, 1])]) 5 ?_
   rcases ite_some h with ⟨h24, h⟩ | ⟨h24, h⟩
   ·
    refine ve_sb 80 h24 ?_
    exact ve_arr 7 (lp_en (p := p97_46) n (g_slices_symMergeCmpFunc_int_l5_ok hK n h))
   ·
    refine ve_sb 80 h24 ?_
    obtain ⟨v30, h47, h⟩ := bind_some h
    have h47 := Option.some.inj h47
    obtain ⟨v31, h48, h⟩ := bind_some h
    have h48 := Option.some.inj h48
    obtain ⟨v32, h49, h⟩ := bind_some h
    have h49 := Option.some.inj h49
    refine ve_go (ks' := [.c (cat Try.f97 p97_47), .c (cat Try.f97 p97_43)]) 11 ⟨[(0,.ref 0),(1,.int .i64 v2),(2,.int .i64 v3),(3,.int .i64 v4),(4,.fn v5.id v5.caps),(18,.int .i64 v30),(19,.int .i64 v31),(140,.bool v32)],[],[(0,⟨3,1,List.map (eInt .i64) v1⟩)],[0,1000000,0]⟩ ?_ (by subst h49; subst h48; subst h47; kernel_rfl)
    rcases ite_some h with ⟨h50, h⟩ | ⟨h50, h⟩
    ·
     refine ve_sb 140 h50 ?_
     exact ve_arr 4 (g_slices_symMergeCmpFunc_int_j7_ok hK h)
    ·
     refine ve_sb 140 h50 ?_
     exact ve_arr 4 (g_slices_symMergeCmpFunc_int_j7_ok hK h)
end
def p73_0 : List Nat := [1, 1, 1, 1, 0, 0]
def p73_1 : List Nat := [1, 1, 0, 0, 0]
def p73_2 : List Nat := [1, 1, 1, 1, 0, 0, 1, 0, 1, 1]
def p73_3 : List Nat := [1, 1, 1, 1, 0, 0, 1, 0, 1, 0, 0, 0]
def p73_4 : List Nat := [1, 1, 1, 1, 0, 0, 1, 0, 1, 1, 1]
def p73_5 : List Nat := [1, 1, 1, 1, 0, 0, 1, 0, 1, 0, 0, 0, 0, 1]
def p73_6 : List Nat := [1, 1, 1, 1, 0, 0, 1, 0, 1, 0, 0, 0, 1]
def p73_7 : List Nat := [1, 1, 1, 1, 0, 0, 1, 0, 1, 0, 0, 0, 1, 0, 0]
def p73_8 : List Nat := [1, 1, 1, 1, 0, 0, 1, 0, 1, 0, 0, 0, 1, 0, 1]
def p73_9 : List Nat := [1, 1, 1, 1, 0, 0, 1, 0, 1, 1, 0, 1, 1]
def p73_10 : List Nat := [1, 1, 1, 1, 0, 0, 1, 0, 1, 1, 0, 1, 1, 0]
def p73_11 : List Nat := [1, 1, 1, 1, 0, 0, 0, 1]
def p73_12 : List Nat := [1, 1, 1, 1, 0, 0, 1]
def p73_13 : List Nat := [1, 1, 1, 1, 0, 0, 1, 0, 1, 0, 0]
def p73_14 : List Nat := [1, 1, 0, 0, 0, 0, 1]
def p73_15 : List Nat := [1, 1, 0, 0, 0, 1]
def p73_16 : List Nat := [1, 1, 0, 0, 0, 1, 0, 0]
def p73_17 : List Nat := [1, 1, 0, 0, 0, 1, 0, 1]
def p73_18 : List Nat := [1, 1, 1, 0]
def p73_19 : List Nat := [1, 1, 1, 1]
def p73_20 : List Nat := [1, 1, 1, 1, 0]
def p73_21 : List Nat := [1, 1, 0, 0]
noncomputable section
abbrev cx73 (M : Nat → Prop) (w0 : Base) : Cx := ⟨Try.prog, 63, M, w0⟩
abbrev q73 (M : Nat → Prop) (w0 : Base) (r : (List Int)) := bodyPost Try.prog Try.f73 (RetQ M w0 (fun v s => v = .tup [] ∧ look 0 s.r = some ⟨3, 1, List.map (eInt .i64) r⟩))
abbrev k73_2 (M : Nat → Prop) (w0 : Base) (r : (List Int)) (m2 : Nat) : Kont := kl (cx73 M w0) (q73 M w0 r) [.b 2] (cat Try.f73 p73_0) m2
abbrev k73_1 (M : Nat → Prop) (w0 : Base) (r : (List Int)) (m1 : Nat) : Kont := kl (cx73 M w0) (q73 M w0 r) [.b 0, .c (cat Try.f73 [1, 1, 1])] (cat Try.f73 p73_1) m1
abbrev k73_3 (M : Nat → Prop) (w0 : Base) (r : (List Int)) (m2 m3 : Nat) : Kont := kl (cx73 M w0) (q73 M w0 r) [.b 4, .c (cat Try.f73 p73_2), .b 3, k73_2 M w0 r m2, .b 2] (cat Try.f73 p73_3) m3
def s73_j3 (v2 : Int) (v3 : Fv) (v17 : Int) (v25 : (List Int)) : AS := ⟨[(0,.ref 0),(1,.int .i64 v2),(2,.fn v3.id v3.caps),(6,.int .i64 v17)],[],[(0,⟨3,1,List.map (eInt .i64) v25⟩)],[0,1000000,0]⟩
def s73_l2 (v2 : Int) (v3 : Fv) (v17 : Int) (v20 : Int) (v21 : Int) (v22 : (List Int)) : AS := ⟨[(0,.ref 0),(1,.int .i64 v2),(2,.fn v3.id v3.caps),(6,.int .i64 v17),(7,.int .i64 v20),(8,.int .i64 v21)],[],[(0,⟨3,1,List.map (eInt .i64) v22⟩)],[0,1000000,0]⟩
def s73_l4 (v2 : Int) (v3 : Fv) (v17 : Int) (v18 : (List Int)) : AS := ⟨[(0,.ref 0),(1,.int .i64 v2),(2,.fn v3.id v3.caps),(6,.int .i64 v17)],[],[(0,⟨3,1,List.map (eInt .i64) v18⟩)],[0,1000000,0]⟩
def s73_l1 (v2 : Int) (v3 : Fv) (v5 : Int) (v6 : Int) (v7 : (List Int)) : AS := ⟨[(0,.ref 0),(1,.int .i64 v2),(2,.fn v3.id v3.caps),(6,.int .i64 20),(7,.int .i64 v5),(8,.int .i64 v6)],[],[(0,⟨3,1,List.map (eInt .i64) v7⟩)],[0,1000000,0]⟩
abbrev H73_1 (M : Nat → Prop) (w0 : Base) (r : (List Int)) (v2 : Int) (v3 : Fv) (m1 : Nat) (L1 : Int → Int → (List Int) → Option (List Int)) : Prop := ∀ {v5 : Int} {v6 : Int} {v7 : (List Int)}, L1 v5 v6 v7 = some r → LP (cx73 M w0) (q73 M w0 r) [.b 0, .c (cat Try.f73 [1, 1, 1])] (cat Try.f73 p73_1) m1 (s73_l1 v2 v3 v5 v6 v7)
abbrev H73_2 (M : Nat → Prop) (w0 : Base) (r : (List Int)) (v2 : Int) (v3 : Fv) (m2 : Nat) (L2 : Int → (List Int) → Option (List Int)) : Prop := ∀ {v17 : Int} {v18 : (List Int)}, L2 v17 v18 = some r → LP (cx73 M w0) (q73 M w0 r) [.b 2] (cat Try.f73 p73_0) m2 (s73_l4 v2 v3 v17 v18)
abbrev H73_3 (M : Nat → Prop) (w0 : Base) (r : (List Int)) (v2 : Int) (v3 : Fv) (v17 : Int) (m2 m3 : Nat) (L3 : Int → Int → (List Int) → Option (List Int)) : Prop := ∀ {v20 : Int} {v21 : Int} {v22 : (List Int)}, L3 v20 v21 v22 = some r → LP (cx73 M w0) (q73 M w0 r) [.b 4, .c (cat Try.f73 p73_2), .b 3, k73_2 M w0 r m2, .b 2] (cat Try.f73 p73_3) m3 (s73_l2 v2 v3 v17 v20 v21 v22)
variable {K : Kn} {n : Nat} {M : Nat → Prop} {w0 : Base} {r : (List Int)} {v1 : (List Int)} {v2 : Int} {v3 : Fv} {v5 : Int} {v6 : Int} {v7 : (List Int)} {v17 : Int} {v18 : (List Int)} {v20 : Int} {v21 : Int} {v22 : (List Int)} {v25 : (List Int)} {m1 : Nat} {L1 : Int → Int → (List Int) → Option (List Int)} {m2 : Nat} {L2 : Int → (List Int) → Option (List Int)} {m3 : Nat} {L3 : Int → Int → (List Int) → Option (List Int)}
theorem g_slices_stableCmpFunc_int_j3_ok (hK : KnOk K) (hL2 : H73_2 M w0 r v2 v3 m2 L2) (h : g_slices_stableCmpFunc_int_j3 K n v2 v3 v17 L2 v25 = some r) : VE (cx73 M w0) (q73 M w0 r) [.c (cat Try.f73 p73_4), .b 3, k73_2 M w0 r m2, .b 2] .normal (s73_j3 v2 v3 v17 v25) := by
  unfold g_slices_stableCmpFunc_int_j3 at h
  exact ve_arr 2 (lp_back (hL2 h))
theorem g_slices_stableCmpFunc_int_l2_b_ok (hK : KnOk K) (hL2 : H73_2 M w0 r v2 v3 m2 L2) (hL3 : H73_3 M w0 r v2 v3 v17 m2 m3 L3) (h : g_slices_stableCmpFunc_int_l2_b K n v2 v3 v17 L2 L3 v20 v21 v22 = some r) : VE (cx73 M w0) (q73 M w0 r) [.c (cat Try.f73 p73_3), k73_3 M w0 r m2 m3, .b 4, .c (cat Try.f73 p73_2), .b 3, k73_2 M w0 r m2, .b 2] .normal (s73_l2 v2 v3 v17 v20 v21 v22) := by
  unfold g_slices_stableCmpFunc_int_l2_b at h
  refine ve_un (ks' := [.c (cat Try.f73 p73_5), .c (cat Try.f73 p73_6), k73_3 M w0 r m2 m3, .b 4, .c (cat Try.f73 p73_2), .b 3, k73_2 M w0 r m2, .b 2]) 3 ?_
  rcases ite_some h with ⟨h16, h⟩ | ⟨h16, h⟩
  ·
   refine ve_sb 35 h16 ?_
   refine ve_un (ks' := [.c (cat Try.f73 p73_7), .c (cat Try.f73 p73_8), .b 5, k73_3 M w0 r m2 m3, .b 4, .c (cat Try.f73 p73_2), .b 3, k73_2 M w0 r m2, .b 2]) 4 ?_
   refine ve_in 7 ?_
   obtain ⟨v23, h17, h⟩ := bind_some h
   refine ot_io 0 0 (g_slices_symMergeCmpFunc_int_ok hK h17) ?_
   refine ot_end ?_
   exact ve_arr 4 (lp_back (hL3 h))
  ·
   refine ve_sb 35 h16 ?_
   refine ve_un (ks' := [.c (cat Try.f73 p73_9), .c (cat Try.f73 p73_4), .b 3, k73_2 M w0 r m2, .b 2]) 10 ?_
   rcases ite_some h with ⟨h18, h⟩ | ⟨h18, h⟩
   ·
    refine ve_sb 54 h18 ?_
    refine ve_un (ks' := [.c (cat Try.f73 p73_10), .c (cat Try.f73 p73_4), .b 3, k73_2 M w0 r m2, .b 2]) 1 ?_
    refine ve_in 5 ?_
    obtain ⟨v24, h19, h⟩ := bind_some h
    refine ot_io 0 0 (g_slices_symMergeCmpFunc_int_ok hK h19) ?_
    refine ot_end ?_
    exact ve_arr 0 (g_slices_stableCmpFunc_int_j3_ok hK hL2 h)
   ·
    refine ve_sb 54 h18 ?_
    exact ve_arr 2 (g_slices_stableCmpFunc_int_j3_ok hK hL2 h)
theorem g_slices_stableCmpFunc_int_l2_ok (hK : KnOk K) (hL2 : H73_2 M w0 r v2 v3 m2 L2) (m : Nat) : H73_3 M w0 r v2 v3 v17 m2 m (g_slices_stableCmpFunc_int_l2 K n v2 v3 v17 L2 m) := by
  induction m with
 | zero => intro v20 v21 v22 h; cases h
 | succ m ih => intro v20 v21 v22 h; have h : g_slices_stableCmpFunc_int_l2_b K n v2 v3 v17 L2 (g_slices_stableCmpFunc_int_l2 K n v2 v3 v17 L2 m) v20 v21 v22 = some r := h; exact lp_round (g_slices_stableCmpFunc_int_l2_b_ok hK hL2 ih h)
theorem g_slices_stableCmpFunc_int_l4_b_ok (hK : KnOk K) (hL2 : H73_2 M w0 r v2 v3 m2 L2) (h : g_slices_stableCmpFunc_int_l4_b K n v2 v3 L2 v17 v18 = some r) : VE (cx73 M w0) (q73 M w0 r) [.c (cat Try.f73 p73_0), k73_2 M w0 r m2, .b 2] .normal (s73_l4 v2 v3 v17 v18) := by
  unfold g_slices_stableCmpFunc_int_l4_b at h
  refine ve_un (ks' := [.c (cat Try.f73 p73_11), .c (cat Try.f73 p73_12), k73_2 M w0 r m2, .b 2]) 3 ?_
  rcases ite_some h with ⟨h13, h⟩ | ⟨h13, h⟩
  ·
   refine ve_sb 30 h13 ?_
   exact ve_arr 7 (lp_en (p := p73_13) n (g_slices_stableCmpFunc_int_l2_ok hK hL2 n h))
  ·
   refine ve_sb 30 h13 ?_
   refine ve_un (ks' := []) 5 ?_
   refine ve_nrm ?_
   have hr := Option.some.inj h
   subst hr
   exact ve_ot
theorem g_slices_stableCmpFunc_int_l4_ok (hK : KnOk K) (m : Nat) : H73_2 M w0 r v2 v3 m (g_slices_stableCmpFunc_int_l4 K n v2 v3 m) := by
  induction m with
 | zero => intro v17 v18 h; cases h
 | succ m ih => intro v17 v18 h; have h : g_slices_stableCmpFunc_int_l4_b K n v2 v3 (g_slices_stableCmpFunc_int_l4 K n v2 v3 m) v17 v18 = some r := h; exact lp_round (g_slices_stableCmpFunc_int_l4_b_ok hK ih h)
theorem g_slices_stableCmpFunc_int_l1_b_ok (hK : KnOk K) (hL1 : H73_1 M w0 r v2 v3 m1 L1) (h : g_slices_stableCmpFunc_int_l1_b K n v2 v3 L1 v5 v6 v7 = some r) : VE (cx73 M w0) (q73 M w0 r) [.c (cat Try.f73 p73_1), k73_1 M w0 r m1, .b 0, .c (cat Try.f73 [1, 1, 1])] .normal (s73_l1 v2 v3 v5 v6 v7) := by
  unfold g_slices_stableCmpFunc_int_l1_b at h
  refine ve_un (ks' := [.c (cat Try.f73 p73_14), .c (cat Try.f73 p73_15), k73_1 M w0 r m1, .b 0, .c (cat Try.f73 [1, 1, 1])]) 3 ?_
  rcases ite_some h with ⟨h3, h⟩ | ⟨h3, h⟩
  ·
   refine ve_sb 13 h3 ?_
   refine ve_un (ks' := [.c (cat Try.f73 p73_16), .c (cat Try.f73 p73_17), .b 1, k73_1 M w0 r m1, .b 0, .c (cat Try.f73 [1, 1, 1])]) 4 ?_
   refine ve_in 4 ?_
   obtain ⟨v8, h4, h⟩ := bind_some h
   refine ot_io 0 0 (g_slices_insertionSortCmpFunc_int_ok hK h4) ?_
   refine ot_end ?_
   exact ve_arr 4 (lp_back (hL1 h))
  ·
   refine ve_sb 13 h3 ?_
   refine ve_un (ks' := [.c (cat Try.f73 p73_18), .c (cat Try.f73 p73_19)]) 6 ?_
   refine ve_in 4 ?_
   obtain ⟨v9, h5, h⟩ := bind_some h
   refine ot_io 0 0 (g_slices_insertionSortCmpFunc_int_ok hK h5) ?_
   refine ot_end ?_
   exact ve_arr 1 (lp_en (p := p73_20) n (g_slices_stableCmpFunc_int_l4_ok hK n h))
theorem g_slices_stableCmpFunc_int_l1_ok (hK : KnOk K) (m : Nat) : H73_1 M w0 r v2 v3 m (g_slices_stableCmpFunc_int_l1 K n v2 v3 m) := by
  induction m with
 | zero => intro v5 v6 v7 h; cases h
 | succ m ih => intro v5 v6 v7 h; have h : g_slices_stableCmpFunc_int_l1_b K n v2 v3 (g_slices_stableCmpFunc_int_l1 K n v2 v3 m) v5 v6 v7 = some r := h; exact lp_round (g_slices_stableCmpFunc_int_l1_b_ok hK ih h)
theorem g_slices_stableCmpFunc_int_ok (hK : KnOk K) (h : g_slices_stableCmpFunc_int K n v1 v2 v3 = some r) : AIO Try.prog 73 [.ref 0, .int .i64 v2, .fn v3.id v3.caps] 0 ⟨3, 1, List.map (eInt .i64) v1⟩ (fun v s => v = .tup [] ∧ look 0 s.r = some ⟨3, 1, List.map (eInt .i64) r⟩) := by
  refine aio_intro (c := cat Try.f73 []) Try.func73 (by kernel_rfl) _ Try.ntmps73 (of_decide_eq_true (by kernel_rfl)) fun M w0 => ?_
  refine ve_cast (s' := ⟨[(0,.ref 0),(1,.int .i64 v2),(2,.fn v3.id v3.caps)],[],[(0,⟨3,1,List.map (eInt .i64) v1⟩)],[0,1000000]⟩) (by kernel_rfl) ?_
  unfold g_slices_stableCmpFunc_int at h
  exact ve_arr 6 (lp_en (p := p73_21) n (g_slices_stableCmpFunc_int_l1_ok hK n h))
end
noncomputable section
variable {K : Kn} {n : Nat} {M : Nat → Prop} {w0 : Base} {r : (List Int)} {v1 : (List Int)} {v2 : Fv} 
theorem g_slices_SortStableFunc_int_int_ok (hK : KnOk K) (h : g_slices_SortStableFunc_int_int K n v1 v2 = some r) : AIO Try.prog 35 [.ref 0, .fn v2.id v2.caps] 0 ⟨3, 1, List.map (eInt .i64) v1⟩ (fun v s => v = .tup [] ∧ look 0 s.r = some ⟨3, 1, List.map (eInt .i64) r⟩) := by
  refine aio_intro (c := cat Try.f35 []) Try.func35 (by kernel_rfl) _ Try.ntmps35 (of_decide_eq_true (by kernel_rfl)) fun M w0 => ?_
  refine ve_cast (s' := ⟨[(0,.ref 0),(1,.fn v2.id v2.caps)],[],[(0,⟨3,1,List.map (eInt .i64) v1⟩)],[0,1000000]⟩) (by kernel_rfl) ?_
  unfold g_slices_SortStableFunc_int_int at h
  refine ve_in 2 ?_
  refine ot_sp (y_len (eInt .i64) v1) ?_
  refine ot_go 4 1 ?_
  obtain ⟨v3, h1, h⟩ := bind_some h
  refine ot_io 0 0 (g_slices_stableCmpFunc_int_ok hK h1) ?_
  refine ot_end ?_
  refine ve_nrm ?_
  have hr := Option.some.inj h
  subst hr
  exact ve_ot
end
noncomputable section
variable {K : Kn} {n : Nat} {M : Nat → Prop} {w0 : Base} {r : Bool} {v1 : Int} 
theorem g_cmp_isNaN_int_ok (hK : KnOk K) (h : g_cmp_isNaN_int K n v1 = some r) : ACalls Try.prog 74 [.int .i64 v1] (fun v _ => v = .bool r) := by
  refine acalls_intro (c := cat Try.f74 []) Try.func74 (by kernel_rfl) _ Try.ntmps74 (of_decide_eq_true (by kernel_rfl)) fun M w0 => ?_
  refine ve_cast (s' := ⟨[(0,.int .i64 v1)],[],[],[]⟩) (by kernel_rfl) ?_
  unfold g_cmp_isNaN_int at h
  refine ve_rt 5 ?_
  have hr := Option.some.inj h
  subst hr
  exact ve_d1
end
def p37_0 : List Nat := [1, 1, 1, 0, 1]
def p37_1 : List Nat := [1, 1, 1, 1]
def p37_2 : List Nat := [1, 1, 1, 0, 1, 0, 0, 1]
def p37_3 : List Nat := [1, 1, 1, 0, 1, 0, 1]
def p37_4 : List Nat := [1, 1, 1, 1, 0, 1]
def p37_5 : List Nat := ones 5 []
def p37_6 : List Nat := ones 5 [0, 1]
def p37_7 : List Nat := ones 6 []
def p37_8 : List Nat := ones 6 [0, 1]
def p37_9 : List Nat := ones 7 []
noncomputable section
variable {K : Kn} {n : Nat} {M : Nat → Prop} {w0 : Base} {r : Int} {v1 : Int} {v2 : Int} 
theorem g_cmp_Compare_int_ok (hK : KnOk K) (h : g_cmp_Compare_int K n v1 v2 = some r) : ACalls Try.prog 37 [.int .i64 v1, .int .i64 v2] (fun v _ => v = .int .i64 r) := by
  refine acalls_intro (c := cat Try.f37 []) Try.func37 (by kernel_rfl) _ Try.ntmps37 (of_decide_eq_true (by kernel_rfl)) fun M w0 => ?_
  refine ve_cast (s' := ⟨[(0,.int .i64 v1),(1,.int .i64 v2)],[],[],[]⟩) (by kernel_rfl) ?_
  unfold g_cmp_Compare_int at h
  refine ve_un (ks' := [.c (cat Try.f37 [1, 0]), .c (cat Try.f37 [1, 1])]) 3 ?_
  refine ve_in 1 ?_
  obtain ⟨v3, h1, h⟩ := bind_some h
  refine ot_cl (g_cmp_isNaN_int_ok hK h1) ?_
  refine ot_end ?_
  refine ve_un (ks' := [.c (cat Try.f37 [1, 1, 0]), .c (cat Try.f37 [1, 1, 1])]) 1 ?_
  refine ve_in 1 ?_
  obtain ⟨v4, h2, h⟩ := bind_some h
  refine ot_cl (g_cmp_isNaN_int_ok hK h2) ?_
  refine ot_end ?_
  refine ve_un (ks' := [.c (cat Try.f37 p37_0), .c (cat Try.f37 p37_1)]) 3 ?_
  rcases ite_some h with ⟨h3, h⟩ | ⟨h3, h⟩
  ·
   refine ve_sb 11 h3 ?_
   refine ve_un (ks' := [.c (cat Try.f37 p37_2), .c (cat Try.f37 p37_3), .c (cat Try.f37 p37_1)]) 4 ?_
   rcases ite_some h with ⟨h4, h⟩ | ⟨h4, h⟩
   ·
    refine ve_sb 12 h4 ?_
    refine ve_rt 6 ?_
    have hr := Option.some.inj h
    subst hr
    exact ve_d1
   ·
    refine ve_sb 12 h4 ?_
    refine ve_rt 6 ?_
    have hr := Option.some.inj h
    subst hr
    exact ve_d1
  ·
   refine ve_sb 11 h3 ?_
   refine ve_un (ks' := [.c (cat Try.f37 p37_4), .c (cat Try.f37 p37_5)]) 5 ?_
   rcases ite_some h with ⟨h5, h⟩ | ⟨h5, h⟩
   ·
    refine ve_sb 13 h5 ?_
    refine ve_rt 5 ?_
    have hr := Option.some.inj h
    subst hr
    exact ve_d1
   ·
    refine ve_sb 13 h5 ?_
    refine ve_un (ks' := [.c (cat Try.f37 p37_6), .c (cat Try.f37 p37_7)]) 5 ?_
    rcases ite_some h with ⟨h6, h⟩ | ⟨h6, h⟩
    ·
     refine ve_sb 16 h6 ?_
     refine ve_rt 5 ?_
     have hr := Option.some.inj h
     subst hr
     exact ve_d1
    ·
     refine ve_sb 16 h6 ?_
     refine ve_un (ks' := [.c (cat Try.f37 p37_8), .c (cat Try.f37 p37_9)]) 5 ?_
     rcases ite_some h with ⟨h7, h⟩ | ⟨h7, h⟩
     ·
      refine ve_sb 19 h7 ?_
      refine ve_rt 5 ?_
      have hr := Option.some.inj h
      subst hr
      exact ve_d1
     ·
      refine ve_sb 19 h7 ?_
      refine ve_rt 5 ?_
      have hr := Option.some.inj h
      subst hr
      exact ve_d1
end
noncomputable section
variable {K : Kn} {n : Nat} {M : Nat → Prop} {w0 : Base} {r : Int} {v1 : Int} {v2 : Int} {v3 : (List Int)} 
theorem g_flex_Share_1_ok (hK : KnOk K) (h : g_flex_Share_1 K n v1 v2 v3 = some r) : ACalls Try.prog 36 [.int .i64 v1, .int .i64 v2, .cptr ([.sl (List.map (eInt .i64) v3)])] (fun v _ => v = .int .i64 r) := by
  refine acalls_intro (c := cat Try.f36 []) Try.func36 (by kernel_rfl) _ Try.ntmps36 (of_decide_eq_true (by kernel_rfl)) fun M w0 => ?_
  refine ve_cast (s' := ⟨[(0,.int .i64 v1),(1,.int .i64 v2),(2,.cptr ([.sl (List.map (eInt .i64) v3)]))],[],[],[]⟩) (by kernel_rfl) ?_
  unfold g_flex_Share_1 at h
  refine ve_un (ks' := [.c (cat Try.f36 [1, 0]), .c (cat Try.f36 [1, 1])]) 3 ?_
  refine ve_pk [0, 1, 2] [] [] ?_
  obtain ⟨h1, h⟩ := chk_some h
  obtain ⟨h2, h⟩ := chk_some h
  obtain ⟨v4, h3, h⟩ := bind_some h
  refine ve_dr 1 [(6, .sl (List.map (eInt .i64) v3)), (7, .int .i64 v2), (8, .cptr ([.int .i64 (List.getD v3 (v2).toNat default)])), (9, .int .i64 (List.getD v3 (v2).toNat default)), (10, .sl (List.map (eInt .i64) v3)), (11, .int .i64 v1), (12, .cptr ([.int .i64 (List.getD v3 (v1).toNat default)])), (13, .int .i64 (List.getD v3 (v1).toNat default)), (14, .int .i64 v4)] [] [] [stp Try.prog 15 Try.f36 [1, 0] 9] (d_vs [.v 0 1, .v 0 1] (d_c1 (e_v (lo := 0) (y_ixs (eInt .i64) (eInt .i64) h1 (fun _ => rfl) (fun _ => rfl))) (d_vs [.v 0 1, .v 0 1, .v 0 1] (d_c1 (e_v (lo := 0) (y_ixs (eInt .i64) (eInt .i64) h2 (fun _ => rfl) (fun _ => rfl))) (d_vs [.v 0 1] (d_c1 (e_c 0 1 14 (g_cmp_Compare_int_ok hK h3)) (d_c1 (e_d 0) (d_nl)))))))) ?_
  refine ve_rt 1 ?_
  have hr := Option.some.inj h
  subst hr
  exact ve_d1
end
def p14_0 : List Nat := ones 12 []
def p14_1 : List Nat := ones 11 [0, 1, 0, 0]
def p14_2 : List Nat := ones 10 []
def p14_3 : List Nat := ones 9 [0, 1, 0, 0]
def p14_4 : List Nat := ones 7 []
def p14_5 : List Nat := ones 6 [0, 1, 0, 0]
def p14_6 : List Nat := ones 11 [0, 1, 0, 0, 1, 0]
def p14_7 : List Nat := ones 11 [0, 1, 0, 0, 1, 1]
def p14_8 : List Nat := ones 11 [0, 1, 0, 0, 1, 1, 0, 0, 0]
def p14_9 : List Nat := ones 11 [0, 1, 0, 0, 1, 1, 0, 0, 1]
def p14_10 : List Nat := ones 11 [0, 1, 0, 0, 1, 1, 1]
def p14_11 : List Nat := ones 9 [0, 1, 0, 0, 1, 0]
def p14_12 : List Nat := ones 9 [0, 1, 0, 0, 1, 1]
def p14_13 : List Nat := ones 9 [0, 1, 0, 0, 1, 1, 0, 0, 0]
def p14_14 : List Nat := ones 9 [0, 1, 0, 0, 1, 1, 0, 0, 1]
def p14_15 : List Nat := ones 9 [0, 1, 0, 0, 1, 1, 1]
def p14_16 : List Nat := ones 9 [0, 1, 0, 0, 1, 1, 0, 0, 1, 0]
def p14_17 : List Nat := ones 9 [0, 1, 0, 0, 1, 1, 0, 0, 1, 1]
def p14_18 : List Nat := ones 9 [0, 1, 0, 0, 1, 1, 0, 0, 1, 1, 0]
def p14_19 : List Nat := ones 9 [0, 1, 0, 0, 1, 1, 0, 0, 1, 1, 1]
def p14_20 : List Nat := ones 10 [0]
def p14_21 : List Nat := ones 11 []
def p14_22 : List Nat := ones 11 [0, 0]
def p14_23 : List Nat := ones 11 [0, 1]
def p14_24 : List Nat := ones 11 [0, 1, 0]
def p14_25 : List Nat := ones 6 [0, 1, 0, 0, 1, 0]
def p14_26 : List Nat := ones 6 [0, 1, 0, 0, 1, 1]
def p14_27 : List Nat := ones 6 [0, 1, 0, 0, 1, 1, 0, 0, 0]
def p14_28 : List Nat := ones 6 [0, 1, 0, 0, 1, 1, 0, 0, 1]
def p14_29 : List Nat := ones 6 [0, 1, 0, 0, 1, 1, 1]
def p14_30 : List Nat := ones 7 [0, 1]
def p14_31 : List Nat := ones 8 []
def p14_32 : List Nat := ones 9 [0, 0]
def p14_33 : List Nat := ones 9 [0, 1]
def p14_34 : List Nat := ones 9 [0, 1, 0]
def p14_35 : List Nat := [1, 1, 1, 0]
def p14_36 : List Nat := [1, 1, 1, 1]
def p14_37 : List Nat := [1, 1, 1, 1, 0]
def p14_38 : List Nat := ones 5 []
def p14_39 : List Nat := ones 6 [0, 0]
def p14_40 : List Nat := ones 6 [0, 1]
def p14_41 : List Nat := ones 6 [0, 1, 0]
noncomputable section
abbrev cx14 (M : Nat → Prop) (w0 : Base) : Cx := ⟨Try.prog, 96, M, w0⟩
abbrev q14 (M : Nat → Prop) (w0 : Base) (r : (List Int)) := bodyPost Try.prog Try.f14 (RetQ M w0 (fun v s => v = .ref 21 ∧ look 21 s.r = some ⟨3, 1, List.map (eInt .i64) r⟩))
abbrev k14_3 (M : Nat → Prop) (w0 : Base) (r : (List Int)) (m3 : Nat) : Kont := kl (cx14 M w0) (q14 M w0 r) [.b 4, .c (cat Try.f14 p14_0)] (cat Try.f14 p14_1) m3
abbrev k14_2 (M : Nat → Prop) (w0 : Base) (r : (List Int)) (m2 : Nat) : Kont := kl (cx14 M w0) (q14 M w0 r) [.b 2, .c (cat Try.f14 p14_2)] (cat Try.f14 p14_3) m2
abbrev k14_1 (M : Nat → Prop) (w0 : Base) (r : (List Int)) (m1 : Nat) : Kont := kl (cx14 M w0) (q14 M w0 r) [.b 0, .c (cat Try.f14 p14_4)] (cat Try.f14 p14_5) m1
def s14_l3 (v26 : (List Int)) (v27 : Int) (v28 : Int) (v29 : (List Int)) : AS := ⟨[(5,.ref 21),(82,.sl (List.map (eInt .i64) v26)),(83,.int .i64 v27),(84,.int .i64 v28)],[],[(21,⟨3,1,List.map (eInt .i64) v29⟩)],[21]⟩
def s14_l2 (v2 : (List Int)) (v3 : Int) (v8 : Int) (v14 : Int) (v15 : Int) (v16 : (List Int)) (v17 : (List Int)) (v18 : (List Int)) : AS := ⟨[(0,.int .i64 v3),(5,.ref 21),(6,.ptr 6 0),(7,.ref 27),(8,.int .i64 v8),(11,.int .i64 v14),(43,.sl (List.map (eInt .i64) v2)),(44,.int .i64 (v2.length : Int)),(45,.int .i64 v15)],[(6,[.ref 24])],[(21,⟨3,1,List.map (eInt .i64) v16⟩),(24,⟨3,1,List.map (eInt .i64) v17⟩),(27,⟨3,1,List.map (eInt .i64) v18⟩)],[6,21,24,27]⟩
def s14_l1 (v2 : (List Int)) (v3 : Int) (v4 : (List Int)) (v5 : (List Int)) (v6 : (List Int)) (v8 : Int) (v9 : Int) : AS := ⟨[(0,.int .i64 v3),(1,.sl (List.map (eInt .i64) v2)),(5,.ref 21),(6,.ptr 6 0),(7,.ref 27),(8,.int .i64 v8),(28,.sl (List.map (eInt .i64) v2)),(29,.int .i64 (v2.length : Int)),(30,.int .i64 v9)],[(6,[.ref 24])],[(21,⟨3,1,List.map (eInt .i64) v4⟩),(24,⟨3,1,List.map (eInt .i64) v5⟩),(27,⟨3,1,List.map (eInt .i64) v6⟩)],[6,21,24,27]⟩
abbrev H14_1 (M : Nat → Prop) (w0 : Base) (r : (List Int)) (v2 : (List Int)) (v3 : Int) (v4 : (List Int)) (v5 : (List Int)) (v6 : (List Int)) (m1 : Nat) (L1 : Int → Int → Option (List Int)) : Prop := ∀ {v8 : Int} {v9 : Int}, L1 v8 v9 = some r → LP (cx14 M w0) (q14 M w0 r) [.b 0, .c (cat Try.f14 p14_4)] (cat Try.f14 p14_5) m1 (s14_l1 v2 v3 v4 v5 v6 v8 v9)
abbrev H14_2 (M : Nat → Prop) (w0 : Base) (r : (List Int)) (v2 : (List Int)) (v3 : Int) (v8 : Int) (m2 : Nat) (L2 : Int → Int → (List Int) → (List Int) → (List Int) → Option (List Int)) : Prop := ∀ {v14 : Int} {v15 : Int} {v16 : (List Int)} {v17 : (List Int)} {v18 : (List Int)}, L2 v14 v15 v16 v17 v18 = some r → LP (cx14 M w0) (q14 M w0 r) [.b 2, .c (cat Try.f14 p14_2)] (cat Try.f14 p14_3) m2 (s14_l2 v2 v3 v8 v14 v15 v16 v17 v18)
abbrev H14_3 (M : Nat → Prop) (w0 : Base) (r : (List Int)) (m3 : Nat) (L3 : (List Int) → Int → Int → (List Int) → Option (List Int)) : Prop := ∀ {v26 : (List Int)} {v27 : Int} {v28 : Int} {v29 : (List Int)}, L3 v26 v27 v28 v29 = some r → LP (cx14 M w0) (q14 M w0 r) [.b 4, .c (cat Try.f14 p14_0)] (cat Try.f14 p14_1) m3 (s14_l3 v26 v27 v28 v29)
variable {K : Kn} {n : Nat} {M : Nat → Prop} {w0 : Base} {r : (List Int)} {v1 : Int} {v2 : (List Int)} {v3 : Int} {v4 : (List Int)} {v5 : (List Int)} {v6 : (List Int)} {v8 : Int} {v9 : Int} {v14 : Int} {v15 : Int} {v16 : (List Int)} {v17 : (List Int)} {v18 : (List Int)} {v26 : (List Int)} {v27 : Int} {v28 : Int} {v29 : (List Int)} {m1 : Nat} {L1 : Int → Int → Option (List Int)} {m2 : Nat} {L2 : Int → Int → (List Int) → (List Int) → (List Int) → Option (List Int)} {m3 : Nat} {L3 : (List Int) → Int → Int → (List Int) → Option (List Int)}
theorem g_flex_Share_l3_b_ok (hK : KnOk K) (hL3 : H14_3 M w0 r m3 L3) (h : g_flex_Share_l3_b K n L3 v26 v27 v28 v29 = some r) : VE (cx14 M w0) (q14 M w0 r) [.c (cat Try.f14 p14_1), k14_3 M w0 r m3, .b 4, .c (cat Try.f14 p14_0)] .normal (s14_l3 v26 v27 v28 v29) := by
  unfold g_flex_Share_l3_b at h
  refine ve_un (ks' := [.c (cat Try.f14 p14_6), .c (cat Try.f14 p14_7), k14_3 M w0 r m3, .b 4, .c (cat Try.f14 p14_0)]) 3 ?_
  rcases ite_some h with ⟨h46, h⟩ | ⟨h46, h⟩
  ·
   refine ve_sb 85 h46 ?_
   refine ve_un (ks' := [.c (cat Try.f14 p14_8), .c (cat Try.f14 p14_9), .b 5, .c (cat Try.f14 p14_10), k14_3 M w0 r m3, .b 4, .c (cat Try.f14 p14_0)]) 5 ?_
   refine ve_in 0 ?_
   obtain ⟨h47, h⟩ := chk_some h
   refine ot_sp (y_ixs (eInt .i64) (eInt .i64) h47 (fun _ => rfl) (fun _ => rfl)) ?_
   refine ot_end ?_
   refine ve_in 2 ?_
   obtain ⟨h48, h⟩ := chk_some h
   refine ot_sp (y_ixr 21 1 (eInt .i64) h48) ?_
   refine ot_sp (y_ldr 3 0 (eInt .i64) (eInt .i64) (inb_spec h48).2 (fun _ => rfl)) ?_
   refine ot_go 5 1 ?_
   obtain ⟨h49, h⟩ := chk_some h
   refine ot_sp (y_ixr 21 1 (eInt .i64) h49) ?_
   refine ot_sp (y_str 21 3 1 0 (eInt .i64) (eInt .i64) (w64 ((List.getD v29 ((List.getD v26 (v28).toNat default)).toNat default) + 1)) (inb_spec h49).2 (fun _ => rfl)) ?_
   refine ot_end ?_
   exact ve_arr 2 (lp_back (hL3 h))
  ·
   refine ve_sb 85 h46 ?_
   refine ve_rt 8 ?_
   have hr := Option.some.inj h
   subst hr
   exact ve_o1
theorem g_flex_Share_l3_ok (hK : KnOk K) (m : Nat) : H14_3 M w0 r m (g_flex_Share_l3 K n m) := by
  induction m with
 | zero => intro v26 v27 v28 v29 h; cases h
 | succ m ih => intro v26 v27 v28 v29 h; have h : g_flex_Share_l3_b K n (g_flex_Share_l3 K n m) v26 v27 v28 v29 = some r := h; exact lp_round (g_flex_Share_l3_b_ok hK ih h)
theorem g_flex_Share_l2_b_ok (hK : KnOk K) (hL2 : H14_2 M w0 r v2 v3 v8 m2 L2) (h : g_flex_Share_l2_b K n v2 v3 v8 L2 v14 v15 v16 v17 v18 = some r) : VE (cx14 M w0) (q14 M w0 r) [.c (cat Try.f14 p14_3), k14_2 M w0 r m2, .b 2, .c (cat Try.f14 p14_2)] .normal (s14_l2 v2 v3 v8 v14 v15 v16 v17 v18) := by
  unfold g_flex_Share_l2_b at h
  refine ve_un (ks' := [.c (cat Try.f14 p14_11), .c (cat Try.f14 p14_12), k14_2 M w0 r m2, .b 2, .c (cat Try.f14 p14_2)]) 3 ?_
  rcases ite_some h with ⟨h26, h⟩ | ⟨h26, h⟩
  ·
   refine ve_sb 46 h26 ?_
   refine ve_un (ks' := [.c (cat Try.f14 p14_13), .c (cat Try.f14 p14_14), .b 3, .c (cat Try.f14 p14_15), k14_2 M w0 r m2, .b 2, .c (cat Try.f14 p14_2)]) 5 ?_
   refine ve_in 1 ?_
   obtain ⟨h27, h⟩ := chk_some h
   refine ot_sp (y_ixs (eInt .i64) (eInt .i64) h27 (fun _ => rfl) (fun _ => rfl)) ?_
   refine ot_end ?_
   refine ve_un (ks' := [.c (cat Try.f14 p14_16), .c (cat Try.f14 p14_17), .b 3, .c (cat Try.f14 p14_15), k14_2 M w0 r m2, .b 2, .c (cat Try.f14 p14_2)]) 1 ?_
   refine ve_in 2 ?_
   obtain ⟨v19, h28, h⟩ := bind_some h
   refine ot_cl (g_flex_limit_ok hK h28) ?_
   refine ot_end ?_
   refine ve_un (ks' := [.c (cat Try.f14 p14_18), .c (cat Try.f14 p14_19), .b 3, .c (cat Try.f14 p14_15), k14_2 M w0 r m2, .b 2, .c (cat Try.f14 p14_2)]) 1 ?_
   refine ve_pk [0, 5, 6, 7, 8, 11, 12, 14, 43, 44, 45] [6] [21, 24, 27] ?_
   obtain ⟨h29, h⟩ := chk_some h
   obtain ⟨h30, h⟩ := chk_some h
   obtain ⟨h31, h⟩ := chk_some h
   obtain ⟨h32, h⟩ := chk_some h
   obtain ⟨h33, h⟩ := chk_some h
   refine ve_dr 3 [(54, .ref 21), (55, .int .i64 v15), (56, .ref 24), (57, .int .i64 v15), (58, .ref 27), (59, .int .i64 v15), (60, .int .i64 (w64 (v3 * v19))), (61, .int .i64 v8), (62, .int .i64 (w64 (Int.tdiv (w64 (v3 * v19)) v8))), (63, .int .i64 (w64 (v3 * v19))), (64, .int .i64 v8), (65, .int .i64 (Int.tmod (w64 (v3 * v19)) v8)), (66, .int .i64 v15), (67, .eptr 21 1 ((v15).toNat) 0), (68, .eptr 24 1 ((v15).toNat) 0), (69, .eptr 27 1 ((v15).toNat) 0)] [] [] [strS 21 ⟨3, 1, List.map (eInt .i64) (List.set v16 (v15).toNat (w64 (Int.tdiv (w64 (v3 * v19)) v8)))⟩, strS 24 ⟨3, 1, List.map (eInt .i64) (List.set v17 (v15).toNat (Int.tmod (w64 (v3 * v19)) v8))⟩, strS 27 ⟨3, 1, List.map (eInt .i64) (List.set v18 (v15).toNat v15)⟩] (d_vs [.v 0 1, .v 0 1, .v 0 2, .v 0 2, .v 0 3, .v 0 3, .v 0 1, .v 0 1] (d_c1 (e_v (lo := 0) (y_quo .i64 (w64 (v3 * v19)) h29)) (d_vs [.v 0 2, .v 0 2] (d_c1 (k_v (lo := 0) (k := 2) (kallS ⟨(by kernel_rfl), (aop_eq (y_rem .i64 (w64 (v3 * v19)) h30) (by kernel_rfl))⟩ (kallS ⟨(by kernel_rfl), (aop_eq (y_rem .i64 (w64 (v3 * v19)) h30) (by kernel_rfl))⟩ (kall0)))) (d_vs [.v 0 3] (d_c1 (e_v (lo := 0) (y_ixr 21 1 (eInt .i64) (L := v16) (i := v15) (by first | exact h31 | exact Eq.trans (by simp only [List.length_set]) h31))) (d_c1 (e_s (m := 0) (y_str 21 3 1 0 (eInt .i64) (eInt .i64) (w64 (Int.tdiv (w64 (v3 * v19)) v8)) (inb_spec h31).2 (fun _ => rfl))) (d_c1 (e_v (lo := 1) (y_ixr 24 1 (eInt .i64) (L := v17) (i := v15) (by first | exact h32 | exact Eq.trans (by simp only [List.length_set]) h32))) (d_c1 (e_s (m := 1) (y_str 24 3 1 0 (eInt .i64) (eInt .i64) (Int.tmod (w64 (v3 * v19)) v8) (inb_spec h32).2 (fun _ => rfl))) (d_c1 (e_v (lo := 2) (y_ixr 27 1 (eInt .i64) (L := v18) (i := v15) (by first | exact h33 | exact Eq.trans (by simp only [List.length_set]) h33))) (d_c1 (e_s (m := 2) (y_str 27 3 1 0 (eInt .i64) (eInt .i64) v15 (inb_spec h33).2 (fun _ => rfl))) (d_nl)))))))))))) ?_
   obtain ⟨v20, h34, h⟩ := bind_some h
   have h34 := Option.some.inj h34
   obtain ⟨v21, h35, h⟩ := bind_some h
   have h35 := Option.some.inj h35
   refine ve_go (ks' := [.c (cat Try.f14 p14_19), .b 3, .c (cat Try.f14 p14_15), k14_2 M w0 r m2, .b 2, .c (cat Try.f14 p14_2)]) 0 ⟨[(0,.int .i64 v3),(5,.ref 21),(6,.ptr 6 0),(7,.ref 27),(8,.int .i64 v8),(11,.int .i64 v14),(12,.int .i64 v15),(43,.sl (List.map (eInt .i64) v2)),(44,.int .i64 (v2.length : Int)),(45,.int .i64 v15)],[(6,[.ref 24])],[(21,⟨3,1,List.map (eInt .i64) v20⟩),(24,⟨3,1,List.map (eInt .i64) v21⟩),(27,⟨3,1,List.map (eInt .i64) (List.set v18 (v15).toNat v15)⟩)],[6,21,24,27]⟩ ?_ (by subst h35; subst h34; kernel_rfl)
   refine ve_in 3 ?_
   obtain ⟨h36, h⟩ := chk_some h
   refine ot_sp (y_ixr 21 1 (eInt .i64) h36) ?_
   refine ot_sp (y_ldr 3 0 (eInt .i64) (eInt .i64) (inb_spec h36).2 (fun _ => rfl)) ?_
   refine ot_end ?_
   exact ve_arr 2 (lp_back (hL2 h))
  ·
   refine ve_sb 46 h26 ?_
   refine ve_un (ks' := [.c (cat Try.f14 p14_20), .c (cat Try.f14 p14_21)]) 6 ?_
   refine ve_in 1 ?_
   refine ot_f 24 ?_
   refine ot_fo 6 6 ([.sl (List.map (eInt .i64) v17)]) ?_
   refine ot_mf 36 #[(.tmp 6)] [.cptr ([.sl (List.map (eInt .i64) v17)])] ?_
   obtain ⟨v22, h37, h⟩ := bind_some h
   refine ot_io 27 0 (g_slices_SortStableFunc_int_int_ok hK h37) ?_
   refine ot_end ?_
   refine ve_un (ks' := [.c (cat Try.f14 p14_22), .c (cat Try.f14 p14_23), .c (cat Try.f14 p14_0)]) 2 ?_
   refine ve_in 2 ?_
   refine ot_f 27 ?_
   obtain ⟨h38, h⟩ := chk_some h
   refine ot_sp (aop_slice_sl (eInt .i64) v22 (0 : Int) v14 22 (.tmp 80) none (some (.tmp 81)) 82 (e := 3) (sz := 1) (by kernel_rfl) (by kernel_rfl) (by kernel_rfl) (by kernel_rfl) (by kernel_rfl) (by kernel_rfl) (fun _ => rfl) (fun k hk => by subst hk; kernel_rfl) h38) ?_
   refine ot_sp (y_len (eInt .i64) (List.drop ((0 : Int)).toNat (List.take (v14).toNat v22))) ?_
   refine ot_end ?_
   exact ve_arr 1 (lp_en (p := p14_24) n (g_flex_Share_l3_ok hK n h))
theorem g_flex_Share_l2_ok (hK : KnOk K) (m : Nat) : H14_2 M w0 r v2 v3 v8 m (g_flex_Share_l2 K n v2 v3 v8 m) := by
  induction m with
 | zero => intro v14 v15 v16 v17 v18 h; cases h
 | succ m ih => intro v14 v15 v16 v17 v18 h; have h : g_flex_Share_l2_b K n v2 v3 v8 (g_flex_Share_l2 K n v2 v3 v8 m) v14 v15 v16 v17 v18 = some r := h; exact lp_round (g_flex_Share_l2_b_ok hK ih h)
theorem g_flex_Share_l1_b_ok (hK : KnOk K) (hL1 : H14_1 M w0 r v2 v3 v4 v5 v6 m1 L1) (h : g_flex_Share_l1_b K n v2 v3 v4 v5 v6 L1 v8 v9 = some r) : VE (cx14 M w0) (q14 M w0 r) [.c (cat Try.f14 p14_5), k14_1 M w0 r m1, .b 0, .c (cat Try.f14 p14_4)] .normal (s14_l1 v2 v3 v4 v5 v6 v8 v9) := by
  unfold g_flex_Share_l1_b at h
  refine ve_un (ks' := [.c (cat Try.f14 p14_25), .c (cat Try.f14 p14_26), k14_1 M w0 r m1, .b 0, .c (cat Try.f14 p14_4)]) 3 ?_
  rcases ite_some h with ⟨h11, h⟩ | ⟨h11, h⟩
  ·
   refine ve_sb 31 h11 ?_
   refine ve_un (ks' := [.c (cat Try.f14 p14_27), .c (cat Try.f14 p14_28), .b 1, .c (cat Try.f14 p14_29), k14_1 M w0 r m1, .b 0, .c (cat Try.f14 p14_4)]) 5 ?_
   refine ve_in 0 ?_
   obtain ⟨h12, h⟩ := chk_some h
   refine ot_sp (y_ixs (eInt .i64) (eInt .i64) h12 (fun _ => rfl) (fun _ => rfl)) ?_
   refine ot_end ?_
   refine ve_in 2 ?_
   obtain ⟨v10, h13, h⟩ := bind_some h
   refine ot_cl (g_flex_limit_ok hK h13) ?_
   refine ot_end ?_
   exact ve_arr 2 (lp_back (hL1 h))
  ·
   refine ve_sb 31 h11 ?_
   refine ve_un (ks' := [.c (cat Try.f14 p14_30), .c (cat Try.f14 p14_31)]) 8 ?_
   rcases ite_some h with ⟨h14, h⟩ | ⟨h14, h⟩
   ·
    refine ve_sb 40 h14 ?_
    refine ve_rt 5 ?_
    have hr := Option.some.inj h
    subst hr
    exact ve_o1
   ·
    refine ve_sb 40 h14 ?_
    refine ve_un (ks' := [.c (cat Try.f14 p14_32), .c (cat Try.f14 p14_33), .c (cat Try.f14 p14_2)]) 6 ?_
    refine ve_in 1 ?_
    refine ot_sp (y_len (eInt .i64) v2) ?_
    refine ot_end ?_
    exact ve_arr 1 (lp_en (p := p14_34) n (g_flex_Share_l2_ok hK n h))
theorem g_flex_Share_l1_ok (hK : KnOk K) (m : Nat) : H14_1 M w0 r v2 v3 v4 v5 v6 m (g_flex_Share_l1 K n v2 v3 v4 v5 v6 m) := by
  induction m with
 | zero => intro v8 v9 h; cases h
 | succ m ih => intro v8 v9 h; have h : g_flex_Share_l1_b K n v2 v3 v4 v5 v6 (g_flex_Share_l1 K n v2 v3 v4 v5 v6 m) v8 v9 = some r := h; exact lp_round (g_flex_Share_l1_b_ok hK ih h)
theorem g_flex_Share_ok (hK : KnOk K) (h : g_flex_Share K n v1 v2 = some r) : ACalls Try.prog 14 [.int .i64 v1, .sl (List.map (eInt .i64) v2)] (fun v s => v = .ref 21 ∧ look 21 s.r = some ⟨3, 1, List.map (eInt .i64) r⟩) := by
  refine acalls_intro (c := cat Try.f14 []) Try.func14 (by kernel_rfl) _ Try.ntmps14 (of_decide_eq_true (by kernel_rfl)) fun M w0 => ?_
  refine ve_cast (s' := ⟨[(0,.int .i64 v1),(1,.sl (List.map (eInt .i64) v2))],[],[],[]⟩) (by kernel_rfl) ?_
  unfold g_flex_Share at h
  refine ve_un (ks' := [.c (cat Try.f14 [1, 0]), .c (cat Try.f14 [1, 1])]) 3 ?_
  refine ve_in 1 ?_
  obtain ⟨v3, h1, h⟩ := bind_some h
  refine ot_cl (g_flex_limit_ok hK h1) ?_
  refine ot_end ?_
  refine ve_un (ks' := [.c (cat Try.f14 [1, 1, 0]), .c (cat Try.f14 [1, 1, 1])]) 1 ?_
  refine ve_in 1 ?_
  refine ot_sp (y_len (eInt .i64) v2) ?_
  obtain ⟨h2, h⟩ := chk_some h
  refine ot_mk (eInt .i64) (0 : Int) 22 (.tmp 20) (.tmp 20) 21 (e := 3) (sz := 1) (zc := [.int .i64 0]) (kd := .i64) (kd' := .i64) h2 ?_
  refine ot_end ?_
  obtain ⟨v4, h3, h⟩ := bind_some h
  have h3 := Option.some.inj h3
  refine ve_go (ks' := [.c (cat Try.f14 p14_35), .c (cat Try.f14 p14_36)]) 1 ⟨[(0,.int .i64 v3),(1,.sl (List.map (eInt .i64) v2)),(5,.ref 21)],[],[(21,⟨3,1,List.map (eInt .i64) v4⟩)],[21]⟩ ?_ (by subst h3; kernel_rfl)
  refine ve_in 1 ?_
  refine ot_sp (y_len (eInt .i64) v2) ?_
  obtain ⟨h4, h⟩ := chk_some h
  refine ot_mk (eInt .i64) (0 : Int) 22 (.tmp 23) (.tmp 23) 24 (e := 3) (sz := 1) (zc := [.int .i64 0]) (kd := .i64) (kd' := .i64) h4 ?_
  refine ot_end ?_
  obtain ⟨v5, h5, h⟩ := bind_some h
  have h5 := Option.some.inj h5
  refine ve_go (ks' := [.c (cat Try.f14 p14_37), .c (cat Try.f14 p14_38)]) 1 ⟨[(0,.int .i64 v3),(1,.sl (List.map (eInt .i64) v2)),(5,.ref 21),(6,.ptr 6 0)],[(6,[.ref 24])],[(21,⟨3,1,List.map (eInt .i64) v4⟩),(24,⟨3,1,List.map (eInt .i64) v5⟩)],[6,21,24]⟩ ?_ (by subst h5; kernel_rfl)
  refine ve_in 1 ?_
  refine ot_sp (y_len (eInt .i64) v2) ?_
  obtain ⟨h6, h⟩ := chk_some h
  refine ot_mk (eInt .i64) (0 : Int) 22 (.tmp 26) (.tmp 26) 27 (e := 3) (sz := 1) (zc := [.int .i64 0]) (kd := .i64) (kd' := .i64) h6 ?_
  refine ot_end ?_
  obtain ⟨v6, h7, h⟩ := bind_some h
  have h7 := Option.some.inj h7
  refine ve_go (ks' := [.c (cat Try.f14 p14_39), .c (cat Try.f14 p14_40), .c (cat Try.f14 p14_4)]) 4 ⟨[(0,.int .i64 v3),(1,.sl (List.map (eInt .i64) v2)),(5,.ref 21),(6,.ptr 6 0),(7,.ref 27),(8,.int .i64 0)],[(6,[.ref 24])],[(21,⟨3,1,List.map (eInt .i64) v4⟩),(24,⟨3,1,List.map (eInt .i64) v5⟩),(27,⟨3,1,List.map (eInt .i64) v6⟩)],[6,21,24,27]⟩ ?_ (by subst h7; kernel_rfl)
  refine ve_in 1 ?_
  refine ot_sp (y_len (eInt .i64) v2) ?_
  refine ot_end ?_
  exact ve_arr 1 (lp_en (p := p14_41) n (g_flex_Share_l1_ok hK n h))
end
def p39_0 : List Nat := [1, 1, 1, 0]
def p39_1 : List Nat := [1, 1, 1, 1]
def p39_2 : List Nat := [1, 1, 1, 1, 0]
def p39_3 : List Nat := ones 5 []
def p39_4 : List Nat := ones 5 [0]
def p39_5 : List Nat := ones 6 []
noncomputable section
variable {K : Kn} {n : Nat} {M : Nat → Prop} {w0 : Base} {r : TFlexItem} {v1 : TFlexItem} 
theorem g_flex_normal_ok (hK : KnOk K) (h : g_flex_normal K n v1 = some r) : ACalls Try.prog 39 [.agg (eTFlexItem v1)] (fun v _ => v = .agg (eTFlexItem r)) := by
  refine acalls_intro (c := cat Try.f39 []) Try.func39 (by kernel_rfl) _ Try.ntmps39 (of_decide_eq_true (by kernel_rfl)) fun M w0 => ?_
  refine ve_cast (s' := ⟨[(0,.agg (eTFlexItem v1))],[],[],[]⟩) (by kernel_rfl) ?_
  unfold g_flex_normal at h
  refine ve_un (ks' := [.c (cat Try.f39 [1, 0]), .c (cat Try.f39 [1, 1])]) 3 ?_
  refine ve_in 2 ?_
  obtain ⟨v2, h1, h⟩ := bind_some h
  refine ot_cl (g_flex_limit_ok hK h1) ?_
  refine ot_end ?_
  refine ve_un (ks' := [.c (cat Try.f39 [1, 1, 0]), .c (cat Try.f39 [1, 1, 1])]) 1 ?_
  refine ve_in 2 ?_
  obtain ⟨v3, h2, h⟩ := bind_some h
  refine ot_cl (g_flex_limit_ok hK h2) ?_
  refine ot_end ?_
  refine ve_un (ks' := [.c (cat Try.f39 p39_0), .c (cat Try.f39 p39_1)]) 1 ?_
  refine ve_in 2 ?_
  obtain ⟨v4, h3, h⟩ := bind_some h
  refine ot_cl (g_flex_limit_ok hK h3) ?_
  refine ot_end ?_
  refine ve_un (ks' := [.c (cat Try.f39 p39_2), .c (cat Try.f39 p39_3)]) 1 ?_
  refine ve_in 2 ?_
  obtain ⟨v5, h4, h⟩ := bind_some h
  refine ot_cl (g_flex_limit_ok hK h4) ?_
  refine ot_end ?_
  refine ve_un (ks' := [.c (cat Try.f39 p39_4), .c (cat Try.f39 p39_5)]) 1 ?_
  refine ve_pk [1, 2] [1, 2] [] ?_
  obtain ⟨v6, h5, h⟩ := bind_some h
  refine ve_dr 1 [(19, .ptr 1 4), (20, .int .i64 v1.Max), (21, .int .i64 v6), (22, .ptr 1 3), (23, .int .i64 v5), (24, .int .i64 (max v6 v5)), (25, .ptr 1 4)] [] [] [stp Try.prog 27 Try.f39 p39_4 7] (d_vs [.v 0 1, .v 0 1] (d_c1 (e_c 0 1 21 (g_flex_limit_ok hK h5)) (d_vs [.v 0 1, .v 0 1, .v 0 1, .v 0 1] (d_c1 (e_d 0) (d_nl))))) ?_
  refine ve_rt 3 ?_
  have hr := Option.some.inj h
  subst hr
  exact ve_d1
end
noncomputable section
variable {K : Kn} {n : Nat} {M : Nat → Prop} {w0 : Base} {r : Int} {v1 : TFlexItem} {v2 : Int} 
theorem g_flex_clamp_ok (hK : KnOk K) (h : g_flex_clamp K n v1 v2 = some r) : ACalls Try.prog 75 [.agg (eTFlexItem v1), .int .i64 v2] (fun v _ => v = .int .i64 r) := by
  refine acalls_intro (c := cat Try.f75 []) Try.func75 (by kernel_rfl) _ Try.ntmps75 (of_decide_eq_true (by kernel_rfl)) fun M w0 => ?_
  refine ve_cast (s' := ⟨[(0,.agg (eTFlexItem v1)),(1,.int .i64 v2)],[],[],[]⟩) (by kernel_rfl) ?_
  unfold g_flex_clamp at h
  refine ve_rt 5 ?_
  have hr := Option.some.inj h
  subst hr
  exact ve_d1
end
noncomputable section
variable {K : Kn} {n : Nat} {M : Nat → Prop} {w0 : Base} {r : Int} {v1 : TFlexItem} 
theorem g_flex_hypothetical_ok (hK : KnOk K) (h : g_flex_hypothetical K n v1 = some r) : ACalls Try.prog 40 [.agg (eTFlexItem v1)] (fun v _ => v = .int .i64 r) := by
  refine acalls_intro (c := cat Try.f40 []) Try.func40 (by kernel_rfl) _ Try.ntmps40 (of_decide_eq_true (by kernel_rfl)) fun M w0 => ?_
  refine ve_cast (s' := ⟨[(0,.agg (eTFlexItem v1))],[],[],[]⟩) (by kernel_rfl) ?_
  unfold g_flex_hypothetical at h
  refine ve_un (ks' := [.c (cat Try.f40 [1, 0]), .c (cat Try.f40 [1, 1])]) 3 ?_
  refine ve_in 1 ?_
  obtain ⟨v2, h1, h⟩ := bind_some h
  refine ot_cl (g_flex_normal_ok hK h1) ?_
  refine ot_end ?_
  refine ve_un (ks' := [.c (cat Try.f40 [1, 1, 0]), .c (cat Try.f40 [1, 1, 1])]) 1 ?_
  refine ve_in 3 ?_
  obtain ⟨v3, h2, h⟩ := bind_some h
  refine ot_cl (g_flex_clamp_ok hK h2) ?_
  refine ot_end ?_
  refine ve_rt 1 ?_
  have hr := Option.some.inj h
  subst hr
  exact ve_d1
end
def p41_0 : List Nat := ones 11 []
def p41_1 : List Nat := ones 10 [0, 1, 0, 0]
def p41_2 : List Nat := ones 10 []
def p41_3 : List Nat := ones 9 [0, 1, 0, 0]
def p41_4 : List Nat := [1, 1, 1, 1]
def p41_5 : List Nat := [1, 1, 1, 0, 1, 0, 0]
def p41_6 : List Nat := [1, 1, 1, 0, 1, 0, 0, 1, 1, 1]
def p41_7 : List Nat := ones 10 [0, 1, 0, 0, 1, 1, 1]
def p41_8 : List Nat := ones 10 [0, 1, 0, 0, 1, 1, 0, 0, 1, 1, 1, 1]
def p41_9 : List Nat := ones 10 [0, 1, 0, 0, 1, 1, 0, 0, 1, 1, 1, 1, 0]
def p41_10 : List Nat := ones 10 [0, 1, 0, 0, 1, 0]
def p41_11 : List Nat := ones 10 [0, 1, 0, 0, 1, 1]
def p41_12 : List Nat := ones 10 [0, 1, 0, 0, 1, 1, 0, 0, 0]
def p41_13 : List Nat := ones 10 [0, 1, 0, 0, 1, 1, 0, 0, 1]
def p41_14 : List Nat := ones 10 [0, 1, 0, 0, 1, 1, 0, 0, 1, 0]
def p41_15 : List Nat := ones 10 [0, 1, 0, 0, 1, 1, 0, 0, 1, 1]
def p41_16 : List Nat := ones 10 [0, 1, 0, 0, 1, 1, 0, 0, 1, 1, 0]
def p41_17 : List Nat := ones 10 [0, 1, 0, 0, 1, 1, 0, 0, 1, 1, 1]
def p41_18 : List Nat := ones 10 [0, 1, 0, 0, 1, 1, 0, 0, 1, 1, 1, 0]
def p41_19 : List Nat := ones 9 [0, 1, 0, 0, 1, 0]
def p41_20 : List Nat := ones 9 [0, 1, 0, 0, 1, 1]
def p41_21 : List Nat := ones 9 [0, 1, 0, 0, 1, 1, 0, 0, 0]
def p41_22 : List Nat := ones 9 [0, 1, 0, 0, 1, 1, 0, 0, 1]
def p41_23 : List Nat := ones 9 [0, 1, 0, 0, 1, 1, 1]
def p41_24 : List Nat := ones 9 [0, 1, 0, 0, 1, 1, 0, 0, 1, 0]
def p41_25 : List Nat := ones 9 [0, 1, 0, 0, 1, 1, 0, 0, 1, 1]
def p41_26 : List Nat := ones 10 [0, 0]
def p41_27 : List Nat := ones 10 [0, 1]
def p41_28 : List Nat := ones 10 [0, 1, 0]
def p41_29 : List Nat := ones 7 []
def p41_30 : List Nat := ones 8 [0]
def p41_31 : List Nat := ones 9 []
def p41_32 : List Nat := ones 9 [0, 0]
def p41_33 : List Nat := ones 9 [0, 1]
def p41_34 : List Nat := ones 9 [0, 1, 0]
def p41_35 : List Nat := [1, 1, 1, 0, 1, 0, 0, 1, 0]
def p41_36 : List Nat := [1, 1, 1, 0, 1, 0, 0, 1, 1]
def p41_37 : List Nat := [1, 1, 1, 0, 1, 0, 0, 1, 1, 0, 0, 0]
def p41_38 : List Nat := [1, 1, 1, 0, 1, 0, 0, 1, 1, 0, 0, 1]
def p41_39 : List Nat := [1, 1, 1, 0, 1, 0, 0, 1, 1, 0, 0, 1, 0, 1]
def p41_40 : List Nat := [1, 1, 1, 0, 1, 0, 0, 1, 1, 0, 0, 1, 1]
def p41_41 : List Nat := [1, 1, 1, 0, 1, 0, 0, 1, 1, 0, 0, 1, 1, 1, 1, 0]
def p41_42 : List Nat := [1, 1, 1, 0, 1, 0, 0, 1, 1, 0, 0, 1, 1, 1, 1, 1]
def p41_43 : List Nat := [1, 1, 1, 1, 0, 0]
def p41_44 : List Nat := [1, 1, 1, 1, 0, 1]
def p41_45 : List Nat := ones 5 []
def p41_46 : List Nat := ones 6 [0, 1]
def p41_47 : List Nat := [1, 1, 1, 0, 0]
def p41_48 : List Nat := [1, 1, 1, 0, 1]
def p41_49 : List Nat := [1, 1, 1, 0, 1, 0]
noncomputable section
abbrev cx41 (M : Nat → Prop) (w0 : Base) : Cx := ⟨Try.prog, 170, M, w0⟩
abbrev q41 (M : Nat → Prop) (w0 : Base) (r : (Bool × (List TFlexState))) := bodyPost Try.prog Try.f41 (RetQ M w0 (fun v s => v = .bool r.1 ∧ look 0 s.r = some ⟨74, 9, List.map eTFlexState r.2⟩))
abbrev k41_3 (M : Nat → Prop) (w0 : Base) (r : (Bool × (List TFlexState))) (m3 : Nat) : Kont := kl (cx41 M w0) (q41 M w0 r) [.b 4, .c (cat Try.f41 p41_0)] (cat Try.f41 p41_1) m3
abbrev k41_2 (M : Nat → Prop) (w0 : Base) (r : (Bool × (List TFlexState))) (m2 : Nat) : Kont := kl (cx41 M w0) (q41 M w0 r) [.b 2, .c (cat Try.f41 p41_2)] (cat Try.f41 p41_3) m2
abbrev k41_1 (M : Nat → Prop) (w0 : Base) (r : (Bool × (List TFlexState))) (m1 : Nat) : Kont := kl (cx41 M w0) (q41 M w0 r) [.b 0, .c (cat Try.f41 p41_4)] (cat Try.f41 p41_5) m1
def s41_j1 (v1 : (List TFlexState)) (v3 : Int) (v18 : Int) (v23 : Int) (v24 : Int) (v25 : (List Int)) (v26 : (List Int)) : AS := ⟨[(0,.ref 0),(2,.int .i64 v3),(7,.int .i64 v23),(8,.int .i64 v24),(9,.ref 47),(10,.ref 52),(22,.ref 0),(23,.int .i64 (v1.length : Int)),(24,.int .i64 v18)],[],[(0,⟨74,9,List.map eTFlexState v1⟩),(47,⟨3,1,List.map (eInt .i64) v25⟩),(52,⟨3,1,List.map (eInt .i64) v26⟩)],[0,47,52,1000000,0]⟩
def s41_j6 (v19 : (List Int)) (v31 : Int) (v33 : (List Int)) (v39 : Int) (v43 : (List TFlexState)) : AS := ⟨[(0,.ref 0),(13,.int .i64 v31),(14,.ref 1075),(117,.ref 47),(118,.int .i64 (v19.length : Int)),(119,.int .i64 v39)],[],[(0,⟨74,9,List.map eTFlexState v43⟩),(47,⟨3,1,List.map (eInt .i64) v19⟩),(1075,⟨3,1,List.map (eInt .i64) v33⟩)],[0,47,1075,1000000,0]⟩
def s41_j5 (v19 : (List Int)) (v31 : Int) (v33 : (List Int)) (v39 : Int) (v40 : (List TFlexState)) (v41 : Int) (v42 : Bool) : AS := ⟨[(0,.ref 0),(13,.int .i64 v31),(14,.ref 1075),(19,.eptr 0 9 (((List.getD v19 (v39).toNat default)).toNat) 0),(20,.int .i64 v41),(117,.ref 47),(118,.int .i64 (v19.length : Int)),(119,.int .i64 v39),(161,.bool v42)],[],[(0,⟨74,9,List.map eTFlexState v40⟩),(47,⟨3,1,List.map (eInt .i64) v19⟩),(1075,⟨3,1,List.map (eInt .i64) v33⟩)],[0,47,1075,1000000,0]⟩
def s41_l7 (v19 : (List Int)) (v31 : Int) (v33 : (List Int)) (v39 : Int) (v40 : (List TFlexState)) : AS := ⟨[(0,.ref 0),(13,.int .i64 v31),(14,.ref 1075),(117,.ref 47),(118,.int .i64 (v19.length : Int)),(119,.int .i64 v39)],[],[(0,⟨74,9,List.map eTFlexState v40⟩),(47,⟨3,1,List.map (eInt .i64) v19⟩),(1075,⟨3,1,List.map (eInt .i64) v33⟩)],[0,47,1075,1000000,0]⟩
def s41_l4 (v1 : (List TFlexState)) (v3 : Int) (v19 : (List Int)) (v31 : Int) (v32 : Int) (v33 : (List Int)) : AS := ⟨[(0,.ref 0),(2,.int .i64 v3),(9,.ref 47),(13,.int .i64 v31),(14,.ref 1075),(76,.ref 47),(77,.int .i64 (v19.length : Int)),(78,.int .i64 v32)],[],[(0,⟨74,9,List.map eTFlexState v1⟩),(47,⟨3,1,List.map (eInt .i64) v19⟩),(1075,⟨3,1,List.map (eInt .i64) v33⟩)],[0,47,1075,1000000,0]⟩
def s41_j3 (v1 : (List TFlexState)) (v3 : Int) (v19 : (List Int)) (v20 : (List Int)) (v27 : Int) : AS := ⟨[(0,.ref 0),(2,.int .i64 v3),(7,.int .i64 v27),(9,.ref 47),(10,.ref 52)],[],[(0,⟨74,9,List.map eTFlexState v1⟩),(47,⟨3,1,List.map (eInt .i64) v19⟩),(52,⟨3,1,List.map (eInt .i64) v20⟩)],[0,47,52,1000000,0]⟩
def s41_l2 (v1 : (List TFlexState)) (v3 : Int) (v16 : Int) (v17 : Int) (v18 : Int) (v19 : (List Int)) (v20 : (List Int)) : AS := ⟨[(0,.ref 0),(2,.int .i64 v3),(7,.int .i64 v16),(8,.int .i64 v17),(9,.ref 47),(10,.ref 52),(22,.ref 0),(23,.int .i64 (v1.length : Int)),(24,.int .i64 v18)],[],[(0,⟨74,9,List.map eTFlexState v1⟩),(47,⟨3,1,List.map (eInt .i64) v19⟩),(52,⟨3,1,List.map (eInt .i64) v20⟩)],[0,47,52,1000000,0]⟩
abbrev H41_1 (M : Nat → Prop) (w0 : Base) (r : (Bool × (List TFlexState))) (v1 : (List TFlexState)) (v3 : Int) (m1 : Nat) (L1 : Int → Int → Int → (List Int) → (List Int) → Option (Bool × (List TFlexState))) : Prop := ∀ {v16 : Int} {v17 : Int} {v18 : Int} {v19 : (List Int)} {v20 : (List Int)}, L1 v16 v17 v18 v19 v20 = some r → LP (cx41 M w0) (q41 M w0 r) [.b 0, .c (cat Try.f41 p41_4)] (cat Try.f41 p41_5) m1 (s41_l2 v1 v3 v16 v17 v18 v19 v20)
abbrev H41_2 (M : Nat → Prop) (w0 : Base) (r : (Bool × (List TFlexState))) (v1 : (List TFlexState)) (v3 : Int) (v19 : (List Int)) (m2 : Nat) (L2 : Int → Int → (List Int) → Option (Bool × (List TFlexState))) : Prop := ∀ {v31 : Int} {v32 : Int} {v33 : (List Int)}, L2 v31 v32 v33 = some r → LP (cx41 M w0) (q41 M w0 r) [.b 2, .c (cat Try.f41 p41_2)] (cat Try.f41 p41_3) m2 (s41_l4 v1 v3 v19 v31 v32 v33)
abbrev H41_3 (M : Nat → Prop) (w0 : Base) (r : (Bool × (List TFlexState))) (v19 : (List Int)) (v31 : Int) (v33 : (List Int)) (m3 : Nat) (L3 : Int → (List TFlexState) → Option (Bool × (List TFlexState))) : Prop := ∀ {v39 : Int} {v40 : (List TFlexState)}, L3 v39 v40 = some r → LP (cx41 M w0) (q41 M w0 r) [.b 4, .c (cat Try.f41 p41_0)] (cat Try.f41 p41_1) m3 (s41_l7 v19 v31 v33 v39 v40)
variable {K : Kn} {n : Nat} {M : Nat → Prop} {w0 : Base} {r : (Bool × (List TFlexState))} {v1 : (List TFlexState)} {v2 : Int} {v3 : Int} {v16 : Int} {v17 : Int} {v18 : Int} {v19 : (List Int)} {v20 : (List Int)} {v23 : Int} {v24 : Int} {v25 : (List Int)} {v26 : (List Int)} {v27 : Int} {v31 : Int} {v32 : Int} {v33 : (List Int)} {v39 : Int} {v40 : (List TFlexState)} {v41 : Int} {v42 : Bool} {v43 : (List TFlexState)} {m1 : Nat} {L1 : Int → Int → Int → (List Int) → (List Int) → Option (Bool × (List TFlexState))} {m2 : Nat} {L2 : Int → Int → (List Int) → Option (Bool × (List TFlexState))} {m3 : Nat} {L3 : Int → (List TFlexState) → Option (Bool × (List TFlexState))}
theorem g_flex_resolve_j1_ok (hK : KnOk K) (hL1 : H41_1 M w0 r v1 v3 m1 L1) (h : g_flex_resolve_j1 K n v1 v3 v18 L1 v23 v24 v25 v26 = some r) : VE (cx41 M w0) (q41 M w0 r) [.c (cat Try.f41 p41_6), k41_1 M w0 r m1, .b 0, .c (cat Try.f41 p41_4)] .normal (s41_j1 v1 v3 v18 v23 v24 v25 v26) := by
  unfold g_flex_resolve_j1 at h
  exact ve_arr 1 (lp_back (hL1 h))
theorem g_flex_resolve_j6_ok (hK : KnOk K) (hL3 : H41_3 M w0 r v19 v31 v33 m3 L3) (h : g_flex_resolve_j6 K n v19 v31 v33 v39 L3 v43 = some r) : VE (cx41 M w0) (q41 M w0 r) [.b 5, .c (cat Try.f41 p41_7), k41_3 M w0 r m3, .b 4, .c (cat Try.f41 p41_0)] .normal (s41_j6 v19 v31 v33 v39 v43) := by
  unfold g_flex_resolve_j6 at h
  exact ve_arr 2 (lp_back (hL3 h))
theorem g_flex_resolve_j5_ok (hK : KnOk K) (hL3 : H41_3 M w0 r v19 v31 v33 m3 L3) (h : g_flex_resolve_j5 K n v19 v31 v33 v39 v40 v41 L3 v42 = some r) : VE (cx41 M w0) (q41 M w0 r) [.c (cat Try.f41 p41_8), .b 5, .c (cat Try.f41 p41_7), k41_3 M w0 r m3, .b 4, .c (cat Try.f41 p41_0)] .normal (s41_j5 v19 v31 v33 v39 v40 v41 v42) := by
  unfold g_flex_resolve_j5 at h
  rcases ite_some h with ⟨h73, h⟩ | ⟨h73, h⟩
  ·
   refine ve_sb 161 h73 ?_
   refine ve_un (ks' := [.c (cat Try.f41 p41_9), .b 5, .c (cat Try.f41 p41_7), k41_3 M w0 r m3, .b 4, .c (cat Try.f41 p41_0)]) 1 ?_
   refine ve_in 5 ?_
   obtain ⟨h74, h⟩ := chk_some h
   refine ot_sp (y_str 0 74 9 7 eTFlexState eTFlexState ({ (List.getD v40 ((List.getD v19 (v39).toNat default)).toNat default) with size := v41 } : TFlexState) (of_decide_eq_true h74) (fun _ => rfl)) ?_
   refine ot_go 8 2 ?_
   refine ot_sp (y_str 0 74 9 8 eTFlexState eTFlexState (L := (List.set v40 ((List.getD v19 (v39).toNat default)).toNat ({ (List.getD v40 ((List.getD v19 (v39).toNat default)).toNat default) with size := v41 } : TFlexState))) (j := ((List.getD v19 (v39).toNat default)).toNat) ({ (List.getD (List.set v40 ((List.getD v19 (v39).toNat default)).toNat ({ (List.getD v40 ((List.getD v19 (v39).toNat default)).toNat default) with size := v41 } : TFlexState)) ((List.getD v19 (v39).toNat default)).toNat default) with fixed := true } : TFlexState) (set_lt (of_decide_eq_true h74)) (fun _ => rfl)) ?_
   refine ot_end ?_
   exact ve_arr 0 (g_flex_resolve_j6_ok hK hL3 h)
  ·
   refine ve_sb 161 h73 ?_
   exact ve_arr 2 (g_flex_resolve_j6_ok hK hL3 h)
theorem g_flex_resolve_l7_b_ok (hK : KnOk K) (hL3 : H41_3 M w0 r v19 v31 v33 m3 L3) (h : g_flex_resolve_l7_b K n v19 v31 v33 L3 v39 v40 = some r) : VE (cx41 M w0) (q41 M w0 r) [.c (cat Try.f41 p41_1), k41_3 M w0 r m3, .b 4, .c (cat Try.f41 p41_0)] .normal (s41_l7 v19 v31 v33 v39 v40) := by
  unfold g_flex_resolve_l7_b at h
  refine ve_un (ks' := [.c (cat Try.f41 p41_10), .c (cat Try.f41 p41_11), k41_3 M w0 r m3, .b 4, .c (cat Try.f41 p41_0)]) 3 ?_
  rcases ite_some h with ⟨h60, h⟩ | ⟨h60, h⟩
  ·
   refine ve_sb 120 h60 ?_
   refine ve_un (ks' := [.c (cat Try.f41 p41_12), .c (cat Try.f41 p41_13), .b 5, .c (cat Try.f41 p41_7), k41_3 M w0 r m3, .b 4, .c (cat Try.f41 p41_0)]) 5 ?_
   refine ve_in 1 ?_
   obtain ⟨h61, h⟩ := chk_some h
   refine ot_sp (y_ixr 47 1 (eInt .i64) h61) ?_
   refine ot_sp (y_ldr 3 0 (eInt .i64) (eInt .i64) (inb_spec h61).2 (fun _ => rfl)) ?_
   refine ot_end ?_
   refine ve_un (ks' := [.c (cat Try.f41 p41_14), .c (cat Try.f41 p41_15), .b 5, .c (cat Try.f41 p41_7), k41_3 M w0 r m3, .b 4, .c (cat Try.f41 p41_0)]) 1 ?_
   refine ve_in 2 ?_
   obtain ⟨h62, h⟩ := chk_some h
   refine ot_sp (y_ixr 0 9 eTFlexState h62) ?_
   refine ot_end ?_
   refine ve_un (ks' := [.c (cat Try.f41 p41_16), .c (cat Try.f41 p41_17), .b 5, .c (cat Try.f41 p41_7), k41_3 M w0 r m3, .b 4, .c (cat Try.f41 p41_0)]) 1 ?_
   refine ve_pk [0, 13, 14, 17, 19, 117, 118, 119] [] [0, 47, 1075] ?_
   obtain ⟨h63, h⟩ := chk_some h
   obtain ⟨v41, h64, h⟩ := bind_some h
   refine ve_dr 1 [(127, .eptr 0 9 (((List.getD v19 (v39).toNat default)).toNat) 0), (128, .eptr 0 9 (((List.getD v19 (v39).toNat default)).toNat) 0), (129, .eptr 0 9 (((List.getD v19 (v39).toNat default)).toNat) 0), (130, .agg (eTFlexItem ((List.getD v40 ((List.getD v19 (v39).toNat default)).toNat default).Item))), (131, .ref 1075), (132, .int .i64 v39), (133, .eptr 1075 1 ((v39).toNat) 0), (134, .int .i64 (List.getD v33 (v39).toNat default)), (135, .int .i64 v41)] [] [] [stp Try.prog 170 Try.f41 p41_16 9] (d_vs [.v 0 1, .v 0 1, .v 0 1] (d_c1 (e_v (lo := 0) (y_ldr 34 0 eTFlexState eTFlexState (inb_spec h62).2 (fun _ => rfl))) (d_vs [.v 0 1, .v 0 1] (d_c1 (e_v (lo := 0) (y_ixr 1075 1 (eInt .i64) (L := v33) (i := v39) (by first | exact h63 | exact Eq.trans (by simp only [List.length_set]) h63))) (d_c1 (e_v (lo := 0) (y_ldr 3 0 (eInt .i64) (eInt .i64) (inb_spec h63).2 (fun _ => rfl))) (d_c1 (e_c 0 1 135 (g_flex_clamp_ok hK h64)) (d_c1 (e_d 0) (d_nl)))))))) ?_
   refine ve_un (ks' := [.c (cat Try.f41 p41_18), .c (cat Try.f41 p41_8), .b 5, .c (cat Try.f41 p41_7), k41_3 M w0 r m3, .b 4, .c (cat Try.f41 p41_0)]) 1 ?_
   refine ve_in 3 ?_
   rcases ite_some h with ⟨h65, h⟩ | ⟨h65, h⟩
   ·
    refine ot_sb 138 h65 ?_
    refine ot_end ?_
    exact ve_arr 0 (g_flex_resolve_j5_ok hK hL3 h)
   ·
    refine ot_sb 138 h65 ?_
    refine ot_go 6 3 ?_
    rcases ite_some h with ⟨h66, h⟩ | ⟨h66, h⟩
    ·
     refine ot_sb 141 h66 ?_
     refine ot_go 9 3 ?_
     obtain ⟨h67, h⟩ := chk_some h
     refine ot_sp (y_ixr 1075 1 (eInt .i64) h67) ?_
     refine ot_sp (y_ldr 3 0 (eInt .i64) (eInt .i64) (inb_spec h67).2 (fun _ => rfl)) ?_
     refine ot_go 15 4 ?_
     rcases ite_some h with ⟨h68, h⟩ | ⟨h68, h⟩
     ·
      refine ot_sb 150 h68 ?_
      refine ot_end ?_
      exact ve_arr 0 (g_flex_resolve_j5_ok hK hL3 h)
     ·
      refine ot_sb 150 h68 ?_
      refine ot_go 18 3 ?_
      rcases ite_some h with ⟨h69, h⟩ | ⟨h69, h⟩
      ·
       refine ot_sb 153 h69 ?_
       refine ot_go 21 3 ?_
       obtain ⟨h70, h⟩ := chk_some h
       refine ot_sp (y_ixr 1075 1 (eInt .i64) h70) ?_
       refine ot_sp (y_ldr 3 0 (eInt .i64) (eInt .i64) (inb_spec h70).2 (fun _ => rfl)) ?_
       refine ot_end ?_
       exact ve_arr 0 (g_flex_resolve_j5_ok hK hL3 h)
      ·
       refine ot_sb 153 h69 ?_
       refine ot_end ?_
       exact ve_arr 0 (g_flex_resolve_j5_ok hK hL3 h)
    ·
     refine ot_sb 141 h66 ?_
     refine ot_go 18 12 ?_
     rcases ite_some h with ⟨h71, h⟩ | ⟨h71, h⟩
     ·
      refine ot_sb 153 h71 ?_
      refine ot_go 21 3 ?_
      obtain ⟨h72, h⟩ := chk_some h
      refine ot_sp (y_ixr 1075 1 (eInt .i64) h72) ?_
      refine ot_sp (y_ldr 3 0 (eInt .i64) (eInt .i64) (inb_spec h72).2 (fun _ => rfl)) ?_
      refine ot_end ?_
      exact ve_arr 0 (g_flex_resolve_j5_ok hK hL3 h)
     ·
      refine ot_sb 153 h71 ?_
      refine ot_end ?_
      exact ve_arr 0 (g_flex_resolve_j5_ok hK hL3 h)
  ·
   refine ve_sb 120 h60 ?_
   refine ve_rt 8 ?_
   have hr := Option.some.inj h
   subst hr
   exact ve_o1
theorem g_flex_resolve_l7_ok (hK : KnOk K) (m : Nat) : H41_3 M w0 r v19 v31 v33 m (g_flex_resolve_l7 K n v19 v31 v33 m) := by
  induction m with
 | zero => intro v39 v40 h; cases h
 | succ m ih => intro v39 v40 h; have h : g_flex_resolve_l7_b K n v19 v31 v33 (g_flex_resolve_l7 K n v19 v31 v33 m) v39 v40 = some r := h; exact lp_round (g_flex_resolve_l7_b_ok hK ih h)
theorem g_flex_resolve_l4_b_ok (hK : KnOk K) (hL2 : H41_2 M w0 r v1 v3 v19 m2 L2) (h : g_flex_resolve_l4_b K n v1 v3 v19 L2 v31 v32 v33 = some r) : VE (cx41 M w0) (q41 M w0 r) [.c (cat Try.f41 p41_3), k41_2 M w0 r m2, .b 2, .c (cat Try.f41 p41_2)] .normal (s41_l4 v1 v3 v19 v31 v32 v33) := by
  unfold g_flex_resolve_l4_b at h
  refine ve_un (ks' := [.c (cat Try.f41 p41_19), .c (cat Try.f41 p41_20), k41_2 M w0 r m2, .b 2, .c (cat Try.f41 p41_2)]) 3 ?_
  rcases ite_some h with ⟨h35, h⟩ | ⟨h35, h⟩
  ·
   refine ve_sb 79 h35 ?_
   refine ve_un (ks' := [.c (cat Try.f41 p41_21), .c (cat Try.f41 p41_22), .b 3, .c (cat Try.f41 p41_23), k41_2 M w0 r m2, .b 2, .c (cat Try.f41 p41_2)]) 5 ?_
   refine ve_in 1 ?_
   obtain ⟨h36, h⟩ := chk_some h
   refine ot_sp (y_ixr 47 1 (eInt .i64) h36) ?_
   refine ot_sp (y_ldr 3 0 (eInt .i64) (eInt .i64) (inb_spec h36).2 (fun _ => rfl)) ?_
   refine ot_end ?_
   refine ve_un (ks' := [.c (cat Try.f41 p41_24), .c (cat Try.f41 p41_25), .b 3, .c (cat Try.f41 p41_23), k41_2 M w0 r m2, .b 2, .c (cat Try.f41 p41_2)]) 1 ?_
   refine ve_pk [0, 2, 9, 13, 14, 15, 16, 76, 77, 78] [] [0, 47, 1075] ?_
   obtain ⟨h37, h⟩ := chk_some h
   obtain ⟨h38, h⟩ := chk_some h
   obtain ⟨h39, h⟩ := chk_some h
   refine ve_dr 1 [(83, .ref 1075), (84, .int .i64 v32), (85, .ref 0), (86, .int .i64 (List.getD v19 (v32).toNat default)), (87, .eptr 0 9 (((List.getD v19 (v32).toNat default)).toNat) 0), (88, .eptr 0 9 (((List.getD v19 (v32).toNat default)).toNat) 0), (89, .eptr 0 9 (((List.getD v19 (v32).toNat default)).toNat) 0), (90, .int .i64 (((List.getD v1 ((List.getD v19 (v32).toNat default)).toNat default).Item).Base)), (91, .int .i64 v3), (92, .ref 1075), (93, .int .i64 v32), (94, .eptr 1075 1 ((v32).toNat) 0), (95, .int .i64 (List.getD v33 (v32).toNat default)), (96, .int .i64 (w64 (v3 * (List.getD v33 (v32).toNat default)))), (97, .int .i64 (w64 ((((List.getD v1 ((List.getD v19 (v32).toNat default)).toNat default).Item).Base) + (w64 (v3 * (List.getD v33 (v32).toNat default)))))), (98, .eptr 1075 1 ((v32).toNat) 0)] [] [] [strS 1075 ⟨3, 1, List.map (eInt .i64) (List.set v33 (v32).toNat (w64 ((((List.getD v1 ((List.getD v19 (v32).toNat default)).toNat default).Item).Base) + (w64 (v3 * (List.getD v33 (v32).toNat default))))))⟩] (d_vs [.v 0 1, .v 0 1, .v 0 1, .v 0 1] (d_c1 (e_v (lo := 0) (y_ixr 0 9 eTFlexState (L := v1) (i := (List.getD v19 (v32).toNat default)) (by first | exact h37 | exact Eq.trans (by simp only [List.length_set]) h37))) (d_vs [.v 0 1, .v 0 1] (d_c1 (e_v (lo := 0) (y_ldr 3 0 eTFlexState eTFlexState (inb_spec h37).2 (fun _ => rfl))) (d_vs [.v 0 1, .v 0 1, .v 0 1] (d_c1 (e_v (lo := 0) (y_ixr 1075 1 (eInt .i64) (L := v33) (i := v32) (by first | exact h38 | exact Eq.trans (by simp only [List.length_set]) h38))) (d_c1 (e_v (lo := 0) (y_ldr 3 0 (eInt .i64) (eInt .i64) (inb_spec h39).2 (fun _ => rfl))) (d_vs [.v 0 1, .v 0 1] (d_c1 (e_v (lo := 0) (y_ixr 1075 1 (eInt .i64) (L := v33) (i := v32) (by first | exact h39 | exact Eq.trans (by simp only [List.length_set]) h39))) (d_c1 (e_s (m := 0) (y_str 1075 3 1 0 (eInt .i64) (eInt .i64) (w64 ((((List.getD v1 ((List.getD v19 (v32).toNat default)).toNat default).Item).Base) + (w64 (v3 * (List.getD v33 (v32).toNat default))))) (inb_spec h39).2 (fun _ => rfl))) (d_nl))))))))))) ?_
   obtain ⟨v34, h40, h⟩ := bind_some h
   have h40 := Option.some.inj h40
   refine ve_go (ks' := [.c (cat Try.f41 p41_25), .b 3, .c (cat Try.f41 p41_23), k41_2 M w0 r m2, .b 2, .c (cat Try.f41 p41_2)]) 0 ⟨[(0,.ref 0),(2,.int .i64 v3),(9,.ref 47),(13,.int .i64 v31),(14,.ref 1075),(15,.int .i64 v32),(16,.int .i64 (List.getD v19 (v32).toNat default)),(76,.ref 47),(77,.int .i64 (v19.length : Int)),(78,.int .i64 v32)],[],[(0,⟨74,9,List.map eTFlexState v1⟩),(47,⟨3,1,List.map (eInt .i64) v19⟩),(1075,⟨3,1,List.map (eInt .i64) v34⟩)],[0,47,1075,1000000,0]⟩ ?_ (by subst h40; kernel_rfl)
   obtain ⟨h41, h⟩ := chk_some h
   obtain ⟨h42, h⟩ := chk_some h
   obtain ⟨v35, h43, h⟩ := bind_some h
   obtain ⟨h44, h⟩ := chk_some h
   refine ve_dr 1 [(99, .int .i64 v31), (100, .ref 0), (101, .int .i64 (List.getD v19 (v32).toNat default)), (102, .eptr 0 9 (((List.getD v19 (v32).toNat default)).toNat) 0), (103, .eptr 0 9 (((List.getD v19 (v32).toNat default)).toNat) 0), (104, .agg (eTFlexItem ((List.getD v1 ((List.getD v19 (v32).toNat default)).toNat default).Item))), (105, .ref 1075), (106, .int .i64 v32), (107, .eptr 1075 1 ((v32).toNat) 0), (108, .int .i64 (List.getD v34 (v32).toNat default)), (109, .int .i64 v35), (110, .ref 1075), (111, .int .i64 v32), (112, .eptr 1075 1 ((v32).toNat) 0), (113, .int .i64 (List.getD v34 (v32).toNat default)), (114, .int .i64 (w64 (v35 - (List.getD v34 (v32).toNat default)))), (115, .int .i64 (w64 (v31 + (w64 (v35 - (List.getD v34 (v32).toNat default))))))] [] [] [stp Try.prog 170 Try.f41 p41_25 17] (d_vs [.v 0 1, .v 0 1, .v 0 1] (d_c1 (e_v (lo := 0) (y_ixr 0 9 eTFlexState (L := v1) (i := (List.getD v19 (v32).toNat default)) (by first | exact h41 | exact Eq.trans (by simp only [List.length_set]) h41))) (d_vs [.v 0 1] (d_c1 (e_v (lo := 0) (y_ldr 34 0 eTFlexState eTFlexState (inb_spec h41).2 (fun _ => rfl))) (d_vs [.v 0 1, .v 0 1] (d_c1 (e_v (lo := 0) (y_ixr 1075 1 (eInt .i64) (L := v34) (i := v32) (by first | exact h42 | exact Eq.trans (by simp only [List.length_set]) h42))) (d_c1 (e_v (lo := 0) (y_ldr 3 0 (eInt .i64) (eInt .i64) (inb_spec h44).2 (fun _ => rfl))) (d_c1 (e_c 0 1 109 (g_flex_clamp_ok hK h43)) (d_vs [.v 0 1, .v 0 1] (d_c1 (e_v (lo := 0) (y_ixr 1075 1 (eInt .i64) (L := v34) (i := v32) (by first | exact h44 | exact Eq.trans (by simp only [List.length_set]) h44))) (d_c1 (e_v (lo := 0) (y_ldr 3 0 (eInt .i64) (eInt .i64) (inb_spec h44).2 (fun _ => rfl))) (d_vs [.v 0 1, .v 0 1] (d_c1 (e_d 0) (d_nl)))))))))))))) ?_
   exact ve_arr 2 (lp_back (hL2 h))
  ·
   refine ve_sb 79 h35 ?_
   refine ve_un (ks' := [.c (cat Try.f41 p41_26), .c (cat Try.f41 p41_27), .c (cat Try.f41 p41_0)]) 7 ?_
   refine ve_in 1 ?_
   refine ot_sp (y_len (eInt .i64) v19) ?_
   refine ot_end ?_
   exact ve_arr 1 (lp_en (p := p41_28) n (g_flex_resolve_l7_ok hK n h))
theorem g_flex_resolve_l4_ok (hK : KnOk K) (m : Nat) : H41_2 M w0 r v1 v3 v19 m (g_flex_resolve_l4 K n v1 v3 v19 m) := by
  induction m with
 | zero => intro v31 v32 v33 h; cases h
 | succ m ih => intro v31 v32 v33 h; have h : g_flex_resolve_l4_b K n v1 v3 v19 (g_flex_resolve_l4 K n v1 v3 v19 m) v31 v32 v33 = some r := h; exact lp_round (g_flex_resolve_l4_b_ok hK ih h)
theorem g_flex_resolve_j3_ok (hK : KnOk K) (h : g_flex_resolve_j3 K n v1 v3 v19 v20 v27 = some r) : VE (cx41 M w0) (q41 M w0 r) [.c (cat Try.f41 p41_29)] .normal (s41_j3 v1 v3 v19 v20 v27) := by
  unfold g_flex_resolve_j3 at h
  refine ve_un (ks' := [.c (cat Try.f41 p41_30), .c (cat Try.f41 p41_31)]) 3 ?_
  refine ve_in 2 ?_
  refine ot_f 52 ?_
  obtain ⟨v28, h24, h⟩ := bind_some h
  refine ot_co 1075 (g_flex_Share_ok hK h24) (one_ref 21) ?_
  refine ot_end ?_
  refine ve_un (ks' := [.c (cat Try.f41 p41_32), .c (cat Try.f41 p41_33), .c (cat Try.f41 p41_2)]) 2 ?_
  refine ve_in 1 ?_
  refine ot_sp (y_len (eInt .i64) v19) ?_
  refine ot_end ?_
  exact ve_arr 1 (lp_en (p := p41_34) n (g_flex_resolve_l4_ok hK n h))
theorem g_flex_resolve_l2_b_ok (hK : KnOk K) (hL1 : H41_1 M w0 r v1 v3 m1 L1) (h : g_flex_resolve_l2_b K n v1 v3 L1 v16 v17 v18 v19 v20 = some r) : VE (cx41 M w0) (q41 M w0 r) [.c (cat Try.f41 p41_5), k41_1 M w0 r m1, .b 0, .c (cat Try.f41 p41_4)] .normal (s41_l2 v1 v3 v16 v17 v18 v19 v20) := by
  unfold g_flex_resolve_l2_b at h
  refine ve_un (ks' := [.c (cat Try.f41 p41_35), .c (cat Try.f41 p41_36), k41_1 M w0 r m1, .b 0, .c (cat Try.f41 p41_4)]) 3 ?_
  rcases ite_some h with ⟨h15, h⟩ | ⟨h15, h⟩
  ·
   refine ve_sb 25 h15 ?_
   refine ve_un (ks' := [.c (cat Try.f41 p41_37), .c (cat Try.f41 p41_38), .b 1, .c (cat Try.f41 p41_6), k41_1 M w0 r m1, .b 0, .c (cat Try.f41 p41_4)]) 5 ?_
   refine ve_in 1 ?_
   obtain ⟨h16, h⟩ := chk_some h
   refine ot_sp (y_ixr 0 9 eTFlexState h16) ?_
   refine ot_sp (y_ldr 74 0 eTFlexState eTFlexState (inb_spec h16).2 (fun _ => rfl)) ?_
   refine ot_end ?_
   refine ve_un (ks' := [.c (cat Try.f41 p41_39), .c (cat Try.f41 p41_40), .b 1, .c (cat Try.f41 p41_6), k41_1 M w0 r m1, .b 0, .c (cat Try.f41 p41_4)]) 3 ?_
   rcases ite_some h with ⟨h17, h⟩ | ⟨h17, h⟩
   ·
    refine ve_sb 30 h17 ?_
    exact ve_arr 6 (g_flex_resolve_j1_ok hK hL1 h)
   ·
    refine ve_sb 30 h17 ?_
    obtain ⟨v21, h18, h⟩ := bind_some h
    have h18 := Option.some.inj h18
    obtain ⟨v22, h19, h⟩ := bind_some h
    have h19 := Option.some.inj h19
    refine ve_go (ks' := [.c (cat Try.f41 p41_41), .c (cat Try.f41 p41_42), .b 1, .c (cat Try.f41 p41_6), k41_1 M w0 r m1, .b 0, .c (cat Try.f41 p41_4)]) 7 ⟨[(0,.ref 0),(2,.int .i64 v3),(7,.int .i64 v21),(8,.int .i64 v22),(9,.ref 47),(10,.ref 52),(11,.int .i64 v18),(12,.ptr 12 0),(22,.ref 0),(23,.int .i64 (v1.length : Int)),(24,.int .i64 v18)],[(12,eTFlexState (List.getD v1 (v18).toNat default))],[(0,⟨74,9,List.map eTFlexState v1⟩),(47,⟨3,1,List.map (eInt .i64) v19⟩),(52,⟨3,1,List.map (eInt .i64) v20⟩)],[12,0,47,52,1000000,0]⟩ ?_ (by subst h19; subst h18; kernel_rfl)
    refine ve_in 3 ?_
    obtain ⟨h20, h⟩ := chk_some h
    refine ot_sp (y_app 47 47 3 1 (eInt .i64) (rfl) (fun _ => rfl) h20) ?_
    refine ot_end ?_
    refine ve_in 4 ?_
    obtain ⟨h21, h⟩ := chk_some h
    refine ot_sp (y_app 52 52 3 1 (eInt .i64) (rfl) (fun _ => rfl) h21) ?_
    refine ot_end ?_
    exact ve_arr 1 (g_flex_resolve_j1_ok hK hL1 h)
  ·
   refine ve_sb 25 h15 ?_
   refine ve_un (ks' := [.c (cat Try.f41 p41_43), .c (cat Try.f41 p41_44), .c (cat Try.f41 p41_45)]) 7 ?_
   refine ve_in 1 ?_
   refine ot_sp (y_len (eInt .i64) v19) ?_
   refine ot_end ?_
   rcases ite_some h with ⟨h22, h⟩ | ⟨h22, h⟩
   ·
    refine ve_sb 56 h22 ?_
    refine ve_rt 5 ?_
    have hr := Option.some.inj h
    subst hr
    exact ve_o1
   ·
    refine ve_sb 56 h22 ?_
    refine ve_un (ks' := [.c (cat Try.f41 p41_46), .c (cat Try.f41 p41_29)]) 7 ?_
    rcases ite_some h with ⟨h23, h⟩ | ⟨h23, h⟩
    ·
     refine ve_sb 62 h23 ?_
     exact ve_arr 2 (g_flex_resolve_j3_ok hK h)
    ·
     refine ve_sb 62 h23 ?_
     exact ve_arr 2 (g_flex_resolve_j3_ok hK h)
theorem g_flex_resolve_l2_ok (hK : KnOk K) (m : Nat) : H41_1 M w0 r v1 v3 m (g_flex_resolve_l2 K n v1 v3 m) := by
  induction m with
 | zero => intro v16 v17 v18 v19 v20 h; cases h
 | succ m ih => intro v16 v17 v18 v19 v20 h; have h : g_flex_resolve_l2_b K n v1 v3 (g_flex_resolve_l2 K n v1 v3 m) v16 v17 v18 v19 v20 = some r := h; exact lp_round (g_flex_resolve_l2_b_ok hK ih h)
theorem g_flex_resolve_ok (hK : KnOk K) (h : g_flex_resolve K n v1 v2 v3 = some r) : AIO Try.prog 41 [.ref 0, .int .i64 v2, .int .i64 v3] 0 ⟨74, 9, List.map eTFlexState v1⟩ (fun v s => v = .bool r.1 ∧ look 0 s.r = some ⟨74, 9, List.map eTFlexState r.2⟩) := by
  refine aio_intro (c := cat Try.f41 []) Try.func41 (by kernel_rfl) _ Try.ntmps41 (of_decide_eq_true (by kernel_rfl)) fun M w0 => ?_
  refine ve_cast (s' := ⟨[(0,.ref 0),(1,.int .i64 v2),(2,.int .i64 v3)],[],[(0,⟨74,9,List.map eTFlexState v1⟩)],[0,1000000]⟩) (by kernel_rfl) ?_
  unfold g_flex_resolve at h
  refine ve_un (ks' := [.c (cat Try.f41 p41_47), .c (cat Try.f41 p41_48), .c (cat Try.f41 p41_4)]) 8 ?_
  refine ve_in 1 ?_
  refine ot_sp (y_len eTFlexState v1) ?_
  refine ot_end ?_
  refine ve_un (ks' := [.c (cat Try.f41 p41_49), .b 0, .c (cat Try.f41 p41_4)]) 1 ?_
  refine ve_w 47 9 3 1 ?_
  refine ve_w 52 10 3 1 ?_
  exact ve_arr 0 (lp_en (p := p41_49) n (g_flex_resolve_l2_ok hK n h))
end
def p18_0 : List Nat := ones 11 []
def p18_1 : List Nat := ones 10 [0, 1, 0, 0]
def p18_2 : List Nat := ones 9 []
def p18_3 : List Nat := ones 8 [0, 0, 0]
def p18_4 : List Nat := ones 8 []
def p18_5 : List Nat := ones 7 [0, 1, 0, 0]
def p18_6 : List Nat := ones 5 []
def p18_7 : List Nat := [1, 1, 1, 1, 0, 1, 0, 0]
def p18_8 : List Nat := ones 7 [0, 1, 0, 0, 1, 1, 1]
def p18_9 : List Nat := ones 7 [0, 1, 0, 0, 1, 1, 0, 0, 1, 1, 1]
def p18_10 : List Nat := ones 10 [0, 1, 0, 0, 1, 0]
def p18_11 : List Nat := ones 10 [0, 1, 0, 0, 1, 1]
def p18_12 : List Nat := ones 10 [0, 1, 0, 0, 1, 1, 0, 0, 0]
def p18_13 : List Nat := ones 10 [0, 1, 0, 0, 1, 1, 0, 0, 1]
def p18_14 : List Nat := ones 10 [0, 1, 0, 0, 1, 1, 1]
def p18_15 : List Nat := ones 8 [0, 0, 0, 0, 0]
def p18_16 : List Nat := ones 8 [0, 0, 0, 0, 1]
def p18_17 : List Nat := ones 8 [0, 0, 0, 1]
def p18_18 : List Nat := ones 9 [0]
def p18_19 : List Nat := ones 10 []
def p18_20 : List Nat := ones 10 [0, 0]
def p18_21 : List Nat := ones 10 [0, 1]
def p18_22 : List Nat := ones 10 [0, 1, 0]
def p18_23 : List Nat := ones 7 [0, 1, 0, 0, 1, 0]
def p18_24 : List Nat := ones 7 [0, 1, 0, 0, 1, 1]
def p18_25 : List Nat := ones 7 [0, 1, 0, 0, 1, 1, 0, 0, 1, 0]
def p18_26 : List Nat := ones 7 [0, 1, 0, 0, 1, 1, 0, 0, 1, 1]
def p18_27 : List Nat := ones 7 [0, 1, 0, 0, 1, 1, 0, 0, 1, 1, 0, 1]
def p18_28 : List Nat := ones 7 [0, 1, 0, 0, 1, 1, 0, 0, 1, 1, 0, 1, 0, 0]
def p18_29 : List Nat := ones 7 [0, 1, 0, 0, 1, 1, 0, 0, 1, 1, 0, 1, 0, 1]
def p18_30 : List Nat := ones 7 [0, 1, 0, 0, 1, 1, 0, 0, 1, 1, 0, 1, 1, 0]
def p18_31 : List Nat := ones 7 [0, 1, 0, 0, 1, 1, 0, 0, 1, 1, 0, 1, 1, 1]
def p18_32 : List Nat := ones 8 [0, 0]
def p18_33 : List Nat := ones 7 []
def p18_34 : List Nat := ones 7 [0, 0]
def p18_35 : List Nat := ones 7 [0, 1]
def p18_36 : List Nat := ones 7 [0, 1, 0]
def p18_37 : List Nat := [1, 1, 1, 1, 0, 1, 0, 0, 1, 0]
def p18_38 : List Nat := [1, 1, 1, 1, 0, 1, 0, 0, 1, 1]
def p18_39 : List Nat := [1, 1, 1, 1, 0, 1, 0, 0, 1, 1, 0, 0, 0]
def p18_40 : List Nat := [1, 1, 1, 1, 0, 1, 0, 0, 1, 1, 0, 0, 1]
def p18_41 : List Nat := [1, 1, 1, 1, 0, 1, 0, 0, 1, 1, 1]
def p18_42 : List Nat := [1, 1, 1, 1, 0, 1, 0, 0, 1, 1, 0, 0, 1, 0]
def p18_43 : List Nat := [1, 1, 1, 1, 0, 1, 0, 0, 1, 1, 0, 0, 1, 1]
def p18_44 : List Nat := ones 6 [0, 1]
def p18_45 : List Nat := [1, 1, 1, 1, 0, 0]
def p18_46 : List Nat := [1, 1, 1, 1, 0, 1]
def p18_47 : List Nat := [1, 1, 1, 1, 0, 1, 0]
noncomputable section
abbrev cx18 (M : Nat → Prop) (w0 : Base) : Cx := ⟨Try.prog, 158, M, w0⟩
abbrev q18 (M : Nat → Prop) (w0 : Base) (r : (List Int)) := bodyPost Try.prog Try.f18 (RetQ M w0 (fun v s => v = .ref 143 ∧ look 143 s.r = some ⟨3, 1, List.map (eInt .i64) r⟩))
abbrev k18_4 (M : Nat → Prop) (w0 : Base) (r : (List Int)) (m4 : Nat) : Kont := kl (cx18 M w0) (q18 M w0 r) [.b 6, .c (cat Try.f18 p18_0)] (cat Try.f18 p18_1) m4
abbrev k18_3 (M : Nat → Prop) (w0 : Base) (r : (List Int)) (m3 : Nat) : Kont := kl (cx18 M w0) (q18 M w0 r) [.b 4, .c (cat Try.f18 p18_2)] (cat Try.f18 p18_3) m3
abbrev k18_2 (M : Nat → Prop) (w0 : Base) (r : (List Int)) (m2 : Nat) : Kont := kl (cx18 M w0) (q18 M w0 r) [.b 2, .c (cat Try.f18 p18_4)] (cat Try.f18 p18_5) m2
abbrev k18_1 (M : Nat → Prop) (w0 : Base) (r : (List Int)) (m1 : Nat) : Kont := kl (cx18 M w0) (q18 M w0 r) [.b 0, .c (cat Try.f18 p18_6)] (cat Try.f18 p18_7) m1
def s18_j4 (v3 : Int) (v10 : (List TFlexState)) (v14 : Int) (v19 : Int) (v24 : (List TFlexState)) : AS := ⟨[(1,.int .i64 v3),(5,.ref 20),(9,.int .i64 v14),(48,.int .i64 (v10.length : Int)),(49,.int .i64 v19)],[],[(20,⟨74,9,List.map eTFlexState v24⟩)],[20]⟩
def s18_j3 (v3 : Int) (v10 : (List TFlexState)) (v14 : Int) (v19 : Int) (v23 : (List TFlexState)) : AS := ⟨[(1,.int .i64 v3),(5,.ref 20),(9,.int .i64 v14),(11,.eptr 20 9 ((v19).toNat) 0),(48,.int .i64 (v10.length : Int)),(49,.int .i64 v19)],[],[(20,⟨74,9,List.map eTFlexState v23⟩)],[20]⟩
def s18_l7 (v27 : (Bool × (List TFlexState))) (v29 : Int) (v30 : (List Int)) : AS := ⟨[(12,.ref 143),(144,.ref 20),(145,.int .i64 (v27.2.length : Int)),(146,.int .i64 v29)],[],[(20,⟨74,9,List.map eTFlexState v27.2⟩),(143,⟨3,1,List.map (eInt .i64) v30⟩)],[20,143]⟩
def s18_l6 (v3 : Int) (v14 : Int) (v26 : (List TFlexState)) : AS := ⟨[(1,.int .i64 v3),(5,.ref 20),(9,.int .i64 v14)],[],[(20,⟨74,9,List.map eTFlexState v26⟩)],[20]⟩
def s18_l5 (v3 : Int) (v10 : (List TFlexState)) (v14 : Int) (v19 : Int) (v20 : (List TFlexState)) : AS := ⟨[(1,.int .i64 v3),(5,.ref 20),(9,.int .i64 v14),(48,.int .i64 (v10.length : Int)),(49,.int .i64 v19)],[],[(20,⟨74,9,List.map eTFlexState v20⟩)],[20]⟩
def s18_j2 (v3 : Int) (v10 : (List TFlexState)) (v14 : Int) : AS := ⟨[(1,.int .i64 v3),(5,.ref 20),(9,.int .i64 v14)],[],[(20,⟨74,9,List.map eTFlexState v10⟩)],[20]⟩
def s18_l1 (v1 : (List TFlexItem)) (v3 : Int) (v8 : Int) (v9 : Int) (v10 : (List TFlexState)) : AS := ⟨[(1,.int .i64 v3),(5,.ref 20),(6,.int .i64 v8),(21,.sl (List.map eTFlexItem v1)),(22,.int .i64 (v1.length : Int)),(23,.int .i64 v9)],[],[(20,⟨74,9,List.map eTFlexState v10⟩)],[20]⟩
abbrev H18_1 (M : Nat → Prop) (w0 : Base) (r : (List Int)) (v1 : (List TFlexItem)) (v3 : Int) (m1 : Nat) (L1 : Int → Int → (List TFlexState) → Option (List Int)) : Prop := ∀ {v8 : Int} {v9 : Int} {v10 : (List TFlexState)}, L1 v8 v9 v10 = some r → LP (cx18 M w0) (q18 M w0 r) [.b 0, .c (cat Try.f18 p18_6)] (cat Try.f18 p18_7) m1 (s18_l1 v1 v3 v8 v9 v10)
abbrev H18_2 (M : Nat → Prop) (w0 : Base) (r : (List Int)) (v3 : Int) (v10 : (List TFlexState)) (v14 : Int) (m2 : Nat) (L2 : Int → (List TFlexState) → Option (List Int)) : Prop := ∀ {v19 : Int} {v20 : (List TFlexState)}, L2 v19 v20 = some r → LP (cx18 M w0) (q18 M w0 r) [.b 2, .c (cat Try.f18 p18_4)] (cat Try.f18 p18_5) m2 (s18_l5 v3 v10 v14 v19 v20)
abbrev H18_3 (M : Nat → Prop) (w0 : Base) (r : (List Int)) (v3 : Int) (v14 : Int) (m3 : Nat) (L3 : (List TFlexState) → Option (List Int)) : Prop := ∀ {v26 : (List TFlexState)}, L3 v26 = some r → LP (cx18 M w0) (q18 M w0 r) [.b 4, .c (cat Try.f18 p18_2)] (cat Try.f18 p18_3) m3 (s18_l6 v3 v14 v26)
abbrev H18_4 (M : Nat → Prop) (w0 : Base) (r : (List Int)) (v27 : (Bool × (List TFlexState))) (m4 : Nat) (L4 : Int → (List Int) → Option (List Int)) : Prop := ∀ {v29 : Int} {v30 : (List Int)}, L4 v29 v30 = some r → LP (cx18 M w0) (q18 M w0 r) [.b 6, .c (cat Try.f18 p18_0)] (cat Try.f18 p18_1) m4 (s18_l7 v27 v29 v30)
variable {K : Kn} {n : Nat} {M : Nat → Prop} {w0 : Base} {r : (List Int)} {v1 : (List TFlexItem)} {v2 : Int} {v3 : Int} {v8 : Int} {v9 : Int} {v10 : (List TFlexState)} {v14 : Int} {v19 : Int} {v20 : (List TFlexState)} {v23 : (List TFlexState)} {v24 : (List TFlexState)} {v26 : (List TFlexState)} {v27 : (Bool × (List TFlexState))} {v29 : Int} {v30 : (List Int)} {m1 : Nat} {L1 : Int → Int → (List TFlexState) → Option (List Int)} {m2 : Nat} {L2 : Int → (List TFlexState) → Option (List Int)} {m3 : Nat} {L3 : (List TFlexState) → Option (List Int)} {m4 : Nat} {L4 : Int → (List Int) → Option (List Int)}
theorem g_flex_Resolve_j4_ok (hK : KnOk K) (hL2 : H18_2 M w0 r v3 v10 v14 m2 L2) (h : g_flex_Resolve_j4 K n v3 v10 v14 v19 L2 v24 = some r) : VE (cx18 M w0) (q18 M w0 r) [.b 3, .c (cat Try.f18 p18_8), k18_2 M w0 r m2, .b 2, .c (cat Try.f18 p18_4)] .normal (s18_j4 v3 v10 v14 v19 v24) := by
  unfold g_flex_Resolve_j4 at h
  exact ve_arr 2 (lp_back (hL2 h))
theorem g_flex_Resolve_j3_ok (hK : KnOk K) (hL2 : H18_2 M w0 r v3 v10 v14 m2 L2) (h : g_flex_Resolve_j3 K n v3 v10 v14 v19 L2 v23 = some r) : VE (cx18 M w0) (q18 M w0 r) [.c (cat Try.f18 p18_9), .b 3, .c (cat Try.f18 p18_8), k18_2 M w0 r m2, .b 2, .c (cat Try.f18 p18_4)] .normal (s18_j3 v3 v10 v14 v19 v23) := by
  unfold g_flex_Resolve_j3 at h
  refine ve_in 4 ?_
  obtain ⟨h31, h⟩ := chk_some h
  refine ot_sp (y_ldr 4 8 eTFlexState eTFlexState (of_decide_eq_true h31) (fun _ => rfl)) ?_
  refine ot_go 6 1 ?_
  rcases ite_some h with ⟨h32, h⟩ | ⟨h32, h⟩
  ·
   refine ot_sb 127 h32 ?_
   refine ot_go 14 8 ?_
   refine ot_sp (y_str 20 74 9 8 eTFlexState eTFlexState ({ (List.getD v23 (v19).toNat default) with fixed := true } : TFlexState) (of_decide_eq_true h31) (fun _ => rfl)) ?_
   refine ot_end ?_
   exact ve_arr 0 (g_flex_Resolve_j4_ok hK hL2 h)
  ·
   refine ot_sb 127 h32 ?_
   refine ot_go 9 3 ?_
   refine ot_sp (y_ldr 3 5 eTFlexState eTFlexState (of_decide_eq_true h31) (fun _ => rfl)) ?_
   refine ot_go 14 4 ?_
   refine ot_sp (y_str 20 74 9 8 eTFlexState eTFlexState ({ (List.getD v23 (v19).toNat default) with fixed := (((List.getD v23 (v19).toNat default).factor) == 0) } : TFlexState) (of_decide_eq_true h31) (fun _ => rfl)) ?_
   refine ot_end ?_
   exact ve_arr 0 (g_flex_Resolve_j4_ok hK hL2 h)
theorem g_flex_Resolve_l7_b_ok (hK : KnOk K) (hL4 : H18_4 M w0 r v27 m4 L4) (h : g_flex_Resolve_l7_b K n v27 L4 v29 v30 = some r) : VE (cx18 M w0) (q18 M w0 r) [.c (cat Try.f18 p18_1), k18_4 M w0 r m4, .b 6, .c (cat Try.f18 p18_0)] .normal (s18_l7 v27 v29 v30) := by
  unfold g_flex_Resolve_l7_b at h
  refine ve_un (ks' := [.c (cat Try.f18 p18_10), .c (cat Try.f18 p18_11), k18_4 M w0 r m4, .b 6, .c (cat Try.f18 p18_0)]) 3 ?_
  rcases ite_some h with ⟨h42, h⟩ | ⟨h42, h⟩
  ·
   refine ve_sb 147 h42 ?_
   refine ve_un (ks' := [.c (cat Try.f18 p18_12), .c (cat Try.f18 p18_13), .b 7, .c (cat Try.f18 p18_14), k18_4 M w0 r m4, .b 6, .c (cat Try.f18 p18_0)]) 5 ?_
   refine ve_in 1 ?_
   obtain ⟨h43, h⟩ := chk_some h
   refine ot_sp (y_ixr 20 9 eTFlexState h43) ?_
   refine ot_sp (y_ldr 74 0 eTFlexState eTFlexState (inb_spec h43).2 (fun _ => rfl)) ?_
   refine ot_end ?_
   refine ve_in 4 ?_
   obtain ⟨h44, h⟩ := chk_some h
   refine ot_sp (y_ixr 143 1 (eInt .i64) h44) ?_
   refine ot_sp (y_str 143 3 1 0 (eInt .i64) (eInt .i64) ((List.getD v27.2 (v29).toNat default).size) (inb_spec h44).2 (fun _ => rfl)) ?_
   refine ot_end ?_
   exact ve_arr 2 (lp_back (hL4 h))
  ·
   refine ve_sb 147 h42 ?_
   refine ve_rt 8 ?_
   have hr := Option.some.inj h
   subst hr
   exact ve_o1
theorem g_flex_Resolve_l7_ok (hK : KnOk K) (m : Nat) : H18_4 M w0 r v27 m (g_flex_Resolve_l7 K n v27 m) := by
  induction m with
 | zero => intro v29 v30 h; cases h
 | succ m ih => intro v29 v30 h; have h : g_flex_Resolve_l7_b K n v27 (g_flex_Resolve_l7 K n v27 m) v29 v30 = some r := h; exact lp_round (g_flex_Resolve_l7_b_ok hK ih h)
theorem g_flex_Resolve_l6_b_ok (hK : KnOk K) (hL3 : H18_3 M w0 r v3 v14 m3 L3) (h : g_flex_Resolve_l6_b K n v3 v14 L3 v26 = some r) : VE (cx18 M w0) (q18 M w0 r) [.c (cat Try.f18 p18_3), k18_3 M w0 r m3, .b 4, .c (cat Try.f18 p18_2)] .normal (s18_l6 v3 v14 v26) := by
  unfold g_flex_Resolve_l6_b at h
  refine ve_un (ks' := [.c (cat Try.f18 p18_15), .c (cat Try.f18 p18_16), .c (cat Try.f18 p18_17), k18_3 M w0 r m3, .b 4, .c (cat Try.f18 p18_2)]) 2 ?_
  refine ve_in 3 ?_
  obtain ⟨v27, h35, h⟩ := bind_some h
  refine ot_io 20 0 (g_flex_resolve_ok hK h35) ?_
  refine ot_end ?_
  rcases ite_some h with ⟨h36, h⟩ | ⟨h36, h⟩
  ·
   refine ve_sb 140 h36 ?_
   exact ve_arr 5 (lp_back (hL3 h))
  ·
   refine ve_sb 140 h36 ?_
   refine ve_un (ks' := [.c (cat Try.f18 p18_18), .c (cat Try.f18 p18_19)]) 6 ?_
   refine ve_in 1 ?_
   refine ot_sp (y_len eTFlexState v27.2) ?_
   obtain ⟨h37, h⟩ := chk_some h
   refine ot_mk (eInt .i64) (0 : Int) 22 (.tmp 142) (.tmp 142) 143 (e := 3) (sz := 1) (zc := [.int .i64 0]) (kd := .i64) (kd' := .i64) h37 ?_
   refine ot_end ?_
   obtain ⟨v28, h38, h⟩ := bind_some h
   have h38 := Option.some.inj h38
   refine ve_go (ks' := [.c (cat Try.f18 p18_20), .c (cat Try.f18 p18_21), .c (cat Try.f18 p18_0)]) 2 ⟨[(5,.ref 20),(12,.ref 143)],[],[(20,⟨74,9,List.map eTFlexState v27.2⟩),(143,⟨3,1,List.map (eInt .i64) v28⟩)],[20,143]⟩ ?_ (by subst h38; kernel_rfl)
   refine ve_in 1 ?_
   refine ot_sp (y_len eTFlexState v27.2) ?_
   refine ot_end ?_
   exact ve_arr 1 (lp_en (p := p18_22) n (g_flex_Resolve_l7_ok hK n h))
theorem g_flex_Resolve_l6_ok (hK : KnOk K) (m : Nat) : H18_3 M w0 r v3 v14 m (g_flex_Resolve_l6 K n v3 v14 m) := by
  induction m with
 | zero => intro v26 h; cases h
 | succ m ih => intro v26 h; have h : g_flex_Resolve_l6_b K n v3 v14 (g_flex_Resolve_l6 K n v3 v14 m) v26 = some r := h; exact lp_round (g_flex_Resolve_l6_b_ok hK ih h)
theorem g_flex_Resolve_l5_b_ok (hK : KnOk K) (hL2 : H18_2 M w0 r v3 v10 v14 m2 L2) (h : g_flex_Resolve_l5_b K n v3 v10 v14 L2 v19 v20 = some r) : VE (cx18 M w0) (q18 M w0 r) [.c (cat Try.f18 p18_5), k18_2 M w0 r m2, .b 2, .c (cat Try.f18 p18_4)] .normal (s18_l5 v3 v10 v14 v19 v20) := by
  unfold g_flex_Resolve_l5_b at h
  refine ve_un (ks' := [.c (cat Try.f18 p18_23), .c (cat Try.f18 p18_24), k18_2 M w0 r m2, .b 2, .c (cat Try.f18 p18_4)]) 3 ?_
  rcases ite_some h with ⟨h26, h⟩ | ⟨h26, h⟩
  ·
   refine ve_sb 50 h26 ?_
   refine ve_un (ks' := [.c (cat Try.f18 p18_25), .c (cat Try.f18 p18_26), .b 3, .c (cat Try.f18 p18_8), k18_2 M w0 r m2, .b 2, .c (cat Try.f18 p18_4)]) 7 ?_
   refine ve_in 2 ?_
   obtain ⟨h27, h⟩ := chk_some h
   refine ot_sp (y_ixr 20 9 eTFlexState h27) ?_
   refine ot_end ?_
   refine ve_un (ks' := [.c (cat Try.f18 p18_27), .c (cat Try.f18 p18_9), .b 3, .c (cat Try.f18 p18_8), k18_2 M w0 r m2, .b 2, .c (cat Try.f18 p18_4)]) 3 ?_
   rcases ite_some h with ⟨h28, h⟩ | ⟨h28, h⟩
   ·
    refine ve_sb 56 h28 ?_
    refine ve_un (ks' := [.c (cat Try.f18 p18_28), .c (cat Try.f18 p18_29), .c (cat Try.f18 p18_9), .b 3, .c (cat Try.f18 p18_8), k18_2 M w0 r m2, .b 2, .c (cat Try.f18 p18_4)]) 2 ?_
    refine ve_pk [1, 5, 9, 11, 48, 49] [] [20] ?_
    refine ve_dr 2 [(57, .eptr 20 9 ((v19).toNat) 0), (58, .eptr 20 9 ((v19).toNat) 0), (59, .eptr 20 9 ((v19).toNat) 0), (60, .eptr 20 9 ((v19).toNat) 0), (61, .eptr 20 9 ((v19).toNat) 0), (62, .eptr 20 9 ((v19).toNat) 1), (63, .int .i64 (((List.getD v20 (v19).toNat default).Item).Grow)), (64, .eptr 20 9 ((v19).toNat) 0), (65, .eptr 20 9 ((v19).toNat) 0), (66, .eptr 20 9 ((v19).toNat) 0), (67, .eptr 20 9 ((v19).toNat) 1), (68, .int .i64 (((List.getD v20 (v19).toNat default).Item).Grow)), (69, .eptr 20 9 ((v19).toNat) 0), (70, .eptr 20 9 ((v19).toNat) 5), (71, .eptr 20 9 ((v19).toNat) 0), (72, .eptr 20 9 ((v19).toNat) 6)] [] [] [strS 20 ⟨74, 9, List.map eTFlexState (List.set v20 (v19).toNat ({ (List.getD v20 (v19).toNat default) with factor := ((List.getD v20 (v19).toNat default).Item).Grow } : TFlexState))⟩, strS 20 ⟨74, 9, List.map eTFlexState (List.set (List.set v20 (v19).toNat ({ (List.getD v20 (v19).toNat default) with factor := ((List.getD v20 (v19).toNat default).Item).Grow } : TFlexState)) (v19).toNat ({ (List.getD (List.set v20 (v19).toNat ({ (List.getD v20 (v19).toNat default) with factor := ((List.getD v20 (v19).toNat default).Item).Grow } : TFlexState)) (v19).toNat default) with weight := ((List.getD v20 (v19).toNat default).Item).Grow } : TFlexState))⟩] (d_vs [.v 0 1, .v 0 2, .v 0 1, .v 0 1, .v 0 1, .v 0 1] (d_c1 (e_v (lo := 0) (y_ldr 3 1 eTFlexState eTFlexState (inb_spec h27).2 (fun _ => rfl))) (d_vs [.v 0 2, .v 0 2, .v 0 2, .v 0 2] (d_c1 (e_v (lo := 0) (y_ldr 3 1 eTFlexState eTFlexState (inb_spec h27).2 (fun _ => rfl))) (d_vs [.v 0 2, .v 0 1] (d_c1 (e_s (m := 0) (y_str 20 74 9 5 eTFlexState eTFlexState ({ (List.getD v20 (v19).toNat default) with factor := ((List.getD v20 (v19).toNat default).Item).Grow } : TFlexState) (inb_spec h27).2 (fun _ => rfl))) (d_vs [.v 1 2, .v 1 1] (d_c1 (e_s (m := 1) (y_str 20 74 9 6 eTFlexState eTFlexState (L := (List.set v20 (v19).toNat ({ (List.getD v20 (v19).toNat default) with factor := ((List.getD v20 (v19).toNat default).Item).Grow } : TFlexState))) (j := (v19).toNat) ({ (List.getD (List.set v20 (v19).toNat ({ (List.getD v20 (v19).toNat default) with factor := ((List.getD v20 (v19).toNat default).Item).Grow } : TFlexState)) (v19).toNat default) with weight := ((List.getD v20 (v19).toNat default).Item).Grow } : TFlexState) (set_lt (inb_spec h27).2) (fun _ => rfl))) (d_nl))))))))) ?_
    obtain ⟨v21, h29, h⟩ := bind_some h
    have h29 := Option.some.inj h29
    refine ve_go (ks' := [.c (cat Try.f18 p18_29), .c (cat Try.f18 p18_9), .b 3, .c (cat Try.f18 p18_8), k18_2 M w0 r m2, .b 2, .c (cat Try.f18 p18_4)]) 0 ⟨[(1,.int .i64 v3),(5,.ref 20),(9,.int .i64 v14),(11,.eptr 20 9 ((v19).toNat) 0),(48,.int .i64 (v10.length : Int)),(49,.int .i64 v19)],[],[(20,⟨74,9,List.map eTFlexState v21⟩)],[20]⟩ ?_ (by subst h29; kernel_rfl)
    refine ve_dr 1 [(73, .eptr 20 9 ((v19).toNat) 0), (74, .eptr 20 9 ((v19).toNat) 0), (75, .eptr 20 9 ((v19).toNat) 0), (76, .eptr 20 9 ((v19).toNat) 0), (77, .eptr 20 9 ((v19).toNat) 0), (78, .int .i64 (((List.getD v21 (v19).toNat default).Item).Base)), (79, .eptr 20 9 ((v19).toNat) 0), (80, .eptr 20 9 ((v19).toNat) 0), (81, .eptr 20 9 ((v19).toNat) 7), (82, .int .i64 ((List.getD v21 (v19).toNat default).size)), (83, .bool (decide ((((List.getD v21 (v19).toNat default).Item).Base) > ((List.getD v21 (v19).toNat default).size)))), (84, .eptr 20 9 ((v19).toNat) 0), (85, .eptr 20 9 ((v19).toNat) 8)] [] [] [strS 20 ⟨74, 9, List.map eTFlexState (List.set v21 (v19).toNat ({ (List.getD v21 (v19).toNat default) with fixed := (decide ((((List.getD v21 (v19).toNat default).Item).Base) > ((List.getD v21 (v19).toNat default).size))) } : TFlexState))⟩] (d_vs [.v 0 1, .v 0 1, .v 0 1, .v 0 1, .v 0 1] (d_c1 (e_v (lo := 0) (y_ldr 3 0 eTFlexState eTFlexState (L := v21) (j := (v19).toNat) (by rw [← h29]; exact (set_lt (set_lt (inb_spec h27).2))) (fun _ => rfl))) (d_vs [.v 0 1, .v 0 1, .v 0 1] (d_c1 (e_v (lo := 0) (y_ldr 3 7 eTFlexState eTFlexState (L := v21) (j := (v19).toNat) (by rw [← h29]; exact (set_lt (set_lt (inb_spec h27).2))) (fun _ => rfl))) (d_vs [.v 0 1, .v 0 2, .v 0 1] (d_c1 (e_s (m := 0) (y_str 20 74 9 8 eTFlexState eTFlexState (L := v21) (j := (v19).toNat) ({ (List.getD v21 (v19).toNat default) with fixed := (decide ((((List.getD v21 (v19).toNat default).Item).Base) > ((List.getD v21 (v19).toNat default).size))) } : TFlexState) (by rw [← h29]; exact (set_lt (set_lt (inb_spec h27).2))) (fun _ => rfl))) (d_nl))))))) ?_
    exact ve_arr 0 (g_flex_Resolve_j3_ok hK hL2 h)
   ·
    refine ve_sb 56 h28 ?_
    refine ve_un (ks' := [.c (cat Try.f18 p18_30), .c (cat Try.f18 p18_31), .c (cat Try.f18 p18_9), .b 3, .c (cat Try.f18 p18_8), k18_2 M w0 r m2, .b 2, .c (cat Try.f18 p18_4)]) 2 ?_
    refine ve_pk [1, 5, 9, 11, 48, 49] [] [20] ?_
    refine ve_dr 2 [(86, .eptr 20 9 ((v19).toNat) 0), (87, .eptr 20 9 ((v19).toNat) 0), (88, .eptr 20 9 ((v19).toNat) 0), (89, .eptr 20 9 ((v19).toNat) 0), (90, .eptr 20 9 ((v19).toNat) 0), (91, .eptr 20 9 ((v19).toNat) 2), (92, .int .i64 (((List.getD v20 (v19).toNat default).Item).Shrink)), (93, .eptr 20 9 ((v19).toNat) 0), (94, .eptr 20 9 ((v19).toNat) 0), (95, .eptr 20 9 ((v19).toNat) 0), (96, .eptr 20 9 ((v19).toNat) 0), (97, .int .i64 (((List.getD v20 (v19).toNat default).Item).Base)), (98, .eptr 20 9 ((v19).toNat) 0), (99, .eptr 20 9 ((v19).toNat) 0), (100, .eptr 20 9 ((v19).toNat) 0), (101, .eptr 20 9 ((v19).toNat) 2), (102, .int .i64 (((List.getD v20 (v19).toNat default).Item).Shrink)), (103, .int .i64 (w64 ((((List.getD v20 (v19).toNat default).Item).Base) * (((List.getD v20 (v19).toNat default).Item).Shrink)))), (104, .int .i64 (w64 (Int.tdiv (w64 ((((List.getD v20 (v19).toNat default).Item).Base) * (((List.getD v20 (v19).toNat default).Item).Shrink))) 1000))), (105, .eptr 20 9 ((v19).toNat) 0), (106, .eptr 20 9 ((v19).toNat) 5), (107, .eptr 20 9 ((v19).toNat) 0), (108, .eptr 20 9 ((v19).toNat) 6)] [] [] [strS 20 ⟨74, 9, List.map eTFlexState (List.set v20 (v19).toNat ({ (List.getD v20 (v19).toNat default) with factor := ((List.getD v20 (v19).toNat default).Item).Shrink } : TFlexState))⟩, strS 20 ⟨74, 9, List.map eTFlexState (List.set (List.set v20 (v19).toNat ({ (List.getD v20 (v19).toNat default) with factor := ((List.getD v20 (v19).toNat default).Item).Shrink } : TFlexState)) (v19).toNat ({ (List.getD (List.set v20 (v19).toNat ({ (List.getD v20 (v19).toNat default) with factor := ((List.getD v20 (v19).toNat default).Item).Shrink } : TFlexState)) (v19).toNat default) with weight := (w64 (Int.tdiv (w64 ((((List.getD v20 (v19).toNat default).Item).Base) * (((List.getD v20 (v19).toNat default).Item).Shrink))) 1000)) } : TFlexState))⟩] (d_vs [.v 0 1, .v 0 2, .v 0 1, .v 0 1, .v 0 1, .v 0 1] (d_c1 (e_v (lo := 0) (y_ldr 3 2 eTFlexState eTFlexState (inb_spec h27).2 (fun _ => rfl))) (d_vs [.v 0 2, .v 0 2, .v 0 2, .v 0 2] (d_c1 (e_v (lo := 0) (y_ldr 3 0 eTFlexState eTFlexState (inb_spec h27).2 (fun _ => rfl))) (d_vs [.v 0 2, .v 0 2, .v 0 2, .v 0 2] (d_c1 (e_v (lo := 0) (y_ldr 3 2 eTFlexState eTFlexState (inb_spec h27).2 (fun _ => rfl))) (d_vs [.v 0 2, .v 0 2, .v 0 2, .v 0 1] (d_c1 (e_s (m := 0) (y_str 20 74 9 5 eTFlexState eTFlexState ({ (List.getD v20 (v19).toNat default) with factor := ((List.getD v20 (v19).toNat default).Item).Shrink } : TFlexState) (inb_spec h27).2 (fun _ => rfl))) (d_vs [.v 1 2, .v 1 1] (d_c1 (e_s (m := 1) (y_str 20 74 9 6 eTFlexState eTFlexState (L := (List.set v20 (v19).toNat ({ (List.getD v20 (v19).toNat default) with factor := ((List.getD v20 (v19).toNat default).Item).Shrink } : TFlexState))) (j := (v19).toNat) ({ (List.getD (List.set v20 (v19).toNat ({ (List.getD v20 (v19).toNat default) with factor := ((List.getD v20 (v19).toNat default).Item).Shrink } : TFlexState)) (v19).toNat default) with weight := (w64 (Int.tdiv (w64 ((((List.getD v20 (v19).toNat default).Item).Base) * (((List.getD v20 (v19).toNat default).Item).Shrink))) 1000)) } : TFlexState) (set_lt (inb_spec h27).2) (fun _ => rfl))) (d_nl))))))))))) ?_
    obtain ⟨v22, h30, h⟩ := bind_some h
    have h30 := Option.some.inj h30
    refine ve_go (ks' := [.c (cat Try.f18 p18_31), .c (cat Try.f18 p18_9), .b 3, .c (cat Try.f18 p18_8), k18_2 M w0 r m2, .b 2, .c (cat Try.f18 p18_4)]) 0 ⟨[(1,.int .i64 v3),(5,.ref 20),(9,.int .i64 v14),(11,.eptr 20 9 ((v19).toNat) 0),(48,.int .i64 (v10.length : Int)),(49,.int .i64 v19)],[],[(20,⟨74,9,List.map eTFlexState v22⟩)],[20]⟩ ?_ (by subst h30; kernel_rfl)
    refine ve_dr 1 [(109, .eptr 20 9 ((v19).toNat) 0), (110, .eptr 20 9 ((v19).toNat) 0), (111, .eptr 20 9 ((v19).toNat) 0), (112, .eptr 20 9 ((v19).toNat) 0), (113, .eptr 20 9 ((v19).toNat) 0), (114, .int .i64 (((List.getD v22 (v19).toNat default).Item).Base)), (115, .eptr 20 9 ((v19).toNat) 0), (116, .eptr 20 9 ((v19).toNat) 0), (117, .eptr 20 9 ((v19).toNat) 7), (118, .int .i64 ((List.getD v22 (v19).toNat default).size)), (119, .bool (decide ((((List.getD v22 (v19).toNat default).Item).Base) < ((List.getD v22 (v19).toNat default).size)))), (120, .eptr 20 9 ((v19).toNat) 0), (121, .eptr 20 9 ((v19).toNat) 8)] [] [] [strS 20 ⟨74, 9, List.map eTFlexState (List.set v22 (v19).toNat ({ (List.getD v22 (v19).toNat default) with fixed := (decide ((((List.getD v22 (v19).toNat default).Item).Base) < ((List.getD v22 (v19).toNat default).size))) } : TFlexState))⟩] (d_vs [.v 0 1, .v 0 1, .v 0 1, .v 0 1, .v 0 1] (d_c1 (e_v (lo := 0) (y_ldr 3 0 eTFlexState eTFlexState (L := v22) (j := (v19).toNat) (by rw [← h30]; exact (set_lt (set_lt (inb_spec h27).2))) (fun _ => rfl))) (d_vs [.v 0 1, .v 0 1, .v 0 1] (d_c1 (e_v (lo := 0) (y_ldr 3 7 eTFlexState eTFlexState (L := v22) (j := (v19).toNat) (by rw [← h30]; exact (set_lt (set_lt (inb_spec h27).2))) (fun _ => rfl))) (d_vs [.v 0 1, .v 0 2, .v 0 1] (d_c1 (e_s (m := 0) (y_str 20 74 9 8 eTFlexState eTFlexState (L := v22) (j := (v19).toNat) ({ (List.getD v22 (v19).toNat default) with fixed := (decide ((((List.getD v22 (v19).toNat default).Item).Base) < ((List.getD v22 (v19).toNat default).size))) } : TFlexState) (by rw [← h30]; exact (set_lt (set_lt (inb_spec h27).2))) (fun _ => rfl))) (d_nl))))))) ?_
    exact ve_arr 0 (g_flex_Resolve_j3_ok hK hL2 h)
  ·
   refine ve_sb 50 h26 ?_
   exact ve_arr 7 (lp_en (p := p18_32) n (g_flex_Resolve_l6_ok hK n h))
theorem g_flex_Resolve_l5_ok (hK : KnOk K) (m : Nat) : H18_2 M w0 r v3 v10 v14 m (g_flex_Resolve_l5 K n v3 v10 v14 m) := by
  induction m with
 | zero => intro v19 v20 h; cases h
 | succ m ih => intro v19 v20 h; have h : g_flex_Resolve_l5_b K n v3 v10 v14 (g_flex_Resolve_l5 K n v3 v10 v14 m) v19 v20 = some r := h; exact lp_round (g_flex_Resolve_l5_b_ok hK ih h)
theorem g_flex_Resolve_j2_ok (hK : KnOk K) (h : g_flex_Resolve_j2 K n v3 v10 v14 = some r) : VE (cx18 M w0) (q18 M w0 r) [.c (cat Try.f18 p18_33)] .normal (s18_j2 v3 v10 v14) := by
  unfold g_flex_Resolve_j2 at h
  refine ve_un (ks' := [.c (cat Try.f18 p18_34), .c (cat Try.f18 p18_35), .c (cat Try.f18 p18_4)]) 2 ?_
  refine ve_in 1 ?_
  refine ot_sp (y_len eTFlexState v10) ?_
  refine ot_end ?_
  exact ve_arr 1 (lp_en (p := p18_36) n (g_flex_Resolve_l5_ok hK n h))
theorem g_flex_Resolve_l1_b_ok (hK : KnOk K) (hL1 : H18_1 M w0 r v1 v3 m1 L1) (h : g_flex_Resolve_l1_b K n v1 v3 L1 v8 v9 v10 = some r) : VE (cx18 M w0) (q18 M w0 r) [.c (cat Try.f18 p18_7), k18_1 M w0 r m1, .b 0, .c (cat Try.f18 p18_6)] .normal (s18_l1 v1 v3 v8 v9 v10) := by
  unfold g_flex_Resolve_l1_b at h
  refine ve_un (ks' := [.c (cat Try.f18 p18_37), .c (cat Try.f18 p18_38), k18_1 M w0 r m1, .b 0, .c (cat Try.f18 p18_6)]) 3 ?_
  rcases ite_some h with ⟨h11, h⟩ | ⟨h11, h⟩
  ·
   refine ve_sb 24 h11 ?_
   refine ve_un (ks' := [.c (cat Try.f18 p18_39), .c (cat Try.f18 p18_40), .b 1, .c (cat Try.f18 p18_41), k18_1 M w0 r m1, .b 0, .c (cat Try.f18 p18_6)]) 5 ?_
   refine ve_in 1 ?_
   obtain ⟨h12, h⟩ := chk_some h
   refine ot_sp (y_ixs eTFlexItem eTFlexItem h12 (eTFlexItem_len) (fun _ => rfl)) ?_
   refine ot_end ?_
   refine ve_un (ks' := [.c (cat Try.f18 p18_42), .c (cat Try.f18 p18_43), .b 1, .c (cat Try.f18 p18_41), k18_1 M w0 r m1, .b 0, .c (cat Try.f18 p18_6)]) 1 ?_
   refine ve_pk [1, 5, 6, 7, 8, 21, 22, 23] [8] [20] ?_
   obtain ⟨v11, h13, h⟩ := bind_some h
   obtain ⟨v12, h14, h⟩ := bind_some h
   obtain ⟨h15, h⟩ := chk_some h
   refine ve_dr 1 [(28, .ref 20), (29, .int .i64 v9), (30, .agg (eTFlexItem (List.getD v1 (v9).toNat default))), (31, .agg (eTFlexItem v11)), (32, .agg (eTFlexItem (List.getD v1 (v9).toNat default))), (33, .int .i64 v12), (34, .agg (eTFlexState ({ zTFlexState with Item := v11, size := v12 } : TFlexState))), (35, .eptr 20 9 ((v9).toNat) 0)] [] [] [strS 20 ⟨74, 9, List.map eTFlexState (List.set v10 (v9).toNat ({ zTFlexState with Item := v11, size := v12 } : TFlexState))⟩] (d_vs [.v 0 1, .v 0 1, .v 0 1] (d_c1 (e_c 0 1 31 (g_flex_normal_ok hK h13)) (d_vs [.v 0 1] (d_c1 (e_c 0 1 33 (g_flex_hypothetical_ok hK h14)) (d_vs [.v 0 1] (d_c1 (e_v (lo := 0) (y_ixr 20 9 eTFlexState (L := v10) (i := v9) (by first | exact h15 | exact Eq.trans (by simp only [List.length_set]) h15))) (d_c1 (e_s (m := 0) (y_str 20 74 9 0 eTFlexState eTFlexState ({ zTFlexState with Item := v11, size := v12 } : TFlexState) (inb_spec h15).2 (fun _ => rfl))) (d_nl)))))))) ?_
   obtain ⟨v13, h16, h⟩ := bind_some h
   have h16 := Option.some.inj h16
   refine ve_go (ks' := [.c (cat Try.f18 p18_43), .b 1, .c (cat Try.f18 p18_41), k18_1 M w0 r m1, .b 0, .c (cat Try.f18 p18_6)]) 0 ⟨[(1,.int .i64 v3),(5,.ref 20),(6,.int .i64 v8),(7,.int .i64 v9),(21,.sl (List.map eTFlexItem v1)),(22,.int .i64 (v1.length : Int)),(23,.int .i64 v9)],[],[(20,⟨74,9,List.map eTFlexState v13⟩)],[20]⟩ ?_ (by subst h16; kernel_rfl)
   refine ve_in 3 ?_
   obtain ⟨h17, h⟩ := chk_some h
   refine ot_sp (y_ixr 20 9 eTFlexState h17) ?_
   refine ot_go 5 1 ?_
   refine ot_sp (y_ldr 3 7 eTFlexState eTFlexState (inb_spec h17).2 (fun _ => rfl)) ?_
   refine ot_end ?_
   exact ve_arr 2 (lp_back (hL1 h))
  ·
   refine ve_sb 24 h11 ?_
   refine ve_un (ks' := [.c (cat Try.f18 p18_44), .c (cat Try.f18 p18_33)]) 10 ?_
   rcases ite_some h with ⟨h18, h⟩ | ⟨h18, h⟩
   ·
    refine ve_sb 46 h18 ?_
    exact ve_arr 2 (g_flex_Resolve_j2_ok hK h)
   ·
    refine ve_sb 46 h18 ?_
    exact ve_arr 2 (g_flex_Resolve_j2_ok hK h)
theorem g_flex_Resolve_l1_ok (hK : KnOk K) (m : Nat) : H18_1 M w0 r v1 v3 m (g_flex_Resolve_l1 K n v1 v3 m) := by
  induction m with
 | zero => intro v8 v9 v10 h; cases h
 | succ m ih => intro v8 v9 v10 h; have h : g_flex_Resolve_l1_b K n v1 v3 (g_flex_Resolve_l1 K n v1 v3 m) v8 v9 v10 = some r := h; exact lp_round (g_flex_Resolve_l1_b_ok hK ih h)
theorem g_flex_Resolve_ok (hK : KnOk K) (h : g_flex_Resolve K n v1 v2 = some r) : ACalls Try.prog 18 [.sl (List.map eTFlexItem v1), .int .i64 v2] (fun v s => v = .ref 143 ∧ look 143 s.r = some ⟨3, 1, List.map (eInt .i64) r⟩) := by
  refine acalls_intro (c := cat Try.f18 []) Try.func18 (by kernel_rfl) _ Try.ntmps18 (of_decide_eq_true (by kernel_rfl)) fun M w0 => ?_
  refine ve_cast (s' := ⟨[(0,.sl (List.map eTFlexItem v1)),(1,.int .i64 v2)],[],[],[]⟩) (by kernel_rfl) ?_
  unfold g_flex_Resolve at h
  obtain ⟨v3, h1, h⟩ := bind_some h
  have h1 := Option.some.inj h1
  refine ve_go (ks' := [.c (cat Try.f18 [1, 1, 0]), .c (cat Try.f18 [1, 1, 1])]) 5 ⟨[(0,.sl (List.map eTFlexItem v1)),(1,.int .i64 v3)],[],[],[]⟩ ?_ (by subst h1; kernel_rfl)
  refine ve_in 1 ?_
  refine ot_sp (y_len eTFlexItem v1) ?_
  obtain ⟨h2, h⟩ := chk_some h
  refine ot_mk eTFlexState (zTFlexState : TFlexState) 72 (.tmp 19) (.tmp 19) 20 (e := 74) (sz := 9) (zc := eTFlexState zTFlexState) (kd := .i64) (kd' := .i64) h2 ?_
  refine ot_end ?_
  obtain ⟨v4, h3, h⟩ := bind_some h
  have h3 := Option.some.inj h3
  refine ve_go (ks' := [.c (cat Try.f18 p18_45), .c (cat Try.f18 p18_46), .c (cat Try.f18 p18_6)]) 4 ⟨[(0,.sl (List.map eTFlexItem v1)),(1,.int .i64 v3),(5,.ref 20),(6,.int .i64 0)],[],[(20,⟨74,9,List.map eTFlexState v4⟩)],[20]⟩ ?_ (by subst h3; kernel_rfl)
  refine ve_in 1 ?_
  refine ot_sp (y_len eTFlexItem v1) ?_
  refine ot_end ?_
  exact ve_arr 1 (lp_en (p := p18_47) n (g_flex_Resolve_l1_ok hK n h))
end
def p12_0 : List Nat := [1, 1, 1, 1]
def p12_1 : List Nat := [1, 1, 1, 0]
noncomputable section
abbrev cx12 (M : Nat → Prop) (w0 : Base) : Cx := ⟨Try.prog, 17, M, w0⟩
abbrev q12 (M : Nat → Prop) (w0 : Base) (r : Bool) := bodyPost Try.prog Try.f12 (RetQ M w0 (fun v _ => v = .bool r))
def s12_j1 (v5 : Bool) : AS := ⟨[(0,.bool v5)],[],[],[]⟩
variable {K : Kn} {n : Nat} {M : Nat → Prop} {w0 : Base} {r : Bool} {v5 : Bool} 
theorem g_law19_fit_j1_ok (hK : KnOk K) (h : g_law19_fit_j1 K n v5 = some r) : VE (cx12 M w0) (q12 M w0 r) [.c (cat Try.f12 p12_0)] .normal (s12_j1 v5) := by
  unfold g_law19_fit_j1 at h
  refine ve_rt 1 ?_
  have hr := Option.some.inj h
  subst hr
  exact ve_d1
theorem g_law19_fit_ok (hK : KnOk K) (h : g_law19_fit K n = some r) : ACalls Try.prog 12 [] (fun v _ => v = .bool r) := by
  refine acalls_intro (c := cat Try.f12 []) Try.func12 (by kernel_rfl) _ Try.ntmps12 (of_decide_eq_true (by kernel_rfl)) fun M w0 => ?_
  refine ve_cast (s' := ⟨[],[],[],[]⟩) (by kernel_rfl) ?_
  unfold g_law19_fit at h
  refine ve_un (ks' := [.c (cat Try.f12 [1, 0]), .c (cat Try.f12 [1, 1])]) 3 ?_
  refine ve_in 1 ?_
  obtain ⟨v1, h1, h⟩ := bind_some h
  refine ot_co 1004 (g_flex_Share_ok hK h1) (one_ref 21) ?_
  refine ot_end ?_
  refine ve_un (ks' := [.c (cat Try.f12 [1, 1, 0]), .c (cat Try.f12 [1, 1, 1])]) 1 ?_
  refine ve_in 3 ?_
  obtain ⟨v2, h2, h⟩ := bind_some h
  refine ot_co 1008 (g_flex_Resolve_ok hK h2) (one_ref 143) ?_
  refine ot_end ?_
  refine ve_un (ks' := [.c (cat Try.f12 p12_1), .c (cat Try.f12 p12_0)]) 1 ?_
  refine ve_in 2 ?_
  refine ot_f 1004 ?_
  obtain ⟨v3, h3, h⟩ := bind_some h
  refine ot_cl (g_law19_equal_ok hK h3) ?_
  refine ot_go 4 1 ?_
  rcases ite_some h with ⟨h4, h⟩ | ⟨h4, h⟩
  ·
   refine ot_sb 12 h4 ?_
   refine ot_go 6 2 ?_
   refine ot_f 1008 ?_
   obtain ⟨v4, h5, h⟩ := bind_some h
   refine ot_cl (g_law19_equal_ok hK h5) ?_
   refine ot_end ?_
   exact ve_arr 0 (g_law19_fit_j1_ok hK h)
  ·
   refine ot_sb 12 h4 ?_
   refine ot_end ?_
   exact ve_arr 0 (g_law19_fit_j1_ok hK h)
end
noncomputable section
abbrev cx76 (M : Nat → Prop) (w0 : Base) : Cx := ⟨Try.prog, 11, M, w0⟩
abbrev q76 (M : Nat → Prop) (w0 : Base) (r : Bool) := bodyPost Try.prog Try.f76 (RetQ M w0 (fun v _ => v = .bool r))
def s76_j1 (v2 : Bool) : AS := ⟨[(2,.bool v2)],[],[],[]⟩
variable {K : Kn} {n : Nat} {M : Nat → Prop} {w0 : Base} {r : Bool} {v1 : TCascadeLength} {v2 : Bool} 
theorem g_ref17_small_j1_ok (hK : KnOk K) (h : g_ref17_small_j1 K n v2 = some r) : VE (cx76 M w0) (q76 M w0 r) [.c (cat Try.f76 [1, 1])] .normal (s76_j1 v2) := by
  unfold g_ref17_small_j1 at h
  refine ve_rt 1 ?_
  have hr := Option.some.inj h
  subst hr
  exact ve_d1
theorem g_ref17_small_ok (hK : KnOk K) (h : g_ref17_small K n v1 = some r) : ACalls Try.prog 76 [.agg (eTCascadeLength v1)] (fun v _ => v = .bool r) := by
  refine acalls_intro (c := cat Try.f76 []) Try.func76 (by kernel_rfl) _ Try.ntmps76 (of_decide_eq_true (by kernel_rfl)) fun M w0 => ?_
  refine ve_cast (s' := ⟨[(0,.agg (eTCascadeLength v1))],[],[],[]⟩) (by kernel_rfl) ?_
  unfold g_ref17_small at h
  refine ve_un (ks' := [.c (cat Try.f76 [1, 0]), .c (cat Try.f76 [1, 1])]) 3 ?_
  refine ve_in 4 ?_
  rcases ite_some h with ⟨h1, h⟩ | ⟨h1, h⟩
  ·
   refine ot_sb 6 h1 ?_
   refine ot_end ?_
   exact ve_arr 0 (g_ref17_small_j1_ok hK h)
  ·
   refine ot_sb 6 h1 ?_
   refine ot_end ?_
   exact ve_arr 0 (g_ref17_small_j1_ok hK h)
end
def p42_0 : List Nat := [1, 0, 1, 0, 0]
def p42_1 : List Nat := [1, 0, 1, 0, 0, 1, 0, 0, 1, 1, 1, 0, 0, 1, 0, 0, 1]
def p42_2 : List Nat := [1, 0, 1, 0, 0, 1, 0, 0, 1, 1, 1, 0, 0, 1, 1]
def p42_3 : List Nat := [1, 0, 1, 0, 0, 1, 1]
def p42_4 : List Nat := [1, 0, 1, 0, 0, 1, 0, 0, 1, 1, 1, 0, 0]
def p42_5 : List Nat := [1, 0, 1, 0, 0, 1, 0, 0, 1, 1, 1, 0, 0, 1, 0, 0, 0]
def p42_6 : List Nat := [1, 0, 1, 0, 0, 1, 0, 0, 1, 0, 1]
def p42_7 : List Nat := [1, 0, 1, 0, 0, 1, 0, 0, 1, 1]
def p42_8 : List Nat := [1, 0, 1, 0, 0, 1, 0, 0, 1, 1, 1, 0]
def p42_9 : List Nat := [1, 0, 1, 0, 0, 0, 0]
def p42_10 : List Nat := [1, 0, 1, 0, 0, 0, 1]
def p42_11 : List Nat := [1, 0, 1, 0, 0, 1]
def p42_12 : List Nat := [1, 0, 1, 0, 0, 1, 0, 0, 0]
def p42_13 : List Nat := [1, 0, 1, 0, 0, 1, 0, 0, 1]
def p42_14 : List Nat := [1, 0, 1, 0, 0, 1, 0, 0, 1, 0, 0]
def p42_15 : List Nat := [1, 0, 1, 0]
noncomputable section
abbrev cx42 (M : Nat → Prop) (w0 : Base) : Cx := ⟨Try.prog, 130, M, w0⟩
abbrev q42 (M : Nat → Prop) (w0 : Base) (r : Bool) := bodyPost Try.prog Try.f42 (RetQ M w0 (fun v _ => v = .bool r))
abbrev k42_1 (M : Nat → Prop) (w0 : Base) (r : Bool) (m1 : Nat) : Kont := kl (cx42 M w0) (q42 M w0 r) [.b 0, .c (cat Try.f42 [1, 1])] (cat Try.f42 p42_0) m1
def s42_j5 (v1 : (List TKnapsackref17Spec)) (v2 : Int) (v23 : Int) (v43 : Bool) : AS := ⟨[(0,.sl (List.map eTKnapsackref17Spec v1)),(1,.int .i64 v2),(5,.int .i64 v23),(6,.ptr 6 0),(7,.int .i64 3),(125,.bool v43)],[(6,eTCascadeStyle ((List.getD v1 (v23).toNat default).Style))],[],[6]⟩
def s42_j4 (v1 : (List TKnapsackref17Spec)) (v2 : Int) (v23 : Int) (v40 : Bool) : AS := ⟨[(0,.sl (List.map eTKnapsackref17Spec v1)),(1,.int .i64 v2),(5,.int .i64 v23),(6,.ptr 6 0),(7,.int .i64 2),(125,.bool v40)],[(6,eTCascadeStyle ((List.getD v1 (v23).toNat default).Style))],[],[6]⟩
def s42_j3 (v1 : (List TKnapsackref17Spec)) (v2 : Int) (v23 : Int) (v37 : Bool) : AS := ⟨[(0,.sl (List.map eTKnapsackref17Spec v1)),(1,.int .i64 v2),(5,.int .i64 v23),(6,.ptr 6 0),(7,.int .i64 1),(125,.bool v37)],[(6,eTCascadeStyle ((List.getD v1 (v23).toNat default).Style))],[],[6]⟩
def s42_j2 (v1 : (List TKnapsackref17Spec)) (v2 : Int) (v23 : Int) (v34 : Bool) : AS := ⟨[(0,.sl (List.map eTKnapsackref17Spec v1)),(1,.int .i64 v2),(5,.int .i64 v23),(6,.ptr 6 0),(7,.int .i64 0),(125,.bool v34)],[(6,eTCascadeStyle ((List.getD v1 (v23).toNat default).Style))],[],[6]⟩
def s42_j1 (v1 : (List TKnapsackref17Spec)) (v2 : Int) (v23 : Int) (v31 : Bool) : AS := ⟨[(0,.sl (List.map eTKnapsackref17Spec v1)),(1,.int .i64 v2),(5,.int .i64 v23),(6,.ptr 6 0),(107,.bool v31)],[(6,eTCascadeStyle ((List.getD v1 (v23).toNat default).Style))],[],[6]⟩
def s42_l6 (v1 : (List TKnapsackref17Spec)) (v2 : Int) (v23 : Int) : AS := ⟨[(0,.sl (List.map eTKnapsackref17Spec v1)),(1,.int .i64 v2),(5,.int .i64 v23)],[],[],[]⟩
abbrev H42_1 (M : Nat → Prop) (w0 : Base) (r : Bool) (v1 : (List TKnapsackref17Spec)) (v2 : Int) (m1 : Nat) (L1 : Int → Option Bool) : Prop := ∀ {v23 : Int}, L1 v23 = some r → LP (cx42 M w0) (q42 M w0 r) [.b 0, .c (cat Try.f42 [1, 1])] (cat Try.f42 p42_0) m1 (s42_l6 v1 v2 v23)
variable {K : Kn} {n : Nat} {M : Nat → Prop} {w0 : Base} {r : Bool} {v1 : (List TKnapsackref17Spec)} {v2 : Int} {v23 : Int} {v31 : Bool} {v34 : Bool} {v37 : Bool} {v40 : Bool} {v43 : Bool} {m1 : Nat} {L1 : Int → Option Bool}
theorem g_ref17_Few_j5_ok (hK : KnOk K) (hL1 : H42_1 M w0 r v1 v2 m1 L1) (h : g_ref17_Few_j5 K n v1 v2 v23 L1 v43 = some r) : VE (cx42 M w0) (q42 M w0 r) [.c (cat Try.f42 p42_1), .b 3, .c (cat Try.f42 p42_2), kl (cx42 M w0) (q42 M w0 r) [.b 2, .b 1, .c (cat Try.f42 p42_3), k42_1 M w0 r m1, .b 0, .c (cat Try.f42 [1, 1])] (cat Try.f42 p42_4) 36, .b 2, .b 1, .c (cat Try.f42 p42_3), k42_1 M w0 r m1, .b 0, .c (cat Try.f42 [1, 1])] .normal (s42_j5 v1 v2 v23 v43) := by
  unfold g_ref17_Few_j5 at h
  rcases ite_some h with ⟨h84, h⟩ | ⟨h84, h⟩
  ·
   refine ve_sb 125 h84 ?_
   refine ve_rt 13 ?_
   have hr := Option.some.inj h
   subst hr
   exact ve_d1
  ·
   refine ve_sb 125 h84 ?_
   refine ve_go (ks' := [kl (cx42 M w0) (q42 M w0 r) [.b 2, .b 1, .c (cat Try.f42 p42_3), k42_1 M w0 r m1, .b 0, .c (cat Try.f42 [1, 1])] (cat Try.f42 p42_4) 36, .b 2, .b 1, .c (cat Try.f42 p42_3), k42_1 M w0 r m1, .b 0, .c (cat Try.f42 [1, 1])]) 4 ⟨[(0,.sl (List.map eTKnapsackref17Spec v1)),(1,.int .i64 v2),(5,.int .i64 v23),(6,.ptr 6 0),(7,.int .i64 4)],[(6,eTCascadeStyle ((List.getD v1 (v23).toNat default).Style))],[],[6]⟩ ?_
   refine lp_back ?_
   refine lp_round ?_
   exact ve_arr 10 (lp_back (hL1 h))
theorem g_ref17_Few_j4_ok (hK : KnOk K) (hL1 : H42_1 M w0 r v1 v2 m1 L1) (h : g_ref17_Few_j4 K n v1 v2 v23 L1 v40 = some r) : VE (cx42 M w0) (q42 M w0 r) [.c (cat Try.f42 p42_1), .b 3, .c (cat Try.f42 p42_2), kl (cx42 M w0) (q42 M w0 r) [.b 2, .b 1, .c (cat Try.f42 p42_3), k42_1 M w0 r m1, .b 0, .c (cat Try.f42 [1, 1])] (cat Try.f42 p42_4) 37, .b 2, .b 1, .c (cat Try.f42 p42_3), k42_1 M w0 r m1, .b 0, .c (cat Try.f42 [1, 1])] .normal (s42_j4 v1 v2 v23 v40) := by
  unfold g_ref17_Few_j4 at h
  rcases ite_some h with ⟨h80, h⟩ | ⟨h80, h⟩
  ·
   refine ve_sb 125 h80 ?_
   refine ve_rt 13 ?_
   have hr := Option.some.inj h
   subst hr
   exact ve_d1
  ·
   refine ve_sb 125 h80 ?_
   refine ve_go (ks' := [kl (cx42 M w0) (q42 M w0 r) [.b 2, .b 1, .c (cat Try.f42 p42_3), k42_1 M w0 r m1, .b 0, .c (cat Try.f42 [1, 1])] (cat Try.f42 p42_4) 37, .b 2, .b 1, .c (cat Try.f42 p42_3), k42_1 M w0 r m1, .b 0, .c (cat Try.f42 [1, 1])]) 4 ⟨[(0,.sl (List.map eTKnapsackref17Spec v1)),(1,.int .i64 v2),(5,.int .i64 v23),(6,.ptr 6 0),(7,.int .i64 3)],[(6,eTCascadeStyle ((List.getD v1 (v23).toNat default).Style))],[],[6]⟩ ?_
   refine lp_back ?_
   refine lp_round ?_
   refine ve_un (ks' := [.c (cat Try.f42 p42_5), .c (cat Try.f42 p42_1), .b 3, .c (cat Try.f42 p42_2), kl (cx42 M w0) (q42 M w0 r) [.b 2, .b 1, .c (cat Try.f42 p42_3), k42_1 M w0 r m1, .b 0, .c (cat Try.f42 [1, 1])] (cat Try.f42 p42_4) 36, .b 2, .b 1, .c (cat Try.f42 p42_3), k42_1 M w0 r m1, .b 0, .c (cat Try.f42 [1, 1])]) 8 ?_
   refine ve_in 4 ?_
   obtain ⟨v41, h81, h⟩ := bind_some h
   refine ot_cl (g_ref17_small_ok hK h81) ?_
   refine ot_go 7 2 ?_
   rcases ite_some h with ⟨h82, h⟩ | ⟨h82, h⟩
   ·
    refine ot_sb 118 h82 ?_
    refine ot_end ?_
    exact ve_arr 0 (g_ref17_Few_j5_ok hK hL1 h)
   ·
    refine ot_sb 118 h82 ?_
    refine ot_go 11 4 ?_
    obtain ⟨v42, h83, h⟩ := bind_some h
    refine ot_cl (g_ref17_small_ok hK h83) ?_
    refine ot_end ?_
    exact ve_arr 0 (g_ref17_Few_j5_ok hK hL1 h)
theorem g_ref17_Few_j3_ok (hK : KnOk K) (hL1 : H42_1 M w0 r v1 v2 m1 L1) (h : g_ref17_Few_j3 K n v1 v2 v23 L1 v37 = some r) : VE (cx42 M w0) (q42 M w0 r) [.c (cat Try.f42 p42_1), .b 3, .c (cat Try.f42 p42_2), kl (cx42 M w0) (q42 M w0 r) [.b 2, .b 1, .c (cat Try.f42 p42_3), k42_1 M w0 r m1, .b 0, .c (cat Try.f42 [1, 1])] (cat Try.f42 p42_4) 38, .b 2, .b 1, .c (cat Try.f42 p42_3), k42_1 M w0 r m1, .b 0, .c (cat Try.f42 [1, 1])] .normal (s42_j3 v1 v2 v23 v37) := by
  unfold g_ref17_Few_j3 at h
  rcases ite_some h with ⟨h76, h⟩ | ⟨h76, h⟩
  ·
   refine ve_sb 125 h76 ?_
   refine ve_rt 13 ?_
   have hr := Option.some.inj h
   subst hr
   exact ve_d1
  ·
   refine ve_sb 125 h76 ?_
   refine ve_go (ks' := [kl (cx42 M w0) (q42 M w0 r) [.b 2, .b 1, .c (cat Try.f42 p42_3), k42_1 M w0 r m1, .b 0, .c (cat Try.f42 [1, 1])] (cat Try.f42 p42_4) 38, .b 2, .b 1, .c (cat Try.f42 p42_3), k42_1 M w0 r m1, .b 0, .c (cat Try.f42 [1, 1])]) 4 ⟨[(0,.sl (List.map eTKnapsackref17Spec v1)),(1,.int .i64 v2),(5,.int .i64 v23),(6,.ptr 6 0),(7,.int .i64 2)],[(6,eTCascadeStyle ((List.getD v1 (v23).toNat default).Style))],[],[6]⟩ ?_
   refine lp_back ?_
   refine lp_round ?_
   refine ve_un (ks' := [.c (cat Try.f42 p42_5), .c (cat Try.f42 p42_1), .b 3, .c (cat Try.f42 p42_2), kl (cx42 M w0) (q42 M w0 r) [.b 2, .b 1, .c (cat Try.f42 p42_3), k42_1 M w0 r m1, .b 0, .c (cat Try.f42 [1, 1])] (cat Try.f42 p42_4) 37, .b 2, .b 1, .c (cat Try.f42 p42_3), k42_1 M w0 r m1, .b 0, .c (cat Try.f42 [1, 1])]) 8 ?_
   refine ve_in 4 ?_
   obtain ⟨v38, h77, h⟩ := bind_some h
   refine ot_cl (g_ref17_small_ok hK h77) ?_
   refine ot_go 7 2 ?_
   rcases ite_some h with ⟨h78, h⟩ | ⟨h78, h⟩
   ·
    refine ot_sb 118 h78 ?_
    refine ot_end ?_
    exact ve_arr 0 (g_ref17_Few_j4_ok hK hL1 h)
   ·
    refine ot_sb 118 h78 ?_
    refine ot_go 11 4 ?_
    obtain ⟨v39, h79, h⟩ := bind_some h
    refine ot_cl (g_ref17_small_ok hK h79) ?_
    refine ot_end ?_
    exact ve_arr 0 (g_ref17_Few_j4_ok hK hL1 h)
theorem g_ref17_Few_j2_ok (hK : KnOk K) (hL1 : H42_1 M w0 r v1 v2 m1 L1) (h : g_ref17_Few_j2 K n v1 v2 v23 L1 v34 = some r) : VE (cx42 M w0) (q42 M w0 r) [.c (cat Try.f42 p42_1), .b 3, .c (cat Try.f42 p42_2), kl (cx42 M w0) (q42 M w0 r) [.b 2, .b 1, .c (cat Try.f42 p42_3), k42_1 M w0 r m1, .b 0, .c (cat Try.f42 [1, 1])] (cat Try.f42 p42_4) 39, .b 2, .b 1, .c (cat Try.f42 p42_3), k42_1 M w0 r m1, .b 0, .c (cat Try.f42 [1, 1])] .normal (s42_j2 v1 v2 v23 v34) := by
  unfold g_ref17_Few_j2 at h
  rcases ite_some h with ⟨h72, h⟩ | ⟨h72, h⟩
  ·
   refine ve_sb 125 h72 ?_
   refine ve_rt 13 ?_
   have hr := Option.some.inj h
   subst hr
   exact ve_d1
  ·
   refine ve_sb 125 h72 ?_
   refine ve_go (ks' := [kl (cx42 M w0) (q42 M w0 r) [.b 2, .b 1, .c (cat Try.f42 p42_3), k42_1 M w0 r m1, .b 0, .c (cat Try.f42 [1, 1])] (cat Try.f42 p42_4) 39, .b 2, .b 1, .c (cat Try.f42 p42_3), k42_1 M w0 r m1, .b 0, .c (cat Try.f42 [1, 1])]) 4 ⟨[(0,.sl (List.map eTKnapsackref17Spec v1)),(1,.int .i64 v2),(5,.int .i64 v23),(6,.ptr 6 0),(7,.int .i64 1)],[(6,eTCascadeStyle ((List.getD v1 (v23).toNat default).Style))],[],[6]⟩ ?_
   refine lp_back ?_
   refine lp_round ?_
   refine ve_un (ks' := [.c (cat Try.f42 p42_5), .c (cat Try.f42 p42_1), .b 3, .c (cat Try.f42 p42_2), kl (cx42 M w0) (q42 M w0 r) [.b 2, .b 1, .c (cat Try.f42 p42_3), k42_1 M w0 r m1, .b 0, .c (cat Try.f42 [1, 1])] (cat Try.f42 p42_4) 38, .b 2, .b 1, .c (cat Try.f42 p42_3), k42_1 M w0 r m1, .b 0, .c (cat Try.f42 [1, 1])]) 8 ?_
   refine ve_in 4 ?_
   obtain ⟨v35, h73, h⟩ := bind_some h
   refine ot_cl (g_ref17_small_ok hK h73) ?_
   refine ot_go 7 2 ?_
   rcases ite_some h with ⟨h74, h⟩ | ⟨h74, h⟩
   ·
    refine ot_sb 118 h74 ?_
    refine ot_end ?_
    exact ve_arr 0 (g_ref17_Few_j3_ok hK hL1 h)
   ·
    refine ot_sb 118 h74 ?_
    refine ot_go 11 4 ?_
    obtain ⟨v36, h75, h⟩ := bind_some h
    refine ot_cl (g_ref17_small_ok hK h75) ?_
    refine ot_end ?_
    exact ve_arr 0 (g_ref17_Few_j3_ok hK hL1 h)
theorem g_ref17_Few_j1_ok (hK : KnOk K) (hL1 : H42_1 M w0 r v1 v2 m1 L1) (h : g_ref17_Few_j1 K n v1 v2 v23 L1 v31 = some r) : VE (cx42 M w0) (q42 M w0 r) [.c (cat Try.f42 p42_6), .c (cat Try.f42 p42_7), .b 1, .c (cat Try.f42 p42_3), k42_1 M w0 r m1, .b 0, .c (cat Try.f42 [1, 1])] .normal (s42_j1 v1 v2 v23 v31) := by
  unfold g_ref17_Few_j1 at h
  rcases ite_some h with ⟨h68, h⟩ | ⟨h68, h⟩
  ·
   refine ve_sb 107 h68 ?_
   refine ve_rt 10 ?_
   have hr := Option.some.inj h
   subst hr
   exact ve_d1
  ·
   refine ve_sb 107 h68 ?_
   refine ve_go (ks' := [.c (cat Try.f42 p42_8), .b 2, .b 1, .c (cat Try.f42 p42_3), k42_1 M w0 r m1, .b 0, .c (cat Try.f42 [1, 1])]) 5 ⟨[(0,.sl (List.map eTKnapsackref17Spec v1)),(1,.int .i64 v2),(5,.int .i64 v23),(6,.ptr 6 0),(7,.int .i64 0)],[(6,eTCascadeStyle ((List.getD v1 (v23).toNat default).Style))],[],[6]⟩ ?_
   refine lp_enter 40 (c := cat Try.f42 p42_4) (by kernel_rfl) ?_
   refine lp_round ?_
   refine ve_un (ks' := [.c (cat Try.f42 p42_5), .c (cat Try.f42 p42_1), .b 3, .c (cat Try.f42 p42_2), kl (cx42 M w0) (q42 M w0 r) [.b 2, .b 1, .c (cat Try.f42 p42_3), k42_1 M w0 r m1, .b 0, .c (cat Try.f42 [1, 1])] (cat Try.f42 p42_4) 39, .b 2, .b 1, .c (cat Try.f42 p42_3), k42_1 M w0 r m1, .b 0, .c (cat Try.f42 [1, 1])]) 8 ?_
   refine ve_in 4 ?_
   obtain ⟨v32, h69, h⟩ := bind_some h
   refine ot_cl (g_ref17_small_ok hK h69) ?_
   refine ot_go 7 2 ?_
   rcases ite_some h with ⟨h70, h⟩ | ⟨h70, h⟩
   ·
    refine ot_sb 118 h70 ?_
    refine ot_end ?_
    exact ve_arr 0 (g_ref17_Few_j2_ok hK hL1 h)
   ·
    refine ot_sb 118 h70 ?_
    refine ot_go 11 4 ?_
    obtain ⟨v33, h71, h⟩ := bind_some h
    refine ot_cl (g_ref17_small_ok hK h71) ?_
    refine ot_end ?_
    exact ve_arr 0 (g_ref17_Few_j2_ok hK hL1 h)
theorem g_ref17_Few_l6_b_ok (hK : KnOk K) (hL1 : H42_1 M w0 r v1 v2 m1 L1) (h : g_ref17_Few_l6_b K n v1 v2 L1 v23 = some r) : VE (cx42 M w0) (q42 M w0 r) [.c (cat Try.f42 p42_0), k42_1 M w0 r m1, .b 0, .c (cat Try.f42 [1, 1])] .normal (s42_l6 v1 v2 v23) := by
  unfold g_ref17_Few_l6_b at h
  refine ve_un (ks' := [.c (cat Try.f42 p42_9), .c (cat Try.f42 p42_10), .c (cat Try.f42 p42_11), k42_1 M w0 r m1, .b 0, .c (cat Try.f42 [1, 1])]) 2 ?_
  refine ve_in 2 ?_
  refine ot_sp (y_len eTKnapsackref17Spec v1) ?_
  refine ot_end ?_
  rcases ite_some h with ⟨h43, h⟩ | ⟨h43, h⟩
  ·
   refine ve_sb 11 h43 ?_
   refine ve_un (ks' := [.c (cat Try.f42 p42_12), .c (cat Try.f42 p42_13), .b 1, .c (cat Try.f42 p42_3), k42_1 M w0 r m1, .b 0, .c (cat Try.f42 [1, 1])]) 5 ?_
   refine ve_in 2 ?_
   obtain ⟨h44, h⟩ := chk_some h
   refine ot_sp (y_ixs eTKnapsackref17Spec eTKnapsackref17Spec h44 (eTKnapsackref17Spec_len) (fun _ => rfl)) ?_
   refine ot_end ?_
   refine ve_un (ks' := [.c (cat Try.f42 p42_14), .c (cat Try.f42 p42_6), .c (cat Try.f42 p42_7), .b 1, .c (cat Try.f42 p42_3), k42_1 M w0 r m1, .b 0, .c (cat Try.f42 [1, 1])]) 2 ?_
   refine ve_in 2 ?_
   obtain ⟨h45, h⟩ := chk_some h
   refine ot_sp (y_ixs eTKnapsackref17Spec eTKnapsackref17Spec h45 (eTKnapsackref17Spec_len) (fun _ => rfl)) ?_
   refine ot_go 8 5 ?_
   rcases ite_some h with ⟨h46, h⟩ | ⟨h46, h⟩
   ·
    refine ot_sb 26 h46 ?_
    refine ot_end ?_
    exact ve_arr 0 (g_ref17_Few_j1_ok hK hL1 h)
   ·
    refine ot_sb 26 h46 ?_
    refine ot_go 10 2 ?_
    obtain ⟨v24, h47, h⟩ := bind_some h
    refine ot_cl (g_ref17_small_ok hK h47) ?_
    refine ot_go 14 3 ?_
    rcases ite_some h with ⟨h48, h⟩ | ⟨h48, h⟩
    ·
     refine ot_sb 32 h48 ?_
     refine ot_end ?_
     exact ve_arr 0 (g_ref17_Few_j1_ok hK hL1 h)
    ·
     refine ot_sb 32 h48 ?_
     refine ot_go 16 2 ?_
     obtain ⟨v25, h49, h⟩ := bind_some h
     refine ot_cl (g_ref17_small_ok hK h49) ?_
     refine ot_go 20 3 ?_
     rcases ite_some h with ⟨h50, h⟩ | ⟨h50, h⟩
     ·
      refine ot_sb 38 h50 ?_
      refine ot_end ?_
      exact ve_arr 0 (g_ref17_Few_j1_ok hK hL1 h)
     ·
      refine ot_sb 38 h50 ?_
      refine ot_go 22 2 ?_
      obtain ⟨v26, h51, h⟩ := bind_some h
      refine ot_cl (g_ref17_small_ok hK h51) ?_
      refine ot_go 26 3 ?_
      rcases ite_some h with ⟨h52, h⟩ | ⟨h52, h⟩
      ·
       refine ot_sb 44 h52 ?_
       refine ot_end ?_
       exact ve_arr 0 (g_ref17_Few_j1_ok hK hL1 h)
      ·
       refine ot_sb 44 h52 ?_
       refine ot_go 28 2 ?_
       obtain ⟨v27, h53, h⟩ := bind_some h
       refine ot_cl (g_ref17_small_ok hK h53) ?_
       refine ot_go 32 3 ?_
       rcases ite_some h with ⟨h54, h⟩ | ⟨h54, h⟩
       ·
        refine ot_sb 50 h54 ?_
        refine ot_end ?_
        exact ve_arr 0 (g_ref17_Few_j1_ok hK hL1 h)
       ·
        refine ot_sb 50 h54 ?_
        refine ot_go 34 2 ?_
        obtain ⟨v28, h55, h⟩ := bind_some h
        refine ot_cl (g_ref17_small_ok hK h55) ?_
        refine ot_go 38 3 ?_
        rcases ite_some h with ⟨h56, h⟩ | ⟨h56, h⟩
        ·
         refine ot_sb 56 h56 ?_
         refine ot_end ?_
         exact ve_arr 0 (g_ref17_Few_j1_ok hK hL1 h)
        ·
         refine ot_sb 56 h56 ?_
         refine ot_go 40 2 ?_
         obtain ⟨v29, h57, h⟩ := bind_some h
         refine ot_cl (g_ref17_small_ok hK h57) ?_
         refine ot_go 44 3 ?_
         rcases ite_some h with ⟨h58, h⟩ | ⟨h58, h⟩
         ·
          refine ot_sb 62 h58 ?_
          refine ot_end ?_
          exact ve_arr 0 (g_ref17_Few_j1_ok hK hL1 h)
         ·
          refine ot_sb 62 h58 ?_
          refine ot_go 46 2 ?_
          obtain ⟨v30, h59, h⟩ := bind_some h
          refine ot_cl (g_ref17_small_ok hK h59) ?_
          refine ot_go 50 3 ?_
          rcases ite_some h with ⟨h60, h⟩ | ⟨h60, h⟩
          ·
           refine ot_sb 68 h60 ?_
           refine ot_end ?_
           exact ve_arr 0 (g_ref17_Few_j1_ok hK hL1 h)
          ·
           refine ot_sb 68 h60 ?_
           refine ot_go 55 5 ?_
           rcases ite_some h with ⟨h61, h⟩ | ⟨h61, h⟩
           ·
            refine ot_sb 73 h61 ?_
            refine ot_end ?_
            exact ve_arr 0 (g_ref17_Few_j1_ok hK hL1 h)
           ·
            refine ot_sb 73 h61 ?_
            refine ot_go 60 5 ?_
            rcases ite_some h with ⟨h62, h⟩ | ⟨h62, h⟩
            ·
             refine ot_sb 78 h62 ?_
             refine ot_end ?_
             exact ve_arr 0 (g_ref17_Few_j1_ok hK hL1 h)
            ·
             refine ot_sb 78 h62 ?_
             refine ot_go 65 5 ?_
             rcases ite_some h with ⟨h63, h⟩ | ⟨h63, h⟩
             ·
              refine ot_sb 83 h63 ?_
              refine ot_end ?_
              exact ve_arr 0 (g_ref17_Few_j1_ok hK hL1 h)
             ·
              refine ot_sb 83 h63 ?_
              refine ot_go 70 5 ?_
              rcases ite_some h with ⟨h64, h⟩ | ⟨h64, h⟩
              ·
               refine ot_sb 88 h64 ?_
               refine ot_end ?_
               exact ve_arr 0 (g_ref17_Few_j1_ok hK hL1 h)
              ·
               refine ot_sb 88 h64 ?_
               refine ot_go 75 5 ?_
               rcases ite_some h with ⟨h65, h⟩ | ⟨h65, h⟩
               ·
                refine ot_sb 93 h65 ?_
                refine ot_end ?_
                exact ve_arr 0 (g_ref17_Few_j1_ok hK hL1 h)
               ·
                refine ot_sb 93 h65 ?_
                refine ot_go 80 5 ?_
                rcases ite_some h with ⟨h66, h⟩ | ⟨h66, h⟩
                ·
                 refine ot_sb 98 h66 ?_
                 refine ot_end ?_
                 exact ve_arr 0 (g_ref17_Few_j1_ok hK hL1 h)
                ·
                 refine ot_sb 98 h66 ?_
                 refine ot_go 85 5 ?_
                 rcases ite_some h with ⟨h67, h⟩ | ⟨h67, h⟩
                 ·
                  refine ot_sb 103 h67 ?_
                  refine ot_end ?_
                  exact ve_arr 0 (g_ref17_Few_j1_ok hK hL1 h)
                 ·
                  refine ot_sb 103 h67 ?_
                  refine ot_end ?_
                  exact ve_arr 0 (g_ref17_Few_j1_ok hK hL1 h)
  ·
   refine ve_sb 11 h43 ?_
   refine ve_un (ks' := [.c (cat Try.f42 [1, 1, 0]), .c (cat Try.f42 [1, 1, 1])]) 6 ?_
   refine ve_in 1 ?_
   refine ot_sp (y_len eTKnapsackref17Spec v1) ?_
   refine ot_end ?_
   refine ve_rt 1 ?_
   have hr := Option.some.inj h
   subst hr
   exact ve_d1
theorem g_ref17_Few_l6_ok (hK : KnOk K) (m : Nat) : H42_1 M w0 r v1 v2 m (g_ref17_Few_l6 K n v1 v2 m) := by
  induction m with
 | zero => intro v23 h; cases h
 | succ m ih => intro v23 h; have h : g_ref17_Few_l6_b K n v1 v2 (g_ref17_Few_l6 K n v1 v2 m) v23 = some r := h; exact lp_round (g_ref17_Few_l6_b_ok hK ih h)
theorem g_ref17_Few_ok (hK : KnOk K) (h : g_ref17_Few K n v1 v2 = some r) : ACalls Try.prog 42 [.sl (List.map eTKnapsackref17Spec v1), .int .i64 v2] (fun v _ => v = .bool r) := by
  refine acalls_intro (c := cat Try.f42 []) Try.func42 (by kernel_rfl) _ Try.ntmps42 (of_decide_eq_true (by kernel_rfl)) fun M w0 => ?_
  refine ve_cast (s' := ⟨[(0,.sl (List.map eTKnapsackref17Spec v1)),(1,.int .i64 v2)],[],[],[]⟩) (by kernel_rfl) ?_
  unfold g_ref17_Few at h
  exact ve_arr 6 (lp_en (p := p42_15) n (g_ref17_Few_l6_ok hK n h))
end
end Go.Proofs.Ytlpndemhnpajiaa
