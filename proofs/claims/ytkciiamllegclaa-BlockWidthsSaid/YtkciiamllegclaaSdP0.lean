/- The runs of the functions that BlockWidths reaches do what their plain forms say, part 0. Made by a program. -/
import Derived.Test.YtkciiamllegclaaSdGk
namespace Go.Proofs.Ytkciiamllegclaa
open Go.RowKit
set_option maxRecDepth 20000
set_option linter.all false
set_option linter.unusedVariables false
set_option linter.unusedSimpArgs false



noncomputable section
abbrev cx16 (M : Nat → Prop) (w0 : World) : Cx := ⟨Try.prog, 8, M, w0⟩
abbrev q16 (M : Nat → Prop) (w0 : World) (r : Int) := bodyPost Try.prog Try.f16 (RetQ M w0 (fun v _ => v = .int .i64 r))
variable {K : Kn} {n : Nat} {M : Nat → Prop} {w0 : World} {r : Int} {v1 : TBlockMargin} 
theorem g_api_BlockMargin_Sum_ok (hK : KnOk K) (h : g_api_BlockMargin_Sum K n v1 = some r) : ACalls Try.prog 16 [.agg (eTBlockMargin v1)] (fun v _ => v = .int .i64 r) := by
  refine acalls_intro (c := cat Try.f16 []) Try.func16 (by kernel_rfl) _ Try.ntmps16 (of_decide_eq_true (by kernel_rfl)) fun M w0 => ?_
  refine ve_cast (s' := ⟨[(0,.agg (eTBlockMargin v1))],[],[],[]⟩) (by kernel_rfl) ?_
  unfold g_api_BlockMargin_Sum at h
  refine ve_rt 5 ?_
  have hr := Option.some.inj h
  subst hr
  exact ve_d1
end


noncomputable section
abbrev cx17 (M : Nat → Prop) (w0 : World) : Cx := ⟨Try.prog, 8, M, w0⟩
abbrev q17 (M : Nat → Prop) (w0 : World) (r : TBlockMargin) := bodyPost Try.prog Try.f17 (RetQ M w0 (fun v _ => v = .agg (eTBlockMargin r)))
variable {K : Kn} {n : Nat} {M : Nat → Prop} {w0 : World} {r : TBlockMargin} {v1 : Int} 
theorem g_block_Of_ok (hK : KnOk K) (h : g_block_Of K n v1 = some r) : ACalls Try.prog 17 [.int .i64 v1] (fun v _ => v = .agg (eTBlockMargin r)) := by
  refine acalls_intro (c := cat Try.f17 []) Try.func17 (by kernel_rfl) _ Try.ntmps17 (of_decide_eq_true (by kernel_rfl)) fun M w0 => ?_
  refine ve_cast (s' := ⟨[(0,.int .i64 v1)],[],[],[]⟩) (by kernel_rfl) ?_
  unfold g_block_Of at h
  refine ve_rt 5 ?_
  have hr := Option.some.inj h
  subst hr
  exact ve_d1
end


noncomputable section
abbrev cx52 (M : Nat → Prop) (w0 : World) : Cx := ⟨Try.prog, 6, M, w0⟩
abbrev q52 (M : Nat → Prop) (w0 : World) (r : Int) := bodyPost Try.prog Try.f52 (RetQ M w0 (fun v _ => v = .int .i64 r))
variable {K : Kn} {n : Nat} {M : Nat → Prop} {w0 : World} {r : Int} {v1 : Int} 
theorem g_block_limit_ok (hK : KnOk K) (h : g_block_limit K n v1 = some r) : ACalls Try.prog 52 [.int .i64 v1] (fun v _ => v = .int .i64 r) := by
  refine acalls_intro (c := cat Try.f52 []) Try.func52 (by kernel_rfl) _ Try.ntmps52 (of_decide_eq_true (by kernel_rfl)) fun M w0 => ?_
  refine ve_cast (s' := ⟨[(0,.int .i64 v1)],[],[],[]⟩) (by kernel_rfl) ?_
  unfold g_block_limit at h
  refine ve_rt 5 ?_
  have hr := Option.some.inj h
  subst hr
  exact ve_d1
end

def p20_0 : List Nat := [1, 1, 0, 1, 0, 1]
def p20_1 : List Nat := [1, 1, 0, 1, 0, 1, 1, 1]
def p20_2 : List Nat := [1, 1, 0, 1, 0, 1, 1, 1, 0]
noncomputable section
abbrev cx20 (M : Nat → Prop) (w0 : World) : Cx := ⟨Try.prog, 25, M, w0⟩
abbrev q20 (M : Nat → Prop) (w0 : World) (r : (Int × Bool)) := bodyPost Try.prog Try.f20 (RetQ M w0 (fun v _ => v = .tup [.int .i64 r.1, .bool r.2]))
def s20_j1 (v4 : Int) : AS := ⟨[(6,.int .i64 v4)],[],[],[]⟩
variable {K : Kn} {n : Nat} {M : Nat → Prop} {w0 : World} {r : (Int × Bool)} {v1 : TCascadeLength} {v2 : Int} {v4 : Int} 
theorem g_block_Length_j1_ok (hK : KnOk K) (h : g_block_Length_j1 K n v4 = some r) : VE (cx20 M w0) (q20 M w0 r) [.b 0, .c (cat Try.f20 [1, 1, 1])] .normal (s20_j1 v4) := by
  unfold g_block_Length_j1 at h
  refine ve_rt 4 ?_
  have hr := Option.some.inj h
  subst hr
  exact ve_dt
theorem g_block_Length_ok (hK : KnOk K) (h : g_block_Length K n v1 v2 = some r) : ACalls Try.prog 20 [.agg (eTCascadeLength v1), .int .i64 v2] (fun v _ => v = .tup [.int .i64 r.1, .bool r.2]) := by
  refine acalls_intro (c := cat Try.f20 []) Try.func20 (by kernel_rfl) _ Try.ntmps20 (of_decide_eq_true (by kernel_rfl)) fun M w0 => ?_
  refine ve_cast (s' := ⟨[(0,.agg (eTCascadeLength v1)),(1,.int .i64 v2)],[],[],[]⟩) (by kernel_rfl) ?_
  unfold g_block_Length at h
  refine ve_un (ks' := [.c (cat Try.f20 p20_0), .b 0, .c (cat Try.f20 [1, 1, 1])]) 10 ?_
  rcases ite_some h with ⟨h1, h⟩ | ⟨h1, h⟩
  ·
   refine ve_sb 11 h1 ?_
   exact ve_arr 2 (g_block_Length_j1_ok hK h)
  ·
   refine ve_sb 11 h1 ?_
   refine ve_un (ks' := [.c (cat Try.f20 p20_1), .b 0, .c (cat Try.f20 [1, 1, 1])]) 3 ?_
   rcases ite_some h with ⟨h2, h⟩ | ⟨h2, h⟩
   ·
    refine ve_sb 13 h2 ?_
    refine ve_un (ks' := [.c (cat Try.f20 p20_2), .b 0, .c (cat Try.f20 [1, 1, 1])]) 1 ?_
    refine ve_in 1 ?_
    obtain ⟨v3, h3, h⟩ := bind_some h
    refine ot_cl (g_block_limit_ok hK h3) ?_
    refine ot_end ?_
    exact ve_arr 0 (g_block_Length_j1_ok hK h)
   ·
    refine ve_sb 13 h2 ?_
    refine ve_rt 6 ?_
    have hr := Option.some.inj h
    subst hr
    exact ve_dt
end

def p22_0 : List Nat := [1, 1, 1, 1]
def p22_1 : List Nat := [1, 1, 1, 0, 0]
def p22_2 : List Nat := [1, 1, 1, 0, 1]
def p22_3 : List Nat := [1, 1, 1, 0, 1, 1]
def p22_4 : List Nat := [1, 1, 0, 0]
def p22_5 : List Nat := [1, 1, 0, 1]
def p22_6 : List Nat := [1, 1, 0, 1, 1]
noncomputable section
abbrev cx22 (M : Nat → Prop) (w0 : World) : Cx := ⟨Try.prog, 37, M, w0⟩
abbrev q22 (M : Nat → Prop) (w0 : World) (r : Int) := bodyPost Try.prog Try.f22 (RetQ M w0 (fun v _ => v = .int .i64 r))
def s22_j2 (v7 : Int) : AS := ⟨[(2,.int .i64 v7)],[],[],[]⟩
def s22_j1 (v1 : TCascadeStyle) (v2 : Int) (v5 : Int) : AS := ⟨[(1,.int .i64 v2),(2,.int .i64 v5),(3,.ptr 3 0)],[(3,eTCascadeStyle v1)],[],[3]⟩
variable {K : Kn} {n : Nat} {M : Nat → Prop} {w0 : World} {r : Int} {v1 : TCascadeStyle} {v2 : Int} {v3 : Int} {v5 : Int} {v7 : Int} 
theorem g_block_Clamp_j2_ok (hK : KnOk K) (h : g_block_Clamp_j2 K n v7 = some r) : VE (cx22 M w0) (q22 M w0 r) [.c (cat Try.f22 p22_0)] .normal (s22_j2 v7) := by
  unfold g_block_Clamp_j2 at h
  refine ve_rt 3 ?_
  have hr := Option.some.inj h
  subst hr
  exact ve_d1
theorem g_block_Clamp_j1_ok (hK : KnOk K) (h : g_block_Clamp_j1 K n v1 v2 v5 = some r) : VE (cx22 M w0) (q22 M w0 r) [.c (cat Try.f22 [1, 1, 1])] .normal (s22_j1 v1 v2 v5) := by
  unfold g_block_Clamp_j1 at h
  refine ve_un (ks' := [.c (cat Try.f22 p22_1), .c (cat Try.f22 p22_2), .c (cat Try.f22 p22_0)]) 2 ?_
  refine ve_in 3 ?_
  obtain ⟨v6, h3, h⟩ := bind_some h
  refine ot_cl (g_block_Length_ok hK h3) ?_
  refine ot_end ?_
  refine ve_un (ks' := [.c (cat Try.f22 p22_3), .c (cat Try.f22 p22_0)]) 2 ?_
  rcases ite_some h with ⟨h4, h⟩ | ⟨h4, h⟩
  ·
   refine ve_sb 32 h4 ?_
   exact ve_arr 2 (g_block_Clamp_j2_ok hK h)
  ·
   refine ve_sb 32 h4 ?_
   exact ve_arr 2 (g_block_Clamp_j2_ok hK h)
theorem g_block_Clamp_ok (hK : KnOk K) (h : g_block_Clamp K n v1 v2 v3 = some r) : ACalls Try.prog 22 [.agg (eTCascadeStyle v1), .int .i64 v2, .int .i64 v3] (fun v _ => v = .int .i64 r) := by
  refine acalls_intro (c := cat Try.f22 []) Try.func22 (by kernel_rfl) _ Try.ntmps22 (of_decide_eq_true (by kernel_rfl)) fun M w0 => ?_
  refine ve_cast (s' := ⟨[(0,.agg (eTCascadeStyle v1)),(1,.int .i64 v2),(2,.int .i64 v3)],[],[],[]⟩) (by kernel_rfl) ?_
  unfold g_block_Clamp at h
  refine ve_un (ks' := [.c (cat Try.f22 p22_4), .c (cat Try.f22 p22_5), .c (cat Try.f22 [1, 1, 1])]) 6 ?_
  refine ve_in 3 ?_
  obtain ⟨v4, h1, h⟩ := bind_some h
  refine ot_cl (g_block_Length_ok hK h1) ?_
  refine ot_end ?_
  refine ve_un (ks' := [.c (cat Try.f22 p22_6), .c (cat Try.f22 [1, 1, 1])]) 2 ?_
  rcases ite_some h with ⟨h2, h⟩ | ⟨h2, h⟩
  ·
   refine ve_sb 20 h2 ?_
   exact ve_arr 2 (g_block_Clamp_j1_ok hK h)
  ·
   refine ve_sb 20 h2 ?_
   exact ve_arr 2 (g_block_Clamp_j1_ok hK h)
end

def p24_0 : List Nat := [1, 1, 0, 1, 0]
def p24_1 : List Nat := [1, 1, 0, 1, 0, 0]
def p24_2 : List Nat := [1, 1, 0, 1, 0, 0, 1, 1, 0, 0, 1, 0]
def p24_3 : List Nat := [1, 1, 0, 1, 0, 0, 1, 1, 0, 0, 1, 1]
def p24_4 : List Nat := [1, 1, 0, 1, 0, 0, 1, 1, 1]
def p24_5 : List Nat := [1, 1, 0, 1, 0, 0, 1, 1, 0, 0, 1, 1, 0]
def p24_6 : List Nat := [1, 1, 0, 1, 0, 0, 1, 1, 0, 0, 1, 1, 1]
def p24_7 : List Nat := [1, 1, 0, 1, 0, 0, 1, 1, 0, 0, 1, 1, 1, 0]
def p24_8 : List Nat := [1, 1, 0, 1, 0, 0, 1, 1, 0, 0, 1, 1, 1, 1]
noncomputable section
abbrev cx24 (M : Nat → Prop) (w0 : World) : Cx := ⟨Try.prog, 52, M, w0⟩
abbrev q24 (M : Nat → Prop) (w0 : World) (r : TBlockSizes) := bodyPost Try.prog Try.f24 (RetQ M w0 (fun v _ => v = .agg (eTBlockSizes r)))
variable {K : Kn} {n : Nat} {M : Nat → Prop} {w0 : World} {r : TBlockSizes} {v1 : TCascadeStyle} {v2 : Int} {v3 : Int} 
theorem g_block_Edges_ok (hK : KnOk K) (h : g_block_Edges K n v1 v2 v3 = some r) : ACalls Try.prog 24 [.agg (eTCascadeStyle v1), .int .i64 v2, .int .i64 v3] (fun v _ => v = .agg (eTBlockSizes r)) := by
  refine acalls_intro (c := cat Try.f24 []) Try.func24 (by kernel_rfl) _ Try.ntmps24 (of_decide_eq_true (by kernel_rfl)) fun M w0 => ?_
  refine ve_cast (s' := ⟨[(0,.agg (eTCascadeStyle v1)),(1,.int .i64 v2),(2,.int .i64 v3)],[],[],[]⟩) (by kernel_rfl) ?_
  unfold g_block_Edges at h
  refine ve_go (ks' := [.c (cat Try.f24 p24_0), .b 0, .c (cat Try.f24 [1, 1, 1])]) 8 ⟨[(1,.int .i64 v2),(3,.ptr 3 0),(6,.ptr 6 0),(7,.ptr 7 0),(13,.int .i64 0)],[(3,eTCascadeStyle v1),(6,eTBlockSizes zTBlockSizes),(7,eTBlockSizes ({ zTBlockSizes with Content := v3 } : TBlockSizes))],[],[3,6,7]⟩ ?_
  refine lp_enter 40 (c := cat Try.f24 p24_1) (by kernel_rfl) ?_
  refine lp_round ?_
  refine ve_un (ks' := [.c (cat Try.f24 p24_2), .c (cat Try.f24 p24_3), .b 1, .c (cat Try.f24 p24_4), kl (cx24 M w0) (q24 M w0 r) [.b 0, .c (cat Try.f24 [1, 1, 1])] (cat Try.f24 p24_1) 39, .b 0, .c (cat Try.f24 [1, 1, 1])]) 10 ?_
  refine ve_in 6 ?_
  obtain ⟨v4, h1, h⟩ := bind_some h
  refine ot_cl (g_block_Length_ok hK h1) ?_
  refine ot_end ?_
  refine ve_un (ks' := [.c (cat Try.f24 p24_5), .c (cat Try.f24 p24_6), .b 1, .c (cat Try.f24 p24_4), kl (cx24 M w0) (q24 M w0 r) [.b 0, .c (cat Try.f24 [1, 1, 1])] (cat Try.f24 p24_1) 39, .b 0, .c (cat Try.f24 [1, 1, 1])]) 1 ?_
  refine ve_in 5 ?_
  obtain ⟨v5, h2, h⟩ := bind_some h
  refine ot_cl (g_block_limit_ok hK h2) ?_
  refine ot_end ?_
  refine ve_un (ks' := [.c (cat Try.f24 p24_7), .c (cat Try.f24 p24_8), .b 1, .c (cat Try.f24 p24_4), kl (cx24 M w0) (q24 M w0 r) [.b 0, .c (cat Try.f24 [1, 1, 1])] (cat Try.f24 p24_1) 39, .b 0, .c (cat Try.f24 [1, 1, 1])]) 1 ?_
  refine ve_in 5 ?_
  obtain ⟨v6, h3, h⟩ := bind_some h
  refine ot_cl (g_block_Length_ok hK h3) ?_
  refine ot_end ?_
  refine ve_go (ks' := [kl (cx24 M w0) (q24 M w0 r) [.b 0, .c (cat Try.f24 [1, 1, 1])] (cat Try.f24 p24_1) 39, .b 0, .c (cat Try.f24 [1, 1, 1])]) 3 ⟨[(1,.int .i64 v2),(3,.ptr 3 0),(6,.ptr 6 0),(7,.ptr 7 0),(13,.int .i64 1)],[(3,eTCascadeStyle v1),(6,eTBlockSizes zTBlockSizes),(7,eTBlockSizes (⟨⟨v4.1, 0, 0, 0⟩, ⟨v5, 0, 0, 0⟩, ⟨(max v6.1 0), 0, 0, 0⟩, v3⟩ : TBlockSizes))],[],[3,6,7]⟩ ?_
  refine lp_back ?_
  refine lp_round ?_
  refine ve_un (ks' := [.c (cat Try.f24 p24_2), .c (cat Try.f24 p24_3), .b 1, .c (cat Try.f24 p24_4), kl (cx24 M w0) (q24 M w0 r) [.b 0, .c (cat Try.f24 [1, 1, 1])] (cat Try.f24 p24_1) 38, .b 0, .c (cat Try.f24 [1, 1, 1])]) 10 ?_
  refine ve_in 6 ?_
  obtain ⟨v7, h4, h⟩ := bind_some h
  refine ot_cl (g_block_Length_ok hK h4) ?_
  refine ot_end ?_
  refine ve_un (ks' := [.c (cat Try.f24 p24_5), .c (cat Try.f24 p24_6), .b 1, .c (cat Try.f24 p24_4), kl (cx24 M w0) (q24 M w0 r) [.b 0, .c (cat Try.f24 [1, 1, 1])] (cat Try.f24 p24_1) 38, .b 0, .c (cat Try.f24 [1, 1, 1])]) 1 ?_
  refine ve_in 5 ?_
  obtain ⟨v8, h5, h⟩ := bind_some h
  refine ot_cl (g_block_limit_ok hK h5) ?_
  refine ot_end ?_
  refine ve_un (ks' := [.c (cat Try.f24 p24_7), .c (cat Try.f24 p24_8), .b 1, .c (cat Try.f24 p24_4), kl (cx24 M w0) (q24 M w0 r) [.b 0, .c (cat Try.f24 [1, 1, 1])] (cat Try.f24 p24_1) 38, .b 0, .c (cat Try.f24 [1, 1, 1])]) 1 ?_
  refine ve_in 5 ?_
  obtain ⟨v9, h6, h⟩ := bind_some h
  refine ot_cl (g_block_Length_ok hK h6) ?_
  refine ot_end ?_
  refine ve_go (ks' := [kl (cx24 M w0) (q24 M w0 r) [.b 0, .c (cat Try.f24 [1, 1, 1])] (cat Try.f24 p24_1) 38, .b 0, .c (cat Try.f24 [1, 1, 1])]) 3 ⟨[(1,.int .i64 v2),(3,.ptr 3 0),(6,.ptr 6 0),(7,.ptr 7 0),(13,.int .i64 2)],[(3,eTCascadeStyle v1),(6,eTBlockSizes zTBlockSizes),(7,eTBlockSizes (⟨⟨v4.1, v7.1, 0, 0⟩, ⟨v5, v8, 0, 0⟩, ⟨(max v6.1 0), (max v9.1 0), 0, 0⟩, v3⟩ : TBlockSizes))],[],[3,6,7]⟩ ?_
  refine lp_back ?_
  refine lp_round ?_
  refine ve_un (ks' := [.c (cat Try.f24 p24_2), .c (cat Try.f24 p24_3), .b 1, .c (cat Try.f24 p24_4), kl (cx24 M w0) (q24 M w0 r) [.b 0, .c (cat Try.f24 [1, 1, 1])] (cat Try.f24 p24_1) 37, .b 0, .c (cat Try.f24 [1, 1, 1])]) 10 ?_
  refine ve_in 6 ?_
  obtain ⟨v10, h7, h⟩ := bind_some h
  refine ot_cl (g_block_Length_ok hK h7) ?_
  refine ot_end ?_
  refine ve_un (ks' := [.c (cat Try.f24 p24_5), .c (cat Try.f24 p24_6), .b 1, .c (cat Try.f24 p24_4), kl (cx24 M w0) (q24 M w0 r) [.b 0, .c (cat Try.f24 [1, 1, 1])] (cat Try.f24 p24_1) 37, .b 0, .c (cat Try.f24 [1, 1, 1])]) 1 ?_
  refine ve_in 5 ?_
  obtain ⟨v11, h8, h⟩ := bind_some h
  refine ot_cl (g_block_limit_ok hK h8) ?_
  refine ot_end ?_
  refine ve_un (ks' := [.c (cat Try.f24 p24_7), .c (cat Try.f24 p24_8), .b 1, .c (cat Try.f24 p24_4), kl (cx24 M w0) (q24 M w0 r) [.b 0, .c (cat Try.f24 [1, 1, 1])] (cat Try.f24 p24_1) 37, .b 0, .c (cat Try.f24 [1, 1, 1])]) 1 ?_
  refine ve_in 5 ?_
  obtain ⟨v12, h9, h⟩ := bind_some h
  refine ot_cl (g_block_Length_ok hK h9) ?_
  refine ot_end ?_
  refine ve_go (ks' := [kl (cx24 M w0) (q24 M w0 r) [.b 0, .c (cat Try.f24 [1, 1, 1])] (cat Try.f24 p24_1) 37, .b 0, .c (cat Try.f24 [1, 1, 1])]) 3 ⟨[(1,.int .i64 v2),(3,.ptr 3 0),(6,.ptr 6 0),(7,.ptr 7 0),(13,.int .i64 3)],[(3,eTCascadeStyle v1),(6,eTBlockSizes zTBlockSizes),(7,eTBlockSizes (⟨⟨v4.1, v7.1, v10.1, 0⟩, ⟨v5, v8, v11, 0⟩, ⟨(max v6.1 0), (max v9.1 0), (max v12.1 0), 0⟩, v3⟩ : TBlockSizes))],[],[3,6,7]⟩ ?_
  refine lp_back ?_
  refine lp_round ?_
  refine ve_un (ks' := [.c (cat Try.f24 p24_2), .c (cat Try.f24 p24_3), .b 1, .c (cat Try.f24 p24_4), kl (cx24 M w0) (q24 M w0 r) [.b 0, .c (cat Try.f24 [1, 1, 1])] (cat Try.f24 p24_1) 36, .b 0, .c (cat Try.f24 [1, 1, 1])]) 10 ?_
  refine ve_in 6 ?_
  obtain ⟨v13, h10, h⟩ := bind_some h
  refine ot_cl (g_block_Length_ok hK h10) ?_
  refine ot_end ?_
  refine ve_un (ks' := [.c (cat Try.f24 p24_5), .c (cat Try.f24 p24_6), .b 1, .c (cat Try.f24 p24_4), kl (cx24 M w0) (q24 M w0 r) [.b 0, .c (cat Try.f24 [1, 1, 1])] (cat Try.f24 p24_1) 36, .b 0, .c (cat Try.f24 [1, 1, 1])]) 1 ?_
  refine ve_in 5 ?_
  obtain ⟨v14, h11, h⟩ := bind_some h
  refine ot_cl (g_block_limit_ok hK h11) ?_
  refine ot_end ?_
  refine ve_un (ks' := [.c (cat Try.f24 p24_7), .c (cat Try.f24 p24_8), .b 1, .c (cat Try.f24 p24_4), kl (cx24 M w0) (q24 M w0 r) [.b 0, .c (cat Try.f24 [1, 1, 1])] (cat Try.f24 p24_1) 36, .b 0, .c (cat Try.f24 [1, 1, 1])]) 1 ?_
  refine ve_in 5 ?_
  obtain ⟨v15, h12, h⟩ := bind_some h
  refine ot_cl (g_block_Length_ok hK h12) ?_
  refine ot_end ?_
  refine ve_go (ks' := [kl (cx24 M w0) (q24 M w0 r) [.b 0, .c (cat Try.f24 [1, 1, 1])] (cat Try.f24 p24_1) 36, .b 0, .c (cat Try.f24 [1, 1, 1])]) 3 ⟨[(1,.int .i64 v2),(3,.ptr 3 0),(6,.ptr 6 0),(7,.ptr 7 0),(13,.int .i64 4)],[(3,eTCascadeStyle v1),(6,eTBlockSizes zTBlockSizes),(7,eTBlockSizes (⟨⟨v4.1, v7.1, v10.1, v13.1⟩, ⟨v5, v8, v11, v14⟩, ⟨(max v6.1 0), (max v9.1 0), (max v12.1 0), (max v15.1 0)⟩, v3⟩ : TBlockSizes))],[],[3,6,7]⟩ ?_
  refine lp_back ?_
  refine lp_round ?_
  refine ve_rt 11 ?_
  have hr := Option.some.inj h
  subst hr
  exact ve_d1
end


noncomputable section
abbrev cx26 (M : Nat → Prop) (w0 : World) : Cx := ⟨Try.prog, 29, M, w0⟩
abbrev q26 (M : Nat → Prop) (w0 : World) (r : Int) := bodyPost Try.prog Try.f26 (RetQ M w0 (fun v _ => v = .int .i64 r))
variable {K : Kn} {n : Nat} {M : Nat → Prop} {w0 : World} {r : Int} {v1 : TBlockSizes} 
theorem g_api_BlockSizes_Sum_ok (hK : KnOk K) (h : g_api_BlockSizes_Sum K n v1 = some r) : ACalls Try.prog 26 [.agg (eTBlockSizes v1)] (fun v _ => v = .int .i64 r) := by
  refine acalls_intro (c := cat Try.f26 []) Try.func26 (by kernel_rfl) _ Try.ntmps26 (of_decide_eq_true (by kernel_rfl)) fun M w0 => ?_
  refine ve_cast (s' := ⟨[(0,.agg (eTBlockSizes v1))],[],[],[]⟩) (by kernel_rfl) ?_
  unfold g_api_BlockSizes_Sum at h
  refine ve_rt 5 ?_
  have hr := Option.some.inj h
  subst hr
  exact ve_d1
end

def p28_0 : List Nat := ones 11 []
def p28_1 : List Nat := ones 10 [0, 0, 1]
def p28_2 : List Nat := ones 10 [0, 0, 1, 1, 1]
def p28_3 : List Nat := ones 10 [0, 0, 1, 1, 1, 1, 1]
def p28_4 : List Nat := ones 5 []
def p28_5 : List Nat := ones 5 [0]
def p28_6 : List Nat := ones 6 []
def p28_7 : List Nat := ones 6 [0]
def p28_8 : List Nat := ones 7 []
def p28_9 : List Nat := ones 7 [0, 1]
def p28_10 : List Nat := ones 8 []
def p28_11 : List Nat := ones 8 [0]
def p28_12 : List Nat := ones 9 []
def p28_13 : List Nat := ones 9 [0]
def p28_14 : List Nat := ones 10 []
def p28_15 : List Nat := ones 10 [0, 0, 0]
def p28_16 : List Nat := [1, 1, 1, 0]
def p28_17 : List Nat := [1, 1, 1, 1]
def p28_18 : List Nat := [1, 1, 1, 1, 0, 1]
def p28_19 : List Nat := [1, 1, 1, 1, 0, 1, 0]
noncomputable section
abbrev cx28 (M : Nat → Prop) (w0 : World) : Cx := ⟨Try.prog, 89, M, w0⟩
abbrev q28 (M : Nat → Prop) (w0 : World) (r : TBlockSizes) := bodyPost Try.prog Try.f28 (RetQ M w0 (fun v _ => v = .agg (eTBlockSizes r)))
def s28_j3 (v4 : TBlockSizes) (v8 : Int) (v13 : (V4 Int)) : AS := ⟨[(4,.ptr 4 0),(5,.ptr 5 0)],[(4,eTBlockSizes zTBlockSizes),(5,eTBlockSizes ({ v4 with Margin := v13, Content := v8 } : TBlockSizes))],[],[4,5]⟩
def s28_j2 (v3 : Int) (v4 : TBlockSizes) (v8 : Int) (v9 : Int) (v10 : (Int × Bool)) (v11 : (Int × Bool)) (v12 : Bool) : AS := ⟨[(4,.ptr 4 0),(5,.ptr 5 0),(8,.int .i64 (w64 (v3 - v9))),(10,.bool v10.2),(12,.bool v11.2),(59,.bool v12)],[(4,eTBlockSizes zTBlockSizes),(5,eTBlockSizes ({ v4 with Content := v8 } : TBlockSizes))],[],[4,5]⟩
def s28_j1 (v1 : TCascadeStyle) (v3 : Int) (v4 : TBlockSizes) (v7 : Int) : AS := ⟨[(1,.int .i64 v3),(2,.ptr 2 0),(4,.ptr 4 0),(5,.ptr 5 0),(6,.int .i64 v7)],[(2,eTCascadeStyle v1),(4,eTBlockSizes zTBlockSizes),(5,eTBlockSizes v4)],[],[2,4,5]⟩
variable {K : Kn} {n : Nat} {M : Nat → Prop} {w0 : World} {r : TBlockSizes} {v1 : TCascadeStyle} {v2 : Int} {v3 : Int} {v4 : TBlockSizes} {v7 : Int} {v8 : Int} {v9 : Int} {v10 : (Int × Bool)} {v11 : (Int × Bool)} {v12 : Bool} {v13 : (V4 Int)} 
theorem g_block_Used_j3_ok (hK : KnOk K) (h : g_block_Used_j3 K n v4 v8 v13 = some r) : VE (cx28 M w0) (q28 M w0 r) [.b 0, .c (cat Try.f28 p28_0)] .normal (s28_j3 v4 v8 v13) := by
  unfold g_block_Used_j3 at h
  refine ve_rt 4 ?_
  have hr := Option.some.inj h
  subst hr
  exact ve_d1
theorem g_block_Used_j2_ok (hK : KnOk K) (h : g_block_Used_j2 K n v3 v4 v8 v9 v10 v11 v12 = some r) : VE (cx28 M w0) (q28 M w0 r) [.c (cat Try.f28 p28_1), .b 0, .c (cat Try.f28 p28_0)] .normal (s28_j2 v3 v4 v8 v9 v10 v11 v12) := by
  unfold g_block_Used_j2 at h
  rcases ite_some h with ⟨h12, h⟩ | ⟨h12, h⟩
  ·
   refine ve_sb 59 h12 ?_
   exact ve_arr 4 (g_block_Used_j3_ok hK h)
  ·
   refine ve_sb 59 h12 ?_
   refine ve_un (ks' := [.c (cat Try.f28 p28_2), .b 0, .c (cat Try.f28 p28_0)]) 3 ?_
   rcases ite_some h with ⟨h13, h⟩ | ⟨h13, h⟩
   ·
    refine ve_sb 76 h13 ?_
    exact ve_arr 2 (g_block_Used_j3_ok hK h)
   ·
    refine ve_sb 76 h13 ?_
    refine ve_un (ks' := [.c (cat Try.f28 p28_3), .b 0, .c (cat Try.f28 p28_0)]) 3 ?_
    rcases ite_some h with ⟨h14, h⟩ | ⟨h14, h⟩
    ·
     refine ve_sb 82 h14 ?_
     exact ve_arr 2 (g_block_Used_j3_ok hK h)
    ·
     refine ve_sb 82 h14 ?_
     exact ve_arr 2 (g_block_Used_j3_ok hK h)
theorem g_block_Used_j1_ok (hK : KnOk K) (h : g_block_Used_j1 K n v1 v3 v4 v7 = some r) : VE (cx28 M w0) (q28 M w0 r) [.c (cat Try.f28 p28_4)] .normal (s28_j1 v1 v3 v4 v7) := by
  unfold g_block_Used_j1 at h
  refine ve_un (ks' := [.c (cat Try.f28 p28_5), .c (cat Try.f28 p28_6)]) 1 ?_
  refine ve_in 3 ?_
  obtain ⟨v8, h6, h⟩ := bind_some h
  refine ot_cl (g_block_Clamp_ok hK h6) ?_
  refine ot_end ?_
  refine ve_un (ks' := [.c (cat Try.f28 p28_7), .c (cat Try.f28 p28_8)]) 1 ?_
  refine ve_in 2 ?_
  obtain ⟨v9, h7, h⟩ := bind_some h
  refine ot_cl (g_api_BlockSizes_Sum_ok hK h7) ?_
  refine ot_end ?_
  refine ve_un (ks' := [.c (cat Try.f28 p28_9), .c (cat Try.f28 p28_10)]) 3 ?_
  rcases ite_some h with ⟨h8, h⟩ | ⟨h8, h⟩
  ·
   refine ve_sb 41 h8 ?_
   refine ve_rt 5 ?_
   have hr := Option.some.inj h
   subst hr
   exact ve_d1
  ·
   refine ve_sb 41 h8 ?_
   refine ve_un (ks' := [.c (cat Try.f28 p28_11), .c (cat Try.f28 p28_12)]) 3 ?_
   refine ve_in 4 ?_
   obtain ⟨v10, h9, h⟩ := bind_some h
   refine ot_cl (g_block_Length_ok hK h9) ?_
   refine ot_end ?_
   refine ve_un (ks' := [.c (cat Try.f28 p28_13), .c (cat Try.f28 p28_14)]) 1 ?_
   refine ve_in 4 ?_
   obtain ⟨v11, h10, h⟩ := bind_some h
   refine ot_cl (g_block_Length_ok hK h10) ?_
   refine ot_end ?_
   refine ve_un (ks' := [.c (cat Try.f28 p28_15), .c (cat Try.f28 p28_1), .b 0, .c (cat Try.f28 p28_0)]) 3 ?_
   refine ve_in 3 ?_
   rcases ite_some h with ⟨h11, h⟩ | ⟨h11, h⟩
   ·
    refine ot_sb 62 h11 ?_
    refine ot_end ?_
    exact ve_arr 0 (g_block_Used_j2_ok hK h)
   ·
    refine ot_sb 62 h11 ?_
    refine ot_end ?_
    exact ve_arr 0 (g_block_Used_j2_ok hK h)
theorem g_block_Used_ok (hK : KnOk K) (h : g_block_Used K n v1 v2 = some r) : ACalls Try.prog 28 [.agg (eTCascadeStyle v1), .int .i64 v2] (fun v _ => v = .agg (eTBlockSizes r)) := by
  refine acalls_intro (c := cat Try.f28 []) Try.func28 (by kernel_rfl) _ Try.ntmps28 (of_decide_eq_true (by kernel_rfl)) fun M w0 => ?_
  refine ve_cast (s' := ⟨[(0,.agg (eTCascadeStyle v1)),(1,.int .i64 v2)],[],[],[]⟩) (by kernel_rfl) ?_
  unfold g_block_Used at h
  refine ve_un (ks' := [.c (cat Try.f28 [1, 0]), .c (cat Try.f28 [1, 1])]) 3 ?_
  refine ve_in 1 ?_
  obtain ⟨v3, h1, h⟩ := bind_some h
  refine ot_cl (g_block_limit_ok hK h1) ?_
  refine ot_end ?_
  refine ve_un (ks' := [.c (cat Try.f28 [1, 1, 0]), .c (cat Try.f28 [1, 1, 1])]) 1 ?_
  refine ve_in 2 ?_
  obtain ⟨v4, h2, h⟩ := bind_some h
  refine ot_cl (g_block_Edges_ok hK h2) ?_
  refine ot_end ?_
  refine ve_un (ks' := [.c (cat Try.f28 p28_16), .c (cat Try.f28 p28_17)]) 1 ?_
  refine ve_in 3 ?_
  obtain ⟨v5, h3, h⟩ := bind_some h
  refine ot_cl (g_block_Length_ok hK h3) ?_
  refine ot_end ?_
  refine ve_un (ks' := [.c (cat Try.f28 p28_18), .c (cat Try.f28 p28_4)]) 3 ?_
  rcases ite_some h with ⟨h4, h⟩ | ⟨h4, h⟩
  ·
   refine ve_sb 26 h4 ?_
   refine ve_un (ks' := [.c (cat Try.f28 p28_19), .c (cat Try.f28 p28_4)]) 1 ?_
   refine ve_in 2 ?_
   obtain ⟨v6, h5, h⟩ := bind_some h
   refine ot_cl (g_api_BlockSizes_Sum_ok hK h5) ?_
   refine ot_end ?_
   exact ve_arr 0 (g_block_Used_j1_ok hK h)
  ·
   refine ve_sb 26 h4 ?_
   exact ve_arr 2 (g_block_Used_j1_ok hK h)
end


noncomputable section
abbrev cx14 (M : Nat → Prop) (w0 : World) : Cx := ⟨Try.prog, 16, M, w0⟩
abbrev q14 (M : Nat → Prop) (w0 : World) (r : TBlockMargin) := bodyPost Try.prog Try.f14 (RetQ M w0 (fun v _ => v = .agg (eTBlockMargin r)))
variable {K : Kn} {n : Nat} {M : Nat → Prop} {w0 : World} {r : TBlockMargin} {v1 : TBlockMargin} {v2 : TBlockMargin} 
theorem g_block_Collapse_ok (hK : KnOk K) (h : g_block_Collapse K n v1 v2 = some r) : ACalls Try.prog 14 [.agg (eTBlockMargin v1), .agg (eTBlockMargin v2)] (fun v _ => v = .agg (eTBlockMargin r)) := by
  refine acalls_intro (c := cat Try.f14 []) Try.func14 (by kernel_rfl) _ Try.ntmps14 (of_decide_eq_true (by kernel_rfl)) fun M w0 => ?_
  refine ve_cast (s' := ⟨[(0,.agg (eTBlockMargin v1)),(1,.agg (eTBlockMargin v2))],[],[],[]⟩) (by kernel_rfl) ?_
  unfold g_block_Collapse at h
  refine ve_rt 5 ?_
  have hr := Option.some.inj h
  subst hr
  exact ve_d1
end

def p32_0 : List Nat := [1, 1, 1, 1]
def p32_1 : List Nat := [1, 1, 1, 0, 1, 0, 0]
def p32_2 : List Nat := [1, 1, 1, 0, 1, 0, 0, 1, 1, 0, 0, 1, 1, 1, 1, 1]
def p32_3 : List Nat := [1, 1, 1, 0, 1, 0, 0, 1, 1, 1]
def p32_4 : List Nat := [1, 1, 1, 0, 1, 0, 0, 1, 1, 0, 0, 1, 1, 1, 1, 0, 1, 0, 1]
def p32_5 : List Nat := [1, 1, 1, 0, 1, 0, 0, 1, 1, 0, 0, 1, 1, 1, 1]
def p32_6 : List Nat := [1, 1, 1, 0, 1, 0, 0, 1, 1, 0, 0, 1, 1, 1, 1, 0, 1]
def p32_7 : List Nat := [1, 1, 1, 0, 1, 0, 0, 1, 1, 0, 0, 1, 1, 1, 1, 0, 1, 0, 0, 1]
def p32_8 : List Nat := ones 5 []
def p32_9 : List Nat := ones 5 [0]
def p32_10 : List Nat := ones 6 []
def p32_11 : List Nat := [1, 1, 1, 0, 1, 0, 0, 1, 0]
def p32_12 : List Nat := [1, 1, 1, 0, 1, 0, 0, 1, 1]
def p32_13 : List Nat := [1, 1, 1, 0, 1, 0, 0, 1, 1, 0, 0, 0]
def p32_14 : List Nat := [1, 1, 1, 0, 1, 0, 0, 1, 1, 0, 0, 1]
def p32_15 : List Nat := [1, 1, 1, 0, 1, 0, 0, 1, 1, 0, 0, 1, 0]
def p32_16 : List Nat := [1, 1, 1, 0, 1, 0, 0, 1, 1, 0, 0, 1, 1]
def p32_17 : List Nat := [1, 1, 1, 0, 1, 0, 0, 1, 1, 0, 0, 1, 1, 1, 0, 1]
def p32_18 : List Nat := [1, 1, 1, 0, 1, 0, 0, 1, 1, 0, 0, 1, 1, 1, 0, 1, 0]
def p32_19 : List Nat := [1, 1, 1, 1, 0, 1]
def p32_20 : List Nat := [1, 1, 1, 0, 0]
def p32_21 : List Nat := [1, 1, 1, 0, 1]
def p32_22 : List Nat := [1, 1, 1, 0, 1, 0]
noncomputable section
abbrev cx32 (M : Nat → Prop) (w0 : World) : Cx := ⟨Try.prog, 52, M, w0⟩
abbrev q32 (M : Nat → Prop) (w0 : World) (r : ((List TBlockFragment) × Int × TBlockMargin × TBlockMargin × Bool)) := bodyPost Try.prog Try.f32 (RetQ M w0 (fun v s => v = .tup [.ref 43, .int .i64 r.2.1, .agg (eTBlockMargin r.2.2.1), .agg (eTBlockMargin r.2.2.2.1), .bool r.2.2.2.2] ∧ look 43 s.r = some ⟨60, 67, List.map eTBlockFragment r.1⟩))
abbrev k32_1 (M : Nat → Prop) (w0 : World) (r : ((List TBlockFragment) × Int × TBlockMargin × TBlockMargin × Bool)) (m1 : Nat) : Kont := kl (cx32 M w0) (q32 M w0 r) [.b 0, .c (cat Try.f32 p32_0)] (cat Try.f32 p32_1) m1
def s32_j3 (v1 : (List TBlockFragment)) (v18 : Int) (v21 : (List TBlockFragment)) (v24 : Int) (v26 : Int) (v27 : Bool) (v28 : TBlockMargin) (v29 : TBlockMargin) : AS := ⟨[(2,.ref 43),(3,.int .i64 v26),(4,.ptr 4 0),(5,.ptr 5 0),(6,.bool v27),(7,.ptr 7 0),(9,.ptr 9 0),(10,.sl (List.map eTBlockFragment v1)),(11,.int .i64 (v1.length : Int)),(12,.int .i64 v18)],[(4,eTBlockMargin v28),(5,eTBlockMargin zTBlockMargin),(7,eTBlockMargin v29),(9,xTBlockFragment ({ (List.getD v1 (v18).toNat default) with Y := v24 } : TBlockFragment))],[(43,⟨60,67,List.map eTBlockFragment v21⟩)],[4,5,7,9,43]⟩
def s32_j2 (v1 : (List TBlockFragment)) (v18 : Int) (v21 : (List TBlockFragment)) (v22 : TBlockMargin) (v24 : Int) (v25 : TBlockMargin) : AS := ⟨[(2,.ref 43),(4,.ptr 4 0),(5,.ptr 5 0),(7,.ptr 7 0),(9,.ptr 9 0),(10,.sl (List.map eTBlockFragment v1)),(11,.int .i64 (v1.length : Int)),(12,.int .i64 v18)],[(4,eTBlockMargin v25),(5,eTBlockMargin zTBlockMargin),(7,eTBlockMargin v22),(9,xTBlockFragment ({ (List.getD v1 (v18).toNat default) with Y := v24 } : TBlockFragment))],[(43,⟨60,67,List.map eTBlockFragment v21⟩)],[4,5,7,9,43]⟩
def s32_j1 (v1 : (List TBlockFragment)) (v16 : Int) (v17 : Bool) (v18 : Int) (v19 : TBlockMargin) (v21 : (List TBlockFragment)) (v22 : TBlockMargin) (v24 : Int) : AS := ⟨[(2,.ref 43),(3,.int .i64 v16),(4,.ptr 4 0),(5,.ptr 5 0),(6,.bool v17),(7,.ptr 7 0),(9,.ptr 9 0),(10,.sl (List.map eTBlockFragment v1)),(11,.int .i64 (v1.length : Int)),(12,.int .i64 v18)],[(4,eTBlockMargin v19),(5,eTBlockMargin zTBlockMargin),(7,eTBlockMargin v22),(9,xTBlockFragment ({ (List.getD v1 (v18).toNat default) with Y := v24 } : TBlockFragment))],[(43,⟨60,67,List.map eTBlockFragment v21⟩)],[4,5,7,9,43]⟩
def s32_j5 (v16 : Int) (v17 : Bool) (v20 : TBlockMargin) (v21 : (List TBlockFragment)) (v30 : TBlockMargin) : AS := ⟨[(2,.ref 43),(3,.int .i64 v16),(4,.ptr 4 0),(5,.ptr 5 0),(6,.bool v17),(7,.ptr 7 0)],[(4,eTBlockMargin v30),(5,eTBlockMargin zTBlockMargin),(7,eTBlockMargin v20)],[(43,⟨60,67,List.map eTBlockFragment v21⟩)],[4,5,7,43]⟩
def s32_l4 (v1 : (List TBlockFragment)) (v16 : Int) (v17 : Bool) (v18 : Int) (v19 : TBlockMargin) (v20 : TBlockMargin) (v21 : (List TBlockFragment)) : AS := ⟨[(2,.ref 43),(3,.int .i64 v16),(4,.ptr 4 0),(5,.ptr 5 0),(6,.bool v17),(7,.ptr 7 0),(10,.sl (List.map eTBlockFragment v1)),(11,.int .i64 (v1.length : Int)),(12,.int .i64 v18)],[(4,eTBlockMargin v19),(5,eTBlockMargin zTBlockMargin),(7,eTBlockMargin v20)],[(43,⟨60,67,List.map eTBlockFragment v21⟩)],[4,5,7,43]⟩
abbrev H32_1 (M : Nat → Prop) (w0 : World) (r : ((List TBlockFragment) × Int × TBlockMargin × TBlockMargin × Bool)) (v1 : (List TBlockFragment)) (m1 : Nat) (L1 : Int → Bool → Int → TBlockMargin → TBlockMargin → (List TBlockFragment) → Option ((List TBlockFragment) × Int × TBlockMargin × TBlockMargin × Bool)) : Prop := ∀ {v16 : Int} {v17 : Bool} {v18 : Int} {v19 : TBlockMargin} {v20 : TBlockMargin} {v21 : (List TBlockFragment)}, L1 v16 v17 v18 v19 v20 v21 = some r → LP (cx32 M w0) (q32 M w0 r) [.b 0, .c (cat Try.f32 p32_0)] (cat Try.f32 p32_1) m1 (s32_l4 v1 v16 v17 v18 v19 v20 v21)
variable {K : Kn} {n : Nat} {M : Nat → Prop} {w0 : World} {r : ((List TBlockFragment) × Int × TBlockMargin × TBlockMargin × Bool)} {v1 : (List TBlockFragment)} {v16 : Int} {v17 : Bool} {v18 : Int} {v19 : TBlockMargin} {v20 : TBlockMargin} {v21 : (List TBlockFragment)} {v22 : TBlockMargin} {v24 : Int} {v25 : TBlockMargin} {v26 : Int} {v27 : Bool} {v28 : TBlockMargin} {v29 : TBlockMargin} {v30 : TBlockMargin} {m1 : Nat} {L1 : Int → Bool → Int → TBlockMargin → TBlockMargin → (List TBlockFragment) → Option ((List TBlockFragment) × Int × TBlockMargin × TBlockMargin × Bool)}
theorem g_block_Stack_j3_ok (hK : KnOk K) (hL1 : H32_1 M w0 r v1 m1 L1) (h : g_block_Stack_j3 K n v1 v18 v21 v24 L1 v26 v27 v28 v29 = some r) : VE (cx32 M w0) (q32 M w0 r) [.c (cat Try.f32 p32_2), .b 1, .c (cat Try.f32 p32_3), k32_1 M w0 r m1, .b 0, .c (cat Try.f32 p32_0)] .normal (s32_j3 v1 v18 v21 v24 v26 v27 v28 v29) := by
  unfold g_block_Stack_j3 at h
  refine ve_in 2 ?_
  refine ot_sp (y_bsl eTBlockFragment ([({ (List.getD v1 (v18).toNat default) with Y := v24 } : TBlockFragment)] : List TBlockFragment) (new := [xTBlockFragment ({ (List.getD v1 (v18).toNat default) with Y := v24 } : TBlockFragment)]) (by simp only [List.map_cons, List.map_nil, xTBlockFragment_eq])) ?_
  obtain ⟨h22, h⟩ := chk_some h
  refine ot_sp (y_app 43 43 60 67 eTBlockFragment (rfl) (eTBlockFragment_len) h22) ?_
  refine ot_end ?_
  exact ve_arr 2 (lp_back (hL1 h))
theorem g_block_Stack_j2_ok (hK : KnOk K) (hL1 : H32_1 M w0 r v1 m1 L1) (h : g_block_Stack_j2 K n v1 v18 v21 v22 v24 L1 v25 = some r) : VE (cx32 M w0) (q32 M w0 r) [.c (cat Try.f32 p32_4), .c (cat Try.f32 p32_2), .b 1, .c (cat Try.f32 p32_3), k32_1 M w0 r m1, .b 0, .c (cat Try.f32 p32_0)] .normal (s32_j2 v1 v18 v21 v22 v24 v25) := by
  unfold g_block_Stack_j2 at h
  exact ve_arr 5 (g_block_Stack_j3_ok hK hL1 h)
theorem g_block_Stack_j1_ok (hK : KnOk K) (hL1 : H32_1 M w0 r v1 m1 L1) (h : g_block_Stack_j1 K n v1 v16 v17 v18 v19 v21 v22 L1 v24 = some r) : VE (cx32 M w0) (q32 M w0 r) [.c (cat Try.f32 p32_5), .b 1, .c (cat Try.f32 p32_3), k32_1 M w0 r m1, .b 0, .c (cat Try.f32 p32_0)] .normal (s32_j1 v1 v16 v17 v18 v19 v21 v22 v24) := by
  unfold g_block_Stack_j1 at h
  refine ve_un (ks' := [.c (cat Try.f32 p32_6), .c (cat Try.f32 p32_2), .b 1, .c (cat Try.f32 p32_3), k32_1 M w0 r m1, .b 0, .c (cat Try.f32 p32_0)]) 3 ?_
  rcases ite_some h with ⟨h20, h⟩ | ⟨h20, h⟩
  ·
   refine ve_sb 30 h20 ?_
   refine ve_un (ks' := [.c (cat Try.f32 p32_7), .c (cat Try.f32 p32_4), .c (cat Try.f32 p32_2), .b 1, .c (cat Try.f32 p32_3), k32_1 M w0 r m1, .b 0, .c (cat Try.f32 p32_0)]) 4 ?_
   rcases ite_some h with ⟨h21, h⟩ | ⟨h21, h⟩
   ·
    refine ve_sb 31 h21 ?_
    exact ve_arr 2 (g_block_Stack_j2_ok hK hL1 h)
   ·
    refine ve_sb 31 h21 ?_
    exact ve_arr 2 (g_block_Stack_j2_ok hK hL1 h)
  ·
   refine ve_sb 30 h20 ?_
   exact ve_arr 2 (g_block_Stack_j3_ok hK hL1 h)
theorem g_block_Stack_j5_ok (hK : KnOk K) (h : g_block_Stack_j5 K n v16 v17 v20 v21 v30 = some r) : VE (cx32 M w0) (q32 M w0 r) [.c (cat Try.f32 p32_8)] .normal (s32_j5 v16 v17 v20 v21 v30) := by
  unfold g_block_Stack_j5 at h
  refine ve_un (ks' := [.c (cat Try.f32 p32_9), .c (cat Try.f32 p32_10)]) 1 ?_
  refine ve_pk [2, 3, 4, 5, 6, 7] [4, 5, 7] [43] ?_
  refine ve_dr 5 [(47, .ref 43), (48, .int .i64 v16), (49, .agg (eTBlockMargin v30)), (50, .agg (eTBlockMargin v20)), (51, .bool v17)] [] [] [stp Try.prog 52 Try.f32 p32_9 5, stp Try.prog 52 Try.f32 p32_9 6, stp Try.prog 52 Try.f32 p32_9 7, stp Try.prog 52 Try.f32 p32_9 8, stp Try.prog 52 Try.f32 p32_9 9] (d_vs [.v 0 1, .v 0 2, .v 0 3, .v 0 4, .v 0 5] (d_c1 (e_d 0) (d_c1 (e_d 1) (d_c1 (e_d 2) (d_c1 (e_d 3) (d_c1 (e_d 4) (d_nl))))))) ?_
  refine ve_rt 1 ?_
  have hr := Option.some.inj h
  subst hr
  exact ve_ot
theorem g_block_Stack_l4_b_ok (hK : KnOk K) (hL1 : H32_1 M w0 r v1 m1 L1) (h : g_block_Stack_l4_b K n v1 L1 v16 v17 v18 v19 v20 v21 = some r) : VE (cx32 M w0) (q32 M w0 r) [.c (cat Try.f32 p32_1), k32_1 M w0 r m1, .b 0, .c (cat Try.f32 p32_0)] .normal (s32_l4 v1 v16 v17 v18 v19 v20 v21) := by
  unfold g_block_Stack_l4_b at h
  refine ve_un (ks' := [.c (cat Try.f32 p32_11), .c (cat Try.f32 p32_12), k32_1 M w0 r m1, .b 0, .c (cat Try.f32 p32_0)]) 3 ?_
  rcases ite_some h with ⟨h15, h⟩ | ⟨h15, h⟩
  ·
   refine ve_sb 13 h15 ?_
   refine ve_un (ks' := [.c (cat Try.f32 p32_13), .c (cat Try.f32 p32_14), .b 1, .c (cat Try.f32 p32_3), k32_1 M w0 r m1, .b 0, .c (cat Try.f32 p32_0)]) 5 ?_
   refine ve_in 0 ?_
   obtain ⟨h16, h⟩ := chk_some h
   refine ot_sp (y_ixs eTBlockFragment xTBlockFragment h16 (eTBlockFragment_len) (xTBlockFragment_eq)) ?_
   refine ot_end ?_
   refine ve_un (ks' := [.c (cat Try.f32 p32_15), .c (cat Try.f32 p32_16), .b 1, .c (cat Try.f32 p32_3), k32_1 M w0 r m1, .b 0, .c (cat Try.f32 p32_0)]) 1 ?_
   refine ve_in 3 ?_
   obtain ⟨v22, h17, h⟩ := bind_some h
   refine ot_cl (g_block_Collapse_ok hK h17) ?_
   refine ot_end ?_
   refine ve_un (ks' := [.c (cat Try.f32 p32_17), .c (cat Try.f32 p32_5), .b 1, .c (cat Try.f32 p32_3), k32_1 M w0 r m1, .b 0, .c (cat Try.f32 p32_0)]) 5 ?_
   rcases ite_some h with ⟨h18, h⟩ | ⟨h18, h⟩
   ·
    refine ve_sb 22 h18 ?_
    refine ve_un (ks' := [.c (cat Try.f32 p32_18), .c (cat Try.f32 p32_5), .b 1, .c (cat Try.f32 p32_3), k32_1 M w0 r m1, .b 0, .c (cat Try.f32 p32_0)]) 1 ?_
    refine ve_in 2 ?_
    obtain ⟨v23, h19, h⟩ := bind_some h
    refine ot_cl (g_api_BlockMargin_Sum_ok hK h19) ?_
    refine ot_end ?_
    exact ve_arr 0 (g_block_Stack_j1_ok hK hL1 h)
   ·
    refine ve_sb 22 h18 ?_
    exact ve_arr 2 (g_block_Stack_j1_ok hK hL1 h)
  ·
   refine ve_sb 13 h15 ?_
   refine ve_un (ks' := [.c (cat Try.f32 p32_19), .c (cat Try.f32 p32_8)]) 8 ?_
   rcases ite_some h with ⟨h23, h⟩ | ⟨h23, h⟩
   ·
    refine ve_sb 45 h23 ?_
    exact ve_arr 2 (g_block_Stack_j5_ok hK h)
   ·
    refine ve_sb 45 h23 ?_
    exact ve_arr 2 (g_block_Stack_j5_ok hK h)
theorem g_block_Stack_l4_ok (hK : KnOk K) (m : Nat) : H32_1 M w0 r v1 m (g_block_Stack_l4 K n v1 m) := by
  induction m with
 | zero => intro v16 v17 v18 v19 v20 v21 h; cases h
 | succ m ih => intro v16 v17 v18 v19 v20 v21 h; have h : g_block_Stack_l4_b K n v1 (g_block_Stack_l4 K n v1 m) v16 v17 v18 v19 v20 v21 = some r := h; exact lp_round (g_block_Stack_l4_b_ok hK ih h)
theorem g_block_Stack_ok (hK : KnOk K) (h : g_block_Stack K n v1 = some r) : ACalls Try.prog 32 [.sl (List.map eTBlockFragment v1)] (fun v s => v = .tup [.ref 43, .int .i64 r.2.1, .agg (eTBlockMargin r.2.2.1), .agg (eTBlockMargin r.2.2.2.1), .bool r.2.2.2.2] ∧ look 43 s.r = some ⟨60, 67, List.map eTBlockFragment r.1⟩) := by
  refine acalls_intro (c := cat Try.f32 []) Try.func32 (by kernel_rfl) _ Try.ntmps32 (of_decide_eq_true (by kernel_rfl)) fun M w0 => ?_
  refine ve_cast (s' := ⟨[(0,.sl (List.map eTBlockFragment v1))],[],[],[]⟩) (by kernel_rfl) ?_
  unfold g_block_Stack at h
  refine ve_un (ks' := [.c (cat Try.f32 p32_20), .c (cat Try.f32 p32_21), .c (cat Try.f32 p32_0)]) 8 ?_
  refine ve_in 1 ?_
  refine ot_sp (y_len eTBlockFragment v1) ?_
  refine ot_end ?_
  refine ve_un (ks' := [.c (cat Try.f32 p32_22), .b 0, .c (cat Try.f32 p32_0)]) 1 ?_
  refine ve_w 43 2 60 67 ?_
  exact ve_arr 0 (lp_en (p := p32_22) n (g_block_Stack_l4_ok hK n h))
end


noncomputable section
abbrev cx50 (M : Nat → Prop) (w0 : World) : Cx := ⟨Try.prog, 5, M, w0⟩
abbrev q50 (M : Nat → Prop) (w0 : World) (r : TCascadeLength) := bodyPost Try.prog Try.f50 (RetQ M w0 (fun v _ => v = .agg (eTCascadeLength r)))
variable {K : Kn} {n : Nat} {M : Nat → Prop} {w0 : World} {r : TCascadeLength} {v1 : Int} 
theorem g_law17_px_ok (hK : KnOk K) (h : g_law17_px K n v1 = some r) : ACalls Try.prog 50 [.int .i64 v1] (fun v _ => v = .agg (eTCascadeLength r)) := by
  refine acalls_intro (c := cat Try.f50 []) Try.func50 (by kernel_rfl) _ Try.ntmps50 (of_decide_eq_true (by kernel_rfl)) fun M w0 => ?_
  refine ve_cast (s' := ⟨[(0,.int .i64 v1)],[],[],[]⟩) (by kernel_rfl) ?_
  unfold g_law17_px at h
  refine ve_rt 5 ?_
  have hr := Option.some.inj h
  subst hr
  exact ve_d1
end

def p13_0 : List Nat := [1, 1, 1, 1]
def p13_1 : List Nat := [1, 1, 1, 0]
noncomputable section
abbrev cx13 (M : Nat → Prop) (w0 : World) : Cx := ⟨Try.prog, 57, M, w0⟩
abbrev q13 (M : Nat → Prop) (w0 : World) (r : Bool) := bodyPost Try.prog Try.f13 (RetQ M w0 (fun v _ => v = .bool r))
def s13_j1 (v10 : Bool) : AS := ⟨[(0,.bool v10)],[],[],[]⟩
variable {K : Kn} {n : Nat} {M : Nat → Prop} {w0 : World} {r : Bool} {v10 : Bool} 
theorem g_law17_fit_j1_ok (hK : KnOk K) (h : g_law17_fit_j1 K n v10 = some r) : VE (cx13 M w0) (q13 M w0 r) [.c (cat Try.f13 p13_0)] .normal (s13_j1 v10) := by
  unfold g_law17_fit_j1 at h
  refine ve_rt 1 ?_
  have hr := Option.some.inj h
  subst hr
  exact ve_d1
theorem g_law17_fit_ok (hK : KnOk K) (h : g_law17_fit K n = some r) : ACalls Try.prog 13 [] (fun v _ => v = .bool r) := by
  refine acalls_intro (c := cat Try.f13 []) Try.func13 (by kernel_rfl) _ Try.ntmps13 (of_decide_eq_true (by kernel_rfl)) fun M w0 => ?_
  refine ve_cast (s' := ⟨[],[],[],[]⟩) (by kernel_rfl) ?_
  unfold g_law17_fit at h
  refine ve_un (ks' := [.c (cat Try.f13 [1, 0]), .c (cat Try.f13 [1, 1])]) 3 ?_
  refine ve_in 0 ?_
  obtain ⟨v1, h1, h⟩ := bind_some h
  refine ot_cl (g_law17_px_ok hK h1) ?_
  refine ot_go 2 1 ?_
  obtain ⟨v2, h2, h⟩ := bind_some h
  refine ot_cl (g_block_Used_ok hK h2) ?_
  refine ot_end ?_
  refine ve_un (ks' := [.c (cat Try.f13 [1, 1, 0]), .c (cat Try.f13 [1, 1, 1])]) 1 ?_
  refine ve_in 0 ?_
  obtain ⟨v3, h3, h⟩ := bind_some h
  refine ot_cl (g_block_Of_ok hK h3) ?_
  obtain ⟨v4, h4, h⟩ := bind_some h
  refine ot_cl (g_block_Of_ok hK h4) ?_
  refine ot_go 3 1 ?_
  obtain ⟨v5, h5, h⟩ := bind_some h
  refine ot_cl (g_block_Of_ok hK h5) ?_
  obtain ⟨v6, h6, h⟩ := bind_some h
  refine ot_cl (g_block_Of_ok hK h6) ?_
  refine ot_go 6 1 ?_
  refine ot_sp (y_bsl eTBlockFragment ([({ zTBlockFragment with H := 20, Before := v3, After := v4 } : TBlockFragment), ({ zTBlockFragment with H := 20, Before := v5, After := v6 } : TBlockFragment)] : List TBlockFragment) (new := [xTBlockFragment ({ zTBlockFragment with H := 20, Before := v3, After := v4 } : TBlockFragment), xTBlockFragment ({ zTBlockFragment with H := 20, Before := v5, After := v6 } : TBlockFragment)]) (by simp only [List.map_cons, List.map_nil, xTBlockFragment_eq])) ?_
  obtain ⟨v7, h7, h⟩ := bind_some h
  refine ot_co 1018 (g_block_Stack_ok hK h7) (one_tup (i := 0) rfl) ?_
  refine ot_end ?_
  refine ve_un (ks' := [.c (cat Try.f13 p13_1), .c (cat Try.f13 p13_0)]) 1 ?_
  refine ve_in 4 ?_
  rcases ite_some h with ⟨h8, h⟩ | ⟨h8, h⟩
  ·
   refine ot_sb 27 h8 ?_
   refine ot_go 10 6 ?_
   rcases ite_some h with ⟨h9, h⟩ | ⟨h9, h⟩
   ·
    refine ot_sb 33 h9 ?_
    refine ot_go 16 6 ?_
    rcases ite_some h with ⟨h10, h⟩ | ⟨h10, h⟩
    ·
     refine ot_sb 39 h10 ?_
     refine ot_go 20 4 ?_
     rcases ite_some h with ⟨h11, h⟩ | ⟨h11, h⟩
     ·
      refine ot_sb 43 h11 ?_
      refine ot_go 21 1 ?_
      obtain ⟨v8, h12, h⟩ := bind_some h
      refine ot_cl (g_api_BlockMargin_Sum_ok hK h12) ?_
      refine ot_go 25 3 ?_
      rcases ite_some h with ⟨h13, h⟩ | ⟨h13, h⟩
      ·
       refine ot_sb 48 h13 ?_
       refine ot_go 26 1 ?_
       obtain ⟨v9, h14, h⟩ := bind_some h
       refine ot_cl (g_api_BlockMargin_Sum_ok hK h14) ?_
       refine ot_go 30 3 ?_
       rcases ite_some h with ⟨h15, h⟩ | ⟨h15, h⟩
       ·
        refine ot_sb 53 h15 ?_
        refine ot_end ?_
        exact ve_arr 0 (g_law17_fit_j1_ok hK h)
       ·
        refine ot_sb 53 h15 ?_
        refine ot_end ?_
        exact ve_arr 0 (g_law17_fit_j1_ok hK h)
      ·
       refine ot_sb 48 h13 ?_
       refine ot_end ?_
       exact ve_arr 0 (g_law17_fit_j1_ok hK h)
     ·
      refine ot_sb 43 h11 ?_
      refine ot_end ?_
      exact ve_arr 0 (g_law17_fit_j1_ok hK h)
    ·
     refine ot_sb 39 h10 ?_
     refine ot_end ?_
     exact ve_arr 0 (g_law17_fit_j1_ok hK h)
   ·
    refine ot_sb 33 h9 ?_
    refine ot_end ?_
    exact ve_arr 0 (g_law17_fit_j1_ok hK h)
  ·
   refine ot_sb 27 h8 ?_
   refine ot_end ?_
   exact ve_arr 0 (g_law17_fit_j1_ok hK h)
end


noncomputable section
abbrev cx51 (M : Nat → Prop) (w0 : World) : Cx := ⟨Try.prog, 11, M, w0⟩
abbrev q51 (M : Nat → Prop) (w0 : World) (r : Bool) := bodyPost Try.prog Try.f51 (RetQ M w0 (fun v _ => v = .bool r))
def s51_j1 (v2 : Bool) : AS := ⟨[(2,.bool v2)],[],[],[]⟩
variable {K : Kn} {n : Nat} {M : Nat → Prop} {w0 : World} {r : Bool} {v1 : TCascadeLength} {v2 : Bool} 
theorem g_ref17_small_j1_ok (hK : KnOk K) (h : g_ref17_small_j1 K n v2 = some r) : VE (cx51 M w0) (q51 M w0 r) [.c (cat Try.f51 [1, 1])] .normal (s51_j1 v2) := by
  unfold g_ref17_small_j1 at h
  refine ve_rt 1 ?_
  have hr := Option.some.inj h
  subst hr
  exact ve_d1
theorem g_ref17_small_ok (hK : KnOk K) (h : g_ref17_small K n v1 = some r) : ACalls Try.prog 51 [.agg (eTCascadeLength v1)] (fun v _ => v = .bool r) := by
  refine acalls_intro (c := cat Try.f51 []) Try.func51 (by kernel_rfl) _ Try.ntmps51 (of_decide_eq_true (by kernel_rfl)) fun M w0 => ?_
  refine ve_cast (s' := ⟨[(0,.agg (eTCascadeLength v1))],[],[],[]⟩) (by kernel_rfl) ?_
  unfold g_ref17_small at h
  refine ve_un (ks' := [.c (cat Try.f51 [1, 0]), .c (cat Try.f51 [1, 1])]) 3 ?_
  refine ve_in 4 ?_
  rcases ite_some h with ⟨h1, h⟩ | ⟨h1, h⟩
  ·
   refine ot_sb 6 h1 ?_
   refine ot_end ?_
   exact ve_arr 0 (g_ref17_small_j1_ok hK h)
  ·
   refine ot_sb 6 h1 ?_
   refine ot_end ?_
   exact ve_arr 0 (g_ref17_small_j1_ok hK h)
end

def p19_0 : List Nat := [1, 0, 1, 0, 0]
def p19_1 : List Nat := [1, 0, 1, 0, 0, 1, 0, 0, 1, 1, 1, 0, 0, 1, 0, 0, 1]
def p19_2 : List Nat := [1, 0, 1, 0, 0, 1, 0, 0, 1, 1, 1, 0, 0, 1, 1]
def p19_3 : List Nat := [1, 0, 1, 0, 0, 1, 1]
def p19_4 : List Nat := [1, 0, 1, 0, 0, 1, 0, 0, 1, 1, 1, 0, 0]
def p19_5 : List Nat := [1, 0, 1, 0, 0, 1, 0, 0, 1, 1, 1, 0, 0, 1, 0, 0, 0]
def p19_6 : List Nat := [1, 0, 1, 0, 0, 1, 0, 0, 1, 0, 1]
def p19_7 : List Nat := [1, 0, 1, 0, 0, 1, 0, 0, 1, 1]
def p19_8 : List Nat := [1, 0, 1, 0, 0, 1, 0, 0, 1, 1, 1, 0]
def p19_9 : List Nat := [1, 0, 1, 0, 0, 0, 0]
def p19_10 : List Nat := [1, 0, 1, 0, 0, 0, 1]
def p19_11 : List Nat := [1, 0, 1, 0, 0, 1]
def p19_12 : List Nat := [1, 0, 1, 0, 0, 1, 0, 0, 0]
def p19_13 : List Nat := [1, 0, 1, 0, 0, 1, 0, 0, 1]
def p19_14 : List Nat := [1, 0, 1, 0, 0, 1, 0, 0, 1, 0, 0]
def p19_15 : List Nat := [1, 0, 1, 0]
noncomputable section
abbrev cx19 (M : Nat → Prop) (w0 : World) : Cx := ⟨Try.prog, 130, M, w0⟩
abbrev q19 (M : Nat → Prop) (w0 : World) (r : Bool) := bodyPost Try.prog Try.f19 (RetQ M w0 (fun v _ => v = .bool r))
abbrev k19_1 (M : Nat → Prop) (w0 : World) (r : Bool) (m1 : Nat) : Kont := kl (cx19 M w0) (q19 M w0 r) [.b 0, .c (cat Try.f19 [1, 1])] (cat Try.f19 p19_0) m1
def s19_j5 (v1 : (List TKnapsackref17Spec)) (v2 : Int) (v23 : Int) (v43 : Bool) : AS := ⟨[(0,.sl (List.map eTKnapsackref17Spec v1)),(1,.int .i64 v2),(5,.int .i64 v23),(6,.ptr 6 0),(7,.int .i64 3),(125,.bool v43)],[(6,eTCascadeStyle ((List.getD v1 (v23).toNat default).Style))],[],[6]⟩
def s19_j4 (v1 : (List TKnapsackref17Spec)) (v2 : Int) (v23 : Int) (v40 : Bool) : AS := ⟨[(0,.sl (List.map eTKnapsackref17Spec v1)),(1,.int .i64 v2),(5,.int .i64 v23),(6,.ptr 6 0),(7,.int .i64 2),(125,.bool v40)],[(6,eTCascadeStyle ((List.getD v1 (v23).toNat default).Style))],[],[6]⟩
def s19_j3 (v1 : (List TKnapsackref17Spec)) (v2 : Int) (v23 : Int) (v37 : Bool) : AS := ⟨[(0,.sl (List.map eTKnapsackref17Spec v1)),(1,.int .i64 v2),(5,.int .i64 v23),(6,.ptr 6 0),(7,.int .i64 1),(125,.bool v37)],[(6,eTCascadeStyle ((List.getD v1 (v23).toNat default).Style))],[],[6]⟩
def s19_j2 (v1 : (List TKnapsackref17Spec)) (v2 : Int) (v23 : Int) (v34 : Bool) : AS := ⟨[(0,.sl (List.map eTKnapsackref17Spec v1)),(1,.int .i64 v2),(5,.int .i64 v23),(6,.ptr 6 0),(7,.int .i64 0),(125,.bool v34)],[(6,eTCascadeStyle ((List.getD v1 (v23).toNat default).Style))],[],[6]⟩
def s19_j1 (v1 : (List TKnapsackref17Spec)) (v2 : Int) (v23 : Int) (v31 : Bool) : AS := ⟨[(0,.sl (List.map eTKnapsackref17Spec v1)),(1,.int .i64 v2),(5,.int .i64 v23),(6,.ptr 6 0),(107,.bool v31)],[(6,eTCascadeStyle ((List.getD v1 (v23).toNat default).Style))],[],[6]⟩
def s19_l6 (v1 : (List TKnapsackref17Spec)) (v2 : Int) (v23 : Int) : AS := ⟨[(0,.sl (List.map eTKnapsackref17Spec v1)),(1,.int .i64 v2),(5,.int .i64 v23)],[],[],[]⟩
abbrev H19_1 (M : Nat → Prop) (w0 : World) (r : Bool) (v1 : (List TKnapsackref17Spec)) (v2 : Int) (m1 : Nat) (L1 : Int → Option Bool) : Prop := ∀ {v23 : Int}, L1 v23 = some r → LP (cx19 M w0) (q19 M w0 r) [.b 0, .c (cat Try.f19 [1, 1])] (cat Try.f19 p19_0) m1 (s19_l6 v1 v2 v23)
variable {K : Kn} {n : Nat} {M : Nat → Prop} {w0 : World} {r : Bool} {v1 : (List TKnapsackref17Spec)} {v2 : Int} {v23 : Int} {v31 : Bool} {v34 : Bool} {v37 : Bool} {v40 : Bool} {v43 : Bool} {m1 : Nat} {L1 : Int → Option Bool}
theorem g_ref17_Few_j5_ok (hK : KnOk K) (hL1 : H19_1 M w0 r v1 v2 m1 L1) (h : g_ref17_Few_j5 K n v1 v2 v23 L1 v43 = some r) : VE (cx19 M w0) (q19 M w0 r) [.c (cat Try.f19 p19_1), .b 3, .c (cat Try.f19 p19_2), kl (cx19 M w0) (q19 M w0 r) [.b 2, .b 1, .c (cat Try.f19 p19_3), k19_1 M w0 r m1, .b 0, .c (cat Try.f19 [1, 1])] (cat Try.f19 p19_4) 36, .b 2, .b 1, .c (cat Try.f19 p19_3), k19_1 M w0 r m1, .b 0, .c (cat Try.f19 [1, 1])] .normal (s19_j5 v1 v2 v23 v43) := by
  unfold g_ref17_Few_j5 at h
  rcases ite_some h with ⟨h84, h⟩ | ⟨h84, h⟩
  ·
   refine ve_sb 125 h84 ?_
   refine ve_rt 13 ?_
   have hr := Option.some.inj h
   subst hr
   exact ve_d1
  ·
   refine ve_sb 125 h84 ?_
   refine ve_go (ks' := [kl (cx19 M w0) (q19 M w0 r) [.b 2, .b 1, .c (cat Try.f19 p19_3), k19_1 M w0 r m1, .b 0, .c (cat Try.f19 [1, 1])] (cat Try.f19 p19_4) 36, .b 2, .b 1, .c (cat Try.f19 p19_3), k19_1 M w0 r m1, .b 0, .c (cat Try.f19 [1, 1])]) 4 ⟨[(0,.sl (List.map eTKnapsackref17Spec v1)),(1,.int .i64 v2),(5,.int .i64 v23),(6,.ptr 6 0),(7,.int .i64 4)],[(6,eTCascadeStyle ((List.getD v1 (v23).toNat default).Style))],[],[6]⟩ ?_
   refine lp_back ?_
   refine lp_round ?_
   exact ve_arr 10 (lp_back (hL1 h))
theorem g_ref17_Few_j4_ok (hK : KnOk K) (hL1 : H19_1 M w0 r v1 v2 m1 L1) (h : g_ref17_Few_j4 K n v1 v2 v23 L1 v40 = some r) : VE (cx19 M w0) (q19 M w0 r) [.c (cat Try.f19 p19_1), .b 3, .c (cat Try.f19 p19_2), kl (cx19 M w0) (q19 M w0 r) [.b 2, .b 1, .c (cat Try.f19 p19_3), k19_1 M w0 r m1, .b 0, .c (cat Try.f19 [1, 1])] (cat Try.f19 p19_4) 37, .b 2, .b 1, .c (cat Try.f19 p19_3), k19_1 M w0 r m1, .b 0, .c (cat Try.f19 [1, 1])] .normal (s19_j4 v1 v2 v23 v40) := by
  unfold g_ref17_Few_j4 at h
  rcases ite_some h with ⟨h80, h⟩ | ⟨h80, h⟩
  ·
   refine ve_sb 125 h80 ?_
   refine ve_rt 13 ?_
   have hr := Option.some.inj h
   subst hr
   exact ve_d1
  ·
   refine ve_sb 125 h80 ?_
   refine ve_go (ks' := [kl (cx19 M w0) (q19 M w0 r) [.b 2, .b 1, .c (cat Try.f19 p19_3), k19_1 M w0 r m1, .b 0, .c (cat Try.f19 [1, 1])] (cat Try.f19 p19_4) 37, .b 2, .b 1, .c (cat Try.f19 p19_3), k19_1 M w0 r m1, .b 0, .c (cat Try.f19 [1, 1])]) 4 ⟨[(0,.sl (List.map eTKnapsackref17Spec v1)),(1,.int .i64 v2),(5,.int .i64 v23),(6,.ptr 6 0),(7,.int .i64 3)],[(6,eTCascadeStyle ((List.getD v1 (v23).toNat default).Style))],[],[6]⟩ ?_
   refine lp_back ?_
   refine lp_round ?_
   refine ve_un (ks' := [.c (cat Try.f19 p19_5), .c (cat Try.f19 p19_1), .b 3, .c (cat Try.f19 p19_2), kl (cx19 M w0) (q19 M w0 r) [.b 2, .b 1, .c (cat Try.f19 p19_3), k19_1 M w0 r m1, .b 0, .c (cat Try.f19 [1, 1])] (cat Try.f19 p19_4) 36, .b 2, .b 1, .c (cat Try.f19 p19_3), k19_1 M w0 r m1, .b 0, .c (cat Try.f19 [1, 1])]) 8 ?_
   refine ve_in 4 ?_
   obtain ⟨v41, h81, h⟩ := bind_some h
   refine ot_cl (g_ref17_small_ok hK h81) ?_
   refine ot_go 7 2 ?_
   rcases ite_some h with ⟨h82, h⟩ | ⟨h82, h⟩
   ·
    refine ot_sb 118 h82 ?_
    refine ot_end ?_
    exact ve_arr 0 (g_ref17_Few_j5_ok hK hL1 h)
   ·
    refine ot_sb 118 h82 ?_
    refine ot_go 11 4 ?_
    obtain ⟨v42, h83, h⟩ := bind_some h
    refine ot_cl (g_ref17_small_ok hK h83) ?_
    refine ot_end ?_
    exact ve_arr 0 (g_ref17_Few_j5_ok hK hL1 h)
theorem g_ref17_Few_j3_ok (hK : KnOk K) (hL1 : H19_1 M w0 r v1 v2 m1 L1) (h : g_ref17_Few_j3 K n v1 v2 v23 L1 v37 = some r) : VE (cx19 M w0) (q19 M w0 r) [.c (cat Try.f19 p19_1), .b 3, .c (cat Try.f19 p19_2), kl (cx19 M w0) (q19 M w0 r) [.b 2, .b 1, .c (cat Try.f19 p19_3), k19_1 M w0 r m1, .b 0, .c (cat Try.f19 [1, 1])] (cat Try.f19 p19_4) 38, .b 2, .b 1, .c (cat Try.f19 p19_3), k19_1 M w0 r m1, .b 0, .c (cat Try.f19 [1, 1])] .normal (s19_j3 v1 v2 v23 v37) := by
  unfold g_ref17_Few_j3 at h
  rcases ite_some h with ⟨h76, h⟩ | ⟨h76, h⟩
  ·
   refine ve_sb 125 h76 ?_
   refine ve_rt 13 ?_
   have hr := Option.some.inj h
   subst hr
   exact ve_d1
  ·
   refine ve_sb 125 h76 ?_
   refine ve_go (ks' := [kl (cx19 M w0) (q19 M w0 r) [.b 2, .b 1, .c (cat Try.f19 p19_3), k19_1 M w0 r m1, .b 0, .c (cat Try.f19 [1, 1])] (cat Try.f19 p19_4) 38, .b 2, .b 1, .c (cat Try.f19 p19_3), k19_1 M w0 r m1, .b 0, .c (cat Try.f19 [1, 1])]) 4 ⟨[(0,.sl (List.map eTKnapsackref17Spec v1)),(1,.int .i64 v2),(5,.int .i64 v23),(6,.ptr 6 0),(7,.int .i64 2)],[(6,eTCascadeStyle ((List.getD v1 (v23).toNat default).Style))],[],[6]⟩ ?_
   refine lp_back ?_
   refine lp_round ?_
   refine ve_un (ks' := [.c (cat Try.f19 p19_5), .c (cat Try.f19 p19_1), .b 3, .c (cat Try.f19 p19_2), kl (cx19 M w0) (q19 M w0 r) [.b 2, .b 1, .c (cat Try.f19 p19_3), k19_1 M w0 r m1, .b 0, .c (cat Try.f19 [1, 1])] (cat Try.f19 p19_4) 37, .b 2, .b 1, .c (cat Try.f19 p19_3), k19_1 M w0 r m1, .b 0, .c (cat Try.f19 [1, 1])]) 8 ?_
   refine ve_in 4 ?_
   obtain ⟨v38, h77, h⟩ := bind_some h
   refine ot_cl (g_ref17_small_ok hK h77) ?_
   refine ot_go 7 2 ?_
   rcases ite_some h with ⟨h78, h⟩ | ⟨h78, h⟩
   ·
    refine ot_sb 118 h78 ?_
    refine ot_end ?_
    exact ve_arr 0 (g_ref17_Few_j4_ok hK hL1 h)
   ·
    refine ot_sb 118 h78 ?_
    refine ot_go 11 4 ?_
    obtain ⟨v39, h79, h⟩ := bind_some h
    refine ot_cl (g_ref17_small_ok hK h79) ?_
    refine ot_end ?_
    exact ve_arr 0 (g_ref17_Few_j4_ok hK hL1 h)
theorem g_ref17_Few_j2_ok (hK : KnOk K) (hL1 : H19_1 M w0 r v1 v2 m1 L1) (h : g_ref17_Few_j2 K n v1 v2 v23 L1 v34 = some r) : VE (cx19 M w0) (q19 M w0 r) [.c (cat Try.f19 p19_1), .b 3, .c (cat Try.f19 p19_2), kl (cx19 M w0) (q19 M w0 r) [.b 2, .b 1, .c (cat Try.f19 p19_3), k19_1 M w0 r m1, .b 0, .c (cat Try.f19 [1, 1])] (cat Try.f19 p19_4) 39, .b 2, .b 1, .c (cat Try.f19 p19_3), k19_1 M w0 r m1, .b 0, .c (cat Try.f19 [1, 1])] .normal (s19_j2 v1 v2 v23 v34) := by
  unfold g_ref17_Few_j2 at h
  rcases ite_some h with ⟨h72, h⟩ | ⟨h72, h⟩
  ·
   refine ve_sb 125 h72 ?_
   refine ve_rt 13 ?_
   have hr := Option.some.inj h
   subst hr
   exact ve_d1
  ·
   refine ve_sb 125 h72 ?_
   refine ve_go (ks' := [kl (cx19 M w0) (q19 M w0 r) [.b 2, .b 1, .c (cat Try.f19 p19_3), k19_1 M w0 r m1, .b 0, .c (cat Try.f19 [1, 1])] (cat Try.f19 p19_4) 39, .b 2, .b 1, .c (cat Try.f19 p19_3), k19_1 M w0 r m1, .b 0, .c (cat Try.f19 [1, 1])]) 4 ⟨[(0,.sl (List.map eTKnapsackref17Spec v1)),(1,.int .i64 v2),(5,.int .i64 v23),(6,.ptr 6 0),(7,.int .i64 1)],[(6,eTCascadeStyle ((List.getD v1 (v23).toNat default).Style))],[],[6]⟩ ?_
   refine lp_back ?_
   refine lp_round ?_
   refine ve_un (ks' := [.c (cat Try.f19 p19_5), .c (cat Try.f19 p19_1), .b 3, .c (cat Try.f19 p19_2), kl (cx19 M w0) (q19 M w0 r) [.b 2, .b 1, .c (cat Try.f19 p19_3), k19_1 M w0 r m1, .b 0, .c (cat Try.f19 [1, 1])] (cat Try.f19 p19_4) 38, .b 2, .b 1, .c (cat Try.f19 p19_3), k19_1 M w0 r m1, .b 0, .c (cat Try.f19 [1, 1])]) 8 ?_
   refine ve_in 4 ?_
   obtain ⟨v35, h73, h⟩ := bind_some h
   refine ot_cl (g_ref17_small_ok hK h73) ?_
   refine ot_go 7 2 ?_
   rcases ite_some h with ⟨h74, h⟩ | ⟨h74, h⟩
   ·
    refine ot_sb 118 h74 ?_
    refine ot_end ?_
    exact ve_arr 0 (g_ref17_Few_j3_ok hK hL1 h)
   ·
    refine ot_sb 118 h74 ?_
    refine ot_go 11 4 ?_
    obtain ⟨v36, h75, h⟩ := bind_some h
    refine ot_cl (g_ref17_small_ok hK h75) ?_
    refine ot_end ?_
    exact ve_arr 0 (g_ref17_Few_j3_ok hK hL1 h)
theorem g_ref17_Few_j1_ok (hK : KnOk K) (hL1 : H19_1 M w0 r v1 v2 m1 L1) (h : g_ref17_Few_j1 K n v1 v2 v23 L1 v31 = some r) : VE (cx19 M w0) (q19 M w0 r) [.c (cat Try.f19 p19_6), .c (cat Try.f19 p19_7), .b 1, .c (cat Try.f19 p19_3), k19_1 M w0 r m1, .b 0, .c (cat Try.f19 [1, 1])] .normal (s19_j1 v1 v2 v23 v31) := by
  unfold g_ref17_Few_j1 at h
  rcases ite_some h with ⟨h68, h⟩ | ⟨h68, h⟩
  ·
   refine ve_sb 107 h68 ?_
   refine ve_rt 10 ?_
   have hr := Option.some.inj h
   subst hr
   exact ve_d1
  ·
   refine ve_sb 107 h68 ?_
   refine ve_go (ks' := [.c (cat Try.f19 p19_8), .b 2, .b 1, .c (cat Try.f19 p19_3), k19_1 M w0 r m1, .b 0, .c (cat Try.f19 [1, 1])]) 5 ⟨[(0,.sl (List.map eTKnapsackref17Spec v1)),(1,.int .i64 v2),(5,.int .i64 v23),(6,.ptr 6 0),(7,.int .i64 0)],[(6,eTCascadeStyle ((List.getD v1 (v23).toNat default).Style))],[],[6]⟩ ?_
   refine lp_enter 40 (c := cat Try.f19 p19_4) (by kernel_rfl) ?_
   refine lp_round ?_
   refine ve_un (ks' := [.c (cat Try.f19 p19_5), .c (cat Try.f19 p19_1), .b 3, .c (cat Try.f19 p19_2), kl (cx19 M w0) (q19 M w0 r) [.b 2, .b 1, .c (cat Try.f19 p19_3), k19_1 M w0 r m1, .b 0, .c (cat Try.f19 [1, 1])] (cat Try.f19 p19_4) 39, .b 2, .b 1, .c (cat Try.f19 p19_3), k19_1 M w0 r m1, .b 0, .c (cat Try.f19 [1, 1])]) 8 ?_
   refine ve_in 4 ?_
   obtain ⟨v32, h69, h⟩ := bind_some h
   refine ot_cl (g_ref17_small_ok hK h69) ?_
   refine ot_go 7 2 ?_
   rcases ite_some h with ⟨h70, h⟩ | ⟨h70, h⟩
   ·
    refine ot_sb 118 h70 ?_
    refine ot_end ?_
    exact ve_arr 0 (g_ref17_Few_j2_ok hK hL1 h)
   ·
    refine ot_sb 118 h70 ?_
    refine ot_go 11 4 ?_
    obtain ⟨v33, h71, h⟩ := bind_some h
    refine ot_cl (g_ref17_small_ok hK h71) ?_
    refine ot_end ?_
    exact ve_arr 0 (g_ref17_Few_j2_ok hK hL1 h)
theorem g_ref17_Few_l6_b_ok (hK : KnOk K) (hL1 : H19_1 M w0 r v1 v2 m1 L1) (h : g_ref17_Few_l6_b K n v1 v2 L1 v23 = some r) : VE (cx19 M w0) (q19 M w0 r) [.c (cat Try.f19 p19_0), k19_1 M w0 r m1, .b 0, .c (cat Try.f19 [1, 1])] .normal (s19_l6 v1 v2 v23) := by
  unfold g_ref17_Few_l6_b at h
  refine ve_un (ks' := [.c (cat Try.f19 p19_9), .c (cat Try.f19 p19_10), .c (cat Try.f19 p19_11), k19_1 M w0 r m1, .b 0, .c (cat Try.f19 [1, 1])]) 2 ?_
  refine ve_in 2 ?_
  refine ot_sp (y_len eTKnapsackref17Spec v1) ?_
  refine ot_end ?_
  rcases ite_some h with ⟨h43, h⟩ | ⟨h43, h⟩
  ·
   refine ve_sb 11 h43 ?_
   refine ve_un (ks' := [.c (cat Try.f19 p19_12), .c (cat Try.f19 p19_13), .b 1, .c (cat Try.f19 p19_3), k19_1 M w0 r m1, .b 0, .c (cat Try.f19 [1, 1])]) 5 ?_
   refine ve_in 2 ?_
   obtain ⟨h44, h⟩ := chk_some h
   refine ot_sp (y_ixs eTKnapsackref17Spec eTKnapsackref17Spec h44 (eTKnapsackref17Spec_len) (fun _ => rfl)) ?_
   refine ot_end ?_
   refine ve_un (ks' := [.c (cat Try.f19 p19_14), .c (cat Try.f19 p19_6), .c (cat Try.f19 p19_7), .b 1, .c (cat Try.f19 p19_3), k19_1 M w0 r m1, .b 0, .c (cat Try.f19 [1, 1])]) 2 ?_
   refine ve_in 2 ?_
   obtain ⟨h45, h⟩ := chk_some h
   refine ot_sp (y_ixs eTKnapsackref17Spec eTKnapsackref17Spec h45 (eTKnapsackref17Spec_len) (fun _ => rfl)) ?_
   refine ot_go 8 5 ?_
   rcases ite_some h with ⟨h46, h⟩ | ⟨h46, h⟩
   ·
    refine ot_sb 26 h46 ?_
    refine ot_end ?_
    exact ve_arr 0 (g_ref17_Few_j1_ok hK hL1 h)
   ·
    refine ot_sb 26 h46 ?_
    refine ot_go 10 2 ?_
    obtain ⟨v24, h47, h⟩ := bind_some h
    refine ot_cl (g_ref17_small_ok hK h47) ?_
    refine ot_go 14 3 ?_
    rcases ite_some h with ⟨h48, h⟩ | ⟨h48, h⟩
    ·
     refine ot_sb 32 h48 ?_
     refine ot_end ?_
     exact ve_arr 0 (g_ref17_Few_j1_ok hK hL1 h)
    ·
     refine ot_sb 32 h48 ?_
     refine ot_go 16 2 ?_
     obtain ⟨v25, h49, h⟩ := bind_some h
     refine ot_cl (g_ref17_small_ok hK h49) ?_
     refine ot_go 20 3 ?_
     rcases ite_some h with ⟨h50, h⟩ | ⟨h50, h⟩
     ·
      refine ot_sb 38 h50 ?_
      refine ot_end ?_
      exact ve_arr 0 (g_ref17_Few_j1_ok hK hL1 h)
     ·
      refine ot_sb 38 h50 ?_
      refine ot_go 22 2 ?_
      obtain ⟨v26, h51, h⟩ := bind_some h
      refine ot_cl (g_ref17_small_ok hK h51) ?_
      refine ot_go 26 3 ?_
      rcases ite_some h with ⟨h52, h⟩ | ⟨h52, h⟩
      ·
       refine ot_sb 44 h52 ?_
       refine ot_end ?_
       exact ve_arr 0 (g_ref17_Few_j1_ok hK hL1 h)
      ·
       refine ot_sb 44 h52 ?_
       refine ot_go 28 2 ?_
       obtain ⟨v27, h53, h⟩ := bind_some h
       refine ot_cl (g_ref17_small_ok hK h53) ?_
       refine ot_go 32 3 ?_
       rcases ite_some h with ⟨h54, h⟩ | ⟨h54, h⟩
       ·
        refine ot_sb 50 h54 ?_
        refine ot_end ?_
        exact ve_arr 0 (g_ref17_Few_j1_ok hK hL1 h)
       ·
        refine ot_sb 50 h54 ?_
        refine ot_go 34 2 ?_
        obtain ⟨v28, h55, h⟩ := bind_some h
        refine ot_cl (g_ref17_small_ok hK h55) ?_
        refine ot_go 38 3 ?_
        rcases ite_some h with ⟨h56, h⟩ | ⟨h56, h⟩
        ·
         refine ot_sb 56 h56 ?_
         refine ot_end ?_
         exact ve_arr 0 (g_ref17_Few_j1_ok hK hL1 h)
        ·
         refine ot_sb 56 h56 ?_
         refine ot_go 40 2 ?_
         obtain ⟨v29, h57, h⟩ := bind_some h
         refine ot_cl (g_ref17_small_ok hK h57) ?_
         refine ot_go 44 3 ?_
         rcases ite_some h with ⟨h58, h⟩ | ⟨h58, h⟩
         ·
          refine ot_sb 62 h58 ?_
          refine ot_end ?_
          exact ve_arr 0 (g_ref17_Few_j1_ok hK hL1 h)
         ·
          refine ot_sb 62 h58 ?_
          refine ot_go 46 2 ?_
          obtain ⟨v30, h59, h⟩ := bind_some h
          refine ot_cl (g_ref17_small_ok hK h59) ?_
          refine ot_go 50 3 ?_
          rcases ite_some h with ⟨h60, h⟩ | ⟨h60, h⟩
          ·
           refine ot_sb 68 h60 ?_
           refine ot_end ?_
           exact ve_arr 0 (g_ref17_Few_j1_ok hK hL1 h)
          ·
           refine ot_sb 68 h60 ?_
           refine ot_go 55 5 ?_
           rcases ite_some h with ⟨h61, h⟩ | ⟨h61, h⟩
           ·
            refine ot_sb 73 h61 ?_
            refine ot_end ?_
            exact ve_arr 0 (g_ref17_Few_j1_ok hK hL1 h)
           ·
            refine ot_sb 73 h61 ?_
            refine ot_go 60 5 ?_
            rcases ite_some h with ⟨h62, h⟩ | ⟨h62, h⟩
            ·
             refine ot_sb 78 h62 ?_
             refine ot_end ?_
             exact ve_arr 0 (g_ref17_Few_j1_ok hK hL1 h)
            ·
             refine ot_sb 78 h62 ?_
             refine ot_go 65 5 ?_
             rcases ite_some h with ⟨h63, h⟩ | ⟨h63, h⟩
             ·
              refine ot_sb 83 h63 ?_
              refine ot_end ?_
              exact ve_arr 0 (g_ref17_Few_j1_ok hK hL1 h)
             ·
              refine ot_sb 83 h63 ?_
              refine ot_go 70 5 ?_
              rcases ite_some h with ⟨h64, h⟩ | ⟨h64, h⟩
              ·
               refine ot_sb 88 h64 ?_
               refine ot_end ?_
               exact ve_arr 0 (g_ref17_Few_j1_ok hK hL1 h)
              ·
               refine ot_sb 88 h64 ?_
               refine ot_go 75 5 ?_
               rcases ite_some h with ⟨h65, h⟩ | ⟨h65, h⟩
               ·
                refine ot_sb 93 h65 ?_
                refine ot_end ?_
                exact ve_arr 0 (g_ref17_Few_j1_ok hK hL1 h)
               ·
                refine ot_sb 93 h65 ?_
                refine ot_go 80 5 ?_
                rcases ite_some h with ⟨h66, h⟩ | ⟨h66, h⟩
                ·
                 refine ot_sb 98 h66 ?_
                 refine ot_end ?_
                 exact ve_arr 0 (g_ref17_Few_j1_ok hK hL1 h)
                ·
                 refine ot_sb 98 h66 ?_
                 refine ot_go 85 5 ?_
                 rcases ite_some h with ⟨h67, h⟩ | ⟨h67, h⟩
                 ·
                  refine ot_sb 103 h67 ?_
                  refine ot_end ?_
                  exact ve_arr 0 (g_ref17_Few_j1_ok hK hL1 h)
                 ·
                  refine ot_sb 103 h67 ?_
                  refine ot_end ?_
                  exact ve_arr 0 (g_ref17_Few_j1_ok hK hL1 h)
  ·
   refine ve_sb 11 h43 ?_
   refine ve_un (ks' := [.c (cat Try.f19 [1, 1, 0]), .c (cat Try.f19 [1, 1, 1])]) 6 ?_
   refine ve_in 1 ?_
   refine ot_sp (y_len eTKnapsackref17Spec v1) ?_
   refine ot_end ?_
   refine ve_rt 1 ?_
   have hr := Option.some.inj h
   subst hr
   exact ve_d1
theorem g_ref17_Few_l6_ok (hK : KnOk K) (m : Nat) : H19_1 M w0 r v1 v2 m (g_ref17_Few_l6 K n v1 v2 m) := by
  induction m with
 | zero => intro v23 h; cases h
 | succ m ih => intro v23 h; have h : g_ref17_Few_l6_b K n v1 v2 (g_ref17_Few_l6 K n v1 v2 m) v23 = some r := h; exact lp_round (g_ref17_Few_l6_b_ok hK ih h)
theorem g_ref17_Few_ok (hK : KnOk K) (h : g_ref17_Few K n v1 v2 = some r) : ACalls Try.prog 19 [.sl (List.map eTKnapsackref17Spec v1), .int .i64 v2] (fun v _ => v = .bool r) := by
  refine acalls_intro (c := cat Try.f19 []) Try.func19 (by kernel_rfl) _ Try.ntmps19 (of_decide_eq_true (by kernel_rfl)) fun M w0 => ?_
  refine ve_cast (s' := ⟨[(0,.sl (List.map eTKnapsackref17Spec v1)),(1,.int .i64 v2)],[],[],[]⟩) (by kernel_rfl) ?_
  unfold g_ref17_Few at h
  exact ve_arr 6 (lp_en (p := p19_15) n (g_ref17_Few_l6_ok hK n h))
end

def p35_0 : List Nat := ones 6 []
def p35_1 : List Nat := ones 5 [0, 0, 0]
def p35_2 : List Nat := ones 5 [0, 0, 0, 0, 1]
def p35_3 : List Nat := ones 5 [0, 0, 0, 1]
def p35_4 : List Nat := ones 5 [0, 0, 0, 1, 0, 0, 1]
def p35_5 : List Nat := ones 5 [0, 0, 0, 1, 0, 1]
def p35_6 : List Nat := ones 5 [0, 0, 0, 1, 0, 0, 1, 0, 0]
def p35_7 : List Nat := ones 5 [0, 0, 0, 1, 0, 0, 1, 0, 1]
def p35_8 : List Nat := ones 5 [0, 0, 0, 1, 0, 0, 1, 0, 1, 0]
def p35_9 : List Nat := ones 5 [0, 0, 0, 1, 0, 0, 1, 0, 1, 1]
def p35_10 : List Nat := ones 5 [0, 0, 0, 1, 0, 1, 0]
def p35_11 : List Nat := ones 5 [0, 0, 0, 1, 0, 1, 1]
def p35_12 : List Nat := ones 5 [0, 0, 0, 0, 0]
def p35_13 : List Nat := ones 5 []
def p35_14 : List Nat := ones 5 [0, 0]
def p35_15 : List Nat := [1, 1, 1, 1, 0]
noncomputable section
abbrev cx35 (M : Nat → Prop) (w0 : World) : Cx := ⟨Try.prog, 95, M, w0⟩
abbrev q35 (M : Nat → Prop) (w0 : World) (r : (TBoxtreeBox × Int)) := bodyPost Try.prog Try.f35 (RetQ M w0 (fun v s => v = .tup [.agg (List.set (xTBoxtreeBox ({ r.1 with Kids := [] } : TBoxtreeBox)) 58 (.ref 72)), .int .i64 r.2] ∧ look 72 s.r = some ⟨63, 59, List.map eTBoxtreeBox r.1.Kids⟩))
abbrev k35_1 (M : Nat → Prop) (w0 : World) (r : (TBoxtreeBox × Int)) (m1 : Nat) : Kont := kl (cx35 M w0) (q35 M w0 r) [.b 0, .c (cat Try.f35 p35_0)] (cat Try.f35 p35_1) m1
def s35_j2 (v1 : (List TKnapsackref17Spec)) (v2 : Int) (v3 : Bool) (v8 : Int) (v9 : (List TBoxtreeBox)) (v10 : Bool) : AS := ⟨[(0,.sl (List.map eTKnapsackref17Spec v1)),(1,.int .i64 v8),(4,.ptr 4 0),(6,.ptr 6 0),(7,.int .u8 ((List.getD v1 (v2).toNat default).Depth)),(8,.bool v3),(60,.bool v10)],[(4,List.set (xTBoxtreeBox zTBoxtreeBox) 58 (.nils)),(6,List.set (xTBoxtreeBox ({ zTBoxtreeBox with Kind := 1, Node := (w64 (10 + v2)), Style := (List.getD v1 (v2).toNat default).Style } : TBoxtreeBox)) 58 (.ref 72))],[(72,⟨63,59,List.map eTBoxtreeBox v9⟩)],[4,6,72]⟩
def s35_l3 (v1 : (List TKnapsackref17Spec)) (v2 : Int) (v3 : Bool) (v8 : Int) (v9 : (List TBoxtreeBox)) : AS := ⟨[(0,.sl (List.map eTKnapsackref17Spec v1)),(1,.int .i64 v8),(4,.ptr 4 0),(6,.ptr 6 0),(7,.int .u8 ((List.getD v1 (v2).toNat default).Depth)),(8,.bool v3)],[(4,List.set (xTBoxtreeBox zTBoxtreeBox) 58 (.nils)),(6,List.set (xTBoxtreeBox ({ zTBoxtreeBox with Kind := 1, Node := (w64 (10 + v2)), Style := (List.getD v1 (v2).toNat default).Style } : TBoxtreeBox)) 58 (.ref 72))],[(72,⟨63,59,List.map eTBoxtreeBox v9⟩)],[4,6,72]⟩
def s35_j1 (v1 : (List TKnapsackref17Spec)) (v2 : Int) (v3 : Bool) : AS := ⟨[(0,.sl (List.map eTKnapsackref17Spec v1)),(1,.int .i64 (w64 (v2 + 1))),(4,.ptr 4 0),(6,.ptr 6 0),(7,.int .u8 ((List.getD v1 (v2).toNat default).Depth)),(8,.bool v3)],[(4,List.set (xTBoxtreeBox zTBoxtreeBox) 58 (.nils)),(6,List.set (xTBoxtreeBox ({ zTBoxtreeBox with Kind := 1, Node := (w64 (10 + v2)), Style := (List.getD v1 (v2).toNat default).Style } : TBoxtreeBox)) 58 (.nils))],[],[4,6]⟩
abbrev H35_1 (M : Nat → Prop) (w0 : World) (r : (TBoxtreeBox × Int)) (v1 : (List TKnapsackref17Spec)) (v2 : Int) (v3 : Bool) (m1 : Nat) (L1 : Int → (List TBoxtreeBox) → Option (TBoxtreeBox × Int)) : Prop := ∀ {v8 : Int} {v9 : (List TBoxtreeBox)}, L1 v8 v9 = some r → LP (cx35 M w0) (q35 M w0 r) [.b 0, .c (cat Try.f35 p35_0)] (cat Try.f35 p35_1) m1 (s35_l3 v1 v2 v3 v8 v9)
variable {K : Kn} {n : Nat} {M : Nat → Prop} {w0 : World} {r : (TBoxtreeBox × Int)} {v1 : (List TKnapsackref17Spec)} {v2 : Int} {v3 : Bool} {v8 : Int} {v9 : (List TBoxtreeBox)} {v10 : Bool} {m1 : Nat} {L1 : Int → (List TBoxtreeBox) → Option (TBoxtreeBox × Int)}
theorem g_ref17_Tree_j2_ok (hK : KnOk K) (hL1 : H35_1 M w0 r v1 v2 v3 m1 L1) (h : g_ref17_Tree_j2 K n v1 v2 v3 v8 v9 L1 v10 = some r) : VE (cx35 M w0) (q35 M w0 r) [.c (cat Try.f35 p35_2), .c (cat Try.f35 p35_3), k35_1 M w0 r m1, .b 0, .c (cat Try.f35 p35_0)] .normal (s35_j2 v1 v2 v3 v8 v9 v10) := by
  unfold g_ref17_Tree_j2 at h
  rcases ite_some h with ⟨h27, h⟩ | ⟨h27, h⟩
  ·
   refine ve_sb 60 h27 ?_
   refine ve_un (ks' := [.c (cat Try.f35 p35_4), .c (cat Try.f35 p35_5), .b 1, k35_1 M w0 r m1, .b 0, .c (cat Try.f35 p35_0)]) 6 ?_
   rcases ite_some h with ⟨h28, h⟩ | ⟨h28, h⟩
   ·
    refine ve_sb 61 h28 ?_
    refine ve_un (ks' := [.c (cat Try.f35 p35_6), .c (cat Try.f35 p35_7), .c (cat Try.f35 p35_5), .b 1, k35_1 M w0 r m1, .b 0, .c (cat Try.f35 p35_0)]) 2 ?_
    refine ve_in 2 ?_
    obtain ⟨v11, h29, h⟩ := bind_some h
    refine ot_cl (hK.k_g_ref17_Tree h29) ?_
    refine ot_end ?_
    refine ve_un (ks' := [.c (cat Try.f35 p35_8), .c (cat Try.f35 p35_9), .c (cat Try.f35 p35_5), .b 1, k35_1 M w0 r m1, .b 0, .c (cat Try.f35 p35_0)]) 1 ?_
    refine ve_in 3 ?_
    refine ot_sp (y_bsl eTBoxtreeBox ([v11.1] : List TBoxtreeBox) (new := [xTBoxtreeBox v11.1]) (by simp only [List.map_cons, List.map_nil, xTBoxtreeBox_eq])) ?_
    obtain ⟨h30, h⟩ := chk_some h
    refine ot_sp (y_app 72 72 63 59 eTBoxtreeBox (rfl) (eTBoxtreeBox_len) h30) ?_
    refine ot_end ?_
    exact ve_arr 5 (lp_back (hL1 h))
   ·
    refine ve_sb 61 h28 ?_
    refine ve_un (ks' := [.c (cat Try.f35 p35_10), .c (cat Try.f35 p35_11), .b 1, k35_1 M w0 r m1, .b 0, .c (cat Try.f35 p35_0)]) 3 ?_
    refine ve_pk [0, 1, 4, 6, 7, 8] [4, 6] [72] ?_
    obtain ⟨h31, h⟩ := chk_some h
    obtain ⟨h32, h⟩ := chk_some h
    obtain ⟨h33, h⟩ := chk_some h
    refine ve_dr 2 [(75, .ptr 6 58), (76, .ref 72), (77, .sl (List.map eTKnapsackref17Spec v1)), (78, .int .i64 v8), (79, .cptr (eTKnapsackref17Spec (List.getD v1 (v8).toNat default))), (80, .cptr (List.drop 5 (eTKnapsackref17Spec (List.getD v1 (v8).toNat default)))), (81, .agg (eTCascadeStyle ((List.getD v1 (v8).toNat default).Style))), (82, .sl (List.map eTKnapsackref17Spec v1)), (83, .int .i64 v8), (84, .cptr (eTKnapsackref17Spec (List.getD v1 (v8).toNat default))), (85, .cptr (List.drop 2 (eTKnapsackref17Spec (List.getD v1 (v8).toNat default)))), (86, .str ((List.getD v1 (v8).toNat default).Text)), (87, .agg (List.set (xTBoxtreeBox ({ zTBoxtreeBox with Kind := 3, Style := (List.getD v1 (v8).toNat default).Style, Text := (List.getD v1 (v8).toNat default).Text } : TBoxtreeBox)) 58 (.nils))), (88, .sl (List.map eTBoxtreeBox [({ zTBoxtreeBox with Kind := 3, Style := (List.getD v1 (v8).toNat default).Style, Text := (List.getD v1 (v8).toNat default).Text } : TBoxtreeBox)])), (90, .ptr 6 58)] [] [] [appS 89 72 ⟨63, 59, List.map eTBoxtreeBox (v9 ++ [({ zTBoxtreeBox with Kind := 3, Style := (List.getD v1 (v8).toNat default).Style, Text := (List.getD v1 (v8).toNat default).Text } : TBoxtreeBox)])⟩, stp Try.prog 95 Try.f35 p35_10 16] (d_vs [.v 0 2, .v 0 1, .v 0 2, .v 0 2] (d_c1 (k_v (lo := 0) (k := 2) (kallS ⟨(by kernel_rfl), (aop_eq (y_ixs eTKnapsackref17Spec eTKnapsackref17Spec h31 (eTKnapsackref17Spec_len) (fun _ => rfl)) (by kernel_rfl))⟩ (kallS ⟨(by kernel_rfl), (aop_eq (y_ixs eTKnapsackref17Spec eTKnapsackref17Spec h31 (eTKnapsackref17Spec_len) (fun _ => rfl)) (by kernel_rfl))⟩ (kall0)))) (d_vs [.v 0 2, .v 0 2, .v 0 2, .v 0 2] (d_c1 (k_v (lo := 0) (k := 2) (kallS ⟨(by kernel_rfl), (aop_eq (y_ixs eTKnapsackref17Spec eTKnapsackref17Spec h32 (eTKnapsackref17Spec_len) (fun _ => rfl)) (by kernel_rfl))⟩ (kallS ⟨(by kernel_rfl), (aop_eq (y_ixs eTKnapsackref17Spec eTKnapsackref17Spec h32 (eTKnapsackref17Spec_len) (fun _ => rfl)) (by kernel_rfl))⟩ (kall0)))) (d_vs [.v 0 2, .v 0 2, .v 0 2] (d_c1 (e_v (lo := 0) (y_bsl eTBoxtreeBox ([({ zTBoxtreeBox with Kind := 3, Style := (List.getD v1 (v8).toNat default).Style, Text := (List.getD v1 (v8).toNat default).Text } : TBoxtreeBox)] : List TBoxtreeBox) (new := [xTBoxtreeBox ({ zTBoxtreeBox with Kind := 3, Style := (List.getD v1 (v8).toNat default).Style, Text := (List.getD v1 (v8).toNat default).Text } : TBoxtreeBox)]) (by simp only [List.map_cons, List.map_nil, xTBoxtreeBox_eq]))) (d_c1 (e_s (m := 0) (y_app 89 72 63 59 eTBoxtreeBox (rfl) (eTBoxtreeBox_len) h33)) (d_vs [.v 1 1] (d_c1 (e_d 1) (d_nl)))))))))) ?_
    exact ve_arr 2 (lp_back (hL1 h))
  ·
   refine ve_sb 60 h27 ?_
   refine ve_rt 8 ?_
   have hr := Option.some.inj h
   subst hr
   exact ve_ot
theorem g_ref17_Tree_l3_b_ok (hK : KnOk K) (hL1 : H35_1 M w0 r v1 v2 v3 m1 L1) (h : g_ref17_Tree_l3_b K n v1 v2 v3 L1 v8 v9 = some r) : VE (cx35 M w0) (q35 M w0 r) [.c (cat Try.f35 p35_1), k35_1 M w0 r m1, .b 0, .c (cat Try.f35 p35_0)] .normal (s35_l3 v1 v2 v3 v8 v9) := by
  unfold g_ref17_Tree_l3_b at h
  refine ve_un (ks' := [.c (cat Try.f35 p35_12), .c (cat Try.f35 p35_2), .c (cat Try.f35 p35_3), k35_1 M w0 r m1, .b 0, .c (cat Try.f35 p35_0)]) 2 ?_
  refine ve_in 2 ?_
  refine ot_sp (y_len eTKnapsackref17Spec v1) ?_
  refine ot_go 5 2 ?_
  rcases ite_some h with ⟨h25, h⟩ | ⟨h25, h⟩
  ·
   refine ot_sb 52 h25 ?_
   refine ot_go 7 2 ?_
   obtain ⟨h26, h⟩ := chk_some h
   refine ot_sp (y_ixs eTKnapsackref17Spec eTKnapsackref17Spec h26 (eTKnapsackref17Spec_len) (fun _ => rfl)) ?_
   refine ot_end ?_
   exact ve_arr 0 (g_ref17_Tree_j2_ok hK hL1 h)
  ·
   refine ot_sb 52 h25 ?_
   refine ot_end ?_
   exact ve_arr 0 (g_ref17_Tree_j2_ok hK hL1 h)
theorem g_ref17_Tree_l3_ok (hK : KnOk K) (m : Nat) : H35_1 M w0 r v1 v2 v3 m (g_ref17_Tree_l3 K n v1 v2 v3 m) := by
  induction m with
 | zero => intro v8 v9 h; cases h
 | succ m ih => intro v8 v9 h; have h : g_ref17_Tree_l3_b K n v1 v2 v3 (g_ref17_Tree_l3 K n v1 v2 v3 m) v8 v9 = some r := h; exact lp_round (g_ref17_Tree_l3_b_ok hK ih h)
theorem g_ref17_Tree_j1_ok (hK : KnOk K) (h : g_ref17_Tree_j1 K n v1 v2 v3 = some r) : VE (cx35 M w0) (q35 M w0 r) [.c (cat Try.f35 p35_13)] .normal (s35_j1 v1 v2 v3) := by
  unfold g_ref17_Tree_j1 at h
  refine ve_un (ks' := [.c (cat Try.f35 p35_14), .b 0, .c (cat Try.f35 p35_0)]) 2 ?_
  refine ve_wo 72 6 58 63 59 ?_
  exact ve_arr 0 (lp_en (p := p35_14) n (g_ref17_Tree_l3_ok hK n h))
theorem g_ref17_Tree_ok (hK : KnOk K) (h : g_ref17_Tree K n v1 v2 = some r) : ACalls Try.prog 35 [.sl (List.map eTKnapsackref17Spec v1), .int .i64 v2] (fun v s => v = .tup [.agg (List.set (xTBoxtreeBox ({ r.1 with Kids := [] } : TBoxtreeBox)) 58 (.ref 72)), .int .i64 r.2] ∧ look 72 s.r = some ⟨63, 59, List.map eTBoxtreeBox r.1.Kids⟩) := by
  refine acalls_intro (c := cat Try.f35 []) Try.func35 (by kernel_rfl) _ Try.ntmps35 (of_decide_eq_true (by kernel_rfl)) fun M w0 => ?_
  refine ve_cast (s' := ⟨[(0,.sl (List.map eTKnapsackref17Spec v1)),(1,.int .i64 v2)],[],[],[]⟩) (by kernel_rfl) ?_
  unfold g_ref17_Tree at h
  refine ve_un (ks' := [.c (cat Try.f35 [1, 0]), .c (cat Try.f35 [1, 1])]) 3 ?_
  refine ve_in 4 ?_
  obtain ⟨h1, h⟩ := chk_some h
  refine ot_sp (y_ixs eTKnapsackref17Spec eTKnapsackref17Spec h1 (eTKnapsackref17Spec_len) (fun _ => rfl)) ?_
  refine ot_end ?_
  refine ve_un (ks' := [.c (cat Try.f35 [1, 1, 0]), .c (cat Try.f35 [1, 1, 1])]) 1 ?_
  refine ve_in 2 ?_
  obtain ⟨h2, h⟩ := chk_some h
  refine ot_sp (y_ixs eTKnapsackref17Spec eTKnapsackref17Spec h2 (eTKnapsackref17Spec_len) (fun _ => rfl)) ?_
  refine ot_end ?_
  refine ve_un (ks' := [.c (cat Try.f35 p35_15), .c (cat Try.f35 p35_13)]) 3 ?_
  refine ve_in 2 ?_
  refine ot_sp (y_len eTKnapsackref17Spec v1) ?_
  refine ot_go 5 2 ?_
  rcases ite_some h with ⟨h3, h⟩ | ⟨h3, h⟩
  ·
   refine ot_sb 30 h3 ?_
   refine ot_go 7 2 ?_
   obtain ⟨h4, h⟩ := chk_some h
   refine ot_sp (y_ixs eTKnapsackref17Spec eTKnapsackref17Spec h4 (eTKnapsackref17Spec_len) (fun _ => rfl)) ?_
   refine ot_go 14 6 ?_
   rcases ite_some h with ⟨h5, h⟩ | ⟨h5, h⟩
   ·
    refine ot_sb 39 h5 ?_
    refine ot_go 16 2 ?_
    obtain ⟨h6, h⟩ := chk_some h
    refine ot_sp (y_ixs eTKnapsackref17Spec eTKnapsackref17Spec h6 (eTKnapsackref17Spec_len) (fun _ => rfl)) ?_
    refine ot_end ?_
    exact ve_arr 0 (g_ref17_Tree_j1_ok hK h)
   ·
    refine ot_sb 39 h5 ?_
    refine ot_end ?_
    exact ve_arr 0 (g_ref17_Tree_j1_ok hK h)
  ·
   refine ot_sb 30 h3 ?_
   refine ot_end ?_
   exact ve_arr 0 (g_ref17_Tree_j1_ok hK h)
end


noncomputable section
abbrev cx30 (M : Nat → Prop) (w0 : World) : Cx := ⟨Try.prog, 6, M, w0⟩
abbrev q30 (M : Nat → Prop) (w0 : World) (r : Int) := bodyPost Try.prog Try.f30 (RetQ M w0 (fun v _ => v = .int .i64 r))
variable {K : Kn} {n : Nat} {M : Nat → Prop} {w0 : World} {r : Int} {v1 : Int} 
theorem g_ref17_Width_ok (hK : KnOk K) (h : g_ref17_Width K n v1 = some r) : ACalls Try.prog 30 [.int .i64 v1] (fun v _ => v = .int .i64 r) := by
  refine acalls_intro (c := cat Try.f30 []) Try.func30 (by kernel_rfl) _ Try.ntmps30 (of_decide_eq_true (by kernel_rfl)) fun M w0 => ?_
  refine ve_cast (s' := ⟨[(0,.int .i64 v1)],[],[],[]⟩) (by kernel_rfl) ?_
  unfold g_ref17_Width at h
  refine ve_rt 5 ?_
  have hr := Option.some.inj h
  subst hr
  exact ve_d1
end


noncomputable section
abbrev cx53 (M : Nat → Prop) (w0 : World) : Cx := ⟨Try.prog, 6, M, w0⟩
abbrev q53 (M : Nat → Prop) (w0 : World) (r : Int) := bodyPost Try.prog Try.f53 (RetQ M w0 (fun v _ => v = .int .i64 r))
variable {K : Kn} {n : Nat} {M : Nat → Prop} {w0 : World} {r : Int} {v1 : Int} 
theorem g_ref17_limit_ok (hK : KnOk K) (h : g_ref17_limit K n v1 = some r) : ACalls Try.prog 53 [.int .i64 v1] (fun v _ => v = .int .i64 r) := by
  refine acalls_intro (c := cat Try.f53 []) Try.func53 (by kernel_rfl) _ Try.ntmps53 (of_decide_eq_true (by kernel_rfl)) fun M w0 => ?_
  refine ve_cast (s' := ⟨[(0,.int .i64 v1)],[],[],[]⟩) (by kernel_rfl) ?_
  unfold g_ref17_limit at h
  refine ve_rt 5 ?_
  have hr := Option.some.inj h
  subst hr
  exact ve_d1
end

def p21_0 : List Nat := [1, 0, 1, 0, 1]
def p21_1 : List Nat := [1, 0, 1, 0, 1, 0, 0]
def p21_2 : List Nat := [1, 0, 1, 0, 1, 0, 1]
def p21_3 : List Nat := [1, 0, 1, 0, 1, 1, 1]
def p21_4 : List Nat := [1, 0, 1, 0, 1, 1, 1, 0, 0]
def p21_5 : List Nat := [1, 0, 1, 0, 1, 1, 1, 0, 1]
noncomputable section
abbrev cx21 (M : Nat → Prop) (w0 : World) : Cx := ⟨Try.prog, 24, M, w0⟩
abbrev q21 (M : Nat → Prop) (w0 : World) (r : (Int × Bool)) := bodyPost Try.prog Try.f21 (RetQ M w0 (fun v _ => v = .tup [.int .i64 r.1, .bool r.2]))
variable {K : Kn} {n : Nat} {M : Nat → Prop} {w0 : World} {r : (Int × Bool)} {v1 : TCascadeLength} {v2 : Int} 
theorem g_ref17_Length_ok (hK : KnOk K) (h : g_ref17_Length K n v1 v2 = some r) : ACalls Try.prog 21 [.agg (eTCascadeLength v1), .int .i64 v2] (fun v _ => v = .tup [.int .i64 r.1, .bool r.2]) := by
  refine acalls_intro (c := cat Try.f21 []) Try.func21 (by kernel_rfl) _ Try.ntmps21 (of_decide_eq_true (by kernel_rfl)) fun M w0 => ?_
  refine ve_cast (s' := ⟨[(0,.agg (eTCascadeLength v1)),(1,.int .i64 v2)],[],[],[]⟩) (by kernel_rfl) ?_
  unfold g_ref17_Length at h
  refine ve_un (ks' := [.c (cat Try.f21 p21_0), .b 0, .c (cat Try.f21 [1, 1])]) 8 ?_
  rcases ite_some h with ⟨h1, h⟩ | ⟨h1, h⟩
  ·
   refine ve_sb 8 h1 ?_
   refine ve_un (ks' := [.c (cat Try.f21 p21_1), .c (cat Try.f21 p21_2), .b 0, .c (cat Try.f21 [1, 1])]) 2 ?_
   refine ve_in 2 ?_
   obtain ⟨v3, h2, h⟩ := bind_some h
   refine ot_cl (g_ref17_limit_ok hK h2) ?_
   refine ot_end ?_
   refine ve_rt 3 ?_
   have hr := Option.some.inj h
   subst hr
   exact ve_dt
  ·
   refine ve_sb 8 h1 ?_
   refine ve_un (ks' := [.c (cat Try.f21 p21_3), .b 0, .c (cat Try.f21 [1, 1])]) 3 ?_
   rcases ite_some h with ⟨h3, h⟩ | ⟨h3, h⟩
   ·
    refine ve_sb 13 h3 ?_
    refine ve_un (ks' := [.c (cat Try.f21 p21_4), .c (cat Try.f21 p21_5), .b 0, .c (cat Try.f21 [1, 1])]) 2 ?_
    refine ve_pk [1, 2] [2] [] ?_
    obtain ⟨v4, h4, h⟩ := bind_some h
    obtain ⟨v5, h5, h⟩ := bind_some h
    refine ve_dr 2 [(15, .int .i64 v2), (16, .int .i64 v4), (17, .ptr 2 1), (18, .int .i64 v1.Value), (19, .int .i64 (max v1.Value (-1000000))), (20, .int .i64 (min (max v1.Value (-1000000)) 1000000)), (21, .int .i64 (w64 (v4 * (min (max v1.Value (-1000000)) 1000000)))), (22, .int .i64 (w64 (Int.tdiv (w64 (v4 * (min (max v1.Value (-1000000)) 1000000))) 10000))), (23, .int .i64 v5)] [] [] [stp Try.prog 24 Try.f21 p21_4 9, stp Try.prog 24 Try.f21 p21_4 10] (d_vs [.v 0 1] (d_c1 (e_c 0 1 16 (g_ref17_Width_ok hK h4)) (d_vs [.v 0 1, .v 0 1, .v 0 1, .v 0 1, .v 0 1, .v 0 1] (d_c1 (e_c 0 1 23 (g_ref17_limit_ok hK h5)) (d_c1 (e_d 0) (d_c1 (e_d 1) (d_nl))))))) ?_
    refine ve_rt 3 ?_
    have hr := Option.some.inj h
    subst hr
    exact ve_dt
   ·
    refine ve_sb 13 h3 ?_
    refine ve_rt 6 ?_
    have hr := Option.some.inj h
    subst hr
    exact ve_dt
end

def p23_0 : List Nat := ones 6 []
def p23_1 : List Nat := [1, 1, 1, 1]
def p23_2 : List Nat := [1, 1, 1, 1, 0]
def p23_3 : List Nat := ones 5 []
def p23_4 : List Nat := ones 5 [0, 1]
def p23_5 : List Nat := [1, 1, 1, 0, 1]
noncomputable section
abbrev cx23 (M : Nat → Prop) (w0 : World) : Cx := ⟨Try.prog, 37, M, w0⟩
abbrev q23 (M : Nat → Prop) (w0 : World) (r : Int) := bodyPost Try.prog Try.f23 (RetQ M w0 (fun v _ => v = .int .i64 r))
def s23_j2 (v7 : Int) : AS := ⟨[(7,.int .i64 v7)],[],[],[]⟩
def s23_j1 (v1 : TCascadeStyle) (v2 : Int) (v5 : Int) : AS := ⟨[(1,.int .i64 v2),(3,.ptr 3 0),(7,.int .i64 v5)],[(3,eTCascadeStyle v1)],[],[3]⟩
variable {K : Kn} {n : Nat} {M : Nat → Prop} {w0 : World} {r : Int} {v1 : TCascadeStyle} {v2 : Int} {v3 : Int} {v5 : Int} {v7 : Int} 
theorem g_ref17_Clamp_j2_ok (hK : KnOk K) (h : g_ref17_Clamp_j2 K n v7 = some r) : VE (cx23 M w0) (q23 M w0 r) [.c (cat Try.f23 p23_0)] .normal (s23_j2 v7) := by
  unfold g_ref17_Clamp_j2 at h
  refine ve_rt 3 ?_
  have hr := Option.some.inj h
  subst hr
  exact ve_d1
theorem g_ref17_Clamp_j1_ok (hK : KnOk K) (h : g_ref17_Clamp_j1 K n v1 v2 v5 = some r) : VE (cx23 M w0) (q23 M w0 r) [.c (cat Try.f23 p23_1)] .normal (s23_j1 v1 v2 v5) := by
  unfold g_ref17_Clamp_j1 at h
  refine ve_un (ks' := [.c (cat Try.f23 p23_2), .c (cat Try.f23 p23_3)]) 1 ?_
  refine ve_in 3 ?_
  obtain ⟨v6, h3, h⟩ := bind_some h
  refine ot_cl (g_ref17_Length_ok hK h3) ?_
  refine ot_end ?_
  refine ve_un (ks' := [.c (cat Try.f23 p23_4), .c (cat Try.f23 p23_0)]) 3 ?_
  rcases ite_some h with ⟨h4, h⟩ | ⟨h4, h⟩
  ·
   refine ve_sb 32 h4 ?_
   exact ve_arr 2 (g_ref17_Clamp_j2_ok hK h)
  ·
   refine ve_sb 32 h4 ?_
   exact ve_arr 2 (g_ref17_Clamp_j2_ok hK h)
theorem g_ref17_Clamp_ok (hK : KnOk K) (h : g_ref17_Clamp K n v1 v2 v3 = some r) : ACalls Try.prog 23 [.agg (eTCascadeStyle v1), .int .i64 v2, .int .i64 v3] (fun v _ => v = .int .i64 r) := by
  refine acalls_intro (c := cat Try.f23 []) Try.func23 (by kernel_rfl) _ Try.ntmps23 (of_decide_eq_true (by kernel_rfl)) fun M w0 => ?_
  refine ve_cast (s' := ⟨[(0,.agg (eTCascadeStyle v1)),(1,.int .i64 v2),(2,.int .i64 v3)],[],[],[]⟩) (by kernel_rfl) ?_
  unfold g_ref17_Clamp at h
  refine ve_un (ks' := [.c (cat Try.f23 [1, 1, 0]), .c (cat Try.f23 [1, 1, 1])]) 5 ?_
  refine ve_in 3 ?_
  obtain ⟨v4, h1, h⟩ := bind_some h
  refine ot_cl (g_ref17_Length_ok hK h1) ?_
  refine ot_end ?_
  refine ve_un (ks' := [.c (cat Try.f23 p23_5), .c (cat Try.f23 p23_1)]) 3 ?_
  rcases ite_some h with ⟨h2, h⟩ | ⟨h2, h⟩
  ·
   refine ve_sb 20 h2 ?_
   exact ve_arr 2 (g_ref17_Clamp_j1_ok hK h)
  ·
   refine ve_sb 20 h2 ?_
   exact ve_arr 2 (g_ref17_Clamp_j1_ok hK h)
end

def p25_0 : List Nat := [1, 1, 0, 1, 0]
def p25_1 : List Nat := [1, 1, 0, 1, 0, 0]
def p25_2 : List Nat := [1, 1, 0, 1, 0, 0, 1, 0, 0, 0]
def p25_3 : List Nat := [1, 1, 0, 1, 0, 0, 1, 0, 0, 1]
def p25_4 : List Nat := [1, 1, 0, 1, 0, 0, 1, 1]
def p25_5 : List Nat := [1, 1, 0, 1, 0, 0, 1, 0, 0, 1, 0]
def p25_6 : List Nat := [1, 1, 0, 1, 0, 0, 1, 0, 0, 1, 1]
def p25_7 : List Nat := [1, 1, 0, 1, 0, 0, 1, 0, 0, 1, 1, 1, 1]
noncomputable section
abbrev cx25 (M : Nat → Prop) (w0 : World) : Cx := ⟨Try.prog, 55, M, w0⟩
abbrev q25 (M : Nat → Prop) (w0 : World) (r : TBlockSizes) := bodyPost Try.prog Try.f25 (RetQ M w0 (fun v _ => v = .agg (eTBlockSizes r)))
variable {K : Kn} {n : Nat} {M : Nat → Prop} {w0 : World} {r : TBlockSizes} {v1 : TCascadeStyle} {v2 : Int} {v3 : Int} 
theorem g_ref17_Edges_ok (hK : KnOk K) (h : g_ref17_Edges K n v1 v2 v3 = some r) : ACalls Try.prog 25 [.agg (eTCascadeStyle v1), .int .i64 v2, .int .i64 v3] (fun v _ => v = .agg (eTBlockSizes r)) := by
  refine acalls_intro (c := cat Try.f25 []) Try.func25 (by kernel_rfl) _ Try.ntmps25 (of_decide_eq_true (by kernel_rfl)) fun M w0 => ?_
  refine ve_cast (s' := ⟨[(0,.agg (eTCascadeStyle v1)),(1,.int .i64 v2),(2,.int .i64 v3)],[],[],[]⟩) (by kernel_rfl) ?_
  unfold g_ref17_Edges at h
  refine ve_go (ks' := [.c (cat Try.f25 p25_0), .b 0, .c (cat Try.f25 [1, 1, 1])]) 8 ⟨[(1,.int .i64 v2),(3,.ptr 3 0),(6,.ptr 6 0),(7,.ptr 7 0),(8,.int .i64 0)],[(3,eTCascadeStyle v1),(6,eTBlockSizes zTBlockSizes),(7,eTBlockSizes ({ zTBlockSizes with Content := v3 } : TBlockSizes))],[],[3,6,7]⟩ ?_
  refine lp_enter 40 (c := cat Try.f25 p25_1) (by kernel_rfl) ?_
  refine lp_round ?_
  refine ve_un (ks' := [.c (cat Try.f25 p25_2), .c (cat Try.f25 p25_3), .b 1, .c (cat Try.f25 p25_4), kl (cx25 M w0) (q25 M w0 r) [.b 0, .c (cat Try.f25 [1, 1, 1])] (cat Try.f25 p25_1) 39, .b 0, .c (cat Try.f25 [1, 1, 1])]) 8 ?_
  refine ve_in 5 ?_
  obtain ⟨v4, h1, h⟩ := bind_some h
  refine ot_cl (g_ref17_Length_ok hK h1) ?_
  refine ot_end ?_
  refine ve_un (ks' := [.c (cat Try.f25 p25_5), .c (cat Try.f25 p25_6), .b 1, .c (cat Try.f25 p25_4), kl (cx25 M w0) (q25 M w0 r) [.b 0, .c (cat Try.f25 [1, 1, 1])] (cat Try.f25 p25_1) 39, .b 0, .c (cat Try.f25 [1, 1, 1])]) 1 ?_
  refine ve_in 5 ?_
  obtain ⟨v5, h2, h⟩ := bind_some h
  refine ot_cl (g_ref17_Length_ok hK h2) ?_
  refine ot_end ?_
  refine ve_un (ks' := [.c (cat Try.f25 p25_7), .b 1, .c (cat Try.f25 p25_4), kl (cx25 M w0) (q25 M w0 r) [.b 0, .c (cat Try.f25 [1, 1, 1])] (cat Try.f25 p25_1) 39, .b 0, .c (cat Try.f25 [1, 1, 1])]) 4 ?_
  refine ve_in 5 ?_
  obtain ⟨v6, h3, h⟩ := bind_some h
  refine ot_cl (g_ref17_Width_ok hK h3) ?_
  refine ot_end ?_
  refine ve_go (ks' := [kl (cx25 M w0) (q25 M w0 r) [.b 0, .c (cat Try.f25 [1, 1, 1])] (cat Try.f25 p25_1) 39, .b 0, .c (cat Try.f25 [1, 1, 1])]) 2 ⟨[(1,.int .i64 v2),(3,.ptr 3 0),(6,.ptr 6 0),(7,.ptr 7 0),(8,.int .i64 1)],[(3,eTCascadeStyle v1),(6,eTBlockSizes zTBlockSizes),(7,eTBlockSizes (⟨⟨v4.1, 0, 0, 0⟩, ⟨v6, 0, 0, 0⟩, ⟨(max v5.1 0), 0, 0, 0⟩, v3⟩ : TBlockSizes))],[],[3,6,7]⟩ ?_
  refine lp_back ?_
  refine lp_round ?_
  refine ve_un (ks' := [.c (cat Try.f25 p25_2), .c (cat Try.f25 p25_3), .b 1, .c (cat Try.f25 p25_4), kl (cx25 M w0) (q25 M w0 r) [.b 0, .c (cat Try.f25 [1, 1, 1])] (cat Try.f25 p25_1) 38, .b 0, .c (cat Try.f25 [1, 1, 1])]) 8 ?_
  refine ve_in 5 ?_
  obtain ⟨v7, h4, h⟩ := bind_some h
  refine ot_cl (g_ref17_Length_ok hK h4) ?_
  refine ot_end ?_
  refine ve_un (ks' := [.c (cat Try.f25 p25_5), .c (cat Try.f25 p25_6), .b 1, .c (cat Try.f25 p25_4), kl (cx25 M w0) (q25 M w0 r) [.b 0, .c (cat Try.f25 [1, 1, 1])] (cat Try.f25 p25_1) 38, .b 0, .c (cat Try.f25 [1, 1, 1])]) 1 ?_
  refine ve_in 5 ?_
  obtain ⟨v8, h5, h⟩ := bind_some h
  refine ot_cl (g_ref17_Length_ok hK h5) ?_
  refine ot_end ?_
  refine ve_un (ks' := [.c (cat Try.f25 p25_7), .b 1, .c (cat Try.f25 p25_4), kl (cx25 M w0) (q25 M w0 r) [.b 0, .c (cat Try.f25 [1, 1, 1])] (cat Try.f25 p25_1) 38, .b 0, .c (cat Try.f25 [1, 1, 1])]) 4 ?_
  refine ve_in 5 ?_
  obtain ⟨v9, h6, h⟩ := bind_some h
  refine ot_cl (g_ref17_Width_ok hK h6) ?_
  refine ot_end ?_
  refine ve_go (ks' := [kl (cx25 M w0) (q25 M w0 r) [.b 0, .c (cat Try.f25 [1, 1, 1])] (cat Try.f25 p25_1) 38, .b 0, .c (cat Try.f25 [1, 1, 1])]) 2 ⟨[(1,.int .i64 v2),(3,.ptr 3 0),(6,.ptr 6 0),(7,.ptr 7 0),(8,.int .i64 2)],[(3,eTCascadeStyle v1),(6,eTBlockSizes zTBlockSizes),(7,eTBlockSizes (⟨⟨v4.1, v7.1, 0, 0⟩, ⟨v6, v9, 0, 0⟩, ⟨(max v5.1 0), (max v8.1 0), 0, 0⟩, v3⟩ : TBlockSizes))],[],[3,6,7]⟩ ?_
  refine lp_back ?_
  refine lp_round ?_
  refine ve_un (ks' := [.c (cat Try.f25 p25_2), .c (cat Try.f25 p25_3), .b 1, .c (cat Try.f25 p25_4), kl (cx25 M w0) (q25 M w0 r) [.b 0, .c (cat Try.f25 [1, 1, 1])] (cat Try.f25 p25_1) 37, .b 0, .c (cat Try.f25 [1, 1, 1])]) 8 ?_
  refine ve_in 5 ?_
  obtain ⟨v10, h7, h⟩ := bind_some h
  refine ot_cl (g_ref17_Length_ok hK h7) ?_
  refine ot_end ?_
  refine ve_un (ks' := [.c (cat Try.f25 p25_5), .c (cat Try.f25 p25_6), .b 1, .c (cat Try.f25 p25_4), kl (cx25 M w0) (q25 M w0 r) [.b 0, .c (cat Try.f25 [1, 1, 1])] (cat Try.f25 p25_1) 37, .b 0, .c (cat Try.f25 [1, 1, 1])]) 1 ?_
  refine ve_in 5 ?_
  obtain ⟨v11, h8, h⟩ := bind_some h
  refine ot_cl (g_ref17_Length_ok hK h8) ?_
  refine ot_end ?_
  refine ve_un (ks' := [.c (cat Try.f25 p25_7), .b 1, .c (cat Try.f25 p25_4), kl (cx25 M w0) (q25 M w0 r) [.b 0, .c (cat Try.f25 [1, 1, 1])] (cat Try.f25 p25_1) 37, .b 0, .c (cat Try.f25 [1, 1, 1])]) 4 ?_
  refine ve_in 5 ?_
  obtain ⟨v12, h9, h⟩ := bind_some h
  refine ot_cl (g_ref17_Width_ok hK h9) ?_
  refine ot_end ?_
  refine ve_go (ks' := [kl (cx25 M w0) (q25 M w0 r) [.b 0, .c (cat Try.f25 [1, 1, 1])] (cat Try.f25 p25_1) 37, .b 0, .c (cat Try.f25 [1, 1, 1])]) 2 ⟨[(1,.int .i64 v2),(3,.ptr 3 0),(6,.ptr 6 0),(7,.ptr 7 0),(8,.int .i64 3)],[(3,eTCascadeStyle v1),(6,eTBlockSizes zTBlockSizes),(7,eTBlockSizes (⟨⟨v4.1, v7.1, v10.1, 0⟩, ⟨v6, v9, v12, 0⟩, ⟨(max v5.1 0), (max v8.1 0), (max v11.1 0), 0⟩, v3⟩ : TBlockSizes))],[],[3,6,7]⟩ ?_
  refine lp_back ?_
  refine lp_round ?_
  refine ve_un (ks' := [.c (cat Try.f25 p25_2), .c (cat Try.f25 p25_3), .b 1, .c (cat Try.f25 p25_4), kl (cx25 M w0) (q25 M w0 r) [.b 0, .c (cat Try.f25 [1, 1, 1])] (cat Try.f25 p25_1) 36, .b 0, .c (cat Try.f25 [1, 1, 1])]) 8 ?_
  refine ve_in 5 ?_
  obtain ⟨v13, h10, h⟩ := bind_some h
  refine ot_cl (g_ref17_Length_ok hK h10) ?_
  refine ot_end ?_
  refine ve_un (ks' := [.c (cat Try.f25 p25_5), .c (cat Try.f25 p25_6), .b 1, .c (cat Try.f25 p25_4), kl (cx25 M w0) (q25 M w0 r) [.b 0, .c (cat Try.f25 [1, 1, 1])] (cat Try.f25 p25_1) 36, .b 0, .c (cat Try.f25 [1, 1, 1])]) 1 ?_
  refine ve_in 5 ?_
  obtain ⟨v14, h11, h⟩ := bind_some h
  refine ot_cl (g_ref17_Length_ok hK h11) ?_
  refine ot_end ?_
  refine ve_un (ks' := [.c (cat Try.f25 p25_7), .b 1, .c (cat Try.f25 p25_4), kl (cx25 M w0) (q25 M w0 r) [.b 0, .c (cat Try.f25 [1, 1, 1])] (cat Try.f25 p25_1) 36, .b 0, .c (cat Try.f25 [1, 1, 1])]) 4 ?_
  refine ve_in 5 ?_
  obtain ⟨v15, h12, h⟩ := bind_some h
  refine ot_cl (g_ref17_Width_ok hK h12) ?_
  refine ot_end ?_
  refine ve_go (ks' := [kl (cx25 M w0) (q25 M w0 r) [.b 0, .c (cat Try.f25 [1, 1, 1])] (cat Try.f25 p25_1) 36, .b 0, .c (cat Try.f25 [1, 1, 1])]) 2 ⟨[(1,.int .i64 v2),(3,.ptr 3 0),(6,.ptr 6 0),(7,.ptr 7 0),(8,.int .i64 4)],[(3,eTCascadeStyle v1),(6,eTBlockSizes zTBlockSizes),(7,eTBlockSizes (⟨⟨v4.1, v7.1, v10.1, v13.1⟩, ⟨v6, v9, v12, v15⟩, ⟨(max v5.1 0), (max v8.1 0), (max v11.1 0), (max v14.1 0)⟩, v3⟩ : TBlockSizes))],[],[3,6,7]⟩ ?_
  refine lp_back ?_
  refine lp_round ?_
  refine ve_rt 11 ?_
  have hr := Option.some.inj h
  subst hr
  exact ve_d1
end


noncomputable section
abbrev cx27 (M : Nat → Prop) (w0 : World) : Cx := ⟨Try.prog, 29, M, w0⟩
abbrev q27 (M : Nat → Prop) (w0 : World) (r : Int) := bodyPost Try.prog Try.f27 (RetQ M w0 (fun v _ => v = .int .i64 r))
variable {K : Kn} {n : Nat} {M : Nat → Prop} {w0 : World} {r : Int} {v1 : TBlockSizes} 
theorem g_ref17_Sum_ok (hK : KnOk K) (h : g_ref17_Sum K n v1 = some r) : ACalls Try.prog 27 [.agg (eTBlockSizes v1)] (fun v _ => v = .int .i64 r) := by
  refine acalls_intro (c := cat Try.f27 []) Try.func27 (by kernel_rfl) _ Try.ntmps27 (of_decide_eq_true (by kernel_rfl)) fun M w0 => ?_
  refine ve_cast (s' := ⟨[(0,.agg (eTBlockSizes v1))],[],[],[]⟩) (by kernel_rfl) ?_
  unfold g_ref17_Sum at h
  refine ve_rt 5 ?_
  have hr := Option.some.inj h
  subst hr
  exact ve_d1
end

def p29_0 : List Nat := ones 11 []
def p29_1 : List Nat := ones 10 [0, 0, 1]
def p29_2 : List Nat := ones 10 [0, 0, 1, 1, 1]
def p29_3 : List Nat := ones 10 [0, 0, 1, 1, 1, 1, 1]
def p29_4 : List Nat := ones 5 []
def p29_5 : List Nat := ones 5 [0]
def p29_6 : List Nat := ones 6 []
def p29_7 : List Nat := ones 6 [0]
def p29_8 : List Nat := ones 7 []
def p29_9 : List Nat := ones 7 [0]
def p29_10 : List Nat := ones 8 []
def p29_11 : List Nat := ones 8 [0]
def p29_12 : List Nat := ones 9 []
def p29_13 : List Nat := ones 9 [0, 1]
def p29_14 : List Nat := ones 10 []
def p29_15 : List Nat := ones 10 [0, 0, 0]
def p29_16 : List Nat := [1, 1, 1, 0]
def p29_17 : List Nat := [1, 1, 1, 1]
def p29_18 : List Nat := [1, 1, 1, 1, 0, 1]
def p29_19 : List Nat := [1, 1, 1, 1, 0, 1, 0]
noncomputable section
abbrev cx29 (M : Nat → Prop) (w0 : World) : Cx := ⟨Try.prog, 89, M, w0⟩
abbrev q29 (M : Nat → Prop) (w0 : World) (r : TBlockSizes) := bodyPost Try.prog Try.f29 (RetQ M w0 (fun v _ => v = .agg (eTBlockSizes r)))
def s29_j3 (v4 : TBlockSizes) (v8 : Int) (v13 : (V4 Int)) : AS := ⟨[(4,.ptr 4 0),(5,.ptr 5 0)],[(4,eTBlockSizes zTBlockSizes),(5,eTBlockSizes ({ v4 with Margin := v13, Content := v8 } : TBlockSizes))],[],[4,5]⟩
def s29_j2 (v3 : Int) (v4 : TBlockSizes) (v8 : Int) (v9 : Int) (v10 : (Int × Bool)) (v11 : (Int × Bool)) (v12 : Bool) : AS := ⟨[(4,.ptr 4 0),(5,.ptr 5 0),(8,.int .i64 (w64 (v3 - v9))),(10,.bool v10.2),(12,.bool v11.2),(59,.bool v12)],[(4,eTBlockSizes zTBlockSizes),(5,eTBlockSizes ({ v4 with Content := v8 } : TBlockSizes))],[],[4,5]⟩
def s29_j1 (v1 : TCascadeStyle) (v3 : Int) (v4 : TBlockSizes) (v7 : Int) : AS := ⟨[(1,.int .i64 v3),(2,.ptr 2 0),(4,.ptr 4 0),(5,.ptr 5 0),(6,.int .i64 v7)],[(2,eTCascadeStyle v1),(4,eTBlockSizes zTBlockSizes),(5,eTBlockSizes v4)],[],[2,4,5]⟩
variable {K : Kn} {n : Nat} {M : Nat → Prop} {w0 : World} {r : TBlockSizes} {v1 : TCascadeStyle} {v2 : Int} {v3 : Int} {v4 : TBlockSizes} {v7 : Int} {v8 : Int} {v9 : Int} {v10 : (Int × Bool)} {v11 : (Int × Bool)} {v12 : Bool} {v13 : (V4 Int)} 
theorem g_ref17_Used_j3_ok (hK : KnOk K) (h : g_ref17_Used_j3 K n v4 v8 v13 = some r) : VE (cx29 M w0) (q29 M w0 r) [.b 0, .c (cat Try.f29 p29_0)] .normal (s29_j3 v4 v8 v13) := by
  unfold g_ref17_Used_j3 at h
  refine ve_rt 4 ?_
  have hr := Option.some.inj h
  subst hr
  exact ve_d1
theorem g_ref17_Used_j2_ok (hK : KnOk K) (h : g_ref17_Used_j2 K n v3 v4 v8 v9 v10 v11 v12 = some r) : VE (cx29 M w0) (q29 M w0 r) [.c (cat Try.f29 p29_1), .b 0, .c (cat Try.f29 p29_0)] .normal (s29_j2 v3 v4 v8 v9 v10 v11 v12) := by
  unfold g_ref17_Used_j2 at h
  rcases ite_some h with ⟨h12, h⟩ | ⟨h12, h⟩
  ·
   refine ve_sb 59 h12 ?_
   exact ve_arr 4 (g_ref17_Used_j3_ok hK h)
  ·
   refine ve_sb 59 h12 ?_
   refine ve_un (ks' := [.c (cat Try.f29 p29_2), .b 0, .c (cat Try.f29 p29_0)]) 3 ?_
   rcases ite_some h with ⟨h13, h⟩ | ⟨h13, h⟩
   ·
    refine ve_sb 76 h13 ?_
    exact ve_arr 2 (g_ref17_Used_j3_ok hK h)
   ·
    refine ve_sb 76 h13 ?_
    refine ve_un (ks' := [.c (cat Try.f29 p29_3), .b 0, .c (cat Try.f29 p29_0)]) 3 ?_
    rcases ite_some h with ⟨h14, h⟩ | ⟨h14, h⟩
    ·
     refine ve_sb 82 h14 ?_
     exact ve_arr 2 (g_ref17_Used_j3_ok hK h)
    ·
     refine ve_sb 82 h14 ?_
     exact ve_arr 2 (g_ref17_Used_j3_ok hK h)
theorem g_ref17_Used_j1_ok (hK : KnOk K) (h : g_ref17_Used_j1 K n v1 v3 v4 v7 = some r) : VE (cx29 M w0) (q29 M w0 r) [.c (cat Try.f29 p29_4)] .normal (s29_j1 v1 v3 v4 v7) := by
  unfold g_ref17_Used_j1 at h
  refine ve_un (ks' := [.c (cat Try.f29 p29_5), .c (cat Try.f29 p29_6)]) 1 ?_
  refine ve_in 3 ?_
  obtain ⟨v8, h6, h⟩ := bind_some h
  refine ot_cl (g_ref17_Clamp_ok hK h6) ?_
  refine ot_end ?_
  refine ve_un (ks' := [.c (cat Try.f29 p29_7), .c (cat Try.f29 p29_8)]) 1 ?_
  refine ve_in 2 ?_
  obtain ⟨v9, h7, h⟩ := bind_some h
  refine ot_cl (g_ref17_Sum_ok hK h7) ?_
  refine ot_end ?_
  refine ve_un (ks' := [.c (cat Try.f29 p29_9), .c (cat Try.f29 p29_10)]) 1 ?_
  refine ve_in 4 ?_
  obtain ⟨v10, h8, h⟩ := bind_some h
  refine ot_cl (g_ref17_Length_ok hK h8) ?_
  refine ot_end ?_
  refine ve_un (ks' := [.c (cat Try.f29 p29_11), .c (cat Try.f29 p29_12)]) 1 ?_
  refine ve_in 4 ?_
  obtain ⟨v11, h9, h⟩ := bind_some h
  refine ot_cl (g_ref17_Length_ok hK h9) ?_
  refine ot_end ?_
  refine ve_un (ks' := [.c (cat Try.f29 p29_13), .c (cat Try.f29 p29_14)]) 3 ?_
  rcases ite_some h with ⟨h10, h⟩ | ⟨h10, h⟩
  ·
   refine ve_sb 57 h10 ?_
   refine ve_rt 5 ?_
   have hr := Option.some.inj h
   subst hr
   exact ve_d1
  ·
   refine ve_sb 57 h10 ?_
   refine ve_un (ks' := [.c (cat Try.f29 p29_15), .c (cat Try.f29 p29_1), .b 0, .c (cat Try.f29 p29_0)]) 5 ?_
   refine ve_in 3 ?_
   rcases ite_some h with ⟨h11, h⟩ | ⟨h11, h⟩
   ·
    refine ot_sb 62 h11 ?_
    refine ot_end ?_
    exact ve_arr 0 (g_ref17_Used_j2_ok hK h)
   ·
    refine ot_sb 62 h11 ?_
    refine ot_end ?_
    exact ve_arr 0 (g_ref17_Used_j2_ok hK h)
theorem g_ref17_Used_ok (hK : KnOk K) (h : g_ref17_Used K n v1 v2 = some r) : ACalls Try.prog 29 [.agg (eTCascadeStyle v1), .int .i64 v2] (fun v _ => v = .agg (eTBlockSizes r)) := by
  refine acalls_intro (c := cat Try.f29 []) Try.func29 (by kernel_rfl) _ Try.ntmps29 (of_decide_eq_true (by kernel_rfl)) fun M w0 => ?_
  refine ve_cast (s' := ⟨[(0,.agg (eTCascadeStyle v1)),(1,.int .i64 v2)],[],[],[]⟩) (by kernel_rfl) ?_
  unfold g_ref17_Used at h
  refine ve_un (ks' := [.c (cat Try.f29 [1, 0]), .c (cat Try.f29 [1, 1])]) 3 ?_
  refine ve_in 1 ?_
  obtain ⟨v3, h1, h⟩ := bind_some h
  refine ot_cl (g_ref17_Width_ok hK h1) ?_
  refine ot_end ?_
  refine ve_un (ks' := [.c (cat Try.f29 [1, 1, 0]), .c (cat Try.f29 [1, 1, 1])]) 1 ?_
  refine ve_in 2 ?_
  obtain ⟨v4, h2, h⟩ := bind_some h
  refine ot_cl (g_ref17_Edges_ok hK h2) ?_
  refine ot_end ?_
  refine ve_un (ks' := [.c (cat Try.f29 p29_16), .c (cat Try.f29 p29_17)]) 1 ?_
  refine ve_in 3 ?_
  obtain ⟨v5, h3, h⟩ := bind_some h
  refine ot_cl (g_ref17_Length_ok hK h3) ?_
  refine ot_end ?_
  refine ve_un (ks' := [.c (cat Try.f29 p29_18), .c (cat Try.f29 p29_4)]) 3 ?_
  rcases ite_some h with ⟨h4, h⟩ | ⟨h4, h⟩
  ·
   refine ve_sb 26 h4 ?_
   refine ve_un (ks' := [.c (cat Try.f29 p29_19), .c (cat Try.f29 p29_4)]) 1 ?_
   refine ve_in 2 ?_
   obtain ⟨v6, h5, h⟩ := bind_some h
   refine ot_cl (g_ref17_Sum_ok hK h5) ?_
   refine ot_end ?_
   exact ve_arr 0 (g_ref17_Used_j1_ok hK h)
  ·
   refine ve_sb 26 h4 ?_
   exact ve_arr 2 (g_ref17_Used_j1_ok hK h)
end


noncomputable section
abbrev cx15 (M : Nat → Prop) (w0 : World) : Cx := ⟨Try.prog, 16, M, w0⟩
abbrev q15 (M : Nat → Prop) (w0 : World) (r : TBlockMargin) := bodyPost Try.prog Try.f15 (RetQ M w0 (fun v _ => v = .agg (eTBlockMargin r)))
variable {K : Kn} {n : Nat} {M : Nat → Prop} {w0 : World} {r : TBlockMargin} {v1 : TBlockMargin} {v2 : TBlockMargin} 
theorem g_ref17_Join_ok (hK : KnOk K) (h : g_ref17_Join K n v1 v2 = some r) : ACalls Try.prog 15 [.agg (eTBlockMargin v1), .agg (eTBlockMargin v2)] (fun v _ => v = .agg (eTBlockMargin r)) := by
  refine acalls_intro (c := cat Try.f15 []) Try.func15 (by kernel_rfl) _ Try.ntmps15 (of_decide_eq_true (by kernel_rfl)) fun M w0 => ?_
  refine ve_cast (s' := ⟨[(0,.agg (eTBlockMargin v1)),(1,.agg (eTBlockMargin v2))],[],[],[]⟩) (by kernel_rfl) ?_
  unfold g_ref17_Join at h
  refine ve_rt 5 ?_
  have hr := Option.some.inj h
  subst hr
  exact ve_d1
end


noncomputable section
abbrev cx18 (M : Nat → Prop) (w0 : World) : Cx := ⟨Try.prog, 8, M, w0⟩
abbrev q18 (M : Nat → Prop) (w0 : World) (r : TBlockMargin) := bodyPost Try.prog Try.f18 (RetQ M w0 (fun v _ => v = .agg (eTBlockMargin r)))
variable {K : Kn} {n : Nat} {M : Nat → Prop} {w0 : World} {r : TBlockMargin} {v1 : Int} 
theorem g_ref17_Of_ok (hK : KnOk K) (h : g_ref17_Of K n v1 = some r) : ACalls Try.prog 18 [.int .i64 v1] (fun v _ => v = .agg (eTBlockMargin r)) := by
  refine acalls_intro (c := cat Try.f18 []) Try.func18 (by kernel_rfl) _ Try.ntmps18 (of_decide_eq_true (by kernel_rfl)) fun M w0 => ?_
  refine ve_cast (s' := ⟨[(0,.int .i64 v1)],[],[],[]⟩) (by kernel_rfl) ?_
  unfold g_ref17_Of at h
  refine ve_rt 5 ?_
  have hr := Option.some.inj h
  subst hr
  exact ve_d1
end


noncomputable section
abbrev cx54 (M : Nat → Prop) (w0 : World) : Cx := ⟨Try.prog, 8, M, w0⟩
abbrev q54 (M : Nat → Prop) (w0 : World) (r : Int) := bodyPost Try.prog Try.f54 (RetQ M w0 (fun v _ => v = .int .i64 r))
variable {K : Kn} {n : Nat} {M : Nat → Prop} {w0 : World} {r : Int} {v1 : TBlockMargin} 
theorem g_ref17_Size_ok (hK : KnOk K) (h : g_ref17_Size K n v1 = some r) : ACalls Try.prog 54 [.agg (eTBlockMargin v1)] (fun v _ => v = .int .i64 r) := by
  refine acalls_intro (c := cat Try.f54 []) Try.func54 (by kernel_rfl) _ Try.ntmps54 (of_decide_eq_true (by kernel_rfl)) fun M w0 => ?_
  refine ve_cast (s' := ⟨[(0,.agg (eTBlockMargin v1))],[],[],[]⟩) (by kernel_rfl) ?_
  unfold g_ref17_Size at h
  refine ve_rt 5 ?_
  have hr := Option.some.inj h
  subst hr
  exact ve_d1
end

def p33_0 : List Nat := [1, 1, 1, 1]
def p33_1 : List Nat := [1, 1, 1, 0, 1, 0, 0]
def p33_2 : List Nat := [1, 1, 1, 0, 1, 0, 0, 1, 0, 0, 1, 1, 1, 1, 1]
def p33_3 : List Nat := [1, 1, 1, 0, 1, 0, 0, 1, 1]
def p33_4 : List Nat := [1, 1, 1, 0, 1, 0, 0, 1, 0, 0, 1, 1, 1, 1, 0, 1, 0, 1]
def p33_5 : List Nat := [1, 1, 1, 0, 1, 0, 0, 1, 0, 0, 1, 1, 1, 1]
def p33_6 : List Nat := [1, 1, 1, 0, 1, 0, 0, 1, 0, 0, 1, 1, 1, 1, 0, 1]
def p33_7 : List Nat := [1, 1, 1, 0, 1, 0, 0, 1, 0, 0, 1, 1, 1, 1, 0, 1, 0, 0, 1]
def p33_8 : List Nat := ones 5 []
def p33_9 : List Nat := [1, 1, 1, 0, 1, 0, 0, 0, 0]
def p33_10 : List Nat := [1, 1, 1, 0, 1, 0, 0, 0, 1]
def p33_11 : List Nat := [1, 1, 1, 0, 1, 0, 0, 1]
def p33_12 : List Nat := [1, 1, 1, 0, 1, 0, 0, 1, 0, 0, 0]
def p33_13 : List Nat := [1, 1, 1, 0, 1, 0, 0, 1, 0, 0, 1]
def p33_14 : List Nat := [1, 1, 1, 0, 1, 0, 0, 1, 0, 0, 1, 0]
def p33_15 : List Nat := [1, 1, 1, 0, 1, 0, 0, 1, 0, 0, 1, 1]
def p33_16 : List Nat := [1, 1, 1, 0, 1, 0, 0, 1, 0, 0, 1, 1, 1, 0, 1]
def p33_17 : List Nat := [1, 1, 1, 0, 1, 0, 0, 1, 0, 0, 1, 1, 1, 0, 1, 0]
def p33_18 : List Nat := [1, 1, 1, 1, 0, 1]
def p33_19 : List Nat := [1, 1, 1, 0, 1, 0]
noncomputable section
abbrev cx33 (M : Nat → Prop) (w0 : World) : Cx := ⟨Try.prog, 62, M, w0⟩
abbrev q33 (M : Nat → Prop) (w0 : World) (r : TKnapsackref17Placed) := bodyPost Try.prog Try.f33 (RetQ M w0 (fun v s => v = .agg (List.set (eTKnapsackref17Placed ({ r with List := [] } : TKnapsackref17Placed)) 0 (.ref 53)) ∧ look 53 s.r = some ⟨60, 67, List.map eTBlockFragment r.List⟩))
abbrev k33_1 (M : Nat → Prop) (w0 : World) (r : TKnapsackref17Placed) (m1 : Nat) : Kont := kl (cx33 M w0) (q33 M w0 r) [.b 0, .c (cat Try.f33 p33_0)] (cat Try.f33 p33_1) m1
def s33_j3 (v1 : (List TBlockFragment)) (v16 : Int) (v21 : (List TBlockFragment)) (v24 : Int) (v26 : Int) (v27 : TBlockMargin) (v28 : Bool) (v29 : TBlockMargin) : AS := ⟨[(0,.sl (List.map eTBlockFragment v1)),(2,.ptr 2 0),(3,.ptr 3 0),(4,.ptr 4 0),(5,.int .i64 v16),(6,.ptr 6 0)],[(2,List.set (eTKnapsackref17Placed zTKnapsackref17Placed) 0 (.nils)),(3,List.set (eTKnapsackref17Placed (⟨[], v26, v27, zTBlockMargin, v28⟩ : TKnapsackref17Placed)) 0 (.ref 53)),(4,eTBlockMargin v29),(6,xTBlockFragment ({ (List.getD v1 (v16).toNat default) with Y := v24 } : TBlockFragment))],[(53,⟨60,67,List.map eTBlockFragment v21⟩)],[2,3,4,6,53]⟩
def s33_j2 (v1 : (List TBlockFragment)) (v16 : Int) (v17 : Int) (v19 : Bool) (v21 : (List TBlockFragment)) (v22 : TBlockMargin) (v24 : Int) (v25 : TBlockMargin) : AS := ⟨[(0,.sl (List.map eTBlockFragment v1)),(2,.ptr 2 0),(3,.ptr 3 0),(4,.ptr 4 0),(5,.int .i64 v16),(6,.ptr 6 0)],[(2,List.set (eTKnapsackref17Placed zTKnapsackref17Placed) 0 (.nils)),(3,List.set (eTKnapsackref17Placed (⟨[], v17, v25, zTBlockMargin, v19⟩ : TKnapsackref17Placed)) 0 (.ref 53)),(4,eTBlockMargin v22),(6,xTBlockFragment ({ (List.getD v1 (v16).toNat default) with Y := v24 } : TBlockFragment))],[(53,⟨60,67,List.map eTBlockFragment v21⟩)],[2,3,4,6,53]⟩
def s33_j1 (v1 : (List TBlockFragment)) (v16 : Int) (v17 : Int) (v18 : TBlockMargin) (v19 : Bool) (v21 : (List TBlockFragment)) (v22 : TBlockMargin) (v24 : Int) : AS := ⟨[(0,.sl (List.map eTBlockFragment v1)),(2,.ptr 2 0),(3,.ptr 3 0),(4,.ptr 4 0),(5,.int .i64 v16),(6,.ptr 6 0)],[(2,List.set (eTKnapsackref17Placed zTKnapsackref17Placed) 0 (.nils)),(3,List.set (eTKnapsackref17Placed (⟨[], v17, v18, zTBlockMargin, v19⟩ : TKnapsackref17Placed)) 0 (.ref 53)),(4,eTBlockMargin v22),(6,xTBlockFragment ({ (List.getD v1 (v16).toNat default) with Y := v24 } : TBlockFragment))],[(53,⟨60,67,List.map eTBlockFragment v21⟩)],[2,3,4,6,53]⟩
def s33_j5 (v17 : Int) (v19 : Bool) (v20 : TBlockMargin) (v21 : (List TBlockFragment)) (v30 : TBlockMargin) : AS := ⟨[(2,.ptr 2 0),(3,.ptr 3 0),(4,.ptr 4 0)],[(2,List.set (eTKnapsackref17Placed zTKnapsackref17Placed) 0 (.nils)),(3,List.set (eTKnapsackref17Placed (⟨[], v17, v30, zTBlockMargin, v19⟩ : TKnapsackref17Placed)) 0 (.ref 53)),(4,eTBlockMargin v20)],[(53,⟨60,67,List.map eTBlockFragment v21⟩)],[2,3,4,53]⟩
def s33_l4 (v1 : (List TBlockFragment)) (v16 : Int) (v17 : Int) (v18 : TBlockMargin) (v19 : Bool) (v20 : TBlockMargin) (v21 : (List TBlockFragment)) : AS := ⟨[(0,.sl (List.map eTBlockFragment v1)),(2,.ptr 2 0),(3,.ptr 3 0),(4,.ptr 4 0),(5,.int .i64 v16)],[(2,List.set (eTKnapsackref17Placed zTKnapsackref17Placed) 0 (.nils)),(3,List.set (eTKnapsackref17Placed (⟨[], v17, v18, zTBlockMargin, v19⟩ : TKnapsackref17Placed)) 0 (.ref 53)),(4,eTBlockMargin v20)],[(53,⟨60,67,List.map eTBlockFragment v21⟩)],[2,3,4,53]⟩
abbrev H33_1 (M : Nat → Prop) (w0 : World) (r : TKnapsackref17Placed) (v1 : (List TBlockFragment)) (m1 : Nat) (L1 : Int → Int → TBlockMargin → Bool → TBlockMargin → (List TBlockFragment) → Option TKnapsackref17Placed) : Prop := ∀ {v16 : Int} {v17 : Int} {v18 : TBlockMargin} {v19 : Bool} {v20 : TBlockMargin} {v21 : (List TBlockFragment)}, L1 v16 v17 v18 v19 v20 v21 = some r → LP (cx33 M w0) (q33 M w0 r) [.b 0, .c (cat Try.f33 p33_0)] (cat Try.f33 p33_1) m1 (s33_l4 v1 v16 v17 v18 v19 v20 v21)
variable {K : Kn} {n : Nat} {M : Nat → Prop} {w0 : World} {r : TKnapsackref17Placed} {v1 : (List TBlockFragment)} {v16 : Int} {v17 : Int} {v18 : TBlockMargin} {v19 : Bool} {v20 : TBlockMargin} {v21 : (List TBlockFragment)} {v22 : TBlockMargin} {v24 : Int} {v25 : TBlockMargin} {v26 : Int} {v27 : TBlockMargin} {v28 : Bool} {v29 : TBlockMargin} {v30 : TBlockMargin} {m1 : Nat} {L1 : Int → Int → TBlockMargin → Bool → TBlockMargin → (List TBlockFragment) → Option TKnapsackref17Placed}
theorem g_ref17_Stack_j3_ok (hK : KnOk K) (hL1 : H33_1 M w0 r v1 m1 L1) (h : g_ref17_Stack_j3 K n v1 v16 v21 v24 L1 v26 v27 v28 v29 = some r) : VE (cx33 M w0) (q33 M w0 r) [.c (cat Try.f33 p33_2), .b 1, .c (cat Try.f33 p33_3), k33_1 M w0 r m1, .b 0, .c (cat Try.f33 p33_0)] .normal (s33_j3 v1 v16 v21 v24 v26 v27 v28 v29) := by
  unfold g_ref17_Stack_j3 at h
  refine ve_in 3 ?_
  refine ot_sp (y_bsl eTBlockFragment ([({ (List.getD v1 (v16).toNat default) with Y := v24 } : TBlockFragment)] : List TBlockFragment) (new := [xTBlockFragment ({ (List.getD v1 (v16).toNat default) with Y := v24 } : TBlockFragment)]) (by simp only [List.map_cons, List.map_nil, xTBlockFragment_eq])) ?_
  obtain ⟨h22, h⟩ := chk_some h
  refine ot_sp (y_app 53 53 60 67 eTBlockFragment (rfl) (eTBlockFragment_len) h22) ?_
  refine ot_end ?_
  exact ve_arr 2 (lp_back (hL1 h))
theorem g_ref17_Stack_j2_ok (hK : KnOk K) (hL1 : H33_1 M w0 r v1 m1 L1) (h : g_ref17_Stack_j2 K n v1 v16 v17 v19 v21 v22 v24 L1 v25 = some r) : VE (cx33 M w0) (q33 M w0 r) [.c (cat Try.f33 p33_4), .c (cat Try.f33 p33_2), .b 1, .c (cat Try.f33 p33_3), k33_1 M w0 r m1, .b 0, .c (cat Try.f33 p33_0)] .normal (s33_j2 v1 v16 v17 v19 v21 v22 v24 v25) := by
  unfold g_ref17_Stack_j2 at h
  exact ve_arr 5 (g_ref17_Stack_j3_ok hK hL1 h)
theorem g_ref17_Stack_j1_ok (hK : KnOk K) (hL1 : H33_1 M w0 r v1 m1 L1) (h : g_ref17_Stack_j1 K n v1 v16 v17 v18 v19 v21 v22 L1 v24 = some r) : VE (cx33 M w0) (q33 M w0 r) [.c (cat Try.f33 p33_5), .b 1, .c (cat Try.f33 p33_3), k33_1 M w0 r m1, .b 0, .c (cat Try.f33 p33_0)] .normal (s33_j1 v1 v16 v17 v18 v19 v21 v22 v24) := by
  unfold g_ref17_Stack_j1 at h
  refine ve_un (ks' := [.c (cat Try.f33 p33_6), .c (cat Try.f33 p33_2), .b 1, .c (cat Try.f33 p33_3), k33_1 M w0 r m1, .b 0, .c (cat Try.f33 p33_0)]) 3 ?_
  rcases ite_some h with ⟨h20, h⟩ | ⟨h20, h⟩
  ·
   refine ve_sb 35 h20 ?_
   refine ve_un (ks' := [.c (cat Try.f33 p33_7), .c (cat Try.f33 p33_4), .c (cat Try.f33 p33_2), .b 1, .c (cat Try.f33 p33_3), k33_1 M w0 r m1, .b 0, .c (cat Try.f33 p33_0)]) 4 ?_
   rcases ite_some h with ⟨h21, h⟩ | ⟨h21, h⟩
   ·
    refine ve_sb 37 h21 ?_
    exact ve_arr 2 (g_ref17_Stack_j2_ok hK hL1 h)
   ·
    refine ve_sb 37 h21 ?_
    exact ve_arr 2 (g_ref17_Stack_j2_ok hK hL1 h)
  ·
   refine ve_sb 35 h20 ?_
   exact ve_arr 2 (g_ref17_Stack_j3_ok hK hL1 h)
theorem g_ref17_Stack_j5_ok (hK : KnOk K) (h : g_ref17_Stack_j5 K n v17 v19 v20 v21 v30 = some r) : VE (cx33 M w0) (q33 M w0 r) [.c (cat Try.f33 p33_8)] .normal (s33_j5 v17 v19 v20 v21 v30) := by
  unfold g_ref17_Stack_j5 at h
  refine ve_rt 5 ?_
  have hr := Option.some.inj h
  subst hr
  exact ve_o1
theorem g_ref17_Stack_l4_b_ok (hK : KnOk K) (hL1 : H33_1 M w0 r v1 m1 L1) (h : g_ref17_Stack_l4_b K n v1 L1 v16 v17 v18 v19 v20 v21 = some r) : VE (cx33 M w0) (q33 M w0 r) [.c (cat Try.f33 p33_1), k33_1 M w0 r m1, .b 0, .c (cat Try.f33 p33_0)] .normal (s33_l4 v1 v16 v17 v18 v19 v20 v21) := by
  unfold g_ref17_Stack_l4_b at h
  refine ve_un (ks' := [.c (cat Try.f33 p33_9), .c (cat Try.f33 p33_10), .c (cat Try.f33 p33_11), k33_1 M w0 r m1, .b 0, .c (cat Try.f33 p33_0)]) 2 ?_
  refine ve_in 2 ?_
  refine ot_sp (y_len eTBlockFragment v1) ?_
  refine ot_end ?_
  rcases ite_some h with ⟨h15, h⟩ | ⟨h15, h⟩
  ·
   refine ve_sb 12 h15 ?_
   refine ve_un (ks' := [.c (cat Try.f33 p33_12), .c (cat Try.f33 p33_13), .b 1, .c (cat Try.f33 p33_3), k33_1 M w0 r m1, .b 0, .c (cat Try.f33 p33_0)]) 5 ?_
   refine ve_in 2 ?_
   obtain ⟨h16, h⟩ := chk_some h
   refine ot_sp (y_ixs eTBlockFragment xTBlockFragment h16 (eTBlockFragment_len) (xTBlockFragment_eq)) ?_
   refine ot_end ?_
   refine ve_un (ks' := [.c (cat Try.f33 p33_14), .c (cat Try.f33 p33_15), .b 1, .c (cat Try.f33 p33_3), k33_1 M w0 r m1, .b 0, .c (cat Try.f33 p33_0)]) 1 ?_
   refine ve_in 3 ?_
   obtain ⟨v22, h17, h⟩ := bind_some h
   refine ot_cl (g_ref17_Join_ok hK h17) ?_
   refine ot_end ?_
   refine ve_un (ks' := [.c (cat Try.f33 p33_16), .c (cat Try.f33 p33_5), .b 1, .c (cat Try.f33 p33_3), k33_1 M w0 r m1, .b 0, .c (cat Try.f33 p33_0)]) 5 ?_
   rcases ite_some h with ⟨h18, h⟩ | ⟨h18, h⟩
   ·
    refine ve_sb 26 h18 ?_
    refine ve_un (ks' := [.c (cat Try.f33 p33_17), .c (cat Try.f33 p33_5), .b 1, .c (cat Try.f33 p33_3), k33_1 M w0 r m1, .b 0, .c (cat Try.f33 p33_0)]) 1 ?_
    refine ve_pk [0, 2, 3, 4, 5, 6] [2, 3, 4, 6] [53] ?_
    obtain ⟨v23, h19, h⟩ := bind_some h
    refine ve_dr 1 [(27, .ptr 3 1), (28, .int .i64 v17), (29, .agg (eTBlockMargin v22)), (30, .int .i64 v23), (31, .int .i64 (w64 (v17 + v23))), (32, .ptr 6 3)] [] [] [stp Try.prog 62 Try.f33 p33_17 6] (d_vs [.v 0 1, .v 0 1, .v 0 1] (d_c1 (e_c 0 1 30 (g_ref17_Size_ok hK h19)) (d_vs [.v 0 1, .v 0 1] (d_c1 (e_d 0) (d_nl))))) ?_
    exact ve_arr 0 (g_ref17_Stack_j1_ok hK hL1 h)
   ·
    refine ve_sb 26 h18 ?_
    exact ve_arr 2 (g_ref17_Stack_j1_ok hK hL1 h)
  ·
   refine ve_sb 12 h15 ?_
   refine ve_un (ks' := [.c (cat Try.f33 p33_18), .c (cat Try.f33 p33_8)]) 8 ?_
   rcases ite_some h with ⟨h23, h⟩ | ⟨h23, h⟩
   ·
    refine ve_sb 56 h23 ?_
    exact ve_arr 2 (g_ref17_Stack_j5_ok hK h)
   ·
    refine ve_sb 56 h23 ?_
    exact ve_arr 2 (g_ref17_Stack_j5_ok hK h)
theorem g_ref17_Stack_l4_ok (hK : KnOk K) (m : Nat) : H33_1 M w0 r v1 m (g_ref17_Stack_l4 K n v1 m) := by
  induction m with
 | zero => intro v16 v17 v18 v19 v20 v21 h; cases h
 | succ m ih => intro v16 v17 v18 v19 v20 v21 h; have h : g_ref17_Stack_l4_b K n v1 (g_ref17_Stack_l4 K n v1 m) v16 v17 v18 v19 v20 v21 = some r := h; exact lp_round (g_ref17_Stack_l4_b_ok hK ih h)
theorem g_ref17_Stack_ok (hK : KnOk K) (h : g_ref17_Stack K n v1 = some r) : ACalls Try.prog 33 [.sl (List.map eTBlockFragment v1)] (fun v s => v = .agg (List.set (eTKnapsackref17Placed ({ r with List := [] } : TKnapsackref17Placed)) 0 (.ref 53)) ∧ look 53 s.r = some ⟨60, 67, List.map eTBlockFragment r.List⟩) := by
  refine acalls_intro (c := cat Try.f33 []) Try.func33 (by kernel_rfl) _ Try.ntmps33 (of_decide_eq_true (by kernel_rfl)) fun M w0 => ?_
  refine ve_cast (s' := ⟨[(0,.sl (List.map eTBlockFragment v1))],[],[],[]⟩) (by kernel_rfl) ?_
  unfold g_ref17_Stack at h
  refine ve_un (ks' := [.c (cat Try.f33 p33_19), .b 0, .c (cat Try.f33 p33_0)]) 10 ?_
  refine ve_wo 53 3 0 60 67 ?_
  exact ve_arr 0 (lp_en (p := p33_19) n (g_ref17_Stack_l4_ok hK n h))
end

def p39_0 : List Nat := ones 5 []
def p39_1 : List Nat := [1, 1, 1, 1, 0, 1]
def p39_2 : List Nat := [1, 1, 1, 1, 0, 1, 0, 0]
def p39_3 : List Nat := [1, 1, 1, 1, 0, 1, 0, 1]
noncomputable section
abbrev cx39 (M : Nat → Prop) (w0 : World) : Cx := ⟨Try.prog, 45, M, w0⟩
abbrev q39 (M : Nat → Prop) (w0 : World) (r : TBlockFragment) := bodyPost Try.prog Try.f39 (RetQ M w0 (fun v _ => v = .agg (xTBlockFragment r)))
def s39_j1 (v1 : TBlockFragment) (v3 : (Int × Bool)) (v5 : Int) : AS := ⟨[(2,.ptr 2 0),(4,.ptr 4 0)],[(2,xTBlockFragment ({ v1 with X := (w64 (v1.X + v3.1)), Y := v5 } : TBlockFragment)),(4,List.set (xTBlockFragment zTBlockFragment) 66 (.nils))],[],[2,4]⟩
variable {K : Kn} {n : Nat} {M : Nat → Prop} {w0 : World} {r : TBlockFragment} {v1 : TBlockFragment} {v2 : Int} {v3 : (Int × Bool)} {v5 : Int} 
theorem g_ref17_Moved_j1_ok (hK : KnOk K) (h : g_ref17_Moved_j1 K n v1 v3 v5 = some r) : VE (cx39 M w0) (q39 M w0 r) [.c (cat Try.f39 p39_0)] .normal (s39_j1 v1 v3 v5) := by
  unfold g_ref17_Moved_j1 at h
  refine ve_rt 3 ?_
  have hr := Option.some.inj h
  subst hr
  exact ve_d1
theorem g_ref17_Moved_ok (hK : KnOk K) (h : g_ref17_Moved K n v1 v2 = some r) : ACalls Try.prog 39 [.agg (xTBlockFragment v1), .int .i64 v2] (fun v _ => v = .agg (xTBlockFragment r)) := by
  refine acalls_intro (c := cat Try.f39 []) Try.func39 (by kernel_rfl) _ Try.ntmps39 (of_decide_eq_true (by kernel_rfl)) fun M w0 => ?_
  refine ve_cast (s' := ⟨[(0,.agg (xTBlockFragment v1)),(1,.int .i64 v2)],[],[],[]⟩) (by kernel_rfl) ?_
  unfold g_ref17_Moved at h
  refine ve_un (ks' := [.c (cat Try.f39 [1, 0, 1]), .c (cat Try.f39 [1, 1])]) 5 ?_
  rcases ite_some h with ⟨h1, h⟩ | ⟨h1, h⟩
  ·
   refine ve_sb 12 h1 ?_
   refine ve_rt 5 ?_
   have hr := Option.some.inj h
   subst hr
   exact ve_d1
  ·
   refine ve_sb 12 h1 ?_
   refine ve_un (ks' := [.c (cat Try.f39 [1, 1, 0]), .c (cat Try.f39 [1, 1, 1])]) 3 ?_
   refine ve_in 4 ?_
   obtain ⟨v3, h2, h⟩ := bind_some h
   refine ot_cl (g_ref17_Length_ok hK h2) ?_
   refine ot_end ?_
   refine ve_un (ks' := [.c (cat Try.f39 p39_1), .c (cat Try.f39 p39_0)]) 5 ?_
   rcases ite_some h with ⟨h3, h⟩ | ⟨h3, h⟩
   ·
    refine ve_sb 31 h3 ?_
    refine ve_un (ks' := [.c (cat Try.f39 p39_2), .c (cat Try.f39 p39_3), .c (cat Try.f39 p39_0)]) 2 ?_
    refine ve_in 3 ?_
    obtain ⟨v4, h4, h⟩ := bind_some h
    refine ot_cl (g_ref17_Length_ok hK h4) ?_
    refine ot_end ?_
    exact ve_arr 1 (g_ref17_Moved_j1_ok hK h)
   ·
    refine ve_sb 31 h3 ?_
    exact ve_arr 2 (g_ref17_Moved_j1_ok hK h)
end

def p60_0 : List Nat := [1, 1, 1, 1]
def p60_1 : List Nat := [1, 1, 1, 0, 1, 0, 0]
def p60_2 : List Nat := [1, 1, 1, 0, 1, 0, 0, 1, 1]
def p60_3 : List Nat := [1, 1, 1, 0, 1, 0, 0, 0, 0]
def p60_4 : List Nat := [1, 1, 1, 0, 1, 0, 0, 0, 1]
def p60_5 : List Nat := [1, 1, 1, 0, 1, 0, 0, 1]
def p60_6 : List Nat := [1, 1, 1, 0, 1, 0, 0, 1, 0, 0, 0]
def p60_7 : List Nat := [1, 1, 1, 0, 1, 0, 0, 1, 0, 0, 1]
def p60_8 : List Nat := [1, 1, 1, 0, 1, 0, 0, 1, 0, 0, 1, 0, 0]
def p60_9 : List Nat := [1, 1, 1, 0, 1, 0, 0, 1, 0, 0, 1, 0, 1]
def p60_10 : List Nat := [1, 1, 1, 0, 1, 0]
noncomputable section
abbrev cx60 (M : Nat → Prop) (w0 : World) : Cx := ⟨Try.prog, 42, M, w0⟩
abbrev q60 (M : Nat → Prop) (w0 : World) (r : ((List TBlockFragment) × Int)) := bodyPost Try.prog Try.f60 (RetQ M w0 (fun v s => v = .tup [.ref 35, .int .i64 r.2] ∧ look 35 s.r = some ⟨60, 67, List.map eTBlockFragment r.1⟩))
abbrev k60_1 (M : Nat → Prop) (w0 : World) (r : ((List TBlockFragment) × Int)) (m1 : Nat) : Kont := kl (cx60 M w0) (q60 M w0 r) [.b 0, .c (cat Try.f60 p60_0)] (cat Try.f60 p60_1) m1
def s60_j1 (v1 : (List TBoxtreeBox)) (v2 : TCascadeStyle) (v3 : Int) (v11 : Int) (v14 : Int) (v15 : (List TBlockFragment)) : AS := ⟨[(0,.sl (List.map eTBoxtreeBox v1)),(2,.int .i64 v3),(4,.ptr 4 0),(8,.ref 35),(9,.int .i64 v14),(10,.int .i64 v11)],[(4,eTCascadeStyle v2)],[(35,⟨60,67,List.map eTBlockFragment v15⟩)],[4,35]⟩
def s60_l2 (v1 : (List TBoxtreeBox)) (v2 : TCascadeStyle) (v3 : Int) (v10 : Int) (v11 : Int) (v12 : (List TBlockFragment)) : AS := ⟨[(0,.sl (List.map eTBoxtreeBox v1)),(2,.int .i64 v3),(4,.ptr 4 0),(8,.ref 35),(9,.int .i64 v10),(10,.int .i64 v11)],[(4,eTCascadeStyle v2)],[(35,⟨60,67,List.map eTBlockFragment v12⟩)],[4,35]⟩
abbrev H60_1 (M : Nat → Prop) (w0 : World) (r : ((List TBlockFragment) × Int)) (v1 : (List TBoxtreeBox)) (v2 : TCascadeStyle) (v3 : Int) (m1 : Nat) (L1 : Int → Int → (List TBlockFragment) → Option ((List TBlockFragment) × Int)) : Prop := ∀ {v10 : Int} {v11 : Int} {v12 : (List TBlockFragment)}, L1 v10 v11 v12 = some r → LP (cx60 M w0) (q60 M w0 r) [.b 0, .c (cat Try.f60 p60_0)] (cat Try.f60 p60_1) m1 (s60_l2 v1 v2 v3 v10 v11 v12)
variable {K : Kn} {n : Nat} {M : Nat → Prop} {w0 : World} {r : ((List TBlockFragment) × Int)} {v1 : (List TBoxtreeBox)} {v2 : TCascadeStyle} {v3 : Int} {v10 : Int} {v11 : Int} {v12 : (List TBlockFragment)} {v14 : Int} {v15 : (List TBlockFragment)} {m1 : Nat} {L1 : Int → Int → (List TBlockFragment) → Option ((List TBlockFragment) × Int)}
theorem g_ref17_Lines_j1_ok (hK : KnOk K) (hL1 : H60_1 M w0 r v1 v2 v3 m1 L1) (h : g_ref17_Lines_j1 K n v1 v2 v3 v11 L1 v14 v15 = some r) : VE (cx60 M w0) (q60 M w0 r) [.b 1, .c (cat Try.f60 p60_2), k60_1 M w0 r m1, .b 0, .c (cat Try.f60 p60_0)] .normal (s60_j1 v1 v2 v3 v11 v14 v15) := by
  unfold g_ref17_Lines_j1 at h
  exact ve_arr 2 (lp_back (hL1 h))
theorem g_ref17_Lines_l2_b_ok (hK : KnOk K) (hL1 : H60_1 M w0 r v1 v2 v3 m1 L1) (h : g_ref17_Lines_l2_b K n v1 v2 v3 L1 v10 v11 v12 = some r) : VE (cx60 M w0) (q60 M w0 r) [.c (cat Try.f60 p60_1), k60_1 M w0 r m1, .b 0, .c (cat Try.f60 p60_0)] .normal (s60_l2 v1 v2 v3 v10 v11 v12) := by
  unfold g_ref17_Lines_l2_b at h
  refine ve_un (ks' := [.c (cat Try.f60 p60_3), .c (cat Try.f60 p60_4), .c (cat Try.f60 p60_5), k60_1 M w0 r m1, .b 0, .c (cat Try.f60 p60_0)]) 2 ?_
  refine ve_in 2 ?_
  refine ot_sp (y_len eTBoxtreeBox v1) ?_
  refine ot_end ?_
  rcases ite_some h with ⟨h13, h⟩ | ⟨h13, h⟩
  ·
   refine ve_sb 14 h13 ?_
   refine ve_un (ks' := [.c (cat Try.f60 p60_6), .c (cat Try.f60 p60_7), .b 1, .c (cat Try.f60 p60_2), k60_1 M w0 r m1, .b 0, .c (cat Try.f60 p60_0)]) 5 ?_
   refine ve_in 2 ?_
   obtain ⟨h14, h⟩ := chk_some h
   refine ot_sp (y_ixs eTBoxtreeBox xTBoxtreeBox h14 (eTBoxtreeBox_len) (xTBoxtreeBox_eq)) ?_
   refine ot_end ?_
   obtain ⟨v13, h15, h⟩ := bind_some h
   have h15 := Option.some.inj h15
   refine ve_go (ks' := [.c (cat Try.f60 p60_7), .b 1, .c (cat Try.f60 p60_2), k60_1 M w0 r m1, .b 0, .c (cat Try.f60 p60_0)]) 0 ⟨[(0,.sl (List.map eTBoxtreeBox v1)),(2,.int .i64 v3),(4,.ptr 4 0),(8,.ref 35),(9,.int .i64 v10),(10,.int .i64 v11),(22,.bool v13)],[(4,eTCascadeStyle v2)],[(35,⟨60,67,List.map eTBlockFragment v12⟩)],[4,35]⟩ ?_ (by subst h15; kernel_rfl)
   rcases ite_some h with ⟨h16, h⟩ | ⟨h16, h⟩
   ·
    refine ve_sb 22 h16 ?_
    refine ve_un (ks' := [.c (cat Try.f60 p60_8), .c (cat Try.f60 p60_9), .b 1, .c (cat Try.f60 p60_2), k60_1 M w0 r m1, .b 0, .c (cat Try.f60 p60_0)]) 2 ?_
    refine ve_pk [0, 2, 4, 8, 9, 10] [4] [35] ?_
    obtain ⟨h17, h⟩ := chk_some h
    obtain ⟨h18, h⟩ := chk_some h
    refine ve_dr 2 [(23, .ref 35), (24, .int .i64 v10), (25, .int .i64 v3), (26, .ptr 4 38), (27, .int .i64 v2.LineHeight), (28, .sl (List.map eTBoxtreeBox v1)), (29, .int .i64 v11), (30, .cptr (xTBoxtreeBox (List.getD v1 (v11).toNat default))), (31, .cptr (List.drop 55 (xTBoxtreeBox (List.getD v1 (v11).toNat default)))), (32, .str ((List.getD v1 (v11).toNat default).Text)), (33, .agg (List.set (xTBlockFragment ({ zTBlockFragment with Kind := 2, Y := v10, W := v3, H := v2.LineHeight, Text := (List.getD v1 (v11).toNat default).Text } : TBlockFragment)) 66 (.nils))), (34, .sl (List.map eTBlockFragment [({ zTBlockFragment with Kind := 2, Y := v10, W := v3, H := v2.LineHeight, Text := (List.getD v1 (v11).toNat default).Text } : TBlockFragment)]))] [] [] [appS 35 35 ⟨60, 67, List.map eTBlockFragment (v12 ++ [({ zTBlockFragment with Kind := 2, Y := v10, W := v3, H := v2.LineHeight, Text := (List.getD v1 (v11).toNat default).Text } : TBlockFragment)])⟩, stp Try.prog 42 Try.f60 p60_8 13] (d_vs [.v 0 1, .v 0 2, .v 0 2, .v 0 2, .v 0 2, .v 0 2, .v 0 2] (d_c1 (k_v (lo := 0) (k := 2) (kallS ⟨(by kernel_rfl), (aop_eq (y_ixs eTBoxtreeBox xTBoxtreeBox h17 (eTBoxtreeBox_len) (xTBoxtreeBox_eq)) (by kernel_rfl))⟩ (kallS ⟨(by kernel_rfl), (aop_eq (y_ixs eTBoxtreeBox xTBoxtreeBox h17 (eTBoxtreeBox_len) (xTBoxtreeBox_eq)) (by kernel_rfl))⟩ (kall0)))) (d_vs [.v 0 2, .v 0 2, .v 0 2] (d_c1 (e_v (lo := 0) (y_bsl eTBlockFragment ([({ zTBlockFragment with Kind := 2, Y := v10, W := v3, H := v2.LineHeight, Text := (List.getD v1 (v11).toNat default).Text } : TBlockFragment)] : List TBlockFragment) (new := [xTBlockFragment ({ zTBlockFragment with Kind := 2, Y := v10, W := v3, H := v2.LineHeight, Text := (List.getD v1 (v11).toNat default).Text } : TBlockFragment)]) (by simp only [List.map_cons, List.map_nil, xTBlockFragment_eq]))) (d_c1 (e_s (m := 0) (y_app 35 35 60 67 eTBlockFragment (rfl) (eTBlockFragment_len) h18)) (d_c1 (e_d 1) (d_nl))))))) ?_
    exact ve_arr 1 (g_ref17_Lines_j1_ok hK hL1 h)
   ·
    refine ve_sb 22 h16 ?_
    exact ve_arr 2 (g_ref17_Lines_j1_ok hK hL1 h)
  ·
   refine ve_sb 14 h13 ?_
   refine ve_rt 8 ?_
   have hr := Option.some.inj h
   subst hr
   exact ve_ot
theorem g_ref17_Lines_l2_ok (hK : KnOk K) (m : Nat) : H60_1 M w0 r v1 v2 v3 m (g_ref17_Lines_l2 K n v1 v2 v3 m) := by
  induction m with
 | zero => intro v10 v11 v12 h; cases h
 | succ m ih => intro v10 v11 v12 h; have h : g_ref17_Lines_l2_b K n v1 v2 v3 (g_ref17_Lines_l2 K n v1 v2 v3 m) v10 v11 v12 = some r := h; exact lp_round (g_ref17_Lines_l2_b_ok hK ih h)
theorem g_ref17_Lines_ok (hK : KnOk K) (h : g_ref17_Lines K n v1 v2 v3 = some r) : ACalls Try.prog 60 [.sl (List.map eTBoxtreeBox v1), .agg (eTCascadeStyle v2), .int .i64 v3] (fun v s => v = .tup [.ref 35, .int .i64 r.2] ∧ look 35 s.r = some ⟨60, 67, List.map eTBlockFragment r.1⟩) := by
  refine acalls_intro (c := cat Try.f60 []) Try.func60 (by kernel_rfl) _ Try.ntmps60 (of_decide_eq_true (by kernel_rfl)) fun M w0 => ?_
  refine ve_cast (s' := ⟨[(0,.sl (List.map eTBoxtreeBox v1)),(1,.agg (eTCascadeStyle v2)),(2,.int .i64 v3)],[],[],[]⟩) (by kernel_rfl) ?_
  unfold g_ref17_Lines at h
  refine ve_un (ks' := [.c (cat Try.f60 p60_10), .b 0, .c (cat Try.f60 p60_0)]) 10 ?_
  refine ve_w 35 8 60 67 ?_
  exact ve_arr 0 (lp_en (p := p60_10) n (g_ref17_Lines_l2_ok hK n h))
end


noncomputable section
abbrev cx74 (M : Nat → Prop) (w0 : World) : Cx := ⟨Try.prog, 12, M, w0⟩
abbrev q74 (M : Nat → Prop) (w0 : World) (r : Bool) := bodyPost Try.prog Try.f74 (RetQ M w0 (fun v _ => v = .bool r))
def s74_j1 (v2 : Bool) : AS := ⟨[(2,.bool v2)],[],[],[]⟩
variable {K : Kn} {n : Nat} {M : Nat → Prop} {w0 : World} {r : Bool} {v1 : TBoxtreeBox} {v2 : Bool} 
theorem g_ref17_In_j1_ok (hK : KnOk K) (h : g_ref17_In_j1 K n v2 = some r) : VE (cx74 M w0) (q74 M w0 r) [.c (cat Try.f74 [1, 1])] .normal (s74_j1 v2) := by
  unfold g_ref17_In_j1 at h
  refine ve_rt 1 ?_
  have hr := Option.some.inj h
  subst hr
  exact ve_d1
theorem g_ref17_In_ok (hK : KnOk K) (h : g_ref17_In K n v1 = some r) : ACalls Try.prog 74 [.agg (xTBoxtreeBox v1)] (fun v _ => v = .bool r) := by
  refine acalls_intro (c := cat Try.f74 []) Try.func74 (by kernel_rfl) _ Try.ntmps74 (of_decide_eq_true (by kernel_rfl)) fun M w0 => ?_
  refine ve_cast (s' := ⟨[(0,.agg (xTBoxtreeBox v1))],[],[],[]⟩) (by kernel_rfl) ?_
  unfold g_ref17_In at h
  refine ve_un (ks' := [.c (cat Try.f74 [1, 0]), .c (cat Try.f74 [1, 1])]) 3 ?_
  refine ve_in 4 ?_
  rcases ite_some h with ⟨h1, h⟩ | ⟨h1, h⟩
  ·
   refine ot_sb 6 h1 ?_
   refine ot_end ?_
   exact ve_arr 0 (g_ref17_In_j1_ok hK h)
  ·
   refine ot_sb 6 h1 ?_
   refine ot_end ?_
   exact ve_arr 0 (g_ref17_In_j1_ok hK h)
end

def p67_0 : List Nat := [1, 1, 0, 1, 0, 0]
def p67_1 : List Nat := [1, 1, 0, 1, 0, 0, 1, 1]
def p67_2 : List Nat := [1, 1, 0, 1, 0, 0, 0, 0]
def p67_3 : List Nat := [1, 1, 0, 1, 0, 0, 0, 1]
def p67_4 : List Nat := [1, 1, 0, 1, 0, 0, 1]
def p67_5 : List Nat := [1, 1, 0, 1, 0, 0, 1, 0, 0, 0]
def p67_6 : List Nat := [1, 1, 0, 1, 0, 0, 1, 0, 0, 1]
def p67_7 : List Nat := [1, 1, 0, 1, 0, 0, 1, 0, 0, 1, 0]
def p67_8 : List Nat := [1, 1, 0, 1, 0]
noncomputable section
abbrev cx67 (M : Nat → Prop) (w0 : World) : Cx := ⟨Try.prog, 27, M, w0⟩
abbrev q67 (M : Nat → Prop) (w0 : World) (r : (List TBoxtreeBox)) := bodyPost Try.prog Try.f67 (RetQ M w0 (fun v s => v = .ref 25 ∧ look 25 s.r = some ⟨63, 59, List.map eTBoxtreeBox r⟩))
abbrev k67_1 (M : Nat → Prop) (w0 : World) (r : (List TBoxtreeBox)) (m1 : Nat) : Kont := kl (cx67 M w0) (q67 M w0 r) [.b 0, .c (cat Try.f67 [1, 1, 1])] (cat Try.f67 p67_0) m1
def s67_j1 (v1 : TBoxtreeBox) (v8 : Int) (v11 : (List TBoxtreeBox)) : AS := ⟨[(1,.ptr 1 0),(3,.ref 25),(4,.int .i64 v8)],[(1,xTBoxtreeBox v1)],[(25,⟨63,59,List.map eTBoxtreeBox v11⟩)],[1,25]⟩
def s67_l2 (v1 : TBoxtreeBox) (v8 : Int) (v9 : (List TBoxtreeBox)) : AS := ⟨[(1,.ptr 1 0),(3,.ref 25),(4,.int .i64 v8)],[(1,xTBoxtreeBox v1)],[(25,⟨63,59,List.map eTBoxtreeBox v9⟩)],[1,25]⟩
abbrev H67_1 (M : Nat → Prop) (w0 : World) (r : (List TBoxtreeBox)) (v1 : TBoxtreeBox) (m1 : Nat) (L1 : Int → (List TBoxtreeBox) → Option (List TBoxtreeBox)) : Prop := ∀ {v8 : Int} {v9 : (List TBoxtreeBox)}, L1 v8 v9 = some r → LP (cx67 M w0) (q67 M w0 r) [.b 0, .c (cat Try.f67 [1, 1, 1])] (cat Try.f67 p67_0) m1 (s67_l2 v1 v8 v9)
variable {K : Kn} {n : Nat} {M : Nat → Prop} {w0 : World} {r : (List TBoxtreeBox)} {v1 : TBoxtreeBox} {v8 : Int} {v9 : (List TBoxtreeBox)} {v11 : (List TBoxtreeBox)} {m1 : Nat} {L1 : Int → (List TBoxtreeBox) → Option (List TBoxtreeBox)}
theorem g_ref17_Inside_j1_ok (hK : KnOk K) (hL1 : H67_1 M w0 r v1 m1 L1) (h : g_ref17_Inside_j1 K n v1 v8 L1 v11 = some r) : VE (cx67 M w0) (q67 M w0 r) [.b 1, .c (cat Try.f67 p67_1), k67_1 M w0 r m1, .b 0, .c (cat Try.f67 [1, 1, 1])] .normal (s67_j1 v1 v8 v11) := by
  unfold g_ref17_Inside_j1 at h
  exact ve_arr 2 (lp_back (hL1 h))
theorem g_ref17_Inside_l2_b_ok (hK : KnOk K) (hL1 : H67_1 M w0 r v1 m1 L1) (h : g_ref17_Inside_l2_b K n v1 L1 v8 v9 = some r) : VE (cx67 M w0) (q67 M w0 r) [.c (cat Try.f67 p67_0), k67_1 M w0 r m1, .b 0, .c (cat Try.f67 [1, 1, 1])] .normal (s67_l2 v1 v8 v9) := by
  unfold g_ref17_Inside_l2_b at h
  refine ve_un (ks' := [.c (cat Try.f67 p67_2), .c (cat Try.f67 p67_3), .c (cat Try.f67 p67_4), k67_1 M w0 r m1, .b 0, .c (cat Try.f67 [1, 1, 1])]) 2 ?_
  refine ve_in 3 ?_
  refine ot_sp (y_len eTBoxtreeBox v1.Kids) ?_
  refine ot_end ?_
  rcases ite_some h with ⟨h15, h⟩ | ⟨h15, h⟩
  ·
   refine ve_sb 9 h15 ?_
   refine ve_un (ks' := [.c (cat Try.f67 p67_5), .c (cat Try.f67 p67_6), .b 1, .c (cat Try.f67 p67_1), k67_1 M w0 r m1, .b 0, .c (cat Try.f67 [1, 1, 1])]) 5 ?_
   refine ve_in 3 ?_
   obtain ⟨h16, h⟩ := chk_some h
   refine ot_sp (y_ixs eTBoxtreeBox xTBoxtreeBox h16 (eTBoxtreeBox_len) (xTBoxtreeBox_eq)) ?_
   refine ot_go 5 1 ?_
   obtain ⟨v10, h17, h⟩ := bind_some h
   refine ot_cl (g_ref17_In_ok hK h17) ?_
   refine ot_end ?_
   rcases ite_some h with ⟨h18, h⟩ | ⟨h18, h⟩
   ·
    refine ve_sb 17 h18 ?_
    refine ve_un (ks' := [.c (cat Try.f67 p67_7), .b 1, .c (cat Try.f67 p67_1), k67_1 M w0 r m1, .b 0, .c (cat Try.f67 [1, 1, 1])]) 1 ?_
    refine ve_in 4 ?_
    obtain ⟨h19, h⟩ := chk_some h
    refine ot_sp (y_ixs eTBoxtreeBox xTBoxtreeBox h19 (eTBoxtreeBox_len) (xTBoxtreeBox_eq)) ?_
    refine ot_go 6 1 ?_
    refine ot_sp (y_bsl eTBoxtreeBox ([(List.getD v1.Kids (v8).toNat default)] : List TBoxtreeBox) (new := [xTBoxtreeBox (List.getD v1.Kids (v8).toNat default)]) (by simp only [List.map_cons, List.map_nil, xTBoxtreeBox_eq])) ?_
    obtain ⟨h20, h⟩ := chk_some h
    refine ot_sp (y_app 25 25 63 59 eTBoxtreeBox (rfl) (eTBoxtreeBox_len) h20) ?_
    refine ot_end ?_
    exact ve_arr 0 (g_ref17_Inside_j1_ok hK hL1 h)
   ·
    refine ve_sb 17 h18 ?_
    exact ve_arr 2 (g_ref17_Inside_j1_ok hK hL1 h)
  ·
   refine ve_sb 9 h15 ?_
   refine ve_rt 8 ?_
   have hr := Option.some.inj h
   subst hr
   exact ve_o1
theorem g_ref17_Inside_l2_ok (hK : KnOk K) (m : Nat) : H67_1 M w0 r v1 m (g_ref17_Inside_l2 K n v1 m) := by
  induction m with
 | zero => intro v8 v9 h; cases h
 | succ m ih => intro v8 v9 h; have h : g_ref17_Inside_l2_b K n v1 (g_ref17_Inside_l2 K n v1 m) v8 v9 = some r := h; exact lp_round (g_ref17_Inside_l2_b_ok hK ih h)
theorem g_ref17_Inside_ok (hK : KnOk K) (h : g_ref17_Inside K n v1 = some r) : ACalls Try.prog 67 [.agg (xTBoxtreeBox v1)] (fun v s => v = .ref 25 ∧ look 25 s.r = some ⟨63, 59, List.map eTBoxtreeBox r⟩) := by
  refine acalls_intro (c := cat Try.f67 []) Try.func67 (by kernel_rfl) _ Try.ntmps67 (of_decide_eq_true (by kernel_rfl)) fun M w0 => ?_
  refine ve_cast (s' := ⟨[(0,.agg (xTBoxtreeBox v1))],[],[],[]⟩) (by kernel_rfl) ?_
  unfold g_ref17_Inside at h
  refine ve_un (ks' := [.c (cat Try.f67 p67_8), .b 0, .c (cat Try.f67 [1, 1, 1])]) 8 ?_
  refine ve_w 25 3 63 59 ?_
  exact ve_arr 0 (lp_en (p := p67_8) n (g_ref17_Inside_l2_ok hK n h))
end

def p66_0 : List Nat := [1, 1, 0, 1, 0, 0]
def p66_1 : List Nat := [1, 1, 0, 1, 0, 0, 0, 0]
def p66_2 : List Nat := [1, 1, 0, 1, 0, 0, 0, 1]
def p66_3 : List Nat := [1, 1, 0, 1, 0, 0, 1]
def p66_4 : List Nat := [1, 1, 0, 1, 0, 0, 1, 0, 0, 0]
def p66_5 : List Nat := [1, 1, 0, 1, 0, 0, 1, 0, 0, 1]
def p66_6 : List Nat := [1, 1, 0, 1, 0, 0, 1, 1]
def p66_7 : List Nat := [1, 1, 0, 1, 0]
noncomputable section
abbrev cx66 (M : Nat → Prop) (w0 : World) : Cx := ⟨Try.prog, 19, M, w0⟩
abbrev q66 (M : Nat → Prop) (w0 : World) (r : Bool) := bodyPost Try.prog Try.f66 (RetQ M w0 (fun v _ => v = .bool r))
abbrev k66_1 (M : Nat → Prop) (w0 : World) (r : Bool) (m1 : Nat) : Kont := kl (cx66 M w0) (q66 M w0 r) [.b 0, .c (cat Try.f66 [1, 1, 1])] (cat Try.f66 p66_0) m1
def s66_l1 (v2 : (List TBoxtreeBox)) (v4 : Int) : AS := ⟨[(3,.ref 1006),(4,.int .i64 v4)],[],[(1006,⟨63,59,List.map eTBoxtreeBox v2⟩)],[1006]⟩
abbrev H66_1 (M : Nat → Prop) (w0 : World) (r : Bool) (v2 : (List TBoxtreeBox)) (m1 : Nat) (L1 : Int → Option Bool) : Prop := ∀ {v4 : Int}, L1 v4 = some r → LP (cx66 M w0) (q66 M w0 r) [.b 0, .c (cat Try.f66 [1, 1, 1])] (cat Try.f66 p66_0) m1 (s66_l1 v2 v4)
variable {K : Kn} {n : Nat} {M : Nat → Prop} {w0 : World} {r : Bool} {v1 : TBoxtreeBox} {v2 : (List TBoxtreeBox)} {v4 : Int} {m1 : Nat} {L1 : Int → Option Bool}
theorem g_ref17_outer_l1_b_ok (hK : KnOk K) (hL1 : H66_1 M w0 r v2 m1 L1) (h : g_ref17_outer_l1_b K n v2 L1 v4 = some r) : VE (cx66 M w0) (q66 M w0 r) [.c (cat Try.f66 p66_0), k66_1 M w0 r m1, .b 0, .c (cat Try.f66 [1, 1, 1])] .normal (s66_l1 v2 v4) := by
  unfold g_ref17_outer_l1_b at h
  refine ve_un (ks' := [.c (cat Try.f66 p66_1), .c (cat Try.f66 p66_2), .c (cat Try.f66 p66_3), k66_1 M w0 r m1, .b 0, .c (cat Try.f66 [1, 1, 1])]) 2 ?_
  refine ve_in 2 ?_
  refine ot_sp (y_len eTBoxtreeBox v2) ?_
  refine ot_end ?_
  rcases ite_some h with ⟨h6, h⟩ | ⟨h6, h⟩
  ·
   refine ve_sb 10 h6 ?_
   refine ve_un (ks' := [.c (cat Try.f66 p66_4), .c (cat Try.f66 p66_5), .b 1, .c (cat Try.f66 p66_6), k66_1 M w0 r m1, .b 0, .c (cat Try.f66 [1, 1, 1])]) 5 ?_
   refine ve_in 2 ?_
   obtain ⟨h7, h⟩ := chk_some h
   refine ot_sp (y_ixr 1006 59 eTBoxtreeBox h7) ?_
   refine ot_go 4 1 ?_
   refine ot_sp (y_ldr 3 0 eTBoxtreeBox xTBoxtreeBox (inb_spec h7).2 (xTBoxtreeBox_eq)) ?_
   refine ot_end ?_
   obtain ⟨v5, h8, h⟩ := bind_some h
   have h8 := Option.some.inj h8
   refine ve_go (ks' := [.c (cat Try.f66 p66_5), .b 1, .c (cat Try.f66 p66_6), k66_1 M w0 r m1, .b 0, .c (cat Try.f66 [1, 1, 1])]) 0 ⟨[(3,.ref 1006),(4,.int .i64 v4),(18,.bool v5)],[],[(1006,⟨63,59,List.map eTBoxtreeBox v2⟩)],[1006]⟩ ?_ (by subst h8; kernel_rfl)
   rcases ite_some h with ⟨h9, h⟩ | ⟨h9, h⟩
   ·
    refine ve_sb 18 h9 ?_
    refine ve_rt 9 ?_
    have hr := Option.some.inj h
    subst hr
    exact ve_d1
   ·
    refine ve_sb 18 h9 ?_
    exact ve_arr 4 (lp_back (hL1 h))
  ·
   refine ve_sb 10 h6 ?_
   refine ve_rt 8 ?_
   have hr := Option.some.inj h
   subst hr
   exact ve_d1
theorem g_ref17_outer_l1_ok (hK : KnOk K) (m : Nat) : H66_1 M w0 r v2 m (g_ref17_outer_l1 K n v2 m) := by
  induction m with
 | zero => intro v4 h; cases h
 | succ m ih => intro v4 h; have h : g_ref17_outer_l1_b K n v2 (g_ref17_outer_l1 K n v2 m) v4 = some r := h; exact lp_round (g_ref17_outer_l1_b_ok hK ih h)
theorem g_ref17_outer_ok (hK : KnOk K) (h : g_ref17_outer K n v1 = some r) : ACalls Try.prog 66 [.agg (xTBoxtreeBox v1)] (fun v _ => v = .bool r) := by
  refine acalls_intro (c := cat Try.f66 []) Try.func66 (by kernel_rfl) _ Try.ntmps66 (of_decide_eq_true (by kernel_rfl)) fun M w0 => ?_
  refine ve_cast (s' := ⟨[(0,.agg (xTBoxtreeBox v1))],[],[],[]⟩) (by kernel_rfl) ?_
  unfold g_ref17_outer at h
  refine ve_un (ks' := [.c (cat Try.f66 [1, 0]), .c (cat Try.f66 [1, 1])]) 3 ?_
  refine ve_in 1 ?_
  obtain ⟨v2, h1, h⟩ := bind_some h
  refine ot_co 1006 (g_ref17_Inside_ok hK h1) (one_ref 25) ?_
  refine ot_end ?_
  exact ve_arr 4 (lp_en (p := p66_7) n (g_ref17_outer_l1_ok hK n h))
end


noncomputable section
abbrev cx68 (M : Nat → Prop) (w0 : World) : Cx := ⟨Try.prog, 11, M, w0⟩
abbrev q68 (M : Nat → Prop) (w0 : World) (r : (Int × Bool)) := bodyPost Try.prog Try.f68 (RetQ M w0 (fun v _ => v = .tup [.int .i64 r.1, .bool r.2]))
variable {K : Kn} {n : Nat} {M : Nat → Prop} {w0 : World} {r : (Int × Bool)} {v1 : TCascadeLength} 
theorem g_ref17_pixels_ok (hK : KnOk K) (h : g_ref17_pixels K n v1 = some r) : ACalls Try.prog 68 [.agg (eTCascadeLength v1)] (fun v _ => v = .tup [.int .i64 r.1, .bool r.2]) := by
  refine acalls_intro (c := cat Try.f68 []) Try.func68 (by kernel_rfl) _ Try.ntmps68 (of_decide_eq_true (by kernel_rfl)) fun M w0 => ?_
  refine ve_cast (s' := ⟨[(0,.agg (eTCascadeLength v1))],[],[],[]⟩) (by kernel_rfl) ?_
  unfold g_ref17_pixels at h
  refine ve_un (ks' := [.c (cat Try.f68 [1, 0, 1]), .c (cat Try.f68 [1, 1])]) 5 ?_
  rcases ite_some h with ⟨h1, h⟩ | ⟨h1, h⟩
  ·
   refine ve_sb 6 h1 ?_
   refine ve_rt 5 ?_
   have hr := Option.some.inj h
   subst hr
   exact ve_dt
  ·
   refine ve_sb 6 h1 ?_
   refine ve_un (ks' := [.c (cat Try.f68 [1, 1, 0]), .c (cat Try.f68 [1, 1, 1])]) 3 ?_
   refine ve_in 2 ?_
   obtain ⟨v2, h2, h⟩ := bind_some h
   refine ot_cl (g_ref17_limit_ok hK h2) ?_
   refine ot_end ?_
   refine ve_rt 1 ?_
   have hr := Option.some.inj h
   subst hr
   exact ve_dt
end

def p55_0 : List Nat := ones 24 []
def p55_1 : List Nat := ones 23 [0, 1, 0, 0]
def p55_2 : List Nat := ones 7 [0, 1, 0, 1, 1]
def p55_3 : List Nat := ones 8 []
def p55_4 : List Nat := ones 7 [0, 1, 0, 1, 0, 1, 0, 0]
def p55_5 : List Nat := ones 23 [0, 1, 0, 0, 1, 0, 0, 1, 1, 1, 1]
def p55_6 : List Nat := ones 23 [0, 1, 0, 0, 1, 1]
def p55_7 : List Nat := ones 23 [0, 1, 0, 0, 0, 0]
def p55_8 : List Nat := ones 23 [0, 1, 0, 0, 0, 1]
def p55_9 : List Nat := ones 23 [0, 1, 0, 0, 1]
def p55_10 : List Nat := ones 23 [0, 1, 0, 0, 1, 0, 0, 0]
def p55_11 : List Nat := ones 23 [0, 1, 0, 0, 1, 0, 0, 1]
def p55_12 : List Nat := ones 23 [0, 1, 0, 0, 1, 0, 0, 1, 1, 1, 0, 1]
def p55_13 : List Nat := ones 23 [0, 1, 0, 0, 1, 0, 0, 1, 1, 1, 0, 1, 0]
def p55_14 : List Nat := ones 22 []
def p55_15 : List Nat := ones 23 [0, 1, 0]
def p55_16 : List Nat := ones 20 []
def p55_17 : List Nat := ones 21 [0, 1]
def p55_18 : List Nat := ones 19 [0, 0, 1, 1, 1, 1, 1]
def p55_19 : List Nat := ones 19 [0, 0, 1, 1, 1, 1, 1, 0, 0]
def p55_20 : List Nat := ones 19 [0, 0, 1, 1, 1, 1, 1, 0, 1]
def p55_21 : List Nat := ones 19 [0, 0, 1, 1, 1, 1, 1, 1, 1]
def p55_22 : List Nat := ones 19 [0, 0, 1, 1, 1, 1, 1, 1, 1, 0]
def p55_23 : List Nat := ones 19 [0, 0, 1, 1, 1, 1, 1, 1, 1, 1, 1]
def p55_24 : List Nat := ones 19 [0, 0, 1]
def p55_25 : List Nat := ones 19 [0, 0, 1, 0, 0]
def p55_26 : List Nat := ones 19 [0, 0, 1, 0, 1]
def p55_27 : List Nat := ones 19 [0, 0, 1, 1, 1]
def p55_28 : List Nat := ones 19 [0, 0, 1, 1, 1, 0]
def p55_29 : List Nat := ones 19 [0, 0, 1, 1, 1, 1, 0]
def p55_30 : List Nat := ones 19 []
def p55_31 : List Nat := ones 19 [0, 0, 0]
def p55_32 : List Nat := ones 18 [0, 1, 1, 1]
def p55_33 : List Nat := ones 18 [0, 1, 1, 1, 0]
def p55_34 : List Nat := ones 12 []
def p55_35 : List Nat := ones 12 [0]
def p55_36 : List Nat := ones 13 []
def p55_37 : List Nat := ones 13 [0]
def p55_38 : List Nat := ones 14 []
def p55_39 : List Nat := ones 18 [0, 1]
def p55_40 : List Nat := ones 18 [0, 1, 0]
def p55_41 : List Nat := ones 18 [0, 1, 1, 0]
def p55_42 : List Nat := ones 11 []
def p55_43 : List Nat := ones 11 [0]
def p55_44 : List Nat := ones 10 []
def p55_45 : List Nat := ones 10 [0]
def p55_46 : List Nat := ones 8 [0]
def p55_47 : List Nat := ones 9 []
def p55_48 : List Nat := ones 9 [0]
def p55_49 : List Nat := ones 7 [0, 1, 0, 1, 0, 1, 0, 0, 0, 0]
def p55_50 : List Nat := ones 7 [0, 1, 0, 1, 0, 1, 0, 0, 0, 1]
def p55_51 : List Nat := ones 7 [0, 1, 0, 1, 0, 1, 0, 0, 1]
def p55_52 : List Nat := ones 7 [0, 1, 0, 1, 0, 1, 0, 0, 1, 0, 0]
def p55_53 : List Nat := ones 7 [0, 1, 0, 1, 0, 1, 0, 0, 1, 1]
def p55_54 : List Nat := [1, 1, 1, 1, 0]
def p55_55 : List Nat := ones 5 []
def p55_56 : List Nat := ones 5 [0]
def p55_57 : List Nat := ones 6 []
def p55_58 : List Nat := ones 7 [0, 1]
def p55_59 : List Nat := ones 7 [0, 1, 0, 1, 0, 1, 0]
def p55_60 : List Nat := ones 7 [0, 1, 1, 0]
def p55_61 : List Nat := ones 7 [0, 1, 1, 1]
noncomputable section
abbrev cx55 (M : Nat → Prop) (w0 : World) : Cx := ⟨Try.prog, 281, M, w0⟩
abbrev q55 (M : Nat → Prop) (w0 : World) (r : TBlockFragment) := bodyPost Try.prog Try.f55 (RetQ M w0 (fun v s => v = .agg (List.set (xTBlockFragment ({ r with Kids := [] } : TBlockFragment)) 66 (.ref 278)) ∧ look 278 s.r = some ⟨60, 67, List.map eTBlockFragment r.Kids⟩))
abbrev k55_2 (M : Nat → Prop) (w0 : World) (r : TBlockFragment) (m2 : Nat) : Kont := kl (cx55 M w0) (q55 M w0 r) [.b 3, .c (cat Try.f55 p55_0)] (cat Try.f55 p55_1) m2
abbrev k55_1 (M : Nat → Prop) (w0 : World) (r : TBlockFragment) (m1 : Nat) : Kont := kl (cx55 M w0) (q55 M w0 r) [.b 0, .c (cat Try.f55 p55_2), .c (cat Try.f55 p55_3)] (cat Try.f55 p55_4) m1
def s55_j12 (v1 : TBoxtreeBox) (v2 : TBlockSizes) (v4 : Int) (v5 : Bool) (v14 : Int) (v15 : TBlockMargin) (v16 : TBlockMargin) (v17 : Bool) (v18 : (List TBlockFragment)) (v28 : Int) (v37 : TBlockMargin) (v38 : TBlockMargin) (v39 : Bool) (v59 : Int) (v60 : Int) (v61 : (List TBlockFragment)) (v65 : TBlockFragment) : AS := ⟨[(4,.ptr 4 0),(6,.ptr 6 0),(8,.ptr 8 0),(9,.bool v5),(11,.ptr 11 0),(22,.int .i64 v28),(24,.int .i64 v59),(25,.ptr 25 0)],[(4,eTBlockSizes v2),(6,List.set (xTBlockFragment zTBlockFragment) 66 (.nils)),(8,List.set (xTBlockFragment (⟨1, v1.Node, v2.Margin.a3, 0, v4, v60, 0, ⟨#[]⟩, v1.Style, v37, v38, v39, []⟩ : TBlockFragment)) 66 (.ref 278)),(11,List.set (eTKnapsackref17Placed (⟨[], v14, v15, v16, v17⟩ : TKnapsackref17Placed)) 0 (.ref 1077)),(25,xTBlockFragment v65)],[(278,⟨60,67,List.map eTBlockFragment v61⟩),(1077,⟨60,67,List.map eTBlockFragment v18⟩)],[4,6,8,11,25,278,1077]⟩
def s55_l13 (v1 : TBoxtreeBox) (v2 : TBlockSizes) (v4 : Int) (v5 : Bool) (v14 : Int) (v15 : TBlockMargin) (v16 : TBlockMargin) (v17 : Bool) (v18 : (List TBlockFragment)) (v28 : Int) (v37 : TBlockMargin) (v38 : TBlockMargin) (v39 : Bool) (v59 : Int) (v60 : Int) (v61 : (List TBlockFragment)) : AS := ⟨[(4,.ptr 4 0),(6,.ptr 6 0),(8,.ptr 8 0),(9,.bool v5),(11,.ptr 11 0),(22,.int .i64 v28),(24,.int .i64 v59)],[(4,eTBlockSizes v2),(6,List.set (xTBlockFragment zTBlockFragment) 66 (.nils)),(8,List.set (xTBlockFragment (⟨1, v1.Node, v2.Margin.a3, 0, v4, v60, 0, ⟨#[]⟩, v1.Style, v37, v38, v39, []⟩ : TBlockFragment)) 66 (.ref 278)),(11,List.set (eTKnapsackref17Placed (⟨[], v14, v15, v16, v17⟩ : TKnapsackref17Placed)) 0 (.ref 1077))],[(278,⟨60,67,List.map eTBlockFragment v61⟩),(1077,⟨60,67,List.map eTBlockFragment v18⟩)],[4,6,8,11,278,1077]⟩
def s55_j11 (v1 : TBoxtreeBox) (v2 : TBlockSizes) (v4 : Int) (v5 : Bool) (v14 : Int) (v15 : TBlockMargin) (v16 : TBlockMargin) (v17 : Bool) (v18 : (List TBlockFragment)) (v28 : Int) (v37 : TBlockMargin) (v38 : TBlockMargin) (v39 : Bool) (v40 : Int) : AS := ⟨[(4,.ptr 4 0),(6,.ptr 6 0),(8,.ptr 8 0),(9,.bool v5),(11,.ptr 11 0),(22,.int .i64 v28),(23,.int .i64 v40)],[(4,eTBlockSizes v2),(6,List.set (xTBlockFragment zTBlockFragment) 66 (.nils)),(8,List.set (xTBlockFragment (⟨1, v1.Node, v2.Margin.a3, 0, v4, 0, 0, ⟨#[]⟩, v1.Style, v37, v38, v39, []⟩ : TBlockFragment)) 66 (.nils)),(11,List.set (eTKnapsackref17Placed (⟨[], v14, v15, v16, v17⟩ : TKnapsackref17Placed)) 0 (.ref 1077))],[(1077,⟨60,67,List.map eTBlockFragment v18⟩)],[4,6,8,11,1077]⟩
def s55_j10 (v1 : TBoxtreeBox) (v2 : TBlockSizes) (v4 : Int) (v5 : Bool) (v14 : Int) (v15 : TBlockMargin) (v16 : TBlockMargin) (v17 : Bool) (v18 : (List TBlockFragment)) (v19 : (Int × Bool)) (v28 : Int) (v36 : Int) (v37 : TBlockMargin) (v38 : TBlockMargin) (v39 : Bool) : AS := ⟨[(4,.ptr 4 0),(6,.ptr 6 0),(8,.ptr 8 0),(9,.bool v5),(11,.ptr 11 0),(16,.int .i64 v19.1),(17,.bool v19.2),(22,.int .i64 v28),(23,.int .i64 v36)],[(4,eTBlockSizes v2),(6,List.set (xTBlockFragment zTBlockFragment) 66 (.nils)),(8,List.set (xTBlockFragment (⟨1, v1.Node, v2.Margin.a3, 0, v4, 0, 0, ⟨#[]⟩, v1.Style, v37, v38, v39, []⟩ : TBlockFragment)) 66 (.nils)),(11,List.set (eTKnapsackref17Placed (⟨[], v14, v15, v16, v17⟩ : TKnapsackref17Placed)) 0 (.ref 1077))],[(1077,⟨60,67,List.map eTBlockFragment v18⟩)],[4,6,8,11,1077]⟩
def s55_j9 (v1 : TBoxtreeBox) (v2 : TBlockSizes) (v4 : Int) (v5 : Bool) (v14 : Int) (v15 : TBlockMargin) (v16 : TBlockMargin) (v17 : Bool) (v18 : (List TBlockFragment)) (v19 : (Int × Bool)) (v21 : Bool) (v22 : Bool) (v24 : TBlockMargin) (v28 : Int) (v29 : TBlockMargin) (v33 : Bool) : AS := ⟨[(4,.ptr 4 0),(6,.ptr 6 0),(8,.ptr 8 0),(9,.bool v5),(11,.ptr 11 0),(16,.int .i64 v19.1),(17,.bool v19.2),(18,.bool v21),(19,.bool v22),(21,.ptr 21 0),(22,.int .i64 v28),(23,.int .i64 0),(186,.bool v33)],[(4,eTBlockSizes v2),(6,List.set (xTBlockFragment zTBlockFragment) 66 (.nils)),(8,List.set (xTBlockFragment (⟨1, v1.Node, v2.Margin.a3, 0, v4, 0, 0, ⟨#[]⟩, v1.Style, v29, v24, false, []⟩ : TBlockFragment)) 66 (.nils)),(11,List.set (eTKnapsackref17Placed (⟨[], v14, v15, v16, v17⟩ : TKnapsackref17Placed)) 0 (.ref 1077)),(21,eTBlockMargin v24)],[(1077,⟨60,67,List.map eTBlockFragment v18⟩)],[4,6,8,11,21,1077]⟩
def s55_j8 (v1 : TBoxtreeBox) (v2 : TBlockSizes) (v4 : Int) (v5 : Bool) (v14 : Int) (v15 : TBlockMargin) (v16 : TBlockMargin) (v17 : Bool) (v18 : (List TBlockFragment)) (v19 : (Int × Bool)) (v21 : Bool) (v22 : Bool) (v24 : TBlockMargin) (v28 : Int) (v29 : TBlockMargin) (v30 : Bool) : AS := ⟨[(4,.ptr 4 0),(6,.ptr 6 0),(8,.ptr 8 0),(9,.bool v5),(11,.ptr 11 0),(16,.int .i64 v19.1),(17,.bool v19.2),(18,.bool v21),(19,.bool v22),(21,.ptr 21 0),(22,.int .i64 v28),(23,.int .i64 0),(158,.bool v30)],[(4,eTBlockSizes v2),(6,List.set (xTBlockFragment zTBlockFragment) 66 (.nils)),(8,List.set (xTBlockFragment (⟨1, v1.Node, v2.Margin.a3, 0, v4, 0, 0, ⟨#[]⟩, v1.Style, v29, v24, false, []⟩ : TBlockFragment)) 66 (.nils)),(11,List.set (eTKnapsackref17Placed (⟨[], v14, v15, v16, v17⟩ : TKnapsackref17Placed)) 0 (.ref 1077)),(21,eTBlockMargin v24)],[(1077,⟨60,67,List.map eTBlockFragment v18⟩)],[4,6,8,11,21,1077]⟩
def s55_j7 (v1 : TBoxtreeBox) (v2 : TBlockSizes) (v4 : Int) (v5 : Bool) (v14 : Int) (v15 : TBlockMargin) (v16 : TBlockMargin) (v17 : Bool) (v18 : (List TBlockFragment)) (v19 : (Int × Bool)) (v21 : Bool) (v22 : Bool) (v24 : TBlockMargin) (v28 : Int) (v29 : TBlockMargin) : AS := ⟨[(4,.ptr 4 0),(6,.ptr 6 0),(8,.ptr 8 0),(9,.bool v5),(11,.ptr 11 0),(16,.int .i64 v19.1),(17,.bool v19.2),(18,.bool v21),(19,.bool v22),(21,.ptr 21 0),(22,.int .i64 v28),(23,.int .i64 0)],[(4,eTBlockSizes v2),(6,List.set (xTBlockFragment zTBlockFragment) 66 (.nils)),(8,List.set (xTBlockFragment (⟨1, v1.Node, v2.Margin.a3, 0, v4, 0, 0, ⟨#[]⟩, v1.Style, v29, v24, false, []⟩ : TBlockFragment)) 66 (.nils)),(11,List.set (eTKnapsackref17Placed (⟨[], v14, v15, v16, v17⟩ : TKnapsackref17Placed)) 0 (.ref 1077)),(21,eTBlockMargin v24)],[(1077,⟨60,67,List.map eTBlockFragment v18⟩)],[4,6,8,11,21,1077]⟩
def s55_j6 (v1 : TBoxtreeBox) (v2 : TBlockSizes) (v4 : Int) (v5 : Bool) (v14 : Int) (v15 : TBlockMargin) (v16 : TBlockMargin) (v17 : Bool) (v18 : (List TBlockFragment)) (v19 : (Int × Bool)) (v21 : Bool) (v22 : Bool) (v23 : TBlockMargin) (v24 : TBlockMargin) (v26 : Bool) : AS := ⟨[(4,.ptr 4 0),(6,.ptr 6 0),(8,.ptr 8 0),(9,.bool v5),(11,.ptr 11 0),(16,.int .i64 v19.1),(17,.bool v19.2),(18,.bool v21),(19,.bool v22),(21,.ptr 21 0),(22,.int .i64 0),(23,.int .i64 0),(154,.bool v26)],[(4,eTBlockSizes v2),(6,List.set (xTBlockFragment zTBlockFragment) 66 (.nils)),(8,List.set (xTBlockFragment (⟨1, v1.Node, v2.Margin.a3, 0, v4, 0, 0, ⟨#[]⟩, v1.Style, v23, v24, false, []⟩ : TBlockFragment)) 66 (.nils)),(11,List.set (eTKnapsackref17Placed (⟨[], v14, v15, v16, v17⟩ : TKnapsackref17Placed)) 0 (.ref 1077)),(21,eTBlockMargin v24)],[(1077,⟨60,67,List.map eTBlockFragment v18⟩)],[4,6,8,11,21,1077]⟩
def s55_j5 (v1 : TBoxtreeBox) (v2 : TBlockSizes) (v4 : Int) (v5 : Bool) (v14 : Int) (v15 : TBlockMargin) (v16 : TBlockMargin) (v17 : Bool) (v18 : (List TBlockFragment)) (v19 : (Int × Bool)) (v21 : Bool) (v22 : Bool) : AS := ⟨[(4,.ptr 4 0),(6,.ptr 6 0),(8,.ptr 8 0),(9,.bool v5),(11,.ptr 11 0),(16,.int .i64 v19.1),(17,.bool v19.2),(18,.bool v21),(19,.bool v22)],[(4,eTBlockSizes v2),(6,List.set (xTBlockFragment zTBlockFragment) 66 (.nils)),(8,List.set (xTBlockFragment ({ zTBlockFragment with Kind := 1, Node := v1.Node, X := v2.Margin.a3, W := v4, Style := v1.Style } : TBlockFragment)) 66 (.nils)),(11,List.set (eTKnapsackref17Placed (⟨[], v14, v15, v16, v17⟩ : TKnapsackref17Placed)) 0 (.ref 1077))],[(1077,⟨60,67,List.map eTBlockFragment v18⟩)],[4,6,8,11,1077]⟩
def s55_j4 (v1 : TBoxtreeBox) (v2 : TBlockSizes) (v4 : Int) (v5 : Bool) (v14 : Int) (v15 : TBlockMargin) (v16 : TBlockMargin) (v17 : Bool) (v18 : (List TBlockFragment)) (v19 : (Int × Bool)) (v20 : Bool) (v21 : Bool) : AS := ⟨[(2,.bool v20),(4,.ptr 4 0),(6,.ptr 6 0),(8,.ptr 8 0),(9,.bool v5),(11,.ptr 11 0),(16,.int .i64 v19.1),(17,.bool v19.2),(18,.bool v21)],[(4,eTBlockSizes v2),(6,List.set (xTBlockFragment zTBlockFragment) 66 (.nils)),(8,List.set (xTBlockFragment ({ zTBlockFragment with Kind := 1, Node := v1.Node, X := v2.Margin.a3, W := v4, Style := v1.Style } : TBlockFragment)) 66 (.nils)),(11,List.set (eTKnapsackref17Placed (⟨[], v14, v15, v16, v17⟩ : TKnapsackref17Placed)) 0 (.ref 1077))],[(1077,⟨60,67,List.map eTBlockFragment v18⟩)],[4,6,8,11,1077]⟩
def s55_j3 (v1 : TBoxtreeBox) (v2 : TBlockSizes) (v4 : Int) (v5 : Bool) (v14 : Int) (v15 : TBlockMargin) (v16 : TBlockMargin) (v17 : Bool) (v18 : (List TBlockFragment)) (v19 : (Int × Bool)) (v20 : Bool) : AS := ⟨[(2,.bool v20),(4,.ptr 4 0),(6,.ptr 6 0),(8,.ptr 8 0),(9,.bool v5),(11,.ptr 11 0),(16,.int .i64 v19.1),(17,.bool v19.2)],[(4,eTBlockSizes v2),(6,List.set (xTBlockFragment zTBlockFragment) 66 (.nils)),(8,List.set (xTBlockFragment ({ zTBlockFragment with Kind := 1, Node := v1.Node, X := v2.Margin.a3, W := v4, Style := v1.Style } : TBlockFragment)) 66 (.nils)),(11,List.set (eTKnapsackref17Placed (⟨[], v14, v15, v16, v17⟩ : TKnapsackref17Placed)) 0 (.ref 1077))],[(1077,⟨60,67,List.map eTBlockFragment v18⟩)],[4,6,8,11,1077]⟩
def s55_j2 (v1 : TBoxtreeBox) (v2 : TBlockSizes) (v3 : Bool) (v4 : Int) (v5 : Bool) (v14 : Int) (v15 : TBlockMargin) (v16 : TBlockMargin) (v17 : Bool) (v18 : (List TBlockFragment)) : AS := ⟨[(2,.bool v3),(4,.ptr 4 0),(6,.ptr 6 0),(7,.ptr 7 0),(8,.ptr 8 0),(9,.bool v5),(11,.ptr 11 0)],[(4,eTBlockSizes v2),(6,List.set (xTBlockFragment zTBlockFragment) 66 (.nils)),(7,eTCascadeStyle v1.Style),(8,List.set (xTBlockFragment ({ zTBlockFragment with Kind := 1, Node := v1.Node, X := v2.Margin.a3, W := v4, Style := v1.Style } : TBlockFragment)) 66 (.nils)),(11,List.set (eTKnapsackref17Placed (⟨[], v14, v15, v16, v17⟩ : TKnapsackref17Placed)) 0 (.ref 1077))],[(1077,⟨60,67,List.map eTBlockFragment v18⟩)],[4,6,7,8,11,1077]⟩
def s55_l1 (v1 : TBoxtreeBox) (v2 : TBlockSizes) (v3 : Bool) (v4 : Int) (v5 : Bool) (v6 : (List TBoxtreeBox)) (v9 : Int) (v10 : (List TBlockFragment)) : AS := ⟨[(2,.bool v3),(4,.ptr 4 0),(6,.ptr 6 0),(7,.ptr 7 0),(8,.ptr 8 0),(9,.bool v5),(10,.ref 1057),(11,.ptr 11 0),(12,.ref 75),(13,.int .i64 v9)],[(4,eTBlockSizes v2),(6,List.set (xTBlockFragment zTBlockFragment) 66 (.nils)),(7,eTCascadeStyle v1.Style),(8,List.set (xTBlockFragment ({ zTBlockFragment with Kind := 1, Node := v1.Node, X := v2.Margin.a3, W := v4, Style := v1.Style } : TBlockFragment)) 66 (.nils)),(11,List.set (eTKnapsackref17Placed zTKnapsackref17Placed) 0 (.nils))],[(75,⟨60,67,List.map eTBlockFragment v10⟩),(1057,⟨63,59,List.map eTBoxtreeBox v6⟩)],[4,6,7,8,11,75,1057]⟩
abbrev H55_1 (M : Nat → Prop) (w0 : World) (r : TBlockFragment) (v1 : TBoxtreeBox) (v2 : TBlockSizes) (v3 : Bool) (v4 : Int) (v5 : Bool) (v6 : (List TBoxtreeBox)) (m1 : Nat) (L1 : Int → (List TBlockFragment) → Option TBlockFragment) : Prop := ∀ {v9 : Int} {v10 : (List TBlockFragment)}, L1 v9 v10 = some r → LP (cx55 M w0) (q55 M w0 r) [.b 0, .c (cat Try.f55 p55_2), .c (cat Try.f55 p55_3)] (cat Try.f55 p55_4) m1 (s55_l1 v1 v2 v3 v4 v5 v6 v9 v10)
abbrev H55_2 (M : Nat → Prop) (w0 : World) (r : TBlockFragment) (v1 : TBoxtreeBox) (v2 : TBlockSizes) (v4 : Int) (v5 : Bool) (v14 : Int) (v15 : TBlockMargin) (v16 : TBlockMargin) (v17 : Bool) (v18 : (List TBlockFragment)) (v28 : Int) (v37 : TBlockMargin) (v38 : TBlockMargin) (v39 : Bool) (m2 : Nat) (L2 : Int → Int → (List TBlockFragment) → Option TBlockFragment) : Prop := ∀ {v59 : Int} {v60 : Int} {v61 : (List TBlockFragment)}, L2 v59 v60 v61 = some r → LP (cx55 M w0) (q55 M w0 r) [.b 3, .c (cat Try.f55 p55_0)] (cat Try.f55 p55_1) m2 (s55_l13 v1 v2 v4 v5 v14 v15 v16 v17 v18 v28 v37 v38 v39 v59 v60 v61)
variable {K : Kn} {n : Nat} {M : Nat → Prop} {w0 : World} {r : TBlockFragment} {v1 : TBoxtreeBox} {v2 : TBlockSizes} {v3 : Bool} {v4 : Int} {v5 : Bool} {v6 : (List TBoxtreeBox)} {v9 : Int} {v10 : (List TBlockFragment)} {v14 : Int} {v15 : TBlockMargin} {v16 : TBlockMargin} {v17 : Bool} {v18 : (List TBlockFragment)} {v19 : (Int × Bool)} {v20 : Bool} {v21 : Bool} {v22 : Bool} {v23 : TBlockMargin} {v24 : TBlockMargin} {v26 : Bool} {v28 : Int} {v29 : TBlockMargin} {v30 : Bool} {v33 : Bool} {v36 : Int} {v37 : TBlockMargin} {v38 : TBlockMargin} {v39 : Bool} {v40 : Int} {v59 : Int} {v60 : Int} {v61 : (List TBlockFragment)} {v65 : TBlockFragment} {m1 : Nat} {L1 : Int → (List TBlockFragment) → Option TBlockFragment} {m2 : Nat} {L2 : Int → Int → (List TBlockFragment) → Option TBlockFragment}
theorem g_ref17_finish_j12_ok (hK : KnOk K) (hL2 : H55_2 M w0 r v1 v2 v4 v5 v14 v15 v16 v17 v18 v28 v37 v38 v39 m2 L2) (h : g_ref17_finish_j12 K n v1 v2 v4 v5 v14 v15 v16 v17 v18 v28 v37 v38 v39 v59 v60 v61 L2 v65 = some r) : VE (cx55 M w0) (q55 M w0 r) [.c (cat Try.f55 p55_5), .b 4, .c (cat Try.f55 p55_6), k55_2 M w0 r m2, .b 3, .c (cat Try.f55 p55_0)] .normal (s55_j12 v1 v2 v4 v5 v14 v15 v16 v17 v18 v28 v37 v38 v39 v59 v60 v61 v65) := by
  unfold g_ref17_finish_j12 at h
  refine ve_in 3 ?_
  refine ot_sp (y_bsl eTBlockFragment ([v65] : List TBlockFragment) (new := [xTBlockFragment v65]) (by simp only [List.map_cons, List.map_nil, xTBlockFragment_eq])) ?_
  obtain ⟨h73, h⟩ := chk_some h
  refine ot_sp (y_app 278 278 60 67 eTBlockFragment (rfl) (eTBlockFragment_len) h73) ?_
  refine ot_end ?_
  exact ve_arr 2 (lp_back (hL2 h))
theorem g_ref17_finish_l13_b_ok (hK : KnOk K) (hL2 : H55_2 M w0 r v1 v2 v4 v5 v14 v15 v16 v17 v18 v28 v37 v38 v39 m2 L2) (h : g_ref17_finish_l13_b K n v1 v2 v4 v5 v14 v15 v16 v17 v18 v28 v37 v38 v39 L2 v59 v60 v61 = some r) : VE (cx55 M w0) (q55 M w0 r) [.c (cat Try.f55 p55_1), k55_2 M w0 r m2, .b 3, .c (cat Try.f55 p55_0)] .normal (s55_l13 v1 v2 v4 v5 v14 v15 v16 v17 v18 v28 v37 v38 v39 v59 v60 v61) := by
  unfold g_ref17_finish_l13_b at h
  refine ve_un (ks' := [.c (cat Try.f55 p55_7), .c (cat Try.f55 p55_8), .c (cat Try.f55 p55_9), k55_2 M w0 r m2, .b 3, .c (cat Try.f55 p55_0)]) 2 ?_
  refine ve_in 3 ?_
  refine ot_sp (y_len eTBlockFragment v18) ?_
  refine ot_end ?_
  rcases ite_some h with ⟨h67, h⟩ | ⟨h67, h⟩
  ·
   refine ve_sb 237 h67 ?_
   refine ve_un (ks' := [.c (cat Try.f55 p55_10), .c (cat Try.f55 p55_11), .b 4, .c (cat Try.f55 p55_6), k55_2 M w0 r m2, .b 3, .c (cat Try.f55 p55_0)]) 5 ?_
   refine ve_in 3 ?_
   obtain ⟨h68, h⟩ := chk_some h
   refine ot_sp (y_ixr 1077 67 eTBlockFragment h68) ?_
   refine ot_sp (y_ldr 60 0 eTBlockFragment xTBlockFragment (inb_spec h68).2 (xTBlockFragment_eq)) ?_
   refine ot_end ?_
   obtain ⟨v62, h69, h⟩ := bind_some h
   have h69 := Option.some.inj h69
   obtain ⟨v63, h70, h⟩ := bind_some h
   have h70 := Option.some.inj h70
   refine ve_go (ks' := [.c (cat Try.f55 p55_12), .c (cat Try.f55 p55_5), .b 4, .c (cat Try.f55 p55_6), k55_2 M w0 r m2, .b 3, .c (cat Try.f55 p55_0)]) 7 ⟨[(4,.ptr 4 0),(6,.ptr 6 0),(8,.ptr 8 0),(9,.bool v5),(11,.ptr 11 0),(22,.int .i64 v28),(24,.int .i64 v59),(25,.ptr 25 0),(269,.bool v5)],[(4,eTBlockSizes v2),(6,List.set (xTBlockFragment zTBlockFragment) 66 (.nils)),(8,List.set (xTBlockFragment (⟨1, v1.Node, v2.Margin.a3, 0, v4, v60, 0, ⟨#[]⟩, v1.Style, v37, v38, v39, []⟩ : TBlockFragment)) 66 (.ref 278)),(11,List.set (eTKnapsackref17Placed (⟨[], v14, v15, v16, v17⟩ : TKnapsackref17Placed)) 0 (.ref 1077)),(25,xTBlockFragment ({ (List.getD v18 (v59).toNat default) with X := v62, Y := v63 } : TBlockFragment))],[(278,⟨60,67,List.map eTBlockFragment v61⟩),(1077,⟨60,67,List.map eTBlockFragment v18⟩)],[4,6,8,11,25,278,1077]⟩ ?_ (by subst h70; subst h69; kernel_rfl)
   rcases ite_some h with ⟨h71, h⟩ | ⟨h71, h⟩
   ·
    refine ve_sb 269 h71 ?_
    refine ve_un (ks' := [.c (cat Try.f55 p55_13), .c (cat Try.f55 p55_5), .b 4, .c (cat Try.f55 p55_6), k55_2 M w0 r m2, .b 3, .c (cat Try.f55 p55_0)]) 1 ?_
    refine ve_in 3 ?_
    obtain ⟨v64, h72, h⟩ := bind_some h
    refine ot_cl (g_ref17_Moved_ok hK h72) ?_
    refine ot_end ?_
    exact ve_arr 0 (g_ref17_finish_j12_ok hK hL2 h)
   ·
    refine ve_sb 269 h71 ?_
    exact ve_arr 2 (g_ref17_finish_j12_ok hK hL2 h)
  ·
   refine ve_sb 237 h67 ?_
   refine ve_rt 8 ?_
   have hr := Option.some.inj h
   subst hr
   exact ve_o1
theorem g_ref17_finish_l13_ok (hK : KnOk K) (m : Nat) : H55_2 M w0 r v1 v2 v4 v5 v14 v15 v16 v17 v18 v28 v37 v38 v39 m (g_ref17_finish_l13 K n v1 v2 v4 v5 v14 v15 v16 v17 v18 v28 v37 v38 v39 m) := by
  induction m with
 | zero => intro v59 v60 v61 h; cases h
 | succ m ih => intro v59 v60 v61 h; have h : g_ref17_finish_l13_b K n v1 v2 v4 v5 v14 v15 v16 v17 v18 v28 v37 v38 v39 (g_ref17_finish_l13 K n v1 v2 v4 v5 v14 v15 v16 v17 v18 v28 v37 v38 v39 m) v59 v60 v61 = some r := h; exact lp_round (g_ref17_finish_l13_b_ok hK ih h)
theorem g_ref17_finish_j11_ok (hK : KnOk K) (h : g_ref17_finish_j11 K n v1 v2 v4 v5 v14 v15 v16 v17 v18 v28 v37 v38 v39 v40 = some r) : VE (cx55 M w0) (q55 M w0 r) [.c (cat Try.f55 p55_14)] .normal (s55_j11 v1 v2 v4 v5 v14 v15 v16 v17 v18 v28 v37 v38 v39 v40) := by
  unfold g_ref17_finish_j11 at h
  refine ve_un (ks' := [.c (cat Try.f55 p55_15), .b 3, .c (cat Try.f55 p55_0)]) 6 ?_
  refine ve_wo 278 8 66 60 67 ?_
  exact ve_arr 0 (lp_en (p := p55_15) n (g_ref17_finish_l13_ok hK n h))
theorem g_ref17_finish_j10_ok (hK : KnOk K) (h : g_ref17_finish_j10 K n v1 v2 v4 v5 v14 v15 v16 v17 v18 v19 v28 v36 v37 v38 v39 = some r) : VE (cx55 M w0) (q55 M w0 r) [.b 2, .c (cat Try.f55 p55_16)] .normal (s55_j10 v1 v2 v4 v5 v14 v15 v16 v17 v18 v19 v28 v36 v37 v38 v39) := by
  unfold g_ref17_finish_j10 at h
  refine ve_un (ks' := [.c (cat Try.f55 p55_17), .c (cat Try.f55 p55_14)]) 6 ?_
  rcases ite_some h with ⟨h42, h⟩ | ⟨h42, h⟩
  ·
   refine ve_sb 213 h42 ?_
   exact ve_arr 2 (g_ref17_finish_j11_ok hK h)
  ·
   refine ve_sb 213 h42 ?_
   exact ve_arr 2 (g_ref17_finish_j11_ok hK h)
theorem g_ref17_finish_j9_ok (hK : KnOk K) (h : g_ref17_finish_j9 K n v1 v2 v4 v5 v14 v15 v16 v17 v18 v19 v21 v22 v24 v28 v29 v33 = some r) : VE (cx55 M w0) (q55 M w0 r) [.c (cat Try.f55 p55_18), .b 2, .c (cat Try.f55 p55_16)] .normal (s55_j9 v1 v2 v4 v5 v14 v15 v16 v17 v18 v19 v21 v22 v24 v28 v29 v33) := by
  unfold g_ref17_finish_j9 at h
  rcases ite_some h with ⟨h37, h⟩ | ⟨h37, h⟩
  ·
   refine ve_sb 186 h37 ?_
   refine ve_un (ks' := [.c (cat Try.f55 p55_19), .c (cat Try.f55 p55_20), .b 2, .c (cat Try.f55 p55_16)]) 2 ?_
   refine ve_in 3 ?_
   obtain ⟨v34, h38, h⟩ := bind_some h
   refine ot_cl (g_ref17_Join_ok hK h38) ?_
   refine ot_end ?_
   exact ve_arr 3 (g_ref17_finish_j10_ok hK h)
  ·
   refine ve_sb 186 h37 ?_
   refine ve_un (ks' := [.c (cat Try.f55 p55_21), .b 2, .c (cat Try.f55 p55_16)]) 3 ?_
   rcases ite_some h with ⟨h39, h⟩ | ⟨h39, h⟩
   ·
    refine ve_sb 200 h39 ?_
    refine ve_un (ks' := [.c (cat Try.f55 p55_22), .b 2, .c (cat Try.f55 p55_16)]) 1 ?_
    refine ve_in 3 ?_
    obtain ⟨v35, h40, h⟩ := bind_some h
    refine ot_cl (g_ref17_Join_ok hK h40) ?_
    refine ot_end ?_
    exact ve_arr 0 (g_ref17_finish_j10_ok hK h)
   ·
    refine ve_sb 200 h39 ?_
    refine ve_un (ks' := [.c (cat Try.f55 p55_23), .b 2, .c (cat Try.f55 p55_16)]) 3 ?_
    rcases ite_some h with ⟨h41, h⟩ | ⟨h41, h⟩
    ·
     refine ve_sb 207 h41 ?_
     exact ve_arr 2 (g_ref17_finish_j10_ok hK h)
    ·
     refine ve_sb 207 h41 ?_
     exact ve_arr 2 (g_ref17_finish_j10_ok hK h)
theorem g_ref17_finish_j8_ok (hK : KnOk K) (h : g_ref17_finish_j8 K n v1 v2 v4 v5 v14 v15 v16 v17 v18 v19 v21 v22 v24 v28 v29 v30 = some r) : VE (cx55 M w0) (q55 M w0 r) [.c (cat Try.f55 p55_24), .b 2, .c (cat Try.f55 p55_16)] .normal (s55_j8 v1 v2 v4 v5 v14 v15 v16 v17 v18 v19 v21 v22 v24 v28 v29 v30) := by
  unfold g_ref17_finish_j8 at h
  rcases ite_some h with ⟨h32, h⟩ | ⟨h32, h⟩
  ·
   refine ve_sb 158 h32 ?_
   refine ve_un (ks' := [.c (cat Try.f55 p55_25), .c (cat Try.f55 p55_26), .b 2, .c (cat Try.f55 p55_16)]) 2 ?_
   refine ve_in 3 ?_
   obtain ⟨v31, h33, h⟩ := bind_some h
   refine ot_cl (g_ref17_Join_ok hK h33) ?_
   refine ot_end ?_
   exact ve_arr 1 (g_ref17_finish_j10_ok hK h)
  ·
   refine ve_sb 158 h32 ?_
   refine ve_un (ks' := [.c (cat Try.f55 p55_27), .b 2, .c (cat Try.f55 p55_16)]) 3 ?_
   rcases ite_some h with ⟨h34, h⟩ | ⟨h34, h⟩
   ·
    refine ve_sb 174 h34 ?_
    refine ve_un (ks' := [.c (cat Try.f55 p55_28), .b 2, .c (cat Try.f55 p55_16)]) 1 ?_
    refine ve_pk [4, 6, 8, 9, 11, 16, 17, 22] [4, 6, 8, 11] [1077] ?_
    obtain ⟨v32, h35, h⟩ := bind_some h
    refine ve_dr 1 [(178, .int .i64 v28), (179, .ptr 11 1), (180, .int .i64 v14), (181, .int .i64 (w64 (v28 + v14))), (182, .ptr 11 4), (183, .agg (eTBlockMargin v16)), (184, .int .i64 v32), (185, .int .i64 (w64 ((w64 (v28 + v14)) + v32)))] [] [] [stp Try.prog 281 Try.f55 p55_28 8] (d_vs [.v 0 1, .v 0 1, .v 0 1, .v 0 1, .v 0 1, .v 0 1] (d_c1 (e_c 0 1 184 (g_ref17_Size_ok hK h35)) (d_vs [.v 0 1] (d_c1 (e_d 0) (d_nl))))) ?_
    exact ve_arr 0 (g_ref17_finish_j10_ok hK h)
   ·
    refine ve_sb 174 h34 ?_
    refine ve_un (ks' := [.c (cat Try.f55 p55_29), .c (cat Try.f55 p55_18), .b 2, .c (cat Try.f55 p55_16)]) 2 ?_
    refine ve_in 2 ?_
    rcases ite_some h with ⟨h36, h⟩ | ⟨h36, h⟩
    ·
     refine ot_sb 188 h36 ?_
     refine ot_end ?_
     exact ve_arr 0 (g_ref17_finish_j9_ok hK h)
    ·
     refine ot_sb 188 h36 ?_
     refine ot_end ?_
     exact ve_arr 0 (g_ref17_finish_j9_ok hK h)
theorem g_ref17_finish_j7_ok (hK : KnOk K) (h : g_ref17_finish_j7 K n v1 v2 v4 v5 v14 v15 v16 v17 v18 v19 v21 v22 v24 v28 v29 = some r) : VE (cx55 M w0) (q55 M w0 r) [.c (cat Try.f55 p55_30)] .normal (s55_j7 v1 v2 v4 v5 v14 v15 v16 v17 v18 v19 v21 v22 v24 v28 v29) := by
  unfold g_ref17_finish_j7 at h
  refine ve_un (ks' := [.c (cat Try.f55 p55_31), .c (cat Try.f55 p55_24), .b 2, .c (cat Try.f55 p55_16)]) 3 ?_
  refine ve_in 4 ?_
  rcases ite_some h with ⟨h31, h⟩ | ⟨h31, h⟩
  ·
   refine ot_sb 162 h31 ?_
   refine ot_end ?_
   exact ve_arr 0 (g_ref17_finish_j8_ok hK h)
  ·
   refine ot_sb 162 h31 ?_
   refine ot_end ?_
   exact ve_arr 0 (g_ref17_finish_j8_ok hK h)
theorem g_ref17_finish_j6_ok (hK : KnOk K) (h : g_ref17_finish_j6 K n v1 v2 v4 v5 v14 v15 v16 v17 v18 v19 v21 v22 v23 v24 v26 = some r) : VE (cx55 M w0) (q55 M w0 r) [.c (cat Try.f55 p55_32), .c (cat Try.f55 p55_30)] .normal (s55_j6 v1 v2 v4 v5 v14 v15 v16 v17 v18 v19 v21 v22 v23 v24 v26) := by
  unfold g_ref17_finish_j6 at h
  rcases ite_some h with ⟨h29, h⟩ | ⟨h29, h⟩
  ·
   refine ve_sb 154 h29 ?_
   refine ve_un (ks' := [.c (cat Try.f55 p55_33), .c (cat Try.f55 p55_30)]) 1 ?_
   refine ve_in 2 ?_
   obtain ⟨v27, h30, h⟩ := bind_some h
   refine ot_cl (g_ref17_Size_ok hK h30) ?_
   refine ot_end ?_
   exact ve_arr 0 (g_ref17_finish_j7_ok hK h)
  ·
   refine ve_sb 154 h29 ?_
   exact ve_arr 2 (g_ref17_finish_j7_ok hK h)
theorem g_ref17_finish_j5_ok (hK : KnOk K) (h : g_ref17_finish_j5 K n v1 v2 v4 v5 v14 v15 v16 v17 v18 v19 v21 v22 = some r) : VE (cx55 M w0) (q55 M w0 r) [.c (cat Try.f55 p55_34)] .normal (s55_j5 v1 v2 v4 v5 v14 v15 v16 v17 v18 v19 v21 v22) := by
  unfold g_ref17_finish_j5 at h
  refine ve_un (ks' := [.c (cat Try.f55 p55_35), .c (cat Try.f55 p55_36)]) 1 ?_
  refine ve_in 3 ?_
  obtain ⟨v23, h24, h⟩ := bind_some h
  refine ot_cl (g_ref17_Of_ok hK h24) ?_
  refine ot_end ?_
  refine ve_un (ks' := [.c (cat Try.f55 p55_37), .c (cat Try.f55 p55_38)]) 1 ?_
  refine ve_in 3 ?_
  obtain ⟨v24, h25, h⟩ := bind_some h
  refine ot_cl (g_ref17_Of_ok hK h25) ?_
  refine ot_end ?_
  refine ve_un (ks' := [.c (cat Try.f55 p55_39), .c (cat Try.f55 p55_30)]) 11 ?_
  rcases ite_some h with ⟨h26, h⟩ | ⟨h26, h⟩
  ·
   refine ve_sb 142 h26 ?_
   refine ve_un (ks' := [.c (cat Try.f55 p55_40), .c (cat Try.f55 p55_30)]) 1 ?_
   refine ve_in 3 ?_
   obtain ⟨v25, h27, h⟩ := bind_some h
   refine ot_cl (g_ref17_Join_ok hK h27) ?_
   refine ot_end ?_
   exact ve_arr 0 (g_ref17_finish_j7_ok hK h)
  ·
   refine ve_sb 142 h26 ?_
   refine ve_un (ks' := [.c (cat Try.f55 p55_41), .c (cat Try.f55 p55_32), .c (cat Try.f55 p55_30)]) 2 ?_
   refine ve_in 4 ?_
   rcases ite_some h with ⟨h28, h⟩ | ⟨h28, h⟩
   ·
    refine ot_sb 151 h28 ?_
    refine ot_end ?_
    exact ve_arr 0 (g_ref17_finish_j6_ok hK h)
   ·
    refine ot_sb 151 h28 ?_
    refine ot_end ?_
    exact ve_arr 0 (g_ref17_finish_j6_ok hK h)
theorem g_ref17_finish_j4_ok (hK : KnOk K) (h : g_ref17_finish_j4 K n v1 v2 v4 v5 v14 v15 v16 v17 v18 v19 v20 v21 = some r) : VE (cx55 M w0) (q55 M w0 r) [.c (cat Try.f55 p55_42)] .normal (s55_j4 v1 v2 v4 v5 v14 v15 v16 v17 v18 v19 v20 v21) := by
  unfold g_ref17_finish_j4 at h
  refine ve_un (ks' := [.c (cat Try.f55 p55_43), .c (cat Try.f55 p55_34)]) 1 ?_
  refine ve_in 2 ?_
  rcases ite_some h with ⟨h22, h⟩ | ⟨h22, h⟩
  ·
   refine ot_sb 116 h22 ?_
   refine ot_go 12 10 ?_
   rcases ite_some h with ⟨h23, h⟩ | ⟨h23, h⟩
   ·
    refine ot_sb 126 h23 ?_
    refine ot_end ?_
    exact ve_arr 0 (g_ref17_finish_j5_ok hK h)
   ·
    refine ot_sb 126 h23 ?_
    refine ot_end ?_
    exact ve_arr 0 (g_ref17_finish_j5_ok hK h)
  ·
   refine ot_sb 116 h22 ?_
   refine ot_end ?_
   exact ve_arr 0 (g_ref17_finish_j5_ok hK h)
theorem g_ref17_finish_j3_ok (hK : KnOk K) (h : g_ref17_finish_j3 K n v1 v2 v4 v5 v14 v15 v16 v17 v18 v19 v20 = some r) : VE (cx55 M w0) (q55 M w0 r) [.c (cat Try.f55 p55_44)] .normal (s55_j3 v1 v2 v4 v5 v14 v15 v16 v17 v18 v19 v20) := by
  unfold g_ref17_finish_j3 at h
  refine ve_un (ks' := [.c (cat Try.f55 p55_45), .c (cat Try.f55 p55_42)]) 1 ?_
  refine ve_in 2 ?_
  rcases ite_some h with ⟨h21, h⟩ | ⟨h21, h⟩
  ·
   refine ot_sb 105 h21 ?_
   refine ot_end ?_
   exact ve_arr 0 (g_ref17_finish_j4_ok hK h)
  ·
   refine ot_sb 105 h21 ?_
   refine ot_end ?_
   exact ve_arr 0 (g_ref17_finish_j4_ok hK h)
theorem g_ref17_finish_j2_ok (hK : KnOk K) (h : g_ref17_finish_j2 K n v1 v2 v3 v4 v5 v14 v15 v16 v17 v18 = some r) : VE (cx55 M w0) (q55 M w0 r) [.c (cat Try.f55 p55_3)] .normal (s55_j2 v1 v2 v3 v4 v5 v14 v15 v16 v17 v18) := by
  unfold g_ref17_finish_j2 at h
  refine ve_un (ks' := [.c (cat Try.f55 p55_46), .c (cat Try.f55 p55_47)]) 1 ?_
  refine ve_in 2 ?_
  obtain ⟨v19, h19, h⟩ := bind_some h
  refine ot_cl (g_ref17_pixels_ok hK h19) ?_
  refine ot_end ?_
  refine ve_un (ks' := [.c (cat Try.f55 p55_48), .c (cat Try.f55 p55_44)]) 1 ?_
  refine ve_in 2 ?_
  rcases ite_some h with ⟨h20, h⟩ | ⟨h20, h⟩
  ·
   refine ot_sb 99 h20 ?_
   refine ot_end ?_
   exact ve_arr 0 (g_ref17_finish_j3_ok hK h)
  ·
   refine ot_sb 99 h20 ?_
   refine ot_end ?_
   exact ve_arr 0 (g_ref17_finish_j3_ok hK h)
theorem g_ref17_finish_l1_b_ok (hK : KnOk K) (hL1 : H55_1 M w0 r v1 v2 v3 v4 v5 v6 m1 L1) (h : g_ref17_finish_l1_b K n v1 v2 v3 v4 v5 v6 L1 v9 v10 = some r) : VE (cx55 M w0) (q55 M w0 r) [.c (cat Try.f55 p55_4), k55_1 M w0 r m1, .b 0, .c (cat Try.f55 p55_2), .c (cat Try.f55 p55_3)] .normal (s55_l1 v1 v2 v3 v4 v5 v6 v9 v10) := by
  unfold g_ref17_finish_l1_b at h
  refine ve_un (ks' := [.c (cat Try.f55 p55_49), .c (cat Try.f55 p55_50), .c (cat Try.f55 p55_51), k55_1 M w0 r m1, .b 0, .c (cat Try.f55 p55_2), .c (cat Try.f55 p55_3)]) 2 ?_
  refine ve_in 2 ?_
  refine ot_sp (y_len eTBoxtreeBox v6) ?_
  refine ot_end ?_
  rcases ite_some h with ⟨h13, h⟩ | ⟨h13, h⟩
  ·
   refine ve_sb 63 h13 ?_
   refine ve_un (ks' := [.c (cat Try.f55 p55_52), .b 1, .c (cat Try.f55 p55_53), k55_1 M w0 r m1, .b 0, .c (cat Try.f55 p55_2), .c (cat Try.f55 p55_3)]) 4 ?_
   refine ve_pk [2, 4, 6, 7, 8, 9, 10, 11, 12, 13] [4, 6, 7, 8, 11] [75, 1057] ?_
   obtain ⟨h14, h⟩ := chk_some h
   obtain ⟨v11, h15, h⟩ := bind_some h
   obtain ⟨h16, h⟩ := chk_some h
   refine ve_dr 2 [(66, .ref 75), (67, .ref 1057), (68, .int .i64 v9), (69, .eptr 1057 59 ((v9).toNat) 0), (70, .agg (xTBoxtreeBox (List.getD v6 (v9).toNat default))), (71, .ptr 4 12), (72, .int .i64 v2.Content), (73, .agg (xTBlockFragment v11)), (74, .sl (List.map eTBlockFragment [v11]))] [] [] [appS 75 75 ⟨60, 67, List.map eTBlockFragment (v10 ++ [v11])⟩, stp Try.prog 281 Try.f55 p55_52 10] (d_vs [.v 0 1, .v 0 2, .v 0 2] (d_c1 (k_v (lo := 0) (k := 2) (kallS ⟨(by kernel_rfl), (aop_eq (y_ixr 1057 59 eTBoxtreeBox (L := v6) (i := v9) (by first | exact h14 | exact Eq.trans (by simp only [List.length_set]) h14)) (by kernel_rfl))⟩ (kallS ⟨(by kernel_rfl), (aop_eq (y_ixr 1057 59 eTBoxtreeBox (L := v6) (i := v9) (by first | exact h14 | exact Eq.trans (by simp only [List.length_set]) h14)) (by kernel_rfl))⟩ (kall0)))) (d_c1 (k_v (lo := 0) (k := 2) (kallS ⟨(by kernel_rfl), (aop_eq (y_ldr 63 0 eTBoxtreeBox xTBoxtreeBox (inb_spec h14).2 (xTBoxtreeBox_eq)) (by kernel_rfl))⟩ (kallS ⟨(by kernel_rfl), (aop_eq (y_ldr 63 0 eTBoxtreeBox xTBoxtreeBox (inb_spec h14).2 (xTBoxtreeBox_eq)) (by kernel_rfl))⟩ (kall0)))) (d_vs [.v 0 2, .v 0 2] (d_c1 (e_c 0 1 73 (hK.k_g_ref17_Layout h15)) (d_c1 (e_v (lo := 0) (y_bsl eTBlockFragment ([v11] : List TBlockFragment) (new := [xTBlockFragment v11]) (by simp only [List.map_cons, List.map_nil, xTBlockFragment_eq]))) (d_c1 (e_s (m := 0) (y_app 75 75 60 67 eTBlockFragment (rfl) (eTBlockFragment_len) h16)) (d_c1 (e_d 1) (d_nl))))))))) ?_
   exact ve_arr 2 (lp_back (hL1 h))
  ·
   refine ve_sb 63 h13 ?_
   refine ve_un (ks' := [.c (cat Try.f55 p55_2), .c (cat Try.f55 p55_3)]) 5 ?_
   refine ve_in 1 ?_
   refine ot_f 75 ?_
   obtain ⟨v12, h17, h⟩ := bind_some h
   refine ot_co 1077 (g_ref17_Stack_ok hK h17) (one_agg (i := 0) (by kernel_rfl)) ?_
   refine ot_end ?_
   exact ve_arr 0 (g_ref17_finish_j2_ok hK h)
theorem g_ref17_finish_l1_ok (hK : KnOk K) (m : Nat) : H55_1 M w0 r v1 v2 v3 v4 v5 v6 m (g_ref17_finish_l1 K n v1 v2 v3 v4 v5 v6 m) := by
  induction m with
 | zero => intro v9 v10 h; cases h
 | succ m ih => intro v9 v10 h; have h : g_ref17_finish_l1_b K n v1 v2 v3 v4 v5 v6 (g_ref17_finish_l1 K n v1 v2 v3 v4 v5 v6 m) v9 v10 = some r := h; exact lp_round (g_ref17_finish_l1_b_ok hK ih h)
theorem g_ref17_finish_ok (hK : KnOk K) (h : g_ref17_finish K n v1 v2 v3 = some r) : ACalls Try.prog 55 [.agg (xTBoxtreeBox v1), .agg (eTBlockSizes v2), .bool v3] (fun v s => v = .agg (List.set (xTBlockFragment ({ r with Kids := [] } : TBlockFragment)) 66 (.ref 278)) ∧ look 278 s.r = some ⟨60, 67, List.map eTBlockFragment r.Kids⟩) := by
  refine acalls_intro (c := cat Try.f55 []) Try.func55 (by kernel_rfl) _ Try.ntmps55 (of_decide_eq_true (by kernel_rfl)) fun M w0 => ?_
  refine ve_cast (s' := ⟨[(0,.agg (xTBoxtreeBox v1)),(1,.agg (eTBlockSizes v2)),(2,.bool v3)],[],[],[]⟩) (by kernel_rfl) ?_
  unfold g_ref17_finish at h
  obtain ⟨v4, h1, h⟩ := bind_some h
  have h1 := Option.some.inj h1
  refine ve_go (ks' := [.c (cat Try.f55 p55_54), .c (cat Try.f55 p55_55)]) 9 ⟨[(2,.bool v3),(3,.ptr 3 0),(4,.ptr 4 0),(6,.ptr 6 0),(7,.ptr 7 0),(8,.ptr 8 0)],[(3,xTBoxtreeBox v1),(4,eTBlockSizes v2),(6,List.set (xTBlockFragment zTBlockFragment) 66 (.nils)),(7,eTCascadeStyle v1.Style),(8,List.set (xTBlockFragment ({ zTBlockFragment with Kind := 1, Node := v1.Node, X := v2.Margin.a3, W := v4, Style := v1.Style } : TBlockFragment)) 66 (.nils))],[],[3,4,6,7,8]⟩ ?_ (by subst h1; kernel_rfl)
  refine ve_in 1 ?_
  obtain ⟨v5, h2, h⟩ := bind_some h
  refine ot_cl (g_ref17_outer_ok hK h2) ?_
  refine ot_end ?_
  refine ve_un (ks' := [.c (cat Try.f55 p55_56), .c (cat Try.f55 p55_57)]) 1 ?_
  refine ve_in 1 ?_
  obtain ⟨v6, h3, h⟩ := bind_some h
  refine ot_co 1057 (g_ref17_Inside_ok hK h3) (one_ref 25) ?_
  refine ot_end ?_
  refine ve_un (ks' := [.c (cat Try.f55 p55_58), .c (cat Try.f55 p55_3)]) 5 ?_
  rcases ite_some h with ⟨h4, h⟩ | ⟨h4, h⟩
  ·
   refine ve_sb 59 h4 ?_
   refine ve_un (ks' := [.c (cat Try.f55 p55_59), .b 0, .c (cat Try.f55 p55_2), .c (cat Try.f55 p55_3)]) 7 ?_
   refine ve_w 75 12 60 67 ?_
   exact ve_arr 0 (lp_en (p := p55_59) n (g_ref17_finish_l1_ok hK n h))
  ·
   refine ve_sb 59 h4 ?_
   refine ve_un (ks' := [.c (cat Try.f55 p55_60), .c (cat Try.f55 p55_61), .c (cat Try.f55 p55_3)]) 2 ?_
   refine ve_in 4 ?_
   refine ot_f 1057 ?_
   obtain ⟨v13, h18, h⟩ := bind_some h
   refine ot_co 1083 (g_ref17_Lines_ok hK h18) (one_tup (i := 0) rfl) ?_
   refine ot_end ?_
   refine ve_in 3 ?_
   refine ot_sp (y_len eTBlockFragment v13.1) ?_
   refine ot_end ?_
   refine ve_m 1083 1077 ?_
   exact ve_arr 0 (g_ref17_finish_j2_ok hK h)
end


noncomputable section
abbrev cx36 (M : Nat → Prop) (w0 : World) : Cx := ⟨Try.prog, 11, M, w0⟩
abbrev q36 (M : Nat → Prop) (w0 : World) (r : TBlockFragment) := bodyPost Try.prog Try.f36 (RetQ M w0 (fun v s => v = .agg (List.set (xTBlockFragment ({ r with Kids := [] } : TBlockFragment)) 66 (.ref 10)) ∧ look 10 s.r = some ⟨60, 67, List.map eTBlockFragment r.Kids⟩))
variable {K : Kn} {n : Nat} {M : Nat → Prop} {w0 : World} {r : TBlockFragment} {v1 : TBoxtreeBox} {v2 : Int} 
theorem g_ref17_Layout_ok (hK : KnOk K) (h : g_ref17_Layout K n v1 v2 = some r) : ACalls Try.prog 36 [.agg (xTBoxtreeBox v1), .int .i64 v2] (fun v s => v = .agg (List.set (xTBlockFragment ({ r with Kids := [] } : TBlockFragment)) 66 (.ref 10)) ∧ look 10 s.r = some ⟨60, 67, List.map eTBlockFragment r.Kids⟩) := by
  refine acalls_intro (c := cat Try.f36 []) Try.func36 (by kernel_rfl) _ Try.ntmps36 (of_decide_eq_true (by kernel_rfl)) fun M w0 => ?_
  refine ve_cast (s' := ⟨[(0,.agg (xTBoxtreeBox v1)),(1,.int .i64 v2)],[],[],[]⟩) (by kernel_rfl) ?_
  unfold g_ref17_Layout at h
  refine ve_un (ks' := [.c (cat Try.f36 [1, 0]), .c (cat Try.f36 [1, 1])]) 3 ?_
  refine ve_pk [1, 2, 4] [2, 4] [] ?_
  obtain ⟨v3, h1, h⟩ := bind_some h
  obtain ⟨v4, h2, h⟩ := bind_some h
  refine ve_dr 1 [(5, .agg (xTBoxtreeBox v1)), (6, .ptr 2 2), (7, .agg (eTCascadeStyle v1.Style)), (8, .int .i64 v2), (9, .agg (eTBlockSizes v3)), (10, .agg (List.set (xTBlockFragment ({ v4 with Kids := [] } : TBlockFragment)) 66 (.ref 10)))] [] [(10, ⟨60, 67, List.map eTBlockFragment v4.Kids⟩)] [stp Try.prog 11 Try.f36 [1, 0] 6] (d_vs [.v 0 1, .v 0 1, .v 0 1, .v 0 1] (d_c1 (e_c 0 1 9 (g_ref17_Used_ok hK h1)) (d_c1 (e_o 0 1 10 (g_ref17_finish_ok hK h2) (one_agg (i := 66) (by kernel_rfl))) (d_c1 (e_d 0) (d_nl))))) ?_
  refine ve_rt 1 ?_
  have hr := Option.some.inj h
  subst hr
  exact ve_o1
end

def p38_0 : List Nat := [1, 1, 0, 1, 0, 0]
def p38_1 : List Nat := [1, 1, 0, 1, 0, 0, 0, 0]
def p38_2 : List Nat := [1, 1, 0, 1, 0, 0, 0, 1]
def p38_3 : List Nat := [1, 1, 0, 1, 0, 0, 1]
def p38_4 : List Nat := [1, 1, 0, 1, 0, 0, 1, 0, 0, 0]
def p38_5 : List Nat := [1, 1, 0, 1, 0, 0, 1, 0, 0, 1]
def p38_6 : List Nat := [1, 1, 0, 1, 0, 0, 1, 1]
def p38_7 : List Nat := [1, 1, 0, 1, 0]
noncomputable section
abbrev cx38 (M : Nat → Prop) (w0 : World) : Cx := ⟨Try.prog, 116, M, w0⟩
abbrev q38 (M : Nat → Prop) (w0 : World) (r : Bool) := bodyPost Try.prog Try.f38 (RetQ M w0 (fun v _ => v = .bool r))
abbrev k38_1 (M : Nat → Prop) (w0 : World) (r : Bool) (m1 : Nat) : Kont := kl (cx38 M w0) (q38 M w0 r) [.b 0, .c (cat Try.f38 [1, 1, 1])] (cat Try.f38 p38_0) m1
def s38_l2 (v1 : TBlockFragment) (v2 : TBlockFragment) (v6 : Int) : AS := ⟨[(2,.ptr 2 0),(3,.ptr 3 0),(5,.int .i64 v6)],[(2,xTBlockFragment v1),(3,xTBlockFragment v2)],[],[2,3]⟩
def s38_j1 (v1 : TBlockFragment) (v2 : TBlockFragment) (v3 : Bool) : AS := ⟨[(2,.ptr 2 0),(3,.ptr 3 0),(96,.bool v3)],[(2,xTBlockFragment v1),(3,xTBlockFragment v2)],[],[2,3]⟩
abbrev H38_1 (M : Nat → Prop) (w0 : World) (r : Bool) (v1 : TBlockFragment) (v2 : TBlockFragment) (m1 : Nat) (L1 : Int → Option Bool) : Prop := ∀ {v6 : Int}, L1 v6 = some r → LP (cx38 M w0) (q38 M w0 r) [.b 0, .c (cat Try.f38 [1, 1, 1])] (cat Try.f38 p38_0) m1 (s38_l2 v1 v2 v6)
variable {K : Kn} {n : Nat} {M : Nat → Prop} {w0 : World} {r : Bool} {v1 : TBlockFragment} {v2 : TBlockFragment} {v3 : Bool} {v6 : Int} {m1 : Nat} {L1 : Int → Option Bool}
theorem g_ref17_Same_l2_b_ok (hK : KnOk K) (hL1 : H38_1 M w0 r v1 v2 m1 L1) (h : g_ref17_Same_l2_b K n v1 v2 L1 v6 = some r) : VE (cx38 M w0) (q38 M w0 r) [.c (cat Try.f38 p38_0), k38_1 M w0 r m1, .b 0, .c (cat Try.f38 [1, 1, 1])] .normal (s38_l2 v1 v2 v6) := by
  unfold g_ref17_Same_l2_b at h
  refine ve_un (ks' := [.c (cat Try.f38 p38_1), .c (cat Try.f38 p38_2), .c (cat Try.f38 p38_3), k38_1 M w0 r m1, .b 0, .c (cat Try.f38 [1, 1, 1])]) 2 ?_
  refine ve_in 3 ?_
  refine ot_sp (y_len eTBlockFragment v1.Kids) ?_
  refine ot_end ?_
  rcases ite_some h with ⟨h20, h⟩ | ⟨h20, h⟩
  ·
   refine ve_sb 101 h20 ?_
   refine ve_un (ks' := [.c (cat Try.f38 p38_4), .c (cat Try.f38 p38_5), .b 1, .c (cat Try.f38 p38_6), k38_1 M w0 r m1, .b 0, .c (cat Try.f38 [1, 1, 1])]) 5 ?_
   refine ve_pk [2, 3, 5] [2, 3] [] ?_
   obtain ⟨h21, h⟩ := chk_some h
   obtain ⟨h22, h⟩ := chk_some h
   obtain ⟨v7, h23, h⟩ := bind_some h
   refine ve_dr 0 [(104, .ptr 2 66), (105, .sl (List.map eTBlockFragment v1.Kids)), (106, .int .i64 v6), (107, .cptr (xTBlockFragment (List.getD v1.Kids (v6).toNat default))), (108, .agg (xTBlockFragment (List.getD v1.Kids (v6).toNat default))), (109, .ptr 3 66), (110, .sl (List.map eTBlockFragment v2.Kids)), (111, .int .i64 v6), (112, .cptr (xTBlockFragment (List.getD v2.Kids (v6).toNat default))), (113, .agg (xTBlockFragment (List.getD v2.Kids (v6).toNat default))), (114, .bool v7), (115, .bool (!v7))] [] [] [] (d_vs [.v 0 1, .v 0 1, .v 0 1] (d_c1 (e_v (lo := 0) (y_ixs eTBlockFragment xTBlockFragment h21 (eTBlockFragment_len) (xTBlockFragment_eq))) (d_vs [.v 0 1, .v 0 1, .v 0 1, .v 0 1] (d_c1 (e_v (lo := 0) (y_ixs eTBlockFragment xTBlockFragment h22 (eTBlockFragment_len) (xTBlockFragment_eq))) (d_vs [.v 0 1] (d_c1 (e_c 0 1 114 (hK.k_g_ref17_Same h23)) (d_vs [.v 0 1] (d_nl)))))))) ?_
   rcases ite_some h with ⟨h24, h⟩ | ⟨h24, h⟩
   ·
    refine ve_sb 115 h24 ?_
    refine ve_rt 9 ?_
    have hr := Option.some.inj h
    subst hr
    exact ve_d1
   ·
    refine ve_sb 115 h24 ?_
    exact ve_arr 4 (lp_back (hL1 h))
  ·
   refine ve_sb 101 h20 ?_
   refine ve_rt 8 ?_
   have hr := Option.some.inj h
   subst hr
   exact ve_d1
theorem g_ref17_Same_l2_ok (hK : KnOk K) (m : Nat) : H38_1 M w0 r v1 v2 m (g_ref17_Same_l2 K n v1 v2 m) := by
  induction m with
 | zero => intro v6 h; cases h
 | succ m ih => intro v6 h; have h : g_ref17_Same_l2_b K n v1 v2 (g_ref17_Same_l2 K n v1 v2 m) v6 = some r := h; exact lp_round (g_ref17_Same_l2_b_ok hK ih h)
theorem g_ref17_Same_j1_ok (hK : KnOk K) (h : g_ref17_Same_j1 K n v1 v2 v3 = some r) : VE (cx38 M w0) (q38 M w0 r) [.c (cat Try.f38 [1, 0, 1]), .c (cat Try.f38 [1, 1])] .normal (s38_j1 v1 v2 v3) := by
  unfold g_ref17_Same_j1 at h
  rcases ite_some h with ⟨h13, h⟩ | ⟨h13, h⟩
  ·
   refine ve_sb 96 h13 ?_
   refine ve_rt 5 ?_
   have hr := Option.some.inj h
   subst hr
   exact ve_d1
  ·
   refine ve_sb 96 h13 ?_
   exact ve_arr 6 (lp_en (p := p38_7) n (g_ref17_Same_l2_ok hK n h))
theorem g_ref17_Same_ok (hK : KnOk K) (h : g_ref17_Same K n v1 v2 = some r) : ACalls Try.prog 38 [.agg (xTBlockFragment v1), .agg (xTBlockFragment v2)] (fun v _ => v = .bool r) := by
  refine acalls_intro (c := cat Try.f38 []) Try.func38 (by kernel_rfl) _ Try.ntmps38 (of_decide_eq_true (by kernel_rfl)) fun M w0 => ?_
  refine ve_cast (s' := ⟨[(0,.agg (xTBlockFragment v1)),(1,.agg (xTBlockFragment v2))],[],[],[]⟩) (by kernel_rfl) ?_
  unfold g_ref17_Same at h
  refine ve_un (ks' := [.c (cat Try.f38 [1, 0, 0]), .c (cat Try.f38 [1, 0, 1]), .c (cat Try.f38 [1, 1])]) 4 ?_
  refine ve_in 6 ?_
  rcases ite_some h with ⟨h1, h⟩ | ⟨h1, h⟩
  ·
   refine ot_sb 11 h1 ?_
   refine ot_end ?_
   exact ve_arr 0 (g_ref17_Same_j1_ok hK h)
  ·
   refine ot_sb 11 h1 ?_
   refine ot_go 13 7 ?_
   rcases ite_some h with ⟨h2, h⟩ | ⟨h2, h⟩
   ·
    refine ot_sb 18 h2 ?_
    refine ot_end ?_
    exact ve_arr 0 (g_ref17_Same_j1_ok hK h)
   ·
    refine ot_sb 18 h2 ?_
    refine ot_go 20 7 ?_
    rcases ite_some h with ⟨h3, h⟩ | ⟨h3, h⟩
    ·
     refine ot_sb 25 h3 ?_
     refine ot_end ?_
     exact ve_arr 0 (g_ref17_Same_j1_ok hK h)
    ·
     refine ot_sb 25 h3 ?_
     refine ot_go 27 7 ?_
     rcases ite_some h with ⟨h4, h⟩ | ⟨h4, h⟩
     ·
      refine ot_sb 32 h4 ?_
      refine ot_end ?_
      exact ve_arr 0 (g_ref17_Same_j1_ok hK h)
     ·
      refine ot_sb 32 h4 ?_
      refine ot_go 34 7 ?_
      rcases ite_some h with ⟨h5, h⟩ | ⟨h5, h⟩
      ·
       refine ot_sb 39 h5 ?_
       refine ot_end ?_
       exact ve_arr 0 (g_ref17_Same_j1_ok hK h)
      ·
       refine ot_sb 39 h5 ?_
       refine ot_go 41 7 ?_
       rcases ite_some h with ⟨h6, h⟩ | ⟨h6, h⟩
       ·
        refine ot_sb 46 h6 ?_
        refine ot_end ?_
        exact ve_arr 0 (g_ref17_Same_j1_ok hK h)
       ·
        refine ot_sb 46 h6 ?_
        refine ot_go 48 7 ?_
        rcases ite_some h with ⟨h7, h⟩ | ⟨h7, h⟩
        ·
         refine ot_sb 53 h7 ?_
         refine ot_end ?_
         exact ve_arr 0 (g_ref17_Same_j1_ok hK h)
        ·
         refine ot_sb 53 h7 ?_
         refine ot_go 55 7 ?_
         rcases ite_some h with ⟨h8, h⟩ | ⟨h8, h⟩
         ·
          refine ot_sb 60 h8 ?_
          refine ot_end ?_
          exact ve_arr 0 (g_ref17_Same_j1_ok hK h)
         ·
          refine ot_sb 60 h8 ?_
          refine ot_go 62 7 ?_
          rcases ite_some h with ⟨h9, h⟩ | ⟨h9, h⟩
          ·
           refine ot_sb 67 h9 ?_
           refine ot_end ?_
           exact ve_arr 0 (g_ref17_Same_j1_ok hK h)
          ·
           refine ot_sb 67 h9 ?_
           refine ot_go 69 7 ?_
           rcases ite_some h with ⟨h10, h⟩ | ⟨h10, h⟩
           ·
            refine ot_sb 74 h10 ?_
            refine ot_end ?_
            exact ve_arr 0 (g_ref17_Same_j1_ok hK h)
           ·
            refine ot_sb 74 h10 ?_
            refine ot_go 76 7 ?_
            rcases ite_some h with ⟨h11, h⟩ | ⟨h11, h⟩
            ·
             refine ot_sb 81 h11 ?_
             refine ot_end ?_
             exact ve_arr 0 (g_ref17_Same_j1_ok hK h)
            ·
             refine ot_sb 81 h11 ?_
             refine ot_go 83 7 ?_
             rcases ite_some h with ⟨h12, h⟩ | ⟨h12, h⟩
             ·
              refine ot_sb 88 h12 ?_
              refine ot_end ?_
              exact ve_arr 0 (g_ref17_Same_j1_ok hK h)
             ·
              refine ot_sb 88 h12 ?_
              refine ot_go 85 2 ?_
              refine ot_sp (y_len eTBlockFragment v1.Kids) ?_
              refine ot_go 88 2 ?_
              refine ot_sp (y_len eTBlockFragment v2.Kids) ?_
              refine ot_end ?_
              exact ve_arr 0 (g_ref17_Same_j1_ok hK h)
end

def p37_0 : List Nat := ones 5 []
def p37_1 : List Nat := [1, 1, 1, 1, 0, 1]
def p37_2 : List Nat := [1, 1, 1, 1, 0, 1, 0, 0]
def p37_3 : List Nat := [1, 1, 1, 1, 0, 1, 0, 1]
noncomputable section
abbrev cx37 (M : Nat → Prop) (w0 : World) : Cx := ⟨Try.prog, 45, M, w0⟩
abbrev q37 (M : Nat → Prop) (w0 : World) (r : TBlockFragment) := bodyPost Try.prog Try.f37 (RetQ M w0 (fun v _ => v = .agg (xTBlockFragment r)))
def s37_j1 (v1 : TBlockFragment) (v3 : (Int × Bool)) (v5 : Int) : AS := ⟨[(2,.ptr 2 0),(4,.ptr 4 0)],[(2,xTBlockFragment ({ v1 with X := (w64 (v1.X + v3.1)), Y := v5 } : TBlockFragment)),(4,List.set (xTBlockFragment zTBlockFragment) 66 (.nils))],[],[2,4]⟩
variable {K : Kn} {n : Nat} {M : Nat → Prop} {w0 : World} {r : TBlockFragment} {v1 : TBlockFragment} {v2 : Int} {v3 : (Int × Bool)} {v5 : Int} 
theorem g_block_Moved_j1_ok (hK : KnOk K) (h : g_block_Moved_j1 K n v1 v3 v5 = some r) : VE (cx37 M w0) (q37 M w0 r) [.c (cat Try.f37 p37_0)] .normal (s37_j1 v1 v3 v5) := by
  unfold g_block_Moved_j1 at h
  refine ve_rt 3 ?_
  have hr := Option.some.inj h
  subst hr
  exact ve_d1
theorem g_block_Moved_ok (hK : KnOk K) (h : g_block_Moved K n v1 v2 = some r) : ACalls Try.prog 37 [.agg (xTBlockFragment v1), .int .i64 v2] (fun v _ => v = .agg (xTBlockFragment r)) := by
  refine acalls_intro (c := cat Try.f37 []) Try.func37 (by kernel_rfl) _ Try.ntmps37 (of_decide_eq_true (by kernel_rfl)) fun M w0 => ?_
  refine ve_cast (s' := ⟨[(0,.agg (xTBlockFragment v1)),(1,.int .i64 v2)],[],[],[]⟩) (by kernel_rfl) ?_
  unfold g_block_Moved at h
  refine ve_un (ks' := [.c (cat Try.f37 [1, 0, 1]), .c (cat Try.f37 [1, 1])]) 5 ?_
  rcases ite_some h with ⟨h1, h⟩ | ⟨h1, h⟩
  ·
   refine ve_sb 12 h1 ?_
   refine ve_rt 5 ?_
   have hr := Option.some.inj h
   subst hr
   exact ve_d1
  ·
   refine ve_sb 12 h1 ?_
   refine ve_un (ks' := [.c (cat Try.f37 [1, 1, 0]), .c (cat Try.f37 [1, 1, 1])]) 3 ?_
   refine ve_in 4 ?_
   obtain ⟨v3, h2, h⟩ := bind_some h
   refine ot_cl (g_block_Length_ok hK h2) ?_
   refine ot_end ?_
   refine ve_un (ks' := [.c (cat Try.f37 p37_1), .c (cat Try.f37 p37_0)]) 5 ?_
   rcases ite_some h with ⟨h3, h⟩ | ⟨h3, h⟩
   ·
    refine ve_sb 31 h3 ?_
    refine ve_un (ks' := [.c (cat Try.f37 p37_2), .c (cat Try.f37 p37_3), .c (cat Try.f37 p37_0)]) 2 ?_
    refine ve_in 3 ?_
    obtain ⟨v4, h4, h⟩ := bind_some h
    refine ot_cl (g_block_Length_ok hK h4) ?_
    refine ot_end ?_
    exact ve_arr 1 (g_block_Moved_j1_ok hK h)
   ·
    refine ve_sb 31 h3 ?_
    exact ve_arr 2 (g_block_Moved_j1_ok hK h)
end


noncomputable section
abbrev cx41 (M : Nat → Prop) (w0 : World) : Cx := ⟨Try.prog, 12, M, w0⟩
abbrev q41 (M : Nat → Prop) (w0 : World) (r : Bool) := bodyPost Try.prog Try.f41 (RetQ M w0 (fun v _ => v = .bool r))
def s41_j1 (v2 : Bool) : AS := ⟨[(2,.bool v2)],[],[],[]⟩
variable {K : Kn} {n : Nat} {M : Nat → Prop} {w0 : World} {r : Bool} {v1 : TBoxtreeBox} {v2 : Bool} 
theorem g_block_Flow_j1_ok (hK : KnOk K) (h : g_block_Flow_j1 K n v2 = some r) : VE (cx41 M w0) (q41 M w0 r) [.c (cat Try.f41 [1, 1])] .normal (s41_j1 v2) := by
  unfold g_block_Flow_j1 at h
  refine ve_rt 1 ?_
  have hr := Option.some.inj h
  subst hr
  exact ve_d1
theorem g_block_Flow_ok (hK : KnOk K) (h : g_block_Flow K n v1 = some r) : ACalls Try.prog 41 [.agg (xTBoxtreeBox v1)] (fun v _ => v = .bool r) := by
  refine acalls_intro (c := cat Try.f41 []) Try.func41 (by kernel_rfl) _ Try.ntmps41 (of_decide_eq_true (by kernel_rfl)) fun M w0 => ?_
  refine ve_cast (s' := ⟨[(0,.agg (xTBoxtreeBox v1))],[],[],[]⟩) (by kernel_rfl) ?_
  unfold g_block_Flow at h
  refine ve_un (ks' := [.c (cat Try.f41 [1, 0]), .c (cat Try.f41 [1, 1])]) 3 ?_
  refine ve_in 4 ?_
  rcases ite_some h with ⟨h1, h⟩ | ⟨h1, h⟩
  ·
   refine ot_sb 6 h1 ?_
   refine ot_end ?_
   exact ve_arr 0 (g_block_Flow_j1_ok hK h)
  ·
   refine ot_sb 6 h1 ?_
   refine ot_end ?_
   exact ve_arr 0 (g_block_Flow_j1_ok hK h)
end

def p77_0 : List Nat := [1, 0, 1, 0, 0]
def p77_1 : List Nat := [1, 0, 1, 0, 0, 1, 0]
def p77_2 : List Nat := [1, 0, 1, 0, 0, 1, 1]
def p77_3 : List Nat := [1, 0, 1, 0, 0, 1, 1, 0, 0, 1, 0]
def p77_4 : List Nat := [1, 0, 1, 0, 0, 1, 1, 0, 0, 1, 1]
def p77_5 : List Nat := [1, 0, 1, 0, 0, 1, 1, 1]
def p77_6 : List Nat := [1, 0, 1, 0]
noncomputable section
abbrev cx77 (M : Nat → Prop) (w0 : World) : Cx := ⟨Try.prog, 19, M, w0⟩
abbrev q77 (M : Nat → Prop) (w0 : World) (r : Int) := bodyPost Try.prog Try.f77 (RetQ M w0 (fun v _ => v = .int .i64 r))
abbrev k77_1 (M : Nat → Prop) (w0 : World) (r : Int) (m1 : Nat) : Kont := kl (cx77 M w0) (q77 M w0 r) [.b 0, .c (cat Try.f77 [1, 1])] (cat Try.f77 p77_0) m1
def s77_l1 (v1 : (List TBoxtreeBox)) (v2 : Nat) (v4 : Int) : AS := ⟨[(0,.sl (List.map eTBoxtreeBox v1)),(1,.fn v2),(7,.int .i64 (v1.length : Int)),(8,.int .i64 v4)],[],[],[]⟩
abbrev H77_1 (M : Nat → Prop) (w0 : World) (r : Int) (v1 : (List TBoxtreeBox)) (v2 : Nat) (m1 : Nat) (L1 : Int → Option Int) : Prop := ∀ {v4 : Int}, L1 v4 = some r → LP (cx77 M w0) (q77 M w0 r) [.b 0, .c (cat Try.f77 [1, 1])] (cat Try.f77 p77_0) m1 (s77_l1 v1 v2 v4)
variable {K : Kn} {n : Nat} {M : Nat → Prop} {w0 : World} {r : Int} {v1 : (List TBoxtreeBox)} {v2 : Nat} {v4 : Int} {m1 : Nat} {L1 : Int → Option Int}
theorem g_slices_IndexFunc_BoxtreeBox_BoxtreeBox_l1_b_ok (hK : KnOk K) (hL1 : H77_1 M w0 r v1 v2 m1 L1) (h : g_slices_IndexFunc_BoxtreeBox_BoxtreeBox_l1_b K n v1 v2 L1 v4 = some r) : VE (cx77 M w0) (q77 M w0 r) [.c (cat Try.f77 p77_0), k77_1 M w0 r m1, .b 0, .c (cat Try.f77 [1, 1])] .normal (s77_l1 v1 v2 v4) := by
  unfold g_slices_IndexFunc_BoxtreeBox_BoxtreeBox_l1_b at h
  refine ve_un (ks' := [.c (cat Try.f77 p77_1), .c (cat Try.f77 p77_2), k77_1 M w0 r m1, .b 0, .c (cat Try.f77 [1, 1])]) 3 ?_
  rcases ite_some h with ⟨h5, h⟩ | ⟨h5, h⟩
  ·
   refine ve_sb 9 h5 ?_
   refine ve_un (ks' := [.c (cat Try.f77 p77_3), .c (cat Try.f77 p77_4), .b 1, .c (cat Try.f77 p77_5), k77_1 M w0 r m1, .b 0, .c (cat Try.f77 [1, 1])]) 7 ?_
   refine ve_in 3 ?_
   obtain ⟨h6, h⟩ := chk_some h
   refine ot_sp (y_ixs eTBoxtreeBox xTBoxtreeBox h6 (eTBoxtreeBox_len) (xTBoxtreeBox_eq)) ?_
   refine ot_go 5 1 ?_
   obtain ⟨v5, h7, h⟩ := bind_some h
   refine ot_cd (hK.d_TBoxtreeBox__Bool h7) ?_
   refine ot_end ?_
   rcases ite_some h with ⟨h8, h⟩ | ⟨h8, h⟩
   ·
    refine ve_sb 16 h8 ?_
    refine ve_rt 9 ?_
    have hr := Option.some.inj h
    subst hr
    exact ve_d1
   ·
    refine ve_sb 16 h8 ?_
    exact ve_arr 4 (lp_back (hL1 h))
  ·
   refine ve_sb 9 h5 ?_
   refine ve_rt 8 ?_
   have hr := Option.some.inj h
   subst hr
   exact ve_d1
theorem g_slices_IndexFunc_BoxtreeBox_BoxtreeBox_l1_ok (hK : KnOk K) (m : Nat) : H77_1 M w0 r v1 v2 m (g_slices_IndexFunc_BoxtreeBox_BoxtreeBox_l1 K n v1 v2 m) := by
  induction m with
 | zero => intro v4 h; cases h
 | succ m ih => intro v4 h; have h : g_slices_IndexFunc_BoxtreeBox_BoxtreeBox_l1_b K n v1 v2 (g_slices_IndexFunc_BoxtreeBox_BoxtreeBox_l1 K n v1 v2 m) v4 = some r := h; exact lp_round (g_slices_IndexFunc_BoxtreeBox_BoxtreeBox_l1_b_ok hK ih h)
theorem g_slices_IndexFunc_BoxtreeBox_BoxtreeBox_ok (hK : KnOk K) (h : g_slices_IndexFunc_BoxtreeBox_BoxtreeBox K n v1 v2 = some r) : ACalls Try.prog 77 [.sl (List.map eTBoxtreeBox v1), .fn v2] (fun v _ => v = .int .i64 r) := by
  refine acalls_intro (c := cat Try.f77 []) Try.func77 (by kernel_rfl) _ Try.ntmps77 (of_decide_eq_true (by kernel_rfl)) fun M w0 => ?_
  refine ve_cast (s' := ⟨[(0,.sl (List.map eTBoxtreeBox v1)),(1,.fn v2)],[],[],[]⟩) (by kernel_rfl) ?_
  unfold g_slices_IndexFunc_BoxtreeBox_BoxtreeBox at h
  refine ve_un (ks' := [.c (cat Try.f77 [1, 0, 0]), .c (cat Try.f77 [1, 0, 1]), .c (cat Try.f77 [1, 1])]) 4 ?_
  refine ve_in 1 ?_
  refine ot_sp (y_len eTBoxtreeBox v1) ?_
  refine ot_end ?_
  exact ve_arr 1 (lp_en (p := p77_6) n (g_slices_IndexFunc_BoxtreeBox_BoxtreeBox_l1_ok hK n h))
end


noncomputable section
abbrev cx75 (M : Nat → Prop) (w0 : World) : Cx := ⟨Try.prog, 9, M, w0⟩
abbrev q75 (M : Nat → Prop) (w0 : World) (r : Bool) := bodyPost Try.prog Try.f75 (RetQ M w0 (fun v _ => v = .bool r))
variable {K : Kn} {n : Nat} {M : Nat → Prop} {w0 : World} {r : Bool} {v1 : (List TBoxtreeBox)} {v2 : Nat} 
theorem g_slices_ContainsFunc_BoxtreeBox_BoxtreeBox_ok (hK : KnOk K) (h : g_slices_ContainsFunc_BoxtreeBox_BoxtreeBox K n v1 v2 = some r) : ACalls Try.prog 75 [.sl (List.map eTBoxtreeBox v1), .fn v2] (fun v _ => v = .bool r) := by
  refine acalls_intro (c := cat Try.f75 []) Try.func75 (by kernel_rfl) _ Try.ntmps75 (of_decide_eq_true (by kernel_rfl)) fun M w0 => ?_
  refine ve_cast (s' := ⟨[(0,.sl (List.map eTBoxtreeBox v1)),(1,.fn v2)],[],[],[]⟩) (by kernel_rfl) ?_
  unfold g_slices_ContainsFunc_BoxtreeBox_BoxtreeBox at h
  refine ve_un (ks' := [.c (cat Try.f75 [1, 0]), .c (cat Try.f75 [1, 1])]) 3 ?_
  refine ve_in 2 ?_
  obtain ⟨v3, h1, h⟩ := bind_some h
  refine ot_cl (g_slices_IndexFunc_BoxtreeBox_BoxtreeBox_ok hK h1) ?_
  refine ot_end ?_
  refine ve_rt 1 ?_
  have hr := Option.some.inj h
  subst hr
  exact ve_d1
end

def p69_0 : List Nat := [1, 1, 0, 1, 0, 0]
def p69_1 : List Nat := [1, 1, 0, 1, 0, 0, 1, 1, 1]
def p69_2 : List Nat := [1, 1, 0, 1, 0, 0, 1, 0]
def p69_3 : List Nat := [1, 1, 0, 1, 0, 0, 1, 1]
def p69_4 : List Nat := [1, 1, 0, 1, 0, 0, 1, 1, 0, 0, 0]
def p69_5 : List Nat := [1, 1, 0, 1, 0, 0, 1, 1, 0, 0, 1]
def p69_6 : List Nat := [1, 1, 0, 1, 0, 0, 1, 1, 0, 0, 1, 0]
def p69_7 : List Nat := [1, 1, 0, 1, 0, 0, 1, 1, 0, 0, 1, 1]
def p69_8 : List Nat := [1, 1, 0, 1, 0, 0, 1, 1, 0, 0, 1, 1, 0]
def p69_9 : List Nat := [1, 1, 1, 0]
def p69_10 : List Nat := [1, 1, 1, 1]
def p69_11 : List Nat := [1, 1, 0, 0]
def p69_12 : List Nat := [1, 1, 0, 1]
def p69_13 : List Nat := [1, 1, 0, 1, 0]
noncomputable section
abbrev cx69 (M : Nat → Prop) (w0 : World) : Cx := ⟨Try.prog, 24, M, w0⟩
abbrev q69 (M : Nat → Prop) (w0 : World) (r : ((List TBoxtreeBox) × Bool)) := bodyPost Try.prog Try.f69 (RetQ M w0 (fun v _ => v = .tup [.sl (List.map eTBoxtreeBox r.1), .bool r.2]))
abbrev k69_1 (M : Nat → Prop) (w0 : World) (r : ((List TBoxtreeBox) × Bool)) (m1 : Nat) : Kont := kl (cx69 M w0) (q69 M w0 r) [.b 0, .c (cat Try.f69 [1, 1, 1])] (cat Try.f69 p69_0) m1
def s69_j1 (v1 : TBoxtreeBox) (v8 : Int) (v11 : (List TBoxtreeBox)) : AS := ⟨[(4,.ref 19),(8,.sl (List.map eTBoxtreeBox v1.Kids)),(9,.int .i64 (v1.Kids.length : Int)),(10,.int .i64 v8)],[],[(19,⟨63,59,List.map eTBoxtreeBox v11⟩)],[19]⟩
def s69_l2 (v1 : TBoxtreeBox) (v8 : Int) (v9 : (List TBoxtreeBox)) : AS := ⟨[(4,.ref 19),(8,.sl (List.map eTBoxtreeBox v1.Kids)),(9,.int .i64 (v1.Kids.length : Int)),(10,.int .i64 v8)],[],[(19,⟨63,59,List.map eTBoxtreeBox v9⟩)],[19]⟩
abbrev H69_1 (M : Nat → Prop) (w0 : World) (r : ((List TBoxtreeBox) × Bool)) (v1 : TBoxtreeBox) (m1 : Nat) (L1 : Int → (List TBoxtreeBox) → Option ((List TBoxtreeBox) × Bool)) : Prop := ∀ {v8 : Int} {v9 : (List TBoxtreeBox)}, L1 v8 v9 = some r → LP (cx69 M w0) (q69 M w0 r) [.b 0, .c (cat Try.f69 [1, 1, 1])] (cat Try.f69 p69_0) m1 (s69_l2 v1 v8 v9)
variable {K : Kn} {n : Nat} {M : Nat → Prop} {w0 : World} {r : ((List TBoxtreeBox) × Bool)} {v1 : TBoxtreeBox} {v8 : Int} {v9 : (List TBoxtreeBox)} {v11 : (List TBoxtreeBox)} {m1 : Nat} {L1 : Int → (List TBoxtreeBox) → Option ((List TBoxtreeBox) × Bool)}
theorem g_block_flow_j1_ok (hK : KnOk K) (hL1 : H69_1 M w0 r v1 m1 L1) (h : g_block_flow_j1 K n v1 v8 L1 v11 = some r) : VE (cx69 M w0) (q69 M w0 r) [.b 1, .c (cat Try.f69 p69_1), k69_1 M w0 r m1, .b 0, .c (cat Try.f69 [1, 1, 1])] .normal (s69_j1 v1 v8 v11) := by
  unfold g_block_flow_j1 at h
  exact ve_arr 2 (lp_back (hL1 h))
theorem g_block_flow_l2_b_ok (hK : KnOk K) (hL1 : H69_1 M w0 r v1 m1 L1) (h : g_block_flow_l2_b K n v1 L1 v8 v9 = some r) : VE (cx69 M w0) (q69 M w0 r) [.c (cat Try.f69 p69_0), k69_1 M w0 r m1, .b 0, .c (cat Try.f69 [1, 1, 1])] .normal (s69_l2 v1 v8 v9) := by
  unfold g_block_flow_l2_b at h
  refine ve_un (ks' := [.c (cat Try.f69 p69_2), .c (cat Try.f69 p69_3), k69_1 M w0 r m1, .b 0, .c (cat Try.f69 [1, 1, 1])]) 3 ?_
  rcases ite_some h with ⟨h13, h⟩ | ⟨h13, h⟩
  ·
   refine ve_sb 11 h13 ?_
   refine ve_un (ks' := [.c (cat Try.f69 p69_4), .c (cat Try.f69 p69_5), .b 1, .c (cat Try.f69 p69_1), k69_1 M w0 r m1, .b 0, .c (cat Try.f69 [1, 1, 1])]) 5 ?_
   refine ve_in 0 ?_
   obtain ⟨h14, h⟩ := chk_some h
   refine ot_sp (y_ixs eTBoxtreeBox xTBoxtreeBox h14 (eTBoxtreeBox_len) (xTBoxtreeBox_eq)) ?_
   refine ot_end ?_
   refine ve_un (ks' := [.c (cat Try.f69 p69_6), .c (cat Try.f69 p69_7), .b 1, .c (cat Try.f69 p69_1), k69_1 M w0 r m1, .b 0, .c (cat Try.f69 [1, 1, 1])]) 1 ?_
   refine ve_in 1 ?_
   obtain ⟨v10, h15, h⟩ := bind_some h
   refine ot_cl (g_block_Flow_ok hK h15) ?_
   refine ot_end ?_
   rcases ite_some h with ⟨h16, h⟩ | ⟨h16, h⟩
   ·
    refine ve_sb 15 h16 ?_
    refine ve_un (ks' := [.c (cat Try.f69 p69_8), .b 1, .c (cat Try.f69 p69_1), k69_1 M w0 r m1, .b 0, .c (cat Try.f69 [1, 1, 1])]) 1 ?_
    refine ve_in 2 ?_
    refine ot_sp (y_bsl eTBoxtreeBox ([(List.getD v1.Kids (v8).toNat default)] : List TBoxtreeBox) (new := [xTBoxtreeBox (List.getD v1.Kids (v8).toNat default)]) (by simp only [List.map_cons, List.map_nil, xTBoxtreeBox_eq])) ?_
    obtain ⟨h17, h⟩ := chk_some h
    refine ot_sp (y_app 19 19 63 59 eTBoxtreeBox (rfl) (eTBoxtreeBox_len) h17) ?_
    refine ot_end ?_
    exact ve_arr 0 (g_block_flow_j1_ok hK hL1 h)
   ·
    refine ve_sb 15 h16 ?_
    exact ve_arr 2 (g_block_flow_j1_ok hK hL1 h)
  ·
   refine ve_sb 11 h13 ?_
   refine ve_un (ks' := [.c (cat Try.f69 p69_9), .c (cat Try.f69 p69_10)]) 6 ?_
   refine ve_in 2 ?_
   refine ot_f 19 ?_
   obtain ⟨v12, h18, h⟩ := bind_some h
   refine ot_cl (g_slices_ContainsFunc_BoxtreeBox_BoxtreeBox_ok hK h18) ?_
   refine ot_end ?_
   refine ve_rt 1 ?_
   have hr := Option.some.inj h
   subst hr
   exact ve_dt
theorem g_block_flow_l2_ok (hK : KnOk K) (m : Nat) : H69_1 M w0 r v1 m (g_block_flow_l2 K n v1 m) := by
  induction m with
 | zero => intro v8 v9 h; cases h
 | succ m ih => intro v8 v9 h; have h : g_block_flow_l2_b K n v1 (g_block_flow_l2 K n v1 m) v8 v9 = some r := h; exact lp_round (g_block_flow_l2_b_ok hK ih h)
theorem g_block_flow_ok (hK : KnOk K) (h : g_block_flow K n v1 = some r) : ACalls Try.prog 69 [.agg (xTBoxtreeBox v1)] (fun v _ => v = .tup [.sl (List.map eTBoxtreeBox r.1), .bool r.2]) := by
  refine acalls_intro (c := cat Try.f69 []) Try.func69 (by kernel_rfl) _ Try.ntmps69 (of_decide_eq_true (by kernel_rfl)) fun M w0 => ?_
  refine ve_cast (s' := ⟨[(0,.agg (xTBoxtreeBox v1))],[],[],[]⟩) (by kernel_rfl) ?_
  unfold g_block_flow at h
  refine ve_un (ks' := [.c (cat Try.f69 p69_11), .c (cat Try.f69 p69_12), .c (cat Try.f69 [1, 1, 1])]) 6 ?_
  refine ve_in 2 ?_
  refine ot_sp (y_len eTBoxtreeBox v1.Kids) ?_
  refine ot_end ?_
  refine ve_un (ks' := [.c (cat Try.f69 p69_13), .b 0, .c (cat Try.f69 [1, 1, 1])]) 1 ?_
  refine ve_w 19 4 63 59 ?_
  exact ve_arr 0 (lp_en (p := p69_13) n (g_block_flow_l2_ok hK n h))
end


noncomputable section
abbrev cx70 (M : Nat → Prop) (w0 : World) : Cx := ⟨Try.prog, 8, M, w0⟩
abbrev q70 (M : Nat → Prop) (w0 : World) (r : (List TBlockFragment)) := bodyPost Try.prog Try.f70 (RetQ M w0 (fun v s => v = .ref 5 ∧ look 5 s.r = some ⟨60, 67, List.map eTBlockFragment r⟩))
variable {K : Kn} {n : Nat} {M : Nat → Prop} {w0 : World} {r : (List TBlockFragment)} {v1 : (List TBlockFragment)} 
theorem g_slices_Clone_BlockFragment_BlockFragment_ok (hK : KnOk K) (h : g_slices_Clone_BlockFragment_BlockFragment K n v1 = some r) : ACalls Try.prog 70 [.sl (List.map eTBlockFragment v1)] (fun v s => v = .ref 5 ∧ look 5 s.r = some ⟨60, 67, List.map eTBlockFragment r⟩) := by
  refine acalls_intro (c := cat Try.f70 []) Try.func70 (by kernel_rfl) _ Try.ntmps70 (of_decide_eq_true (by kernel_rfl)) fun M w0 => ?_
  refine ve_cast (s' := ⟨[(0,.sl (List.map eTBlockFragment v1))],[],[],[]⟩) (by kernel_rfl) ?_
  unfold g_slices_Clone_BlockFragment_BlockFragment at h
  refine ve_un (ks' := [.c (cat Try.f70 [1, 0, 0]), .c (cat Try.f70 [1, 0, 1]), .c (cat Try.f70 [1, 1])]) 4 ?_
  refine ve_in 1 ?_
  refine ot_nilq (opAt Try.f70 [1, 0, 0] 1) (.eql) 51 51 (.tmp 3) (.const (.slice none 0 0)) 4 (List.map eTBlockFragment v1) (r := restAt Try.f70 [1, 0, 0] 2) (e := 60) (by kernel_rfl) (by kernel_rfl) (by kernel_rfl) (by kernel_rfl) (by kernel_rfl) (by kernel_rfl) (by kernel_rfl) (by kernel_rfl) (fun hq => ?_) ?_
  ·
   have h := both_a (by simpa using hq) h
   refine ot_end ?_
   refine ve_rt 5 ?_
   refine ve_w 5 2 60 67 ?_
   have hr := Option.some.inj h
   subst hr
   exact ve_o1
  ·
   have h := both_b h
   refine ot_end ?_
   refine ve_un (ks' := [.c (cat Try.f70 [1, 1, 0]), .c (cat Try.f70 [1, 1, 1])]) 3 ?_
   refine ve_in 0 ?_
   refine ot_bs 51 5 (e := 60) (sz := 67) ?_
   refine ot_go 2 1 ?_
   obtain ⟨h2, h⟩ := chk_some h
   refine ot_sp (y_app 7 5 60 67 eTBlockFragment (rfl) (eTBlockFragment_len) h2) ?_
   refine ot_end ?_
   refine ve_rt 1 ?_
   have hr := Option.some.inj h
   subst hr
   exact ve_o1
end


noncomputable section
abbrev cx71 (M : Nat → Prop) (w0 : World) : Cx := ⟨Try.prog, 18, M, w0⟩
abbrev q71 (M : Nat → Prop) (w0 : World) (r : Int) := bodyPost Try.prog Try.f71 (RetQ M w0 (fun v _ => v = .int .i64 r))
variable {K : Kn} {n : Nat} {M : Nat → Prop} {w0 : World} {r : Int} {v1 : TBlockSizes} 
theorem g_block_inner_ok (hK : KnOk K) (h : g_block_inner K n v1 = some r) : ACalls Try.prog 71 [.agg (eTBlockSizes v1)] (fun v _ => v = .int .i64 r) := by
  refine acalls_intro (c := cat Try.f71 []) Try.func71 (by kernel_rfl) _ Try.ntmps71 (of_decide_eq_true (by kernel_rfl)) fun M w0 => ?_
  refine ve_cast (s' := ⟨[(0,.agg (eTBlockSizes v1))],[],[],[]⟩) (by kernel_rfl) ?_
  unfold g_block_inner at h
  refine ve_rt 5 ?_
  have hr := Option.some.inj h
  subst hr
  exact ve_d1
end


noncomputable section
abbrev cx72 (M : Nat → Prop) (w0 : World) : Cx := ⟨Try.prog, 16, M, w0⟩
abbrev q72 (M : Nat → Prop) (w0 : World) (r : Bool) := bodyPost Try.prog Try.f72 (RetQ M w0 (fun v _ => v = .bool r))
def s72_j1 (v2 : Bool) : AS := ⟨[(2,.bool v2)],[],[],[]⟩
variable {K : Kn} {n : Nat} {M : Nat → Prop} {w0 : World} {r : Bool} {v1 : TBoxtreeBox} {v2 : Bool} 
theorem g_boxtree_Outer_j1_ok (hK : KnOk K) (h : g_boxtree_Outer_j1 K n v2 = some r) : VE (cx72 M w0) (q72 M w0 r) [.c (cat Try.f72 [1, 1])] .normal (s72_j1 v2) := by
  unfold g_boxtree_Outer_j1 at h
  refine ve_rt 1 ?_
  have hr := Option.some.inj h
  subst hr
  exact ve_d1
theorem g_boxtree_Outer_ok (hK : KnOk K) (h : g_boxtree_Outer K n v1 = some r) : ACalls Try.prog 72 [.agg (xTBoxtreeBox v1)] (fun v _ => v = .bool r) := by
  refine acalls_intro (c := cat Try.f72 []) Try.func72 (by kernel_rfl) _ Try.ntmps72 (of_decide_eq_true (by kernel_rfl)) fun M w0 => ?_
  refine ve_cast (s' := ⟨[(0,.agg (xTBoxtreeBox v1))],[],[],[]⟩) (by kernel_rfl) ?_
  unfold g_boxtree_Outer at h
  refine ve_un (ks' := [.c (cat Try.f72 [1, 0]), .c (cat Try.f72 [1, 1])]) 3 ?_
  refine ve_in 4 ?_
  rcases ite_some h with ⟨h1, h⟩ | ⟨h1, h⟩
  ·
   refine ot_sb 6 h1 ?_
   refine ot_end ?_
   exact ve_arr 0 (g_boxtree_Outer_j1_ok hK h)
  ·
   refine ot_sb 6 h1 ?_
   refine ot_go 9 5 ?_
   rcases ite_some h with ⟨h2, h⟩ | ⟨h2, h⟩
   ·
    refine ot_sb 11 h2 ?_
    refine ot_end ?_
    exact ve_arr 0 (g_boxtree_Outer_j1_ok hK h)
   ·
    refine ot_sb 11 h2 ?_
    refine ot_end ?_
    exact ve_arr 0 (g_boxtree_Outer_j1_ok hK h)
end

def p57_0 : List Nat := ones 16 []
def p57_1 : List Nat := ones 15 [0, 1, 0, 0]
def p57_2 : List Nat := ones 6 [0, 1, 0, 1, 1]
def p57_3 : List Nat := ones 7 []
def p57_4 : List Nat := ones 6 [0, 1, 0, 1, 0, 1, 0, 0]
def p57_5 : List Nat := ones 15 [0, 1, 0, 0, 1, 1, 1]
def p57_6 : List Nat := ones 15 [0, 1, 0, 0, 1, 1, 0, 0, 1, 1, 1, 1]
def p57_7 : List Nat := ones 15 [0, 1, 0, 0, 1, 1, 0, 0, 1, 1, 1, 1, 0]
def p57_8 : List Nat := ones 15 [0, 1, 0, 0, 1, 0]
def p57_9 : List Nat := ones 15 [0, 1, 0, 0, 1, 1]
def p57_10 : List Nat := ones 15 [0, 1, 0, 0, 1, 1, 0, 0, 1, 0]
def p57_11 : List Nat := ones 15 [0, 1, 0, 0, 1, 1, 0, 0, 1, 1]
def p57_12 : List Nat := ones 15 [0, 1, 0, 0, 1, 1, 0, 0, 1, 1, 0]
def p57_13 : List Nat := ones 15 [0, 1, 0, 0, 1, 1, 0, 0, 1, 1, 1]
def p57_14 : List Nat := ones 15 [0, 1, 0, 0, 1, 1, 0, 0, 1, 1, 1, 0]
def p57_15 : List Nat := ones 12 []
def p57_16 : List Nat := ones 13 [0]
def p57_17 : List Nat := ones 14 []
def p57_18 : List Nat := ones 15 [0, 0]
def p57_19 : List Nat := ones 15 [0, 1]
def p57_20 : List Nat := ones 15 [0, 1, 0]
def p57_21 : List Nat := ones 11 [0, 1, 1]
def p57_22 : List Nat := ones 10 []
def p57_23 : List Nat := ones 11 [0, 0]
def p57_24 : List Nat := ones 11 [0, 1]
def p57_25 : List Nat := ones 11 [0, 1, 0]
def p57_26 : List Nat := ones 9 [0, 0, 1]
def p57_27 : List Nat := ones 9 [0, 0, 1, 0, 0]
def p57_28 : List Nat := ones 9 [0, 0, 1, 0, 1]
def p57_29 : List Nat := ones 9 [0, 0, 1, 1, 1]
def p57_30 : List Nat := ones 9 [0, 0, 1, 1, 1, 0, 1, 1]
def p57_31 : List Nat := ones 9 [0, 0, 1, 1, 1, 0, 1, 1, 0]
def p57_32 : List Nat := ones 9 [0, 0, 1, 1, 1, 1, 1]
def p57_33 : List Nat := ones 9 [0, 0, 1, 1, 1, 1, 1, 0, 0]
def p57_34 : List Nat := ones 9 [0, 0, 1, 1, 1, 1, 1, 0, 1]
def p57_35 : List Nat := ones 9 [0, 0, 1, 1, 1, 1, 1, 1]
def p57_36 : List Nat := ones 9 []
def p57_37 : List Nat := ones 9 [0, 0, 0]
def p57_38 : List Nat := ones 8 [0, 0, 1, 1, 1]
def p57_39 : List Nat := ones 8 [0, 0, 1, 1, 1, 0]
def p57_40 : List Nat := ones 7 [0]
def p57_41 : List Nat := ones 8 []
def p57_42 : List Nat := ones 8 [0, 0, 1]
def p57_43 : List Nat := ones 8 [0, 0, 1, 0]
def p57_44 : List Nat := ones 8 [0, 0, 1, 1, 0]
def p57_45 : List Nat := ones 6 [0, 1, 0, 1, 0, 1, 0, 0, 1, 0]
def p57_46 : List Nat := ones 6 [0, 1, 0, 1, 0, 1, 0, 0, 1, 1]
def p57_47 : List Nat := ones 6 [0, 1, 0, 1, 0, 1, 0, 0, 1, 1, 0, 0, 0]
def p57_48 : List Nat := ones 6 [0, 1, 0, 1, 0, 1, 0, 0, 1, 1, 0, 0, 1]
def p57_49 : List Nat := ones 6 [0, 1, 0, 1, 0, 1, 0, 0, 1, 1, 1]
def p57_50 : List Nat := ones 6 [0, 1]
def p57_51 : List Nat := ones 6 [0, 1, 0, 1, 0, 0]
def p57_52 : List Nat := ones 6 [0, 1, 0, 1, 0, 1]
def p57_53 : List Nat := ones 6 [0, 1, 0, 1, 0, 1, 0]
def p57_54 : List Nat := ones 6 [0, 1, 1, 0]
def p57_55 : List Nat := ones 6 [0, 1, 1, 1]
def p57_56 : List Nat := ones 6 [0, 1, 1, 1, 0]
def p57_57 : List Nat := ones 6 [0, 1, 1, 1, 1]
noncomputable section
abbrev cx57 (M : Nat → Prop) (w0 : World) : Cx := ⟨Try.prog, 259, M, w0⟩
abbrev q57 (M : Nat → Prop) (w0 : World) (r : TBlockFragment) := bodyPost Try.prog Try.f57 (RetQ M w0 (fun v s => v = .agg (List.set (xTBlockFragment ({ r with Kids := [] } : TBlockFragment)) 66 (.ref 1054)) ∧ look 1054 s.r = some ⟨60, 67, List.map eTBlockFragment r.Kids⟩))
abbrev k57_2 (M : Nat → Prop) (w0 : World) (r : TBlockFragment) (m2 : Nat) : Kont := kl (cx57 M w0) (q57 M w0 r) [.b 4, .c (cat Try.f57 p57_0)] (cat Try.f57 p57_1) m2
abbrev k57_1 (M : Nat → Prop) (w0 : World) (r : TBlockFragment) (m1 : Nat) : Kont := kl (cx57 M w0) (q57 M w0 r) [.b 0, .c (cat Try.f57 p57_2), .c (cat Try.f57 p57_3)] (cat Try.f57 p57_4) m1
def s57_j10 (v1 : TBoxtreeBox) (v2 : TBlockSizes) (v6 : ((List TBoxtreeBox) × Bool)) (v19 : (List TBlockFragment)) (v25 : Int) (v33 : TBlockMargin) (v34 : TBlockMargin) (v35 : Bool) (v39 : Int) (v40 : Int) (v47 : Int) (v54 : (List TBlockFragment)) : AS := ⟨[(6,.ptr 6 0),(10,.ptr 10 0),(11,.ptr 11 0),(12,.sl (List.map eTBoxtreeBox v6.1)),(13,.bool v6.2),(15,.int .i64 v25),(199,.int .i64 (v19.length : Int)),(200,.int .i64 v47)],[(6,eTBlockSizes v2),(10,List.set (xTBlockFragment zTBlockFragment) 66 (.nils)),(11,List.set (xTBlockFragment (⟨1, v1.Node, v2.Margin.a3, 0, (w64 (v2.Content + v39)), v40, 0, ⟨#[]⟩, v1.Style, v33, v34, v35, []⟩ : TBlockFragment)) 66 (.ref 1054))],[(1054,⟨60,67,List.map eTBlockFragment v54⟩)],[6,10,11,1054]⟩
def s57_j9 (v1 : TBoxtreeBox) (v2 : TBlockSizes) (v6 : ((List TBoxtreeBox) × Bool)) (v19 : (List TBlockFragment)) (v25 : Int) (v33 : TBlockMargin) (v34 : TBlockMargin) (v35 : Bool) (v39 : Int) (v40 : Int) (v47 : Int) (v50 : (List TBlockFragment)) (v52 : Bool) : AS := ⟨[(6,.ptr 6 0),(10,.ptr 10 0),(11,.ptr 11 0),(12,.sl (List.map eTBoxtreeBox v6.1)),(13,.bool v6.2),(15,.int .i64 v25),(24,.int .i64 v47),(199,.int .i64 (v19.length : Int)),(200,.int .i64 v47),(244,.bool v52)],[(6,eTBlockSizes v2),(10,List.set (xTBlockFragment zTBlockFragment) 66 (.nils)),(11,List.set (xTBlockFragment (⟨1, v1.Node, v2.Margin.a3, 0, (w64 (v2.Content + v39)), v40, 0, ⟨#[]⟩, v1.Style, v33, v34, v35, []⟩ : TBlockFragment)) 66 (.ref 1054))],[(1054,⟨60,67,List.map eTBlockFragment v50⟩)],[6,10,11,1054]⟩
def s57_l11 (v1 : TBoxtreeBox) (v2 : TBlockSizes) (v6 : ((List TBoxtreeBox) × Bool)) (v19 : (List TBlockFragment)) (v25 : Int) (v33 : TBlockMargin) (v34 : TBlockMargin) (v35 : Bool) (v39 : Int) (v40 : Int) (v47 : Int) (v48 : (List TBlockFragment)) : AS := ⟨[(6,.ptr 6 0),(10,.ptr 10 0),(11,.ptr 11 0),(12,.sl (List.map eTBoxtreeBox v6.1)),(13,.bool v6.2),(15,.int .i64 v25),(199,.int .i64 (v19.length : Int)),(200,.int .i64 v47)],[(6,eTBlockSizes v2),(10,List.set (xTBlockFragment zTBlockFragment) 66 (.nils)),(11,List.set (xTBlockFragment (⟨1, v1.Node, v2.Margin.a3, 0, (w64 (v2.Content + v39)), v40, 0, ⟨#[]⟩, v1.Style, v33, v34, v35, []⟩ : TBlockFragment)) 66 (.ref 1054))],[(1054,⟨60,67,List.map eTBlockFragment v48⟩)],[6,10,11,1054]⟩
def s57_j8 (v1 : TBoxtreeBox) (v2 : TBlockSizes) (v6 : ((List TBoxtreeBox) × Bool)) (v19 : (List TBlockFragment)) (v25 : Int) (v33 : TBlockMargin) (v34 : TBlockMargin) (v35 : Bool) (v38 : Int) : AS := ⟨[(6,.ptr 6 0),(10,.ptr 10 0),(11,.ptr 11 0),(12,.sl (List.map eTBoxtreeBox v6.1)),(13,.bool v6.2),(14,.int .i64 v38),(15,.int .i64 v25)],[(6,eTBlockSizes v2),(10,List.set (xTBlockFragment zTBlockFragment) 66 (.nils)),(11,List.set (xTBlockFragment ({ zTBlockFragment with Kind := 1, Node := v1.Node, Style := v1.Style, Before := v33, After := v34, Empty := v35 } : TBlockFragment)) 66 (.ref 1054))],[(1054,⟨60,67,List.map eTBlockFragment v19⟩)],[6,10,11,1054]⟩
def s57_j7 (v1 : TBoxtreeBox) (v2 : TBlockSizes) (v6 : ((List TBoxtreeBox) × Bool)) (v19 : (List TBlockFragment)) (v25 : Int) (v32 : Int) (v33 : TBlockMargin) (v34 : TBlockMargin) (v35 : Bool) (v36 : (Int × Bool)) (v37 : Bool) : AS := ⟨[(6,.ptr 6 0),(10,.ptr 10 0),(11,.ptr 11 0),(12,.sl (List.map eTBoxtreeBox v6.1)),(13,.bool v6.2),(14,.int .i64 (max v32 0)),(15,.int .i64 v25),(22,.int .i64 v36.1),(166,.bool v37)],[(6,eTBlockSizes v2),(10,List.set (xTBlockFragment zTBlockFragment) 66 (.nils)),(11,List.set (xTBlockFragment ({ zTBlockFragment with Kind := 1, Node := v1.Node, Style := v1.Style, Before := v33, After := v34, Empty := v35 } : TBlockFragment)) 66 (.ref 1054))],[(1054,⟨60,67,List.map eTBlockFragment v19⟩)],[6,10,11,1054]⟩
def s57_j6 (v1 : TBoxtreeBox) (v2 : TBlockSizes) (v6 : ((List TBoxtreeBox) × Bool)) (v19 : (List TBlockFragment)) (v25 : Int) (v32 : Int) (v33 : TBlockMargin) (v34 : TBlockMargin) (v35 : Bool) : AS := ⟨[(5,.ptr 5 0),(6,.ptr 6 0),(10,.ptr 10 0),(11,.ptr 11 0),(12,.sl (List.map eTBoxtreeBox v6.1)),(13,.bool v6.2),(14,.int .i64 v32),(15,.int .i64 v25)],[(5,xTBoxtreeBox v1),(6,eTBlockSizes v2),(10,List.set (xTBlockFragment zTBlockFragment) 66 (.nils)),(11,List.set (xTBlockFragment ({ zTBlockFragment with Kind := 1, Node := v1.Node, Style := v1.Style, Before := v33, After := v34, Empty := v35 } : TBlockFragment)) 66 (.ref 1054))],[(1054,⟨60,67,List.map eTBlockFragment v19⟩)],[5,6,10,11,1054]⟩
def s57_j5 (v1 : TBoxtreeBox) (v2 : TBlockSizes) (v4 : Bool) (v6 : ((List TBoxtreeBox) × Bool)) (v15 : Int) (v16 : Bool) (v17 : TBlockMargin) (v18 : TBlockMargin) (v19 : (List TBlockFragment)) (v21 : TBlockMargin) (v25 : Int) (v26 : TBlockMargin) (v27 : Bool) : AS := ⟨[(3,.bool v4),(5,.ptr 5 0),(6,.ptr 6 0),(10,.ptr 10 0),(11,.ptr 11 0),(12,.sl (List.map eTBoxtreeBox v6.1)),(13,.bool v6.2),(14,.int .i64 v15),(15,.int .i64 v25),(16,.ptr 16 0),(17,.ptr 17 0),(18,.bool v16),(113,.bool v27)],[(5,xTBoxtreeBox v1),(6,eTBlockSizes v2),(10,List.set (xTBlockFragment zTBlockFragment) 66 (.nils)),(11,List.set (xTBlockFragment ({ zTBlockFragment with Kind := 1, Node := v1.Node, Style := v1.Style, Before := v26, After := v21 } : TBlockFragment)) 66 (.ref 1054)),(16,eTBlockMargin v17),(17,eTBlockMargin v18)],[(1054,⟨60,67,List.map eTBlockFragment v19⟩)],[5,6,10,11,16,17,1054]⟩
def s57_j4 (v1 : TBoxtreeBox) (v2 : TBlockSizes) (v3 : Bool) (v4 : Bool) (v6 : ((List TBoxtreeBox) × Bool)) (v15 : Int) (v16 : Bool) (v17 : TBlockMargin) (v18 : TBlockMargin) (v19 : (List TBlockFragment)) (v21 : TBlockMargin) (v25 : Int) (v26 : TBlockMargin) : AS := ⟨[(2,.bool v3),(3,.bool v4),(5,.ptr 5 0),(6,.ptr 6 0),(10,.ptr 10 0),(11,.ptr 11 0),(12,.sl (List.map eTBoxtreeBox v6.1)),(13,.bool v6.2),(14,.int .i64 v15),(15,.int .i64 v25),(16,.ptr 16 0),(17,.ptr 17 0),(18,.bool v16)],[(5,xTBoxtreeBox v1),(6,eTBlockSizes v2),(10,List.set (xTBlockFragment zTBlockFragment) 66 (.nils)),(11,List.set (xTBlockFragment ({ zTBlockFragment with Kind := 1, Node := v1.Node, Style := v1.Style, Before := v26, After := v21 } : TBlockFragment)) 66 (.ref 1054)),(16,eTBlockMargin v17),(17,eTBlockMargin v18)],[(1054,⟨60,67,List.map eTBlockFragment v19⟩)],[5,6,10,11,16,17,1054]⟩
def s57_j3 (v1 : TBoxtreeBox) (v2 : TBlockSizes) (v3 : Bool) (v4 : Bool) (v6 : ((List TBoxtreeBox) × Bool)) (v15 : Int) (v16 : Bool) (v17 : TBlockMargin) (v18 : TBlockMargin) (v19 : (List TBlockFragment)) (v20 : TBlockMargin) (v21 : TBlockMargin) (v23 : Bool) : AS := ⟨[(2,.bool v3),(3,.bool v4),(5,.ptr 5 0),(6,.ptr 6 0),(10,.ptr 10 0),(11,.ptr 11 0),(12,.sl (List.map eTBoxtreeBox v6.1)),(13,.bool v6.2),(14,.int .i64 v15),(15,.int .i64 0),(16,.ptr 16 0),(17,.ptr 17 0),(18,.bool v16),(98,.bool v23)],[(5,xTBoxtreeBox v1),(6,eTBlockSizes v2),(10,List.set (xTBlockFragment zTBlockFragment) 66 (.nils)),(11,List.set (xTBlockFragment ({ zTBlockFragment with Kind := 1, Node := v1.Node, Style := v1.Style, Before := v20, After := v21 } : TBlockFragment)) 66 (.ref 1054)),(16,eTBlockMargin v17),(17,eTBlockMargin v18)],[(1054,⟨60,67,List.map eTBlockFragment v19⟩)],[5,6,10,11,16,17,1054]⟩
def s57_j2 (v1 : TBoxtreeBox) (v2 : TBlockSizes) (v3 : Bool) (v4 : Bool) (v6 : ((List TBoxtreeBox) × Bool)) (v15 : Int) (v16 : Bool) (v17 : TBlockMargin) (v18 : TBlockMargin) (v19 : (List TBlockFragment)) : AS := ⟨[(2,.bool v3),(3,.bool v4),(5,.ptr 5 0),(6,.ptr 6 0),(10,.ptr 10 0),(11,.ptr 11 0),(12,.sl (List.map eTBoxtreeBox v6.1)),(13,.bool v6.2),(14,.int .i64 v15),(15,.int .i64 0),(16,.ptr 16 0),(17,.ptr 17 0),(18,.bool v16)],[(5,xTBoxtreeBox v1),(6,eTBlockSizes v2),(10,List.set (xTBlockFragment zTBlockFragment) 66 (.nils)),(11,List.set (xTBlockFragment ({ zTBlockFragment with Kind := 1, Node := v1.Node, Style := v1.Style } : TBlockFragment)) 66 (.ref 1054)),(16,eTBlockMargin v17),(17,eTBlockMargin v18)],[(1054,⟨60,67,List.map eTBlockFragment v19⟩)],[5,6,10,11,16,17,1054]⟩
def s57_l1 (v1 : TBoxtreeBox) (v2 : TBlockSizes) (v3 : Bool) (v4 : Bool) (v5 : TBlockEnv) (v6 : ((List TBoxtreeBox) × Bool)) (v9 : Int) (v10 : (List TBlockFragment)) : AS := ⟨[(2,.bool v3),(3,.bool v4),(5,.ptr 5 0),(6,.ptr 6 0),(9,.ptr 9 0),(10,.ptr 10 0),(11,.ptr 11 0),(12,.sl (List.map eTBoxtreeBox v6.1)),(13,.bool v6.2),(15,.int .i64 0),(16,.ptr 16 0),(17,.ptr 17 0),(19,.ref 50),(36,.sl (List.map eTBoxtreeBox v6.1)),(37,.int .i64 (v6.1.length : Int)),(38,.int .i64 v9)],[(5,xTBoxtreeBox v1),(6,eTBlockSizes v2),(9,eTBlockEnv v5),(10,List.set (xTBlockFragment zTBlockFragment) 66 (.nils)),(11,List.set (xTBlockFragment ({ zTBlockFragment with Kind := 1, Node := v1.Node, Style := v1.Style } : TBlockFragment)) 66 (.nils)),(16,eTBlockMargin zTBlockMargin),(17,eTBlockMargin zTBlockMargin)],[(50,⟨60,67,List.map eTBlockFragment v10⟩)],[5,6,9,10,11,16,17,50]⟩
abbrev H57_1 (M : Nat → Prop) (w0 : World) (r : TBlockFragment) (v1 : TBoxtreeBox) (v2 : TBlockSizes) (v3 : Bool) (v4 : Bool) (v5 : TBlockEnv) (v6 : ((List TBoxtreeBox) × Bool)) (m1 : Nat) (L1 : Int → (List TBlockFragment) → Option TBlockFragment) : Prop := ∀ {v9 : Int} {v10 : (List TBlockFragment)}, L1 v9 v10 = some r → LP (cx57 M w0) (q57 M w0 r) [.b 0, .c (cat Try.f57 p57_2), .c (cat Try.f57 p57_3)] (cat Try.f57 p57_4) m1 (s57_l1 v1 v2 v3 v4 v5 v6 v9 v10)
abbrev H57_2 (M : Nat → Prop) (w0 : World) (r : TBlockFragment) (v1 : TBoxtreeBox) (v2 : TBlockSizes) (v6 : ((List TBoxtreeBox) × Bool)) (v19 : (List TBlockFragment)) (v25 : Int) (v33 : TBlockMargin) (v34 : TBlockMargin) (v35 : Bool) (v39 : Int) (v40 : Int) (m2 : Nat) (L2 : Int → (List TBlockFragment) → Option TBlockFragment) : Prop := ∀ {v47 : Int} {v48 : (List TBlockFragment)}, L2 v47 v48 = some r → LP (cx57 M w0) (q57 M w0 r) [.b 4, .c (cat Try.f57 p57_0)] (cat Try.f57 p57_1) m2 (s57_l11 v1 v2 v6 v19 v25 v33 v34 v35 v39 v40 v47 v48)
variable {K : Kn} {n : Nat} {M : Nat → Prop} {w0 : World} {r : TBlockFragment} {v1 : TBoxtreeBox} {v2 : TBlockSizes} {v3 : Bool} {v4 : Bool} {v5 : TBlockEnv} {v6 : ((List TBoxtreeBox) × Bool)} {v9 : Int} {v10 : (List TBlockFragment)} {v15 : Int} {v16 : Bool} {v17 : TBlockMargin} {v18 : TBlockMargin} {v19 : (List TBlockFragment)} {v20 : TBlockMargin} {v21 : TBlockMargin} {v23 : Bool} {v25 : Int} {v26 : TBlockMargin} {v27 : Bool} {v32 : Int} {v33 : TBlockMargin} {v34 : TBlockMargin} {v35 : Bool} {v36 : (Int × Bool)} {v37 : Bool} {v38 : Int} {v39 : Int} {v40 : Int} {v47 : Int} {v48 : (List TBlockFragment)} {v50 : (List TBlockFragment)} {v52 : Bool} {v54 : (List TBlockFragment)} {m1 : Nat} {L1 : Int → (List TBlockFragment) → Option TBlockFragment} {m2 : Nat} {L2 : Int → (List TBlockFragment) → Option TBlockFragment}
theorem g_block_layout_j10_ok (hK : KnOk K) (hL2 : H57_2 M w0 r v1 v2 v6 v19 v25 v33 v34 v35 v39 v40 m2 L2) (h : g_block_layout_j10 K n v1 v2 v6 v19 v25 v33 v34 v35 v39 v40 v47 L2 v54 = some r) : VE (cx57 M w0) (q57 M w0 r) [.b 5, .c (cat Try.f57 p57_5), k57_2 M w0 r m2, .b 4, .c (cat Try.f57 p57_0)] .normal (s57_j10 v1 v2 v6 v19 v25 v33 v34 v35 v39 v40 v47 v54) := by
  unfold g_block_layout_j10 at h
  exact ve_arr 2 (lp_back (hL2 h))
theorem g_block_layout_j9_ok (hK : KnOk K) (hL2 : H57_2 M w0 r v1 v2 v6 v19 v25 v33 v34 v35 v39 v40 m2 L2) (h : g_block_layout_j9 K n v1 v2 v6 v19 v25 v33 v34 v35 v39 v40 v47 v50 L2 v52 = some r) : VE (cx57 M w0) (q57 M w0 r) [.c (cat Try.f57 p57_6), .b 5, .c (cat Try.f57 p57_5), k57_2 M w0 r m2, .b 4, .c (cat Try.f57 p57_0)] .normal (s57_j9 v1 v2 v6 v19 v25 v33 v34 v35 v39 v40 v47 v50 v52) := by
  unfold g_block_layout_j9 at h
  rcases ite_some h with ⟨h64, h⟩ | ⟨h64, h⟩
  ·
   refine ve_sb 244 h64 ?_
   refine ve_un (ks' := [.c (cat Try.f57 p57_7), .b 5, .c (cat Try.f57 p57_5), k57_2 M w0 r m2, .b 4, .c (cat Try.f57 p57_0)]) 1 ?_
   refine ve_pk [6, 10, 11, 12, 13, 15, 24, 199, 200] [6, 10, 11] [1054] ?_
   obtain ⟨h65, h⟩ := chk_some h
   obtain ⟨v53, h66, h⟩ := bind_some h
   obtain ⟨h67, h⟩ := chk_some h
   refine ve_dr 1 [(245, .ptr 11 66), (246, .ref 1054), (247, .int .i64 v47), (248, .ptr 11 66), (249, .ref 1054), (250, .int .i64 v47), (251, .eptr 1054 67 ((v47).toNat) 0), (252, .agg (xTBlockFragment (List.getD v50 (v47).toNat default))), (253, .ptr 6 12), (254, .int .i64 v2.Content), (255, .agg (xTBlockFragment v53)), (256, .eptr 1054 67 ((v47).toNat) 0)] [] [] [strS 1054 ⟨60, 67, List.map eTBlockFragment (List.set v50 (v47).toNat v53)⟩] (d_vs [.v 0 1, .v 0 1, .v 0 1, .v 0 1, .v 0 1, .v 0 1] (d_c1 (e_v (lo := 0) (y_ixr 1054 67 eTBlockFragment (L := v50) (i := v47) (by first | exact h65 | exact Eq.trans (by simp only [List.length_set]) h65))) (d_c1 (e_v (lo := 0) (y_ldr 60 0 eTBlockFragment xTBlockFragment (inb_spec h67).2 (xTBlockFragment_eq))) (d_vs [.v 0 1, .v 0 1] (d_c1 (e_c 0 1 255 (g_block_Moved_ok hK h66)) (d_c1 (e_v (lo := 0) (y_ixr 1054 67 eTBlockFragment (L := v50) (i := v47) (by first | exact h67 | exact Eq.trans (by simp only [List.length_set]) h67))) (d_c1 (e_s (m := 0) (y_str 1054 60 67 0 eTBlockFragment xTBlockFragment v53 (inb_spec h67).2 (xTBlockFragment_eq))) (d_nl)))))))) ?_
   exact ve_arr 0 (g_block_layout_j10_ok hK hL2 h)
  ·
   refine ve_sb 244 h64 ?_
   exact ve_arr 2 (g_block_layout_j10_ok hK hL2 h)
theorem g_block_layout_l11_b_ok (hK : KnOk K) (hL2 : H57_2 M w0 r v1 v2 v6 v19 v25 v33 v34 v35 v39 v40 m2 L2) (h : g_block_layout_l11_b K n v1 v2 v6 v19 v25 v33 v34 v35 v39 v40 L2 v47 v48 = some r) : VE (cx57 M w0) (q57 M w0 r) [.c (cat Try.f57 p57_1), k57_2 M w0 r m2, .b 4, .c (cat Try.f57 p57_0)] .normal (s57_l11 v1 v2 v6 v19 v25 v33 v34 v35 v39 v40 v47 v48) := by
  unfold g_block_layout_l11_b at h
  refine ve_un (ks' := [.c (cat Try.f57 p57_8), .c (cat Try.f57 p57_9), k57_2 M w0 r m2, .b 4, .c (cat Try.f57 p57_0)]) 3 ?_
  rcases ite_some h with ⟨h54, h⟩ | ⟨h54, h⟩
  ·
   refine ve_sb 201 h54 ?_
   refine ve_un (ks' := [.c (cat Try.f57 p57_10), .c (cat Try.f57 p57_11), .b 5, .c (cat Try.f57 p57_5), k57_2 M w0 r m2, .b 4, .c (cat Try.f57 p57_0)]) 7 ?_
   refine ve_pk [6, 10, 11, 12, 13, 15, 24, 199, 200] [6, 10, 11] [1054] ?_
   obtain ⟨h55, h⟩ := chk_some h
   obtain ⟨h56, h⟩ := chk_some h
   refine ve_dr 1 [(203, .ptr 11 66), (204, .ref 1054), (205, .int .i64 v47), (206, .eptr 1054 67 ((v47).toNat) 0), (207, .eptr 1054 67 ((v47).toNat) 2), (208, .int .i64 ((List.getD v48 (v47).toNat default).X)), (209, .ptr 6 4), (210, .ptr 6 7), (211, .int .i64 v2.Border.a3), (212, .ptr 6 8), (213, .ptr 6 11), (214, .int .i64 v2.Padding.a3), (215, .int .i64 (w64 (v2.Border.a3 + v2.Padding.a3))), (216, .int .i64 (w64 (((List.getD v48 (v47).toNat default).X) + (w64 (v2.Border.a3 + v2.Padding.a3))))), (217, .eptr 1054 67 ((v47).toNat) 0), (218, .eptr 1054 67 ((v47).toNat) 2)] [] [] [strS 1054 ⟨60, 67, List.map eTBlockFragment (List.set v48 (v47).toNat ({ (List.getD v48 (v47).toNat default) with X := (w64 (((List.getD v48 (v47).toNat default).X) + (w64 (v2.Border.a3 + v2.Padding.a3)))) } : TBlockFragment))⟩] (d_vs [.v 0 1, .v 0 1, .v 0 1] (d_c1 (e_v (lo := 0) (y_ixr 1054 67 eTBlockFragment (L := v48) (i := v47) (by first | exact h55 | exact Eq.trans (by simp only [List.length_set]) h55))) (d_vs [.v 0 1] (d_c1 (e_v (lo := 0) (y_ldr 3 2 eTBlockFragment xTBlockFragment (inb_spec h56).2 (xTBlockFragment_eq))) (d_vs [.v 0 1, .v 0 1, .v 0 1, .v 0 1, .v 0 1, .v 0 1, .v 0 1, .v 0 1] (d_c1 (k_v (lo := 0) (k := 2) (kallS ⟨(by kernel_rfl), (aop_eq (y_ixr 1054 67 eTBlockFragment (L := v48) (i := v47) (by first | exact h56 | exact Eq.trans (by simp only [List.length_set]) h56)) (by kernel_rfl))⟩ (kallS ⟨(by kernel_rfl), (aop_eq (y_ixr 1054 67 eTBlockFragment (L := (List.set v48 (v47).toNat ({ (List.getD v48 (v47).toNat default) with X := (w64 (((List.getD v48 (v47).toNat default).X) + (w64 (v2.Border.a3 + v2.Padding.a3)))) } : TBlockFragment))) (i := v47) (by first | exact h56 | exact Eq.trans (by simp only [List.length_set]) h56)) (by kernel_rfl))⟩ (kall0)))) (d_vs [.v 0 1] (d_c1 (e_s (m := 0) (y_str 1054 60 67 2 eTBlockFragment xTBlockFragment ({ (List.getD v48 (v47).toNat default) with X := (w64 (((List.getD v48 (v47).toNat default).X) + (w64 (v2.Border.a3 + v2.Padding.a3)))) } : TBlockFragment) (inb_spec h56).2 (xTBlockFragment_eq))) (d_nl))))))))) ?_
   obtain ⟨v49, h57, h⟩ := bind_some h
   have h57 := Option.some.inj h57
   refine ve_go (ks' := [.c (cat Try.f57 p57_12), .c (cat Try.f57 p57_13), .b 5, .c (cat Try.f57 p57_5), k57_2 M w0 r m2, .b 4, .c (cat Try.f57 p57_0)]) 1 ⟨[(6,.ptr 6 0),(10,.ptr 10 0),(11,.ptr 11 0),(12,.sl (List.map eTBoxtreeBox v6.1)),(13,.bool v6.2),(15,.int .i64 v25),(24,.int .i64 v47),(199,.int .i64 (v19.length : Int)),(200,.int .i64 v47)],[(6,eTBlockSizes v2),(10,List.set (xTBlockFragment zTBlockFragment) 66 (.nils)),(11,List.set (xTBlockFragment (⟨1, v1.Node, v2.Margin.a3, 0, (w64 (v2.Content + v39)), v40, 0, ⟨#[]⟩, v1.Style, v33, v34, v35, []⟩ : TBlockFragment)) 66 (.ref 1054))],[(1054,⟨60,67,List.map eTBlockFragment v49⟩)],[6,10,11,1054]⟩ ?_ (by subst h57; kernel_rfl)
   obtain ⟨h58, h⟩ := chk_some h
   obtain ⟨h59, h⟩ := chk_some h
   refine ve_dr 1 [(219, .ptr 11 66), (220, .ref 1054), (221, .int .i64 v47), (222, .eptr 1054 67 ((v47).toNat) 0), (223, .eptr 1054 67 ((v47).toNat) 3), (224, .int .i64 ((List.getD v49 (v47).toNat default).Y)), (225, .ptr 6 4), (226, .ptr 6 4), (227, .int .i64 v2.Border.a0), (228, .ptr 6 8), (229, .ptr 6 8), (230, .int .i64 v2.Padding.a0), (231, .int .i64 (w64 (v2.Border.a0 + v2.Padding.a0))), (232, .int .i64 v25), (233, .int .i64 (w64 ((w64 (v2.Border.a0 + v2.Padding.a0)) + v25))), (234, .int .i64 (w64 (((List.getD v49 (v47).toNat default).Y) + (w64 ((w64 (v2.Border.a0 + v2.Padding.a0)) + v25))))), (235, .eptr 1054 67 ((v47).toNat) 0), (236, .eptr 1054 67 ((v47).toNat) 3)] [] [] [strS 1054 ⟨60, 67, List.map eTBlockFragment (List.set v49 (v47).toNat ({ (List.getD v49 (v47).toNat default) with Y := (w64 (((List.getD v49 (v47).toNat default).Y) + (w64 ((w64 (v2.Border.a0 + v2.Padding.a0)) + v25)))) } : TBlockFragment))⟩] (d_vs [.v 0 1, .v 0 1, .v 0 1] (d_c1 (e_v (lo := 0) (y_ixr 1054 67 eTBlockFragment (L := v49) (i := v47) (by first | exact h58 | exact Eq.trans (by simp only [List.length_set]) h58))) (d_vs [.v 0 1] (d_c1 (e_v (lo := 0) (y_ldr 3 3 eTBlockFragment xTBlockFragment (inb_spec h59).2 (xTBlockFragment_eq))) (d_vs [.v 0 1, .v 0 1, .v 0 1, .v 0 1, .v 0 1, .v 0 1, .v 0 1, .v 0 1, .v 0 1, .v 0 1] (d_c1 (k_v (lo := 0) (k := 2) (kallS ⟨(by kernel_rfl), (aop_eq (y_ixr 1054 67 eTBlockFragment (L := v49) (i := v47) (by first | exact h59 | exact Eq.trans (by simp only [List.length_set]) h59)) (by kernel_rfl))⟩ (kallS ⟨(by kernel_rfl), (aop_eq (y_ixr 1054 67 eTBlockFragment (L := (List.set v49 (v47).toNat ({ (List.getD v49 (v47).toNat default) with Y := (w64 (((List.getD v49 (v47).toNat default).Y) + (w64 ((w64 (v2.Border.a0 + v2.Padding.a0)) + v25)))) } : TBlockFragment))) (i := v47) (by first | exact h59 | exact Eq.trans (by simp only [List.length_set]) h59)) (by kernel_rfl))⟩ (kall0)))) (d_vs [.v 0 1] (d_c1 (e_s (m := 0) (y_str 1054 60 67 3 eTBlockFragment xTBlockFragment ({ (List.getD v49 (v47).toNat default) with Y := (w64 (((List.getD v49 (v47).toNat default).Y) + (w64 ((w64 (v2.Border.a0 + v2.Padding.a0)) + v25)))) } : TBlockFragment) (inb_spec h59).2 (xTBlockFragment_eq))) (d_nl))))))))) ?_
   obtain ⟨v50, h60, h⟩ := bind_some h
   have h60 := Option.some.inj h60
   refine ve_go (ks' := [.c (cat Try.f57 p57_14), .c (cat Try.f57 p57_6), .b 5, .c (cat Try.f57 p57_5), k57_2 M w0 r m2, .b 4, .c (cat Try.f57 p57_0)]) 1 ⟨[(6,.ptr 6 0),(10,.ptr 10 0),(11,.ptr 11 0),(12,.sl (List.map eTBoxtreeBox v6.1)),(13,.bool v6.2),(15,.int .i64 v25),(24,.int .i64 v47),(199,.int .i64 (v19.length : Int)),(200,.int .i64 v47)],[(6,eTBlockSizes v2),(10,List.set (xTBlockFragment zTBlockFragment) 66 (.nils)),(11,List.set (xTBlockFragment (⟨1, v1.Node, v2.Margin.a3, 0, (w64 (v2.Content + v39)), v40, 0, ⟨#[]⟩, v1.Style, v33, v34, v35, []⟩ : TBlockFragment)) 66 (.ref 1054))],[(1054,⟨60,67,List.map eTBlockFragment v50⟩)],[6,10,11,1054]⟩ ?_ (by subst h60; kernel_rfl)
   refine ve_in 2 ?_
   rcases ite_some h with ⟨h61, h⟩ | ⟨h61, h⟩
   ·
    refine ot_sb 238 h61 ?_
    refine ot_go 4 2 ?_
    obtain ⟨h62, h⟩ := chk_some h
    refine ot_sp (y_ixs eTBoxtreeBox xTBoxtreeBox h62 (eTBoxtreeBox_len) (xTBoxtreeBox_eq)) ?_
    refine ot_go 6 1 ?_
    obtain ⟨v51, h63, h⟩ := bind_some h
    refine ot_cl (g_boxtree_Outer_ok hK h63) ?_
    refine ot_end ?_
    exact ve_arr 0 (g_block_layout_j9_ok hK hL2 h)
   ·
    refine ot_sb 238 h61 ?_
    refine ot_end ?_
    exact ve_arr 0 (g_block_layout_j9_ok hK hL2 h)
  ·
   refine ve_sb 201 h54 ?_
   refine ve_rt 8 ?_
   have hr := Option.some.inj h
   subst hr
   exact ve_o1
theorem g_block_layout_l11_ok (hK : KnOk K) (m : Nat) : H57_2 M w0 r v1 v2 v6 v19 v25 v33 v34 v35 v39 v40 m (g_block_layout_l11 K n v1 v2 v6 v19 v25 v33 v34 v35 v39 v40 m) := by
  induction m with
 | zero => intro v47 v48 h; cases h
 | succ m ih => intro v47 v48 h; have h : g_block_layout_l11_b K n v1 v2 v6 v19 v25 v33 v34 v35 v39 v40 (g_block_layout_l11 K n v1 v2 v6 v19 v25 v33 v34 v35 v39 v40 m) v47 v48 = some r := h; exact lp_round (g_block_layout_l11_b_ok hK ih h)
theorem g_block_layout_j8_ok (hK : KnOk K) (h : g_block_layout_j8 K n v1 v2 v6 v19 v25 v33 v34 v35 v38 = some r) : VE (cx57 M w0) (q57 M w0 r) [.c (cat Try.f57 p57_15)] .normal (s57_j8 v1 v2 v6 v19 v25 v33 v34 v35 v38) := by
  unfold g_block_layout_j8 at h
  refine ve_un (ks' := [.c (cat Try.f57 p57_16), .c (cat Try.f57 p57_17)]) 3 ?_
  refine ve_pk [6, 10, 11, 12, 13, 14, 15] [6, 10, 11] [1054] ?_
  obtain ⟨v39, h38, h⟩ := bind_some h
  refine ve_dr 1 [(173, .ptr 6 12), (174, .int .i64 v2.Content), (175, .agg (eTBlockSizes v2)), (176, .int .i64 v39), (177, .int .i64 (w64 (v2.Content + v39))), (178, .ptr 11 4)] [] [] [stp Try.prog 259 Try.f57 p57_16 6] (d_vs [.v 0 1, .v 0 1, .v 0 1] (d_c1 (e_c 0 1 176 (g_block_inner_ok hK h38)) (d_vs [.v 0 1, .v 0 1] (d_c1 (e_d 0) (d_nl))))) ?_
  obtain ⟨v40, h39, h⟩ := bind_some h
  have h39 := Option.some.inj h39
  refine ve_go (ks' := [.c (cat Try.f57 p57_18), .c (cat Try.f57 p57_19), .c (cat Try.f57 p57_0)]) 4 ⟨[(6,.ptr 6 0),(10,.ptr 10 0),(11,.ptr 11 0),(12,.sl (List.map eTBoxtreeBox v6.1)),(13,.bool v6.2),(15,.int .i64 v25)],[(6,eTBlockSizes v2),(10,List.set (xTBlockFragment zTBlockFragment) 66 (.nils)),(11,List.set (xTBlockFragment (⟨1, v1.Node, v2.Margin.a3, 0, (w64 (v2.Content + v39)), v40, 0, ⟨#[]⟩, v1.Style, v33, v34, v35, []⟩ : TBlockFragment)) 66 (.ref 1054))],[(1054,⟨60,67,List.map eTBlockFragment v19⟩)],[6,10,11,1054]⟩ ?_ (by subst h39; kernel_rfl)
  refine ve_in 2 ?_
  refine ot_sp (y_len eTBlockFragment v19) ?_
  refine ot_end ?_
  exact ve_arr 1 (lp_en (p := p57_20) n (g_block_layout_l11_ok hK n h))
theorem g_block_layout_j7_ok (hK : KnOk K) (h : g_block_layout_j7 K n v1 v2 v6 v19 v25 v32 v33 v34 v35 v36 v37 = some r) : VE (cx57 M w0) (q57 M w0 r) [.c (cat Try.f57 p57_21), .c (cat Try.f57 p57_15)] .normal (s57_j7 v1 v2 v6 v19 v25 v32 v33 v34 v35 v36 v37) := by
  unfold g_block_layout_j7 at h
  rcases ite_some h with ⟨h37, h⟩ | ⟨h37, h⟩
  ·
   refine ve_sb 166 h37 ?_
   exact ve_arr 2 (g_block_layout_j8_ok hK h)
  ·
   refine ve_sb 166 h37 ?_
   exact ve_arr 2 (g_block_layout_j8_ok hK h)
theorem g_block_layout_j6_ok (hK : KnOk K) (h : g_block_layout_j6 K n v1 v2 v6 v19 v25 v32 v33 v34 v35 = some r) : VE (cx57 M w0) (q57 M w0 r) [.b 3, .c (cat Try.f57 p57_22)] .normal (s57_j6 v1 v2 v6 v19 v25 v32 v33 v34 v35) := by
  unfold g_block_layout_j6 at h
  refine ve_un (ks' := [.c (cat Try.f57 p57_23), .c (cat Try.f57 p57_24), .c (cat Try.f57 p57_15)]) 5 ?_
  refine ve_in 3 ?_
  obtain ⟨v36, h35, h⟩ := bind_some h
  refine ot_cl (g_block_Length_ok hK h35) ?_
  refine ot_end ?_
  refine ve_un (ks' := [.c (cat Try.f57 p57_25), .c (cat Try.f57 p57_21), .c (cat Try.f57 p57_15)]) 1 ?_
  refine ve_in 2 ?_
  rcases ite_some h with ⟨h36, h⟩ | ⟨h36, h⟩
  ·
   refine ot_sb 160 h36 ?_
   refine ot_end ?_
   exact ve_arr 0 (g_block_layout_j7_ok hK h)
  ·
   refine ot_sb 160 h36 ?_
   refine ot_end ?_
   exact ve_arr 0 (g_block_layout_j7_ok hK h)
theorem g_block_layout_j5_ok (hK : KnOk K) (h : g_block_layout_j5 K n v1 v2 v4 v6 v15 v16 v17 v18 v19 v21 v25 v26 v27 = some r) : VE (cx57 M w0) (q57 M w0 r) [.c (cat Try.f57 p57_26), .b 3, .c (cat Try.f57 p57_22)] .normal (s57_j5 v1 v2 v4 v6 v15 v16 v17 v18 v19 v21 v25 v26 v27) := by
  unfold g_block_layout_j5 at h
  rcases ite_some h with ⟨h27, h⟩ | ⟨h27, h⟩
  ·
   refine ve_sb 113 h27 ?_
   refine ve_un (ks' := [.c (cat Try.f57 p57_27), .c (cat Try.f57 p57_28), .b 3, .c (cat Try.f57 p57_22)]) 2 ?_
   refine ve_in 4 ?_
   obtain ⟨v28, h28, h⟩ := bind_some h
   refine ot_cl (g_block_Collapse_ok hK h28) ?_
   refine ot_end ?_
   exact ve_arr 5 (g_block_layout_j6_ok hK h)
  ·
   refine ve_sb 113 h27 ?_
   refine ve_un (ks' := [.c (cat Try.f57 p57_29), .b 3, .c (cat Try.f57 p57_22)]) 3 ?_
   rcases ite_some h with ⟨h29, h⟩ | ⟨h29, h⟩
   ·
    refine ve_sb 131 h29 ?_
    refine ve_un (ks' := [.c (cat Try.f57 p57_30), .b 3, .c (cat Try.f57 p57_22)]) 5 ?_
    rcases ite_some h with ⟨h30, h⟩ | ⟨h30, h⟩
    ·
     refine ve_sb 134 h30 ?_
     refine ve_un (ks' := [.c (cat Try.f57 p57_31), .b 3, .c (cat Try.f57 p57_22)]) 1 ?_
     refine ve_in 3 ?_
     obtain ⟨v29, h31, h⟩ := bind_some h
     refine ot_cl (g_block_Collapse_ok hK h31) ?_
     refine ot_end ?_
     exact ve_arr 0 (g_block_layout_j6_ok hK h)
    ·
     refine ve_sb 134 h30 ?_
     exact ve_arr 2 (g_block_layout_j6_ok hK h)
   ·
    refine ve_sb 131 h29 ?_
    refine ve_un (ks' := [.c (cat Try.f57 p57_32), .b 3, .c (cat Try.f57 p57_22)]) 3 ?_
    rcases ite_some h with ⟨h32, h⟩ | ⟨h32, h⟩
    ·
     refine ve_sb 140 h32 ?_
     refine ve_un (ks' := [.c (cat Try.f57 p57_33), .c (cat Try.f57 p57_34), .b 3, .c (cat Try.f57 p57_22)]) 2 ?_
     refine ve_in 3 ?_
     obtain ⟨v30, h33, h⟩ := bind_some h
     refine ot_cl (g_block_Collapse_ok hK h33) ?_
     refine ot_end ?_
     exact ve_arr 1 (g_block_layout_j6_ok hK h)
    ·
     refine ve_sb 140 h32 ?_
     refine ve_un (ks' := [.c (cat Try.f57 p57_35), .b 3, .c (cat Try.f57 p57_22)]) 1 ?_
     refine ve_in 3 ?_
     obtain ⟨v31, h34, h⟩ := bind_some h
     refine ot_cl (g_api_BlockMargin_Sum_ok hK h34) ?_
     refine ot_end ?_
     exact ve_arr 0 (g_block_layout_j6_ok hK h)
theorem g_block_layout_j4_ok (hK : KnOk K) (h : g_block_layout_j4 K n v1 v2 v3 v4 v6 v15 v16 v17 v18 v19 v21 v25 v26 = some r) : VE (cx57 M w0) (q57 M w0 r) [.b 2, .c (cat Try.f57 p57_36)] .normal (s57_j4 v1 v2 v3 v4 v6 v15 v16 v17 v18 v19 v21 v25 v26) := by
  unfold g_block_layout_j4 at h
  refine ve_un (ks' := [.c (cat Try.f57 p57_37), .c (cat Try.f57 p57_26), .b 3, .c (cat Try.f57 p57_22)]) 4 ?_
  refine ve_in 2 ?_
  rcases ite_some h with ⟨h25, h⟩ | ⟨h25, h⟩
  ·
   refine ot_sb 115 h25 ?_
   refine ot_go 5 3 ?_
   rcases ite_some h with ⟨h26, h⟩ | ⟨h26, h⟩
   ·
    refine ot_sb 118 h26 ?_
    refine ot_end ?_
    exact ve_arr 0 (g_block_layout_j5_ok hK h)
   ·
    refine ot_sb 118 h26 ?_
    refine ot_end ?_
    exact ve_arr 0 (g_block_layout_j5_ok hK h)
  ·
   refine ot_sb 115 h25 ?_
   refine ot_end ?_
   exact ve_arr 0 (g_block_layout_j5_ok hK h)
theorem g_block_layout_j3_ok (hK : KnOk K) (h : g_block_layout_j3 K n v1 v2 v3 v4 v6 v15 v16 v17 v18 v19 v20 v21 v23 = some r) : VE (cx57 M w0) (q57 M w0 r) [.c (cat Try.f57 p57_38), .b 2, .c (cat Try.f57 p57_36)] .normal (s57_j3 v1 v2 v3 v4 v6 v15 v16 v17 v18 v19 v20 v21 v23) := by
  unfold g_block_layout_j3 at h
  rcases ite_some h with ⟨h23, h⟩ | ⟨h23, h⟩
  ·
   refine ve_sb 98 h23 ?_
   refine ve_un (ks' := [.c (cat Try.f57 p57_39), .b 2, .c (cat Try.f57 p57_36)]) 1 ?_
   refine ve_in 1 ?_
   obtain ⟨v24, h24, h⟩ := bind_some h
   refine ot_cl (g_api_BlockMargin_Sum_ok hK h24) ?_
   refine ot_end ?_
   exact ve_arr 0 (g_block_layout_j4_ok hK h)
  ·
   refine ve_sb 98 h23 ?_
   exact ve_arr 2 (g_block_layout_j4_ok hK h)
theorem g_block_layout_j2_ok (hK : KnOk K) (h : g_block_layout_j2 K n v1 v2 v3 v4 v6 v15 v16 v17 v18 v19 = some r) : VE (cx57 M w0) (q57 M w0 r) [.c (cat Try.f57 p57_3)] .normal (s57_j2 v1 v2 v3 v4 v6 v15 v16 v17 v18 v19) := by
  unfold g_block_layout_j2 at h
  refine ve_un (ks' := [.c (cat Try.f57 p57_40), .c (cat Try.f57 p57_41)]) 1 ?_
  refine ve_pk [2, 3, 5, 6, 10, 11, 12, 13, 14, 15, 16, 17, 18] [5, 6, 10, 11, 16, 17] [1054] ?_
  obtain ⟨v20, h18, h⟩ := bind_some h
  obtain ⟨v21, h19, h⟩ := bind_some h
  refine ve_dr 2 [(81, .ptr 6 0), (82, .ptr 6 0), (83, .int .i64 v2.Margin.a0), (84, .agg (eTBlockMargin v20)), (85, .ptr 6 0), (86, .ptr 6 2), (87, .int .i64 v2.Margin.a2), (88, .agg (eTBlockMargin v21)), (89, .ptr 11 61), (90, .ptr 11 63)] [] [] [stp Try.prog 259 Try.f57 p57_40 9, stp Try.prog 259 Try.f57 p57_40 11] (d_vs [.v 0 1, .v 0 1, .v 0 1] (d_c1 (e_c 0 1 84 (g_block_Of_ok hK h18)) (d_vs [.v 0 2, .v 0 2, .v 0 2] (d_c1 (e_c 0 1 88 (g_block_Of_ok hK h19)) (d_vs [.v 0 1] (d_c1 (e_d 0) (d_vs [.v 1 1] (d_c1 (e_d 1) (d_nl))))))))) ?_
  refine ve_un (ks' := [.c (cat Try.f57 p57_42), .b 2, .c (cat Try.f57 p57_36)]) 4 ?_
  rcases ite_some h with ⟨h20, h⟩ | ⟨h20, h⟩
  ·
   refine ve_sb 91 h20 ?_
   refine ve_un (ks' := [.c (cat Try.f57 p57_43), .b 2, .c (cat Try.f57 p57_36)]) 1 ?_
   refine ve_in 3 ?_
   obtain ⟨v22, h21, h⟩ := bind_some h
   refine ot_cl (g_block_Collapse_ok hK h21) ?_
   refine ot_end ?_
   exact ve_arr 0 (g_block_layout_j4_ok hK h)
  ·
   refine ve_sb 91 h20 ?_
   refine ve_un (ks' := [.c (cat Try.f57 p57_44), .c (cat Try.f57 p57_38), .b 2, .c (cat Try.f57 p57_36)]) 2 ?_
   refine ve_in 3 ?_
   rcases ite_some h with ⟨h22, h⟩ | ⟨h22, h⟩
   ·
    refine ot_sb 101 h22 ?_
    refine ot_end ?_
    exact ve_arr 0 (g_block_layout_j3_ok hK h)
   ·
    refine ot_sb 101 h22 ?_
    refine ot_end ?_
    exact ve_arr 0 (g_block_layout_j3_ok hK h)
theorem g_block_layout_l1_b_ok (hK : KnOk K) (hL1 : H57_1 M w0 r v1 v2 v3 v4 v5 v6 m1 L1) (h : g_block_layout_l1_b K n v1 v2 v3 v4 v5 v6 L1 v9 v10 = some r) : VE (cx57 M w0) (q57 M w0 r) [.c (cat Try.f57 p57_4), k57_1 M w0 r m1, .b 0, .c (cat Try.f57 p57_2), .c (cat Try.f57 p57_3)] .normal (s57_l1 v1 v2 v3 v4 v5 v6 v9 v10) := by
  unfold g_block_layout_l1_b at h
  refine ve_un (ks' := [.c (cat Try.f57 p57_45), .c (cat Try.f57 p57_46), k57_1 M w0 r m1, .b 0, .c (cat Try.f57 p57_2), .c (cat Try.f57 p57_3)]) 3 ?_
  rcases ite_some h with ⟨h11, h⟩ | ⟨h11, h⟩
  ·
   refine ve_sb 39 h11 ?_
   refine ve_un (ks' := [.c (cat Try.f57 p57_47), .c (cat Try.f57 p57_48), .b 1, .c (cat Try.f57 p57_49), k57_1 M w0 r m1, .b 0, .c (cat Try.f57 p57_2), .c (cat Try.f57 p57_3)]) 5 ?_
   refine ve_in 0 ?_
   obtain ⟨h12, h⟩ := chk_some h
   refine ot_sp (y_ixs eTBoxtreeBox xTBoxtreeBox h12 (eTBoxtreeBox_len) (xTBoxtreeBox_eq)) ?_
   refine ot_end ?_
   refine ve_in 6 ?_
   obtain ⟨v11, h13, h⟩ := bind_some h
   refine ot_cd (hK.d_TBoxtreeBox_Int__TBlockFragment h13) ?_
   refine ot_sp (y_bsl eTBlockFragment ([v11] : List TBlockFragment) (new := [xTBlockFragment v11]) (by simp only [List.map_cons, List.map_nil, xTBlockFragment_eq])) ?_
   obtain ⟨h14, h⟩ := chk_some h
   refine ot_sp (y_app 50 50 60 67 eTBlockFragment (rfl) (eTBlockFragment_len) h14) ?_
   refine ot_end ?_
   exact ve_arr 2 (lp_back (hL1 h))
  ·
   refine ve_sb 39 h11 ?_
   refine ve_un (ks' := [.c (cat Try.f57 p57_2), .c (cat Try.f57 p57_3)]) 5 ?_
   refine ve_in 1 ?_
   refine ot_f 50 ?_
   obtain ⟨v12, h15, h⟩ := bind_some h
   refine ot_co 1054 (g_block_Stack_ok hK h15) (one_tup (i := 0) rfl) ?_
   refine ot_end ?_
   exact ve_arr 0 (g_block_layout_j2_ok hK h)
theorem g_block_layout_l1_ok (hK : KnOk K) (m : Nat) : H57_1 M w0 r v1 v2 v3 v4 v5 v6 m (g_block_layout_l1 K n v1 v2 v3 v4 v5 v6 m) := by
  induction m with
 | zero => intro v9 v10 h; cases h
 | succ m ih => intro v9 v10 h; have h : g_block_layout_l1_b K n v1 v2 v3 v4 v5 v6 (g_block_layout_l1 K n v1 v2 v3 v4 v5 v6 m) v9 v10 = some r := h; exact lp_round (g_block_layout_l1_b_ok hK ih h)
theorem g_block_layout_ok (hK : KnOk K) (h : g_block_layout K n v1 v2 v3 v4 v5 = some r) : ACalls Try.prog 57 [.agg (xTBoxtreeBox v1), .agg (eTBlockSizes v2), .bool v3, .bool v4, .agg (eTBlockEnv v5)] (fun v s => v = .agg (List.set (xTBlockFragment ({ r with Kids := [] } : TBlockFragment)) 66 (.ref 1054)) ∧ look 1054 s.r = some ⟨60, 67, List.map eTBlockFragment r.Kids⟩) := by
  refine acalls_intro (c := cat Try.f57 []) Try.func57 (by kernel_rfl) _ Try.ntmps57 (of_decide_eq_true (by kernel_rfl)) fun M w0 => ?_
  refine ve_cast (s' := ⟨[(0,.agg (xTBoxtreeBox v1)),(1,.agg (eTBlockSizes v2)),(2,.bool v3),(3,.bool v4),(4,.agg (eTBlockEnv v5))],[],[],[]⟩) (by kernel_rfl) ?_
  unfold g_block_layout at h
  refine ve_un (ks' := [.c (cat Try.f57 [1, 1, 0]), .c (cat Try.f57 [1, 1, 1])]) 5 ?_
  refine ve_in 1 ?_
  obtain ⟨v6, h1, h⟩ := bind_some h
  refine ot_cl (g_block_flow_ok hK h1) ?_
  refine ot_end ?_
  refine ve_un (ks' := [.c (cat Try.f57 p57_50), .c (cat Try.f57 p57_3)]) 9 ?_
  rcases ite_some h with ⟨h2, h⟩ | ⟨h2, h⟩
  ·
   refine ve_sb 35 h2 ?_
   refine ve_un (ks' := [.c (cat Try.f57 p57_51), .c (cat Try.f57 p57_52), .c (cat Try.f57 p57_2), .c (cat Try.f57 p57_3)]) 5 ?_
   refine ve_in 1 ?_
   refine ot_sp (y_len eTBoxtreeBox v6.1) ?_
   refine ot_end ?_
   refine ve_un (ks' := [.c (cat Try.f57 p57_53), .b 0, .c (cat Try.f57 p57_2), .c (cat Try.f57 p57_3)]) 1 ?_
   refine ve_w 50 19 60 67 ?_
   exact ve_arr 0 (lp_en (p := p57_53) n (g_block_layout_l1_ok hK n h))
  ·
   refine ve_sb 35 h2 ?_
   refine ve_un (ks' := [.c (cat Try.f57 p57_54), .c (cat Try.f57 p57_55), .c (cat Try.f57 p57_3)]) 2 ?_
   refine ve_in 7 ?_
   obtain ⟨v13, h16, h⟩ := bind_some h
   refine ot_cd (hK.d_ListTBoxtreeBox_TCascadeStyle_Int__ListTBlockFragmentInt h16) ?_
   refine ot_end ?_
   refine ve_un (ks' := [.c (cat Try.f57 p57_56), .c (cat Try.f57 p57_57), .c (cat Try.f57 p57_3)]) 1 ?_
   refine ve_in 2 ?_
   obtain ⟨v14, h17, h⟩ := bind_some h
   refine ot_co 1075 (g_slices_Clone_BlockFragment_BlockFragment_ok hK h17) (one_ref 5) ?_
   refine ot_end ?_
   refine ve_in 2 ?_
   refine ot_sp (y_len eTBlockFragment v14) ?_
   refine ot_end ?_
   refine ve_m 1075 1054 ?_
   exact ve_arr 0 (g_block_layout_j2_ok hK h)
end

def p42_0 : List Nat := ones 5 []
def p42_1 : List Nat := ones 5 [0]
def p42_2 : List Nat := ones 6 []
def p42_3 : List Nat := [1, 1, 1, 1]
def p42_4 : List Nat := [1, 1, 1, 1, 0]
def p42_5 : List Nat := [1, 1, 1, 0]
noncomputable section
abbrev cx42 (M : Nat → Prop) (w0 : World) : Cx := ⟨Try.prog, 58, M, w0⟩
abbrev q42 (M : Nat → Prop) (w0 : World) (r : TBlockFragment) := bodyPost Try.prog Try.f42 (RetQ M w0 (fun v s => v = .agg (List.set (xTBlockFragment ({ r with Kids := [] } : TBlockFragment)) 66 (.ref 1057)) ∧ look 1057 s.r = some ⟨60, 67, List.map eTBlockFragment r.Kids⟩))
def s42_j2 (v1 : TBoxtreeBox) (v3 : TBlockEnv) (v4 : TBlockSizes) (v5 : Bool) (v6 : Bool) : AS := ⟨[(3,.ptr 3 0),(5,.ptr 5 0),(6,.ptr 6 0),(7,.ptr 7 0),(9,.bool v5),(10,.bool v6)],[(3,xTBoxtreeBox v1),(5,eTBlockEnv v3),(6,List.set (xTBlockFragment zTBlockFragment) 66 (.nils)),(7,eTBlockSizes v4)],[],[3,5,6,7]⟩
def s42_j1 (v1 : TBoxtreeBox) (v3 : TBlockEnv) (v4 : TBlockSizes) (v5 : Bool) : AS := ⟨[(3,.ptr 3 0),(5,.ptr 5 0),(6,.ptr 6 0),(7,.ptr 7 0),(8,.bool (v1.Style.Overflow == 0)),(9,.bool v5)],[(3,xTBoxtreeBox v1),(5,eTBlockEnv v3),(6,List.set (xTBlockFragment zTBlockFragment) 66 (.nils)),(7,eTBlockSizes v4)],[],[3,5,6,7]⟩
variable {K : Kn} {n : Nat} {M : Nat → Prop} {w0 : World} {r : TBlockFragment} {v1 : TBoxtreeBox} {v2 : Int} {v3 : TBlockEnv} {v4 : TBlockSizes} {v5 : Bool} {v6 : Bool} 
theorem g_block_Layout_j2_ok (hK : KnOk K) (h : g_block_Layout_j2 K n v1 v3 v4 v5 v6 = some r) : VE (cx42 M w0) (q42 M w0 r) [.c (cat Try.f42 p42_0)] .normal (s42_j2 v1 v3 v4 v5 v6) := by
  unfold g_block_Layout_j2 at h
  refine ve_un (ks' := [.c (cat Try.f42 p42_1), .c (cat Try.f42 p42_2)]) 1 ?_
  refine ve_in 5 ?_
  obtain ⟨v7, h7, h⟩ := bind_some h
  refine ot_co 1057 (g_block_layout_ok hK h7) (one_agg (i := 66) (by kernel_rfl)) ?_
  refine ot_end ?_
  refine ve_rt 1 ?_
  have hr := Option.some.inj h
  subst hr
  exact ve_o1
theorem g_block_Layout_j1_ok (hK : KnOk K) (h : g_block_Layout_j1 K n v1 v3 v4 v5 = some r) : VE (cx42 M w0) (q42 M w0 r) [.c (cat Try.f42 p42_3)] .normal (s42_j1 v1 v3 v4 v5) := by
  unfold g_block_Layout_j1 at h
  refine ve_un (ks' := [.c (cat Try.f42 p42_4), .c (cat Try.f42 p42_0)]) 1 ?_
  refine ve_in 2 ?_
  rcases ite_some h with ⟨h4, h⟩ | ⟨h4, h⟩
  ·
   refine ot_sb 33 h4 ?_
   refine ot_go 8 6 ?_
   rcases ite_some h with ⟨h5, h⟩ | ⟨h5, h⟩
   ·
    refine ot_sb 39 h5 ?_
    refine ot_go 14 6 ?_
    rcases ite_some h with ⟨h6, h⟩ | ⟨h6, h⟩
    ·
     refine ot_sb 45 h6 ?_
     refine ot_end ?_
     exact ve_arr 0 (g_block_Layout_j2_ok hK h)
    ·
     refine ot_sb 45 h6 ?_
     refine ot_end ?_
     exact ve_arr 0 (g_block_Layout_j2_ok hK h)
   ·
    refine ot_sb 39 h5 ?_
    refine ot_end ?_
    exact ve_arr 0 (g_block_Layout_j2_ok hK h)
  ·
   refine ot_sb 33 h4 ?_
   refine ot_end ?_
   exact ve_arr 0 (g_block_Layout_j2_ok hK h)
theorem g_block_Layout_ok (hK : KnOk K) (h : g_block_Layout K n v1 v2 v3 = some r) : ACalls Try.prog 42 [.agg (xTBoxtreeBox v1), .int .i64 v2, .agg (eTBlockEnv v3)] (fun v s => v = .agg (List.set (xTBlockFragment ({ r with Kids := [] } : TBlockFragment)) 66 (.ref 1057)) ∧ look 1057 s.r = some ⟨60, 67, List.map eTBlockFragment r.Kids⟩) := by
  refine acalls_intro (c := cat Try.f42 []) Try.func42 (by kernel_rfl) _ Try.ntmps42 (of_decide_eq_true (by kernel_rfl)) fun M w0 => ?_
  refine ve_cast (s' := ⟨[(0,.agg (xTBoxtreeBox v1)),(1,.int .i64 v2),(2,.agg (eTBlockEnv v3))],[],[],[]⟩) (by kernel_rfl) ?_
  unfold g_block_Layout at h
  refine ve_un (ks' := [.c (cat Try.f42 [1, 0]), .c (cat Try.f42 [1, 1])]) 3 ?_
  refine ve_in 3 ?_
  obtain ⟨v4, h1, h⟩ := bind_some h
  refine ot_cl (g_block_Used_ok hK h1) ?_
  refine ot_end ?_
  refine ve_un (ks' := [.c (cat Try.f42 p42_5), .c (cat Try.f42 p42_3)]) 3 ?_
  refine ve_in 2 ?_
  rcases ite_some h with ⟨h2, h⟩ | ⟨h2, h⟩
  ·
   refine ot_sb 20 h2 ?_
   refine ot_go 8 6 ?_
   rcases ite_some h with ⟨h3, h⟩ | ⟨h3, h⟩
   ·
    refine ot_sb 26 h3 ?_
    refine ot_end ?_
    exact ve_arr 0 (g_block_Layout_j1_ok hK h)
   ·
    refine ot_sb 26 h3 ?_
    refine ot_end ?_
    exact ve_arr 0 (g_block_Layout_j1_ok hK h)
  ·
   refine ot_sb 20 h2 ?_
   refine ot_end ?_
   exact ve_arr 0 (g_block_Layout_j1_ok hK h)
end


noncomputable section
abbrev cx43 (M : Nat → Prop) (w0 : World) : Cx := ⟨Try.prog, 2, M, w0⟩
abbrev q43 (M : Nat → Prop) (w0 : World) (r : TBlockEnv) := bodyPost Try.prog Try.f43 (RetQ M w0 (fun v _ => v = .agg (eTBlockEnv r)))
variable {K : Kn} {n : Nat} {M : Nat → Prop} {w0 : World} {r : TBlockEnv}  
theorem g_law17_Env_ok (hK : KnOk K) (h : g_law17_Env K n = some r) : ACalls Try.prog 43 [] (fun v _ => v = .agg (eTBlockEnv r)) := by
  refine acalls_intro (c := cat Try.f43 []) Try.func43 (by kernel_rfl) _ Try.ntmps43 (of_decide_eq_true (by kernel_rfl)) fun M w0 => ?_
  refine ve_cast (s' := ⟨[],[],[],[]⟩) (by kernel_rfl) ?_
  unfold g_law17_Env at h
  refine ve_rt 5 ?_
  have hr := Option.some.inj h
  subst hr
  exact ve_d1
end

def p9_0 : List Nat := [1, 1, 0, 1]
def p9_1 : List Nat := [1, 1, 1, 0]
def p9_2 : List Nat := [1, 1, 1, 1]
def p9_3 : List Nat := [1, 1, 1, 1, 0]
def p9_4 : List Nat := ones 5 []
def p9_5 : List Nat := [1, 1, 0, 0]
noncomputable section
abbrev cx9 (M : Nat → Prop) (w0 : World) : Cx := ⟨Try.prog, 30, M, w0⟩
abbrev q9 (M : Nat → Prop) (w0 : World) (r : Bool) := bodyPost Try.prog Try.f9 (RetQ M w0 (fun v _ => v = .bool r))
def s9_j1 (v1 : (List TKnapsackref17Spec)) (v2 : Int) (v5 : Bool) : AS := ⟨[(0,.sl (List.map eTKnapsackref17Spec v1)),(1,.int .i64 v2),(16,.bool v5)],[],[],[]⟩
variable {K : Kn} {n : Nat} {M : Nat → Prop} {w0 : World} {r : Bool} {v1 : (List TKnapsackref17Spec)} {v2 : Int} {v5 : Bool} 
theorem g_law17_BlockLayouts_j1_ok (hK : KnOk K) (h : g_law17_BlockLayouts_j1 K n v1 v2 v5 = some r) : VE (cx9 M w0) (q9 M w0 r) [.c (cat Try.f9 p9_0), .c (cat Try.f9 [1, 1, 1])] .normal (s9_j1 v1 v2 v5) := by
  unfold g_law17_BlockLayouts_j1 at h
  rcases ite_some h with ⟨h5, h⟩ | ⟨h5, h⟩
  ·
   refine ve_sb 16 h5 ?_
   refine ve_rt 5 ?_
   have hr := Option.some.inj h
   subst hr
   exact ve_d1
  ·
   refine ve_sb 16 h5 ?_
   refine ve_un (ks' := [.c (cat Try.f9 p9_1), .c (cat Try.f9 p9_2)]) 3 ?_
   refine ve_in 1 ?_
   obtain ⟨v6, h6, h⟩ := bind_some h
   refine ot_co 1019 (g_ref17_Tree_ok hK h6) (one_tupa (i := 0) (j := 58) rfl (by kernel_rfl)) ?_
   refine ot_end ?_
   refine ve_un (ks' := [.c (cat Try.f9 p9_3), .c (cat Try.f9 p9_4)]) 1 ?_
   refine ve_pk [1, 5] [5] [1019] ?_
   refine ve_f 1019 ?_
   obtain ⟨v14, h14, h⟩ := bind_some h
   obtain ⟨v15, h15, h⟩ := bind_some h
   obtain ⟨v16, h16, h⟩ := bind_some h
   obtain ⟨v17, h17, h⟩ := bind_some h
   refine ve_dr 1 [(22, .agg (xTBoxtreeBox v6.1)), (23, .int .i64 v2), (24, .agg (eTBlockEnv v14)), (25, .agg (xTBlockFragment v15)), (26, .agg (xTBoxtreeBox v6.1)), (27, .int .i64 v2), (28, .agg (xTBlockFragment v16)), (29, .bool v17)] [] [] [stp Try.prog 30 Try.f9 p9_3 8] (d_vs [.v 0 1, .v 0 1] (d_c1 (e_c 0 1 24 (g_law17_Env_ok hK h14)) (d_c1 (e_c 0 1 25 (ACalls.frz (g_block_Layout_ok hK h15) (V' := .agg (xTBlockFragment v15)) (by kernel_rfl))) (d_vs [.v 0 1, .v 0 1] (d_c1 (e_c 0 1 28 (ACalls.frz (g_ref17_Layout_ok hK h16) (V' := .agg (xTBlockFragment v16)) (by kernel_rfl))) (d_c1 (e_c 0 1 29 (g_ref17_Same_ok hK h17)) (d_c1 (e_d 0) (d_nl)))))))) ?_
   refine ve_rt 1 ?_
   have hr := Option.some.inj h
   subst hr
   exact ve_d1
theorem g_law17_BlockLayouts_ok (hK : KnOk K) (h : g_law17_BlockLayouts K n v1 v2 = some r) : ACalls Try.prog 9 [.sl (List.map eTKnapsackref17Spec v1), .int .i64 v2] (fun v _ => v = .bool r) := by
  refine acalls_intro (c := cat Try.f9 []) Try.func9 (by kernel_rfl) _ Try.ntmps9 (of_decide_eq_true (by kernel_rfl)) fun M w0 => ?_
  refine ve_cast (s' := ⟨[(0,.sl (List.map eTKnapsackref17Spec v1)),(1,.int .i64 v2)],[],[],[]⟩) (by kernel_rfl) ?_
  unfold g_law17_BlockLayouts at h
  refine ve_un (ks' := [.c (cat Try.f9 [1, 0, 0]), .c (cat Try.f9 [1, 0, 1]), .c (cat Try.f9 [1, 1])]) 4 ?_
  refine ve_in 0 ?_
  obtain ⟨v3, h1, h⟩ := bind_some h
  refine ot_cl (g_law17_fit_ok hK h1) ?_
  refine ot_end ?_
  rcases ite_some h with ⟨h2, h⟩ | ⟨h2, h⟩
  ·
   refine ve_sb 8 h2 ?_
   refine ve_rt 5 ?_
   have hr := Option.some.inj h
   subst hr
   exact ve_d1
  ·
   refine ve_sb 8 h2 ?_
   refine ve_un (ks' := [.c (cat Try.f9 p9_5), .c (cat Try.f9 p9_0), .c (cat Try.f9 [1, 1, 1])]) 4 ?_
   refine ve_in 1 ?_
   obtain ⟨v4, h3, h⟩ := bind_some h
   refine ot_cl (g_ref17_Few_ok hK h3) ?_
   refine ot_go 4 2 ?_
   rcases ite_some h with ⟨h4, h⟩ | ⟨h4, h⟩
   ·
    refine ot_sb 12 h4 ?_
    refine ot_end ?_
    exact ve_arr 0 (g_law17_BlockLayouts_j1_ok hK h)
   ·
    refine ot_sb 12 h4 ?_
    refine ot_go 5 1 ?_
    refine ot_sp (y_len eTKnapsackref17Spec v1) ?_
    refine ot_end ?_
    exact ve_arr 0 (g_law17_BlockLayouts_j1_ok hK h)
end
end Go.Proofs.Ytkciiamllegclaa
