/- The runs of the functions that FlexWidths reaches do what their plain forms say, part 2. Made by a program. -/
import Derived.Test.YtlpndemhnpajiaaSmGk
import Derived.Test.YtlpndemhnpajiaaSmP1
namespace Go.Proofs.Ytlpndemhnpajiaa
open Go.RowKit
set_option maxRecDepth 20000
set_option linter.all false
set_option linter.unusedVariables false
set_option linter.unusedSimpArgs false
noncomputable section
abbrev cx111 (M : Nat → Prop) (w0 : Base) : Cx := ⟨Try.prog, 16, M, w0⟩
abbrev q111 (M : Nat → Prop) (w0 : Base) (r : Bool) := bodyPost Try.prog Try.f111 (RetQ M w0 (fun v _ => v = .bool r))
def s111_j1 (v2 : Bool) : AS := ⟨[(2,.bool v2)],[],[],[]⟩
variable {K : Kn} {n : Nat} {M : Nat → Prop} {w0 : Base} {r : Bool} {v1 : TBoxtreeBox} {v2 : Bool} 
theorem g_boxtree_Outer_j1_ok (hK : KnOk K) (h : g_boxtree_Outer_j1 K n v2 = some r) : VE (cx111 M w0) (q111 M w0 r) [.c (cat Try.f111 [1, 1])] .normal (s111_j1 v2) := by
  unfold g_boxtree_Outer_j1 at h
  refine ve_rt 1 ?_
  have hr := Option.some.inj h
  subst hr
  exact ve_d1
theorem g_boxtree_Outer_ok (hK : KnOk K) (h : g_boxtree_Outer K n v1 = some r) : ACalls Try.prog 111 [.agg (xTBoxtreeBox v1)] (fun v _ => v = .bool r) := by
  refine acalls_intro (c := cat Try.f111 []) Try.func111 (by kernel_rfl) _ Try.ntmps111 (of_decide_eq_true (by kernel_rfl)) fun M w0 => ?_
  refine ve_cast (s' := ⟨[(0,.agg (xTBoxtreeBox v1))],[],[],[]⟩) (by kernel_rfl) ?_
  unfold g_boxtree_Outer at h
  refine ve_un (ks' := [.c (cat Try.f111 [1, 0]), .c (cat Try.f111 [1, 1])]) 3 ?_
  refine ve_in 4 ?_
  rcases ite_some h with ⟨h1, h⟩ | ⟨h1, h⟩
  ·
   refine ot_sb 6 h1 ?_
   refine ot_end ?_
   exact ve_arr 0 (g_boxtree_Outer_j1_ok hK h)
  ·
   refine ot_sb 6 h1 ?_
   refine ot_go 9 5 ?_
   rcases ite_some h with ⟨h2, h⟩ | ⟨h2, h⟩
   ·
    refine ot_sb 11 h2 ?_
    refine ot_end ?_
    exact ve_arr 0 (g_boxtree_Outer_j1_ok hK h)
   ·
    refine ot_sb 11 h2 ?_
    refine ot_end ?_
    exact ve_arr 0 (g_boxtree_Outer_j1_ok hK h)
end
def p100_0 : List Nat := [1, 1, 1, 0, 1, 0, 0, 1, 1, 1]
def p100_1 : List Nat := [1, 1, 1, 1]
def p100_2 : List Nat := [1, 1, 1, 0, 1, 0, 0]
def p100_3 : List Nat := [1, 1, 1, 0, 1, 0, 0, 1, 1, 0, 0, 0]
def p100_4 : List Nat := [1, 1, 1, 0, 1, 0, 0, 1, 1, 0, 0, 1]
def p100_5 : List Nat := [1, 1, 1, 0, 1, 0, 0, 1, 1, 0, 0, 1, 0]
def p100_6 : List Nat := [1, 1, 1, 0, 1, 0, 0, 1, 1, 0, 0, 1, 1]
def p100_7 : List Nat := [1, 1, 1, 0, 1, 0, 0, 1, 1, 0, 0, 1, 1, 0]
def p100_8 : List Nat := [1, 1, 0, 1, 0]
def p100_9 : List Nat := [1, 1, 0, 1, 0, 0]
def p100_10 : List Nat := [1, 1, 0, 1, 0, 0, 1, 1, 0, 0, 1]
def p100_11 : List Nat := [1, 1, 0, 1, 0, 0, 1, 1, 1]
def p100_12 : List Nat := [1, 1, 1, 0, 0]
def p100_13 : List Nat := [1, 1, 1, 0, 1]
def p100_14 : List Nat := [1, 1, 1, 0, 1, 0]
noncomputable section
abbrev cx100 (M : Nat → Prop) (w0 : Base) : Cx := ⟨Try.prog, 40, M, w0⟩
abbrev q100 (M : Nat → Prop) (w0 : Base) (r : TCascadeStyle) := bodyPost Try.prog Try.f100 (RetQ M w0 (fun v _ => v = .agg (eTCascadeStyle r)))
def s100_j11 (v2 : Nat) (v13 : TCascadeStyle) : AS := ⟨[(1,.pp 1 v2 0),(2,.ptr 2 0),(24,.ref 10),(25,.int .i64 11),(26,.int .i64 10)],[(1,eTCascadeStyle v13),(2,eTCascadeStyle zTCascadeStyle)],[(10,⟨106,1,List.map eAdr [(v2, 6), (v2, 10), (v2, 12), (v2, 14), (v2, 22), (v2, 16), (v2, 24), (v2, 18), (v2, 26), (v2, 20), (v2, 28)]⟩)],[1,2,10]⟩
def s100_j10 (v2 : Nat) (v12 : TCascadeStyle) : AS := ⟨[(1,.pp 1 v2 0),(2,.ptr 2 0),(24,.ref 10),(25,.int .i64 11),(26,.int .i64 9)],[(1,eTCascadeStyle v12),(2,eTCascadeStyle zTCascadeStyle)],[(10,⟨106,1,List.map eAdr [(v2, 6), (v2, 10), (v2, 12), (v2, 14), (v2, 22), (v2, 16), (v2, 24), (v2, 18), (v2, 26), (v2, 20), (v2, 28)]⟩)],[1,2,10]⟩
def s100_j9 (v2 : Nat) (v11 : TCascadeStyle) : AS := ⟨[(1,.pp 1 v2 0),(2,.ptr 2 0),(24,.ref 10),(25,.int .i64 11),(26,.int .i64 8)],[(1,eTCascadeStyle v11),(2,eTCascadeStyle zTCascadeStyle)],[(10,⟨106,1,List.map eAdr [(v2, 6), (v2, 10), (v2, 12), (v2, 14), (v2, 22), (v2, 16), (v2, 24), (v2, 18), (v2, 26), (v2, 20), (v2, 28)]⟩)],[1,2,10]⟩
def s100_j8 (v2 : Nat) (v10 : TCascadeStyle) : AS := ⟨[(1,.pp 1 v2 0),(2,.ptr 2 0),(24,.ref 10),(25,.int .i64 11),(26,.int .i64 7)],[(1,eTCascadeStyle v10),(2,eTCascadeStyle zTCascadeStyle)],[(10,⟨106,1,List.map eAdr [(v2, 6), (v2, 10), (v2, 12), (v2, 14), (v2, 22), (v2, 16), (v2, 24), (v2, 18), (v2, 26), (v2, 20), (v2, 28)]⟩)],[1,2,10]⟩
def s100_j7 (v2 : Nat) (v9 : TCascadeStyle) : AS := ⟨[(1,.pp 1 v2 0),(2,.ptr 2 0),(24,.ref 10),(25,.int .i64 11),(26,.int .i64 6)],[(1,eTCascadeStyle v9),(2,eTCascadeStyle zTCascadeStyle)],[(10,⟨106,1,List.map eAdr [(v2, 6), (v2, 10), (v2, 12), (v2, 14), (v2, 22), (v2, 16), (v2, 24), (v2, 18), (v2, 26), (v2, 20), (v2, 28)]⟩)],[1,2,10]⟩
def s100_j6 (v2 : Nat) (v8 : TCascadeStyle) : AS := ⟨[(1,.pp 1 v2 0),(2,.ptr 2 0),(24,.ref 10),(25,.int .i64 11),(26,.int .i64 5)],[(1,eTCascadeStyle v8),(2,eTCascadeStyle zTCascadeStyle)],[(10,⟨106,1,List.map eAdr [(v2, 6), (v2, 10), (v2, 12), (v2, 14), (v2, 22), (v2, 16), (v2, 24), (v2, 18), (v2, 26), (v2, 20), (v2, 28)]⟩)],[1,2,10]⟩
def s100_j5 (v2 : Nat) (v7 : TCascadeStyle) : AS := ⟨[(1,.pp 1 v2 0),(2,.ptr 2 0),(24,.ref 10),(25,.int .i64 11),(26,.int .i64 4)],[(1,eTCascadeStyle v7),(2,eTCascadeStyle zTCascadeStyle)],[(10,⟨106,1,List.map eAdr [(v2, 6), (v2, 10), (v2, 12), (v2, 14), (v2, 22), (v2, 16), (v2, 24), (v2, 18), (v2, 26), (v2, 20), (v2, 28)]⟩)],[1,2,10]⟩
def s100_j4 (v2 : Nat) (v6 : TCascadeStyle) : AS := ⟨[(1,.pp 1 v2 0),(2,.ptr 2 0),(24,.ref 10),(25,.int .i64 11),(26,.int .i64 3)],[(1,eTCascadeStyle v6),(2,eTCascadeStyle zTCascadeStyle)],[(10,⟨106,1,List.map eAdr [(v2, 6), (v2, 10), (v2, 12), (v2, 14), (v2, 22), (v2, 16), (v2, 24), (v2, 18), (v2, 26), (v2, 20), (v2, 28)]⟩)],[1,2,10]⟩
def s100_j3 (v2 : Nat) (v5 : TCascadeStyle) : AS := ⟨[(1,.pp 1 v2 0),(2,.ptr 2 0),(24,.ref 10),(25,.int .i64 11),(26,.int .i64 2)],[(1,eTCascadeStyle v5),(2,eTCascadeStyle zTCascadeStyle)],[(10,⟨106,1,List.map eAdr [(v2, 6), (v2, 10), (v2, 12), (v2, 14), (v2, 22), (v2, 16), (v2, 24), (v2, 18), (v2, 26), (v2, 20), (v2, 28)]⟩)],[1,2,10]⟩
def s100_j2 (v2 : Nat) (v4 : TCascadeStyle) : AS := ⟨[(1,.pp 1 v2 0),(2,.ptr 2 0),(24,.ref 10),(25,.int .i64 11),(26,.int .i64 1)],[(1,eTCascadeStyle v4),(2,eTCascadeStyle zTCascadeStyle)],[(10,⟨106,1,List.map eAdr [(v2, 6), (v2, 10), (v2, 12), (v2, 14), (v2, 22), (v2, 16), (v2, 24), (v2, 18), (v2, 26), (v2, 20), (v2, 28)]⟩)],[1,2,10]⟩
def s100_j1 (v2 : Nat) (v3 : TCascadeStyle) : AS := ⟨[(1,.pp 1 v2 0),(2,.ptr 2 0),(24,.ref 10),(25,.int .i64 11),(26,.int .i64 0)],[(1,eTCascadeStyle v3),(2,eTCascadeStyle zTCascadeStyle)],[(10,⟨106,1,List.map eAdr [(v2, 6), (v2, 10), (v2, 12), (v2, 14), (v2, 22), (v2, 16), (v2, 24), (v2, 18), (v2, 26), (v2, 20), (v2, 28)]⟩)],[1,2,10]⟩
variable {K : Kn} {n : Nat} {M : Nat → Prop} {w0 : Base} {r : TCascadeStyle} {v1 : TCascadeStyle} {v2 : Nat} {v3 : TCascadeStyle} {v4 : TCascadeStyle} {v5 : TCascadeStyle} {v6 : TCascadeStyle} {v7 : TCascadeStyle} {v8 : TCascadeStyle} {v9 : TCascadeStyle} {v10 : TCascadeStyle} {v11 : TCascadeStyle} {v12 : TCascadeStyle} {v13 : TCascadeStyle} 
theorem g_block_fixed_j11_ok (hK : KnOk K) (h : g_block_fixed_j11 K n v13 = some r) : VE (cx100 M w0) (q100 M w0 r) [.b 3, .c (cat Try.f100 p100_0), kl (cx100 M w0) (q100 M w0 r) [.b 2, .c (cat Try.f100 p100_1)] (cat Try.f100 p100_2) 29, .b 2, .c (cat Try.f100 p100_1)] .normal (s100_j11 v2 v13) := by
  unfold g_block_fixed_j11 at h
  refine ve_go (ks' := [kl (cx100 M w0) (q100 M w0 r) [.b 2, .c (cat Try.f100 p100_1)] (cat Try.f100 p100_2) 29, .b 2, .c (cat Try.f100 p100_1)]) 2 ⟨[(1,.pp 1 v2 0),(2,.ptr 2 0),(24,.ref 10),(25,.int .i64 11),(26,.int .i64 11)],[(1,eTCascadeStyle v13),(2,eTCascadeStyle zTCascadeStyle)],[(10,⟨106,1,List.map eAdr [(v2, 6), (v2, 10), (v2, 12), (v2, 14), (v2, 22), (v2, 16), (v2, 24), (v2, 18), (v2, 26), (v2, 20), (v2, 28)]⟩)],[1,2,10]⟩ ?_
  refine lp_back ?_
  refine lp_round ?_
  refine ve_rt 11 ?_
  have hr := Option.some.inj h
  subst hr
  exact ve_d1
theorem g_block_fixed_j10_ok (hK : KnOk K) (h : g_block_fixed_j10 K n v12 = some r) : VE (cx100 M w0) (q100 M w0 r) [.b 3, .c (cat Try.f100 p100_0), kl (cx100 M w0) (q100 M w0 r) [.b 2, .c (cat Try.f100 p100_1)] (cat Try.f100 p100_2) 30, .b 2, .c (cat Try.f100 p100_1)] .normal (s100_j10 v2 v12) := by
  unfold g_block_fixed_j10 at h
  refine ve_go (ks' := [kl (cx100 M w0) (q100 M w0 r) [.b 2, .c (cat Try.f100 p100_1)] (cat Try.f100 p100_2) 30, .b 2, .c (cat Try.f100 p100_1)]) 2 ⟨[(1,.pp 1 v2 0),(2,.ptr 2 0),(24,.ref 10),(25,.int .i64 11),(26,.int .i64 10)],[(1,eTCascadeStyle v12),(2,eTCascadeStyle zTCascadeStyle)],[(10,⟨106,1,List.map eAdr [(v2, 6), (v2, 10), (v2, 12), (v2, 14), (v2, 22), (v2, 16), (v2, 24), (v2, 18), (v2, 26), (v2, 20), (v2, 28)]⟩)],[1,2,10]⟩ ?_
  refine lp_back ?_
  refine lp_round ?_
  refine ve_un (ks' := [.c (cat Try.f100 p100_3), .c (cat Try.f100 p100_4), .b 3, .c (cat Try.f100 p100_0), kl (cx100 M w0) (q100 M w0 r) [.b 2, .c (cat Try.f100 p100_1)] (cat Try.f100 p100_2) 29, .b 2, .c (cat Try.f100 p100_1)]) 8 ?_
  refine ve_in 0 ?_
  refine ot_sp (y_ixr 10 1 eAdr (L := ([(v2, 6), (v2, 10), (v2, 12), (v2, 14), (v2, 22), (v2, 16), (v2, 24), (v2, 18), (v2, 26), (v2, 20), (v2, 28)] : List (Nat × Nat))) (i := (10 : Int)) (by kernel_rfl)) ?_
  refine ot_sp (y_ldr 106 0 eAdr eAdr (L := ([(v2, 6), (v2, 10), (v2, 12), (v2, 14), (v2, 22), (v2, 16), (v2, 24), (v2, 18), (v2, 26), (v2, 20), (v2, 28)] : List (Nat × Nat))) (j := (10 : Int).toNat) (of_decide_eq_true (by kernel_rfl)) (fun _ => rfl)) ?_
  refine ot_end ?_
  refine ve_un (ks' := [.c (cat Try.f100 p100_5), .c (cat Try.f100 p100_6), .b 3, .c (cat Try.f100 p100_0), kl (cx100 M w0) (q100 M w0 r) [.b 2, .c (cat Try.f100 p100_1)] (cat Try.f100 p100_2) 29, .b 2, .c (cat Try.f100 p100_1)]) 1 ?_
  refine ve_in 3 ?_
  refine ot_ptr 32 1 1 v2 28 0 ?_
  refine ot_end ?_
  rcases ite_some h with ⟨h11, h⟩ | ⟨h11, h⟩
  ·
   refine ve_sb 34 h11 ?_
   refine ve_un (ks' := [.c (cat Try.f100 p100_7), .b 3, .c (cat Try.f100 p100_0), kl (cx100 M w0) (q100 M w0 r) [.b 2, .c (cat Try.f100 p100_1)] (cat Try.f100 p100_2) 29, .b 2, .c (cat Try.f100 p100_1)]) 1 ?_
   refine ve_in 3 ?_
   refine ot_ptr 37 1 1 v2 28 0 ?_
   refine ot_end ?_
   exact ve_arr 0 (g_block_fixed_j11_ok hK (v2 := v2) h)
  ·
   refine ve_sb 34 h11 ?_
   exact ve_arr 2 (g_block_fixed_j11_ok hK (v2 := v2) h)
theorem g_block_fixed_j9_ok (hK : KnOk K) (h : g_block_fixed_j9 K n v11 = some r) : VE (cx100 M w0) (q100 M w0 r) [.b 3, .c (cat Try.f100 p100_0), kl (cx100 M w0) (q100 M w0 r) [.b 2, .c (cat Try.f100 p100_1)] (cat Try.f100 p100_2) 31, .b 2, .c (cat Try.f100 p100_1)] .normal (s100_j9 v2 v11) := by
  unfold g_block_fixed_j9 at h
  refine ve_go (ks' := [kl (cx100 M w0) (q100 M w0 r) [.b 2, .c (cat Try.f100 p100_1)] (cat Try.f100 p100_2) 31, .b 2, .c (cat Try.f100 p100_1)]) 2 ⟨[(1,.pp 1 v2 0),(2,.ptr 2 0),(24,.ref 10),(25,.int .i64 11),(26,.int .i64 9)],[(1,eTCascadeStyle v11),(2,eTCascadeStyle zTCascadeStyle)],[(10,⟨106,1,List.map eAdr [(v2, 6), (v2, 10), (v2, 12), (v2, 14), (v2, 22), (v2, 16), (v2, 24), (v2, 18), (v2, 26), (v2, 20), (v2, 28)]⟩)],[1,2,10]⟩ ?_
  refine lp_back ?_
  refine lp_round ?_
  refine ve_un (ks' := [.c (cat Try.f100 p100_3), .c (cat Try.f100 p100_4), .b 3, .c (cat Try.f100 p100_0), kl (cx100 M w0) (q100 M w0 r) [.b 2, .c (cat Try.f100 p100_1)] (cat Try.f100 p100_2) 30, .b 2, .c (cat Try.f100 p100_1)]) 8 ?_
  refine ve_in 0 ?_
  refine ot_sp (y_ixr 10 1 eAdr (L := ([(v2, 6), (v2, 10), (v2, 12), (v2, 14), (v2, 22), (v2, 16), (v2, 24), (v2, 18), (v2, 26), (v2, 20), (v2, 28)] : List (Nat × Nat))) (i := (9 : Int)) (by kernel_rfl)) ?_
  refine ot_sp (y_ldr 106 0 eAdr eAdr (L := ([(v2, 6), (v2, 10), (v2, 12), (v2, 14), (v2, 22), (v2, 16), (v2, 24), (v2, 18), (v2, 26), (v2, 20), (v2, 28)] : List (Nat × Nat))) (j := (9 : Int).toNat) (of_decide_eq_true (by kernel_rfl)) (fun _ => rfl)) ?_
  refine ot_end ?_
  refine ve_un (ks' := [.c (cat Try.f100 p100_5), .c (cat Try.f100 p100_6), .b 3, .c (cat Try.f100 p100_0), kl (cx100 M w0) (q100 M w0 r) [.b 2, .c (cat Try.f100 p100_1)] (cat Try.f100 p100_2) 30, .b 2, .c (cat Try.f100 p100_1)]) 1 ?_
  refine ve_in 3 ?_
  refine ot_ptr 32 1 1 v2 20 0 ?_
  refine ot_end ?_
  rcases ite_some h with ⟨h10, h⟩ | ⟨h10, h⟩
  ·
   refine ve_sb 34 h10 ?_
   refine ve_un (ks' := [.c (cat Try.f100 p100_7), .b 3, .c (cat Try.f100 p100_0), kl (cx100 M w0) (q100 M w0 r) [.b 2, .c (cat Try.f100 p100_1)] (cat Try.f100 p100_2) 30, .b 2, .c (cat Try.f100 p100_1)]) 1 ?_
   refine ve_in 3 ?_
   refine ot_ptr 37 1 1 v2 20 0 ?_
   refine ot_end ?_
   exact ve_arr 0 (g_block_fixed_j10_ok hK (v2 := v2) h)
  ·
   refine ve_sb 34 h10 ?_
   exact ve_arr 2 (g_block_fixed_j10_ok hK (v2 := v2) h)
theorem g_block_fixed_j8_ok (hK : KnOk K) (h : g_block_fixed_j8 K n v10 = some r) : VE (cx100 M w0) (q100 M w0 r) [.b 3, .c (cat Try.f100 p100_0), kl (cx100 M w0) (q100 M w0 r) [.b 2, .c (cat Try.f100 p100_1)] (cat Try.f100 p100_2) 32, .b 2, .c (cat Try.f100 p100_1)] .normal (s100_j8 v2 v10) := by
  unfold g_block_fixed_j8 at h
  refine ve_go (ks' := [kl (cx100 M w0) (q100 M w0 r) [.b 2, .c (cat Try.f100 p100_1)] (cat Try.f100 p100_2) 32, .b 2, .c (cat Try.f100 p100_1)]) 2 ⟨[(1,.pp 1 v2 0),(2,.ptr 2 0),(24,.ref 10),(25,.int .i64 11),(26,.int .i64 8)],[(1,eTCascadeStyle v10),(2,eTCascadeStyle zTCascadeStyle)],[(10,⟨106,1,List.map eAdr [(v2, 6), (v2, 10), (v2, 12), (v2, 14), (v2, 22), (v2, 16), (v2, 24), (v2, 18), (v2, 26), (v2, 20), (v2, 28)]⟩)],[1,2,10]⟩ ?_
  refine lp_back ?_
  refine lp_round ?_
  refine ve_un (ks' := [.c (cat Try.f100 p100_3), .c (cat Try.f100 p100_4), .b 3, .c (cat Try.f100 p100_0), kl (cx100 M w0) (q100 M w0 r) [.b 2, .c (cat Try.f100 p100_1)] (cat Try.f100 p100_2) 31, .b 2, .c (cat Try.f100 p100_1)]) 8 ?_
  refine ve_in 0 ?_
  refine ot_sp (y_ixr 10 1 eAdr (L := ([(v2, 6), (v2, 10), (v2, 12), (v2, 14), (v2, 22), (v2, 16), (v2, 24), (v2, 18), (v2, 26), (v2, 20), (v2, 28)] : List (Nat × Nat))) (i := (8 : Int)) (by kernel_rfl)) ?_
  refine ot_sp (y_ldr 106 0 eAdr eAdr (L := ([(v2, 6), (v2, 10), (v2, 12), (v2, 14), (v2, 22), (v2, 16), (v2, 24), (v2, 18), (v2, 26), (v2, 20), (v2, 28)] : List (Nat × Nat))) (j := (8 : Int).toNat) (of_decide_eq_true (by kernel_rfl)) (fun _ => rfl)) ?_
  refine ot_end ?_
  refine ve_un (ks' := [.c (cat Try.f100 p100_5), .c (cat Try.f100 p100_6), .b 3, .c (cat Try.f100 p100_0), kl (cx100 M w0) (q100 M w0 r) [.b 2, .c (cat Try.f100 p100_1)] (cat Try.f100 p100_2) 31, .b 2, .c (cat Try.f100 p100_1)]) 1 ?_
  refine ve_in 3 ?_
  refine ot_ptr 32 1 1 v2 26 0 ?_
  refine ot_end ?_
  rcases ite_some h with ⟨h9, h⟩ | ⟨h9, h⟩
  ·
   refine ve_sb 34 h9 ?_
   refine ve_un (ks' := [.c (cat Try.f100 p100_7), .b 3, .c (cat Try.f100 p100_0), kl (cx100 M w0) (q100 M w0 r) [.b 2, .c (cat Try.f100 p100_1)] (cat Try.f100 p100_2) 31, .b 2, .c (cat Try.f100 p100_1)]) 1 ?_
   refine ve_in 3 ?_
   refine ot_ptr 37 1 1 v2 26 0 ?_
   refine ot_end ?_
   exact ve_arr 0 (g_block_fixed_j9_ok hK (v2 := v2) h)
  ·
   refine ve_sb 34 h9 ?_
   exact ve_arr 2 (g_block_fixed_j9_ok hK (v2 := v2) h)
theorem g_block_fixed_j7_ok (hK : KnOk K) (h : g_block_fixed_j7 K n v9 = some r) : VE (cx100 M w0) (q100 M w0 r) [.b 3, .c (cat Try.f100 p100_0), kl (cx100 M w0) (q100 M w0 r) [.b 2, .c (cat Try.f100 p100_1)] (cat Try.f100 p100_2) 33, .b 2, .c (cat Try.f100 p100_1)] .normal (s100_j7 v2 v9) := by
  unfold g_block_fixed_j7 at h
  refine ve_go (ks' := [kl (cx100 M w0) (q100 M w0 r) [.b 2, .c (cat Try.f100 p100_1)] (cat Try.f100 p100_2) 33, .b 2, .c (cat Try.f100 p100_1)]) 2 ⟨[(1,.pp 1 v2 0),(2,.ptr 2 0),(24,.ref 10),(25,.int .i64 11),(26,.int .i64 7)],[(1,eTCascadeStyle v9),(2,eTCascadeStyle zTCascadeStyle)],[(10,⟨106,1,List.map eAdr [(v2, 6), (v2, 10), (v2, 12), (v2, 14), (v2, 22), (v2, 16), (v2, 24), (v2, 18), (v2, 26), (v2, 20), (v2, 28)]⟩)],[1,2,10]⟩ ?_
  refine lp_back ?_
  refine lp_round ?_
  refine ve_un (ks' := [.c (cat Try.f100 p100_3), .c (cat Try.f100 p100_4), .b 3, .c (cat Try.f100 p100_0), kl (cx100 M w0) (q100 M w0 r) [.b 2, .c (cat Try.f100 p100_1)] (cat Try.f100 p100_2) 32, .b 2, .c (cat Try.f100 p100_1)]) 8 ?_
  refine ve_in 0 ?_
  refine ot_sp (y_ixr 10 1 eAdr (L := ([(v2, 6), (v2, 10), (v2, 12), (v2, 14), (v2, 22), (v2, 16), (v2, 24), (v2, 18), (v2, 26), (v2, 20), (v2, 28)] : List (Nat × Nat))) (i := (7 : Int)) (by kernel_rfl)) ?_
  refine ot_sp (y_ldr 106 0 eAdr eAdr (L := ([(v2, 6), (v2, 10), (v2, 12), (v2, 14), (v2, 22), (v2, 16), (v2, 24), (v2, 18), (v2, 26), (v2, 20), (v2, 28)] : List (Nat × Nat))) (j := (7 : Int).toNat) (of_decide_eq_true (by kernel_rfl)) (fun _ => rfl)) ?_
  refine ot_end ?_
  refine ve_un (ks' := [.c (cat Try.f100 p100_5), .c (cat Try.f100 p100_6), .b 3, .c (cat Try.f100 p100_0), kl (cx100 M w0) (q100 M w0 r) [.b 2, .c (cat Try.f100 p100_1)] (cat Try.f100 p100_2) 32, .b 2, .c (cat Try.f100 p100_1)]) 1 ?_
  refine ve_in 3 ?_
  refine ot_ptr 32 1 1 v2 18 0 ?_
  refine ot_end ?_
  rcases ite_some h with ⟨h8, h⟩ | ⟨h8, h⟩
  ·
   refine ve_sb 34 h8 ?_
   refine ve_un (ks' := [.c (cat Try.f100 p100_7), .b 3, .c (cat Try.f100 p100_0), kl (cx100 M w0) (q100 M w0 r) [.b 2, .c (cat Try.f100 p100_1)] (cat Try.f100 p100_2) 32, .b 2, .c (cat Try.f100 p100_1)]) 1 ?_
   refine ve_in 3 ?_
   refine ot_ptr 37 1 1 v2 18 0 ?_
   refine ot_end ?_
   exact ve_arr 0 (g_block_fixed_j8_ok hK (v2 := v2) h)
  ·
   refine ve_sb 34 h8 ?_
   exact ve_arr 2 (g_block_fixed_j8_ok hK (v2 := v2) h)
theorem g_block_fixed_j6_ok (hK : KnOk K) (h : g_block_fixed_j6 K n v8 = some r) : VE (cx100 M w0) (q100 M w0 r) [.b 3, .c (cat Try.f100 p100_0), kl (cx100 M w0) (q100 M w0 r) [.b 2, .c (cat Try.f100 p100_1)] (cat Try.f100 p100_2) 34, .b 2, .c (cat Try.f100 p100_1)] .normal (s100_j6 v2 v8) := by
  unfold g_block_fixed_j6 at h
  refine ve_go (ks' := [kl (cx100 M w0) (q100 M w0 r) [.b 2, .c (cat Try.f100 p100_1)] (cat Try.f100 p100_2) 34, .b 2, .c (cat Try.f100 p100_1)]) 2 ⟨[(1,.pp 1 v2 0),(2,.ptr 2 0),(24,.ref 10),(25,.int .i64 11),(26,.int .i64 6)],[(1,eTCascadeStyle v8),(2,eTCascadeStyle zTCascadeStyle)],[(10,⟨106,1,List.map eAdr [(v2, 6), (v2, 10), (v2, 12), (v2, 14), (v2, 22), (v2, 16), (v2, 24), (v2, 18), (v2, 26), (v2, 20), (v2, 28)]⟩)],[1,2,10]⟩ ?_
  refine lp_back ?_
  refine lp_round ?_
  refine ve_un (ks' := [.c (cat Try.f100 p100_3), .c (cat Try.f100 p100_4), .b 3, .c (cat Try.f100 p100_0), kl (cx100 M w0) (q100 M w0 r) [.b 2, .c (cat Try.f100 p100_1)] (cat Try.f100 p100_2) 33, .b 2, .c (cat Try.f100 p100_1)]) 8 ?_
  refine ve_in 0 ?_
  refine ot_sp (y_ixr 10 1 eAdr (L := ([(v2, 6), (v2, 10), (v2, 12), (v2, 14), (v2, 22), (v2, 16), (v2, 24), (v2, 18), (v2, 26), (v2, 20), (v2, 28)] : List (Nat × Nat))) (i := (6 : Int)) (by kernel_rfl)) ?_
  refine ot_sp (y_ldr 106 0 eAdr eAdr (L := ([(v2, 6), (v2, 10), (v2, 12), (v2, 14), (v2, 22), (v2, 16), (v2, 24), (v2, 18), (v2, 26), (v2, 20), (v2, 28)] : List (Nat × Nat))) (j := (6 : Int).toNat) (of_decide_eq_true (by kernel_rfl)) (fun _ => rfl)) ?_
  refine ot_end ?_
  refine ve_un (ks' := [.c (cat Try.f100 p100_5), .c (cat Try.f100 p100_6), .b 3, .c (cat Try.f100 p100_0), kl (cx100 M w0) (q100 M w0 r) [.b 2, .c (cat Try.f100 p100_1)] (cat Try.f100 p100_2) 33, .b 2, .c (cat Try.f100 p100_1)]) 1 ?_
  refine ve_in 3 ?_
  refine ot_ptr 32 1 1 v2 24 0 ?_
  refine ot_end ?_
  rcases ite_some h with ⟨h7, h⟩ | ⟨h7, h⟩
  ·
   refine ve_sb 34 h7 ?_
   refine ve_un (ks' := [.c (cat Try.f100 p100_7), .b 3, .c (cat Try.f100 p100_0), kl (cx100 M w0) (q100 M w0 r) [.b 2, .c (cat Try.f100 p100_1)] (cat Try.f100 p100_2) 33, .b 2, .c (cat Try.f100 p100_1)]) 1 ?_
   refine ve_in 3 ?_
   refine ot_ptr 37 1 1 v2 24 0 ?_
   refine ot_end ?_
   exact ve_arr 0 (g_block_fixed_j7_ok hK (v2 := v2) h)
  ·
   refine ve_sb 34 h7 ?_
   exact ve_arr 2 (g_block_fixed_j7_ok hK (v2 := v2) h)
theorem g_block_fixed_j5_ok (hK : KnOk K) (h : g_block_fixed_j5 K n v7 = some r) : VE (cx100 M w0) (q100 M w0 r) [.b 3, .c (cat Try.f100 p100_0), kl (cx100 M w0) (q100 M w0 r) [.b 2, .c (cat Try.f100 p100_1)] (cat Try.f100 p100_2) 35, .b 2, .c (cat Try.f100 p100_1)] .normal (s100_j5 v2 v7) := by
  unfold g_block_fixed_j5 at h
  refine ve_go (ks' := [kl (cx100 M w0) (q100 M w0 r) [.b 2, .c (cat Try.f100 p100_1)] (cat Try.f100 p100_2) 35, .b 2, .c (cat Try.f100 p100_1)]) 2 ⟨[(1,.pp 1 v2 0),(2,.ptr 2 0),(24,.ref 10),(25,.int .i64 11),(26,.int .i64 5)],[(1,eTCascadeStyle v7),(2,eTCascadeStyle zTCascadeStyle)],[(10,⟨106,1,List.map eAdr [(v2, 6), (v2, 10), (v2, 12), (v2, 14), (v2, 22), (v2, 16), (v2, 24), (v2, 18), (v2, 26), (v2, 20), (v2, 28)]⟩)],[1,2,10]⟩ ?_
  refine lp_back ?_
  refine lp_round ?_
  refine ve_un (ks' := [.c (cat Try.f100 p100_3), .c (cat Try.f100 p100_4), .b 3, .c (cat Try.f100 p100_0), kl (cx100 M w0) (q100 M w0 r) [.b 2, .c (cat Try.f100 p100_1)] (cat Try.f100 p100_2) 34, .b 2, .c (cat Try.f100 p100_1)]) 8 ?_
  refine ve_in 0 ?_
  refine ot_sp (y_ixr 10 1 eAdr (L := ([(v2, 6), (v2, 10), (v2, 12), (v2, 14), (v2, 22), (v2, 16), (v2, 24), (v2, 18), (v2, 26), (v2, 20), (v2, 28)] : List (Nat × Nat))) (i := (5 : Int)) (by kernel_rfl)) ?_
  refine ot_sp (y_ldr 106 0 eAdr eAdr (L := ([(v2, 6), (v2, 10), (v2, 12), (v2, 14), (v2, 22), (v2, 16), (v2, 24), (v2, 18), (v2, 26), (v2, 20), (v2, 28)] : List (Nat × Nat))) (j := (5 : Int).toNat) (of_decide_eq_true (by kernel_rfl)) (fun _ => rfl)) ?_
  refine ot_end ?_
  refine ve_un (ks' := [.c (cat Try.f100 p100_5), .c (cat Try.f100 p100_6), .b 3, .c (cat Try.f100 p100_0), kl (cx100 M w0) (q100 M w0 r) [.b 2, .c (cat Try.f100 p100_1)] (cat Try.f100 p100_2) 34, .b 2, .c (cat Try.f100 p100_1)]) 1 ?_
  refine ve_in 3 ?_
  refine ot_ptr 32 1 1 v2 16 0 ?_
  refine ot_end ?_
  rcases ite_some h with ⟨h6, h⟩ | ⟨h6, h⟩
  ·
   refine ve_sb 34 h6 ?_
   refine ve_un (ks' := [.c (cat Try.f100 p100_7), .b 3, .c (cat Try.f100 p100_0), kl (cx100 M w0) (q100 M w0 r) [.b 2, .c (cat Try.f100 p100_1)] (cat Try.f100 p100_2) 34, .b 2, .c (cat Try.f100 p100_1)]) 1 ?_
   refine ve_in 3 ?_
   refine ot_ptr 37 1 1 v2 16 0 ?_
   refine ot_end ?_
   exact ve_arr 0 (g_block_fixed_j6_ok hK (v2 := v2) h)
  ·
   refine ve_sb 34 h6 ?_
   exact ve_arr 2 (g_block_fixed_j6_ok hK (v2 := v2) h)
theorem g_block_fixed_j4_ok (hK : KnOk K) (h : g_block_fixed_j4 K n v6 = some r) : VE (cx100 M w0) (q100 M w0 r) [.b 3, .c (cat Try.f100 p100_0), kl (cx100 M w0) (q100 M w0 r) [.b 2, .c (cat Try.f100 p100_1)] (cat Try.f100 p100_2) 36, .b 2, .c (cat Try.f100 p100_1)] .normal (s100_j4 v2 v6) := by
  unfold g_block_fixed_j4 at h
  refine ve_go (ks' := [kl (cx100 M w0) (q100 M w0 r) [.b 2, .c (cat Try.f100 p100_1)] (cat Try.f100 p100_2) 36, .b 2, .c (cat Try.f100 p100_1)]) 2 ⟨[(1,.pp 1 v2 0),(2,.ptr 2 0),(24,.ref 10),(25,.int .i64 11),(26,.int .i64 4)],[(1,eTCascadeStyle v6),(2,eTCascadeStyle zTCascadeStyle)],[(10,⟨106,1,List.map eAdr [(v2, 6), (v2, 10), (v2, 12), (v2, 14), (v2, 22), (v2, 16), (v2, 24), (v2, 18), (v2, 26), (v2, 20), (v2, 28)]⟩)],[1,2,10]⟩ ?_
  refine lp_back ?_
  refine lp_round ?_
  refine ve_un (ks' := [.c (cat Try.f100 p100_3), .c (cat Try.f100 p100_4), .b 3, .c (cat Try.f100 p100_0), kl (cx100 M w0) (q100 M w0 r) [.b 2, .c (cat Try.f100 p100_1)] (cat Try.f100 p100_2) 35, .b 2, .c (cat Try.f100 p100_1)]) 8 ?_
  refine ve_in 0 ?_
  refine ot_sp (y_ixr 10 1 eAdr (L := ([(v2, 6), (v2, 10), (v2, 12), (v2, 14), (v2, 22), (v2, 16), (v2, 24), (v2, 18), (v2, 26), (v2, 20), (v2, 28)] : List (Nat × Nat))) (i := (4 : Int)) (by kernel_rfl)) ?_
  refine ot_sp (y_ldr 106 0 eAdr eAdr (L := ([(v2, 6), (v2, 10), (v2, 12), (v2, 14), (v2, 22), (v2, 16), (v2, 24), (v2, 18), (v2, 26), (v2, 20), (v2, 28)] : List (Nat × Nat))) (j := (4 : Int).toNat) (of_decide_eq_true (by kernel_rfl)) (fun _ => rfl)) ?_
  refine ot_end ?_
  refine ve_un (ks' := [.c (cat Try.f100 p100_5), .c (cat Try.f100 p100_6), .b 3, .c (cat Try.f100 p100_0), kl (cx100 M w0) (q100 M w0 r) [.b 2, .c (cat Try.f100 p100_1)] (cat Try.f100 p100_2) 35, .b 2, .c (cat Try.f100 p100_1)]) 1 ?_
  refine ve_in 3 ?_
  refine ot_ptr 32 1 1 v2 22 0 ?_
  refine ot_end ?_
  rcases ite_some h with ⟨h5, h⟩ | ⟨h5, h⟩
  ·
   refine ve_sb 34 h5 ?_
   refine ve_un (ks' := [.c (cat Try.f100 p100_7), .b 3, .c (cat Try.f100 p100_0), kl (cx100 M w0) (q100 M w0 r) [.b 2, .c (cat Try.f100 p100_1)] (cat Try.f100 p100_2) 35, .b 2, .c (cat Try.f100 p100_1)]) 1 ?_
   refine ve_in 3 ?_
   refine ot_ptr 37 1 1 v2 22 0 ?_
   refine ot_end ?_
   exact ve_arr 0 (g_block_fixed_j5_ok hK (v2 := v2) h)
  ·
   refine ve_sb 34 h5 ?_
   exact ve_arr 2 (g_block_fixed_j5_ok hK (v2 := v2) h)
theorem g_block_fixed_j3_ok (hK : KnOk K) (h : g_block_fixed_j3 K n v5 = some r) : VE (cx100 M w0) (q100 M w0 r) [.b 3, .c (cat Try.f100 p100_0), kl (cx100 M w0) (q100 M w0 r) [.b 2, .c (cat Try.f100 p100_1)] (cat Try.f100 p100_2) 37, .b 2, .c (cat Try.f100 p100_1)] .normal (s100_j3 v2 v5) := by
  unfold g_block_fixed_j3 at h
  refine ve_go (ks' := [kl (cx100 M w0) (q100 M w0 r) [.b 2, .c (cat Try.f100 p100_1)] (cat Try.f100 p100_2) 37, .b 2, .c (cat Try.f100 p100_1)]) 2 ⟨[(1,.pp 1 v2 0),(2,.ptr 2 0),(24,.ref 10),(25,.int .i64 11),(26,.int .i64 3)],[(1,eTCascadeStyle v5),(2,eTCascadeStyle zTCascadeStyle)],[(10,⟨106,1,List.map eAdr [(v2, 6), (v2, 10), (v2, 12), (v2, 14), (v2, 22), (v2, 16), (v2, 24), (v2, 18), (v2, 26), (v2, 20), (v2, 28)]⟩)],[1,2,10]⟩ ?_
  refine lp_back ?_
  refine lp_round ?_
  refine ve_un (ks' := [.c (cat Try.f100 p100_3), .c (cat Try.f100 p100_4), .b 3, .c (cat Try.f100 p100_0), kl (cx100 M w0) (q100 M w0 r) [.b 2, .c (cat Try.f100 p100_1)] (cat Try.f100 p100_2) 36, .b 2, .c (cat Try.f100 p100_1)]) 8 ?_
  refine ve_in 0 ?_
  refine ot_sp (y_ixr 10 1 eAdr (L := ([(v2, 6), (v2, 10), (v2, 12), (v2, 14), (v2, 22), (v2, 16), (v2, 24), (v2, 18), (v2, 26), (v2, 20), (v2, 28)] : List (Nat × Nat))) (i := (3 : Int)) (by kernel_rfl)) ?_
  refine ot_sp (y_ldr 106 0 eAdr eAdr (L := ([(v2, 6), (v2, 10), (v2, 12), (v2, 14), (v2, 22), (v2, 16), (v2, 24), (v2, 18), (v2, 26), (v2, 20), (v2, 28)] : List (Nat × Nat))) (j := (3 : Int).toNat) (of_decide_eq_true (by kernel_rfl)) (fun _ => rfl)) ?_
  refine ot_end ?_
  refine ve_un (ks' := [.c (cat Try.f100 p100_5), .c (cat Try.f100 p100_6), .b 3, .c (cat Try.f100 p100_0), kl (cx100 M w0) (q100 M w0 r) [.b 2, .c (cat Try.f100 p100_1)] (cat Try.f100 p100_2) 36, .b 2, .c (cat Try.f100 p100_1)]) 1 ?_
  refine ve_in 3 ?_
  refine ot_ptr 32 1 1 v2 14 0 ?_
  refine ot_end ?_
  rcases ite_some h with ⟨h4, h⟩ | ⟨h4, h⟩
  ·
   refine ve_sb 34 h4 ?_
   refine ve_un (ks' := [.c (cat Try.f100 p100_7), .b 3, .c (cat Try.f100 p100_0), kl (cx100 M w0) (q100 M w0 r) [.b 2, .c (cat Try.f100 p100_1)] (cat Try.f100 p100_2) 36, .b 2, .c (cat Try.f100 p100_1)]) 1 ?_
   refine ve_in 3 ?_
   refine ot_ptr 37 1 1 v2 14 0 ?_
   refine ot_end ?_
   exact ve_arr 0 (g_block_fixed_j4_ok hK (v2 := v2) h)
  ·
   refine ve_sb 34 h4 ?_
   exact ve_arr 2 (g_block_fixed_j4_ok hK (v2 := v2) h)
theorem g_block_fixed_j2_ok (hK : KnOk K) (h : g_block_fixed_j2 K n v4 = some r) : VE (cx100 M w0) (q100 M w0 r) [.b 3, .c (cat Try.f100 p100_0), kl (cx100 M w0) (q100 M w0 r) [.b 2, .c (cat Try.f100 p100_1)] (cat Try.f100 p100_2) 38, .b 2, .c (cat Try.f100 p100_1)] .normal (s100_j2 v2 v4) := by
  unfold g_block_fixed_j2 at h
  refine ve_go (ks' := [kl (cx100 M w0) (q100 M w0 r) [.b 2, .c (cat Try.f100 p100_1)] (cat Try.f100 p100_2) 38, .b 2, .c (cat Try.f100 p100_1)]) 2 ⟨[(1,.pp 1 v2 0),(2,.ptr 2 0),(24,.ref 10),(25,.int .i64 11),(26,.int .i64 2)],[(1,eTCascadeStyle v4),(2,eTCascadeStyle zTCascadeStyle)],[(10,⟨106,1,List.map eAdr [(v2, 6), (v2, 10), (v2, 12), (v2, 14), (v2, 22), (v2, 16), (v2, 24), (v2, 18), (v2, 26), (v2, 20), (v2, 28)]⟩)],[1,2,10]⟩ ?_
  refine lp_back ?_
  refine lp_round ?_
  refine ve_un (ks' := [.c (cat Try.f100 p100_3), .c (cat Try.f100 p100_4), .b 3, .c (cat Try.f100 p100_0), kl (cx100 M w0) (q100 M w0 r) [.b 2, .c (cat Try.f100 p100_1)] (cat Try.f100 p100_2) 37, .b 2, .c (cat Try.f100 p100_1)]) 8 ?_
  refine ve_in 0 ?_
  refine ot_sp (y_ixr 10 1 eAdr (L := ([(v2, 6), (v2, 10), (v2, 12), (v2, 14), (v2, 22), (v2, 16), (v2, 24), (v2, 18), (v2, 26), (v2, 20), (v2, 28)] : List (Nat × Nat))) (i := (2 : Int)) (by kernel_rfl)) ?_
  refine ot_sp (y_ldr 106 0 eAdr eAdr (L := ([(v2, 6), (v2, 10), (v2, 12), (v2, 14), (v2, 22), (v2, 16), (v2, 24), (v2, 18), (v2, 26), (v2, 20), (v2, 28)] : List (Nat × Nat))) (j := (2 : Int).toNat) (of_decide_eq_true (by kernel_rfl)) (fun _ => rfl)) ?_
  refine ot_end ?_
  refine ve_un (ks' := [.c (cat Try.f100 p100_5), .c (cat Try.f100 p100_6), .b 3, .c (cat Try.f100 p100_0), kl (cx100 M w0) (q100 M w0 r) [.b 2, .c (cat Try.f100 p100_1)] (cat Try.f100 p100_2) 37, .b 2, .c (cat Try.f100 p100_1)]) 1 ?_
  refine ve_in 3 ?_
  refine ot_ptr 32 1 1 v2 12 0 ?_
  refine ot_end ?_
  rcases ite_some h with ⟨h3, h⟩ | ⟨h3, h⟩
  ·
   refine ve_sb 34 h3 ?_
   refine ve_un (ks' := [.c (cat Try.f100 p100_7), .b 3, .c (cat Try.f100 p100_0), kl (cx100 M w0) (q100 M w0 r) [.b 2, .c (cat Try.f100 p100_1)] (cat Try.f100 p100_2) 37, .b 2, .c (cat Try.f100 p100_1)]) 1 ?_
   refine ve_in 3 ?_
   refine ot_ptr 37 1 1 v2 12 0 ?_
   refine ot_end ?_
   exact ve_arr 0 (g_block_fixed_j3_ok hK (v2 := v2) h)
  ·
   refine ve_sb 34 h3 ?_
   exact ve_arr 2 (g_block_fixed_j3_ok hK (v2 := v2) h)
theorem g_block_fixed_j1_ok (hK : KnOk K) (h : g_block_fixed_j1 K n v3 = some r) : VE (cx100 M w0) (q100 M w0 r) [.b 3, .c (cat Try.f100 p100_0), kl (cx100 M w0) (q100 M w0 r) [.b 2, .c (cat Try.f100 p100_1)] (cat Try.f100 p100_2) 39, .b 2, .c (cat Try.f100 p100_1)] .normal (s100_j1 v2 v3) := by
  unfold g_block_fixed_j1 at h
  refine ve_go (ks' := [kl (cx100 M w0) (q100 M w0 r) [.b 2, .c (cat Try.f100 p100_1)] (cat Try.f100 p100_2) 39, .b 2, .c (cat Try.f100 p100_1)]) 2 ⟨[(1,.pp 1 v2 0),(2,.ptr 2 0),(24,.ref 10),(25,.int .i64 11),(26,.int .i64 1)],[(1,eTCascadeStyle v3),(2,eTCascadeStyle zTCascadeStyle)],[(10,⟨106,1,List.map eAdr [(v2, 6), (v2, 10), (v2, 12), (v2, 14), (v2, 22), (v2, 16), (v2, 24), (v2, 18), (v2, 26), (v2, 20), (v2, 28)]⟩)],[1,2,10]⟩ ?_
  refine lp_back ?_
  refine lp_round ?_
  refine ve_un (ks' := [.c (cat Try.f100 p100_3), .c (cat Try.f100 p100_4), .b 3, .c (cat Try.f100 p100_0), kl (cx100 M w0) (q100 M w0 r) [.b 2, .c (cat Try.f100 p100_1)] (cat Try.f100 p100_2) 38, .b 2, .c (cat Try.f100 p100_1)]) 8 ?_
  refine ve_in 0 ?_
  refine ot_sp (y_ixr 10 1 eAdr (L := ([(v2, 6), (v2, 10), (v2, 12), (v2, 14), (v2, 22), (v2, 16), (v2, 24), (v2, 18), (v2, 26), (v2, 20), (v2, 28)] : List (Nat × Nat))) (i := (1 : Int)) (by kernel_rfl)) ?_
  refine ot_sp (y_ldr 106 0 eAdr eAdr (L := ([(v2, 6), (v2, 10), (v2, 12), (v2, 14), (v2, 22), (v2, 16), (v2, 24), (v2, 18), (v2, 26), (v2, 20), (v2, 28)] : List (Nat × Nat))) (j := (1 : Int).toNat) (of_decide_eq_true (by kernel_rfl)) (fun _ => rfl)) ?_
  refine ot_end ?_
  refine ve_un (ks' := [.c (cat Try.f100 p100_5), .c (cat Try.f100 p100_6), .b 3, .c (cat Try.f100 p100_0), kl (cx100 M w0) (q100 M w0 r) [.b 2, .c (cat Try.f100 p100_1)] (cat Try.f100 p100_2) 38, .b 2, .c (cat Try.f100 p100_1)]) 1 ?_
  refine ve_in 3 ?_
  refine ot_ptr 32 1 1 v2 10 0 ?_
  refine ot_end ?_
  rcases ite_some h with ⟨h2, h⟩ | ⟨h2, h⟩
  ·
   refine ve_sb 34 h2 ?_
   refine ve_un (ks' := [.c (cat Try.f100 p100_7), .b 3, .c (cat Try.f100 p100_0), kl (cx100 M w0) (q100 M w0 r) [.b 2, .c (cat Try.f100 p100_1)] (cat Try.f100 p100_2) 38, .b 2, .c (cat Try.f100 p100_1)]) 1 ?_
   refine ve_in 3 ?_
   refine ot_ptr 37 1 1 v2 10 0 ?_
   refine ot_end ?_
   exact ve_arr 0 (g_block_fixed_j2_ok hK (v2 := v2) h)
  ·
   refine ve_sb 34 h2 ?_
   exact ve_arr 2 (g_block_fixed_j2_ok hK (v2 := v2) h)
theorem g_block_fixed_ok (hK : KnOk K) (h : g_block_fixed K n v1 = some r) : ACalls Try.prog 100 [.agg (eTCascadeStyle v1)] (fun v _ => v = .agg (eTCascadeStyle r)) := by
  refine acalls_intro (c := cat Try.f100 []) Try.func100 (by kernel_rfl) _ Try.ntmps100 (of_decide_eq_true (by kernel_rfl)) fun M w0 => ?_
  refine ve_cast (s' := ⟨[(0,.agg (eTCascadeStyle v1))],[],[],[]⟩) (by kernel_rfl) ?_
  unfold g_block_fixed at h
  refine ve_un (ks' := [.c (cat Try.f100 [1, 0]), .c (cat Try.f100 [1, 1])]) 3 ?_
  refine ve_rev 1 1 0 fun v2 => ?_
  refine ve_in 3 ?_
  refine ot_bsn 107 3 #[(0, (.tmp 7)), (1, (.tmp 8)), (2, (.tmp 9))] 10 (e := 106) (sz := 1) (l := List.map eAdr [(v2, 6), (v2, 10), (v2, 12)]) ?_
  refine ot_end ?_
  refine ve_go (ks' := [.c (cat Try.f100 p100_8), .b 0, .c (cat Try.f100 [1, 1, 1])]) 4 ⟨[(1,.pp 1 v2 0),(2,.ptr 2 0),(3,.ref 10),(11,.int .i64 0)],[(1,eTCascadeStyle v1),(2,eTCascadeStyle zTCascadeStyle)],[(10,⟨106,1,List.map eAdr [(v2, 6), (v2, 10), (v2, 12)]⟩)],[1,2,10]⟩ ?_
  refine lp_enter 40 (c := cat Try.f100 p100_9) (by kernel_rfl) ?_
  refine lp_round ?_
  refine ve_un (ks' := [.c (cat Try.f100 p100_10), .b 1, .c (cat Try.f100 p100_11), kl (cx100 M w0) (q100 M w0 r) [.b 0, .c (cat Try.f100 [1, 1, 1])] (cat Try.f100 p100_9) 39, .b 0, .c (cat Try.f100 [1, 1, 1])]) 9 ?_
  refine ve_pk [1, 2, 3, 4, 11] [1, 2] [10] ?_
  refine ve_dr 2 [(14, .ref 10), (15, .int .i64 0), (16, .adr v2 14), (17, .adr v2 14), (18, .int .i64 0), (19, .adr v2 22), (20, .adr v2 22), (21, .sl (List.map eAdr [(v2, 14), (v2, 22)]))] [] [] [appS 22 10 ⟨106, 1, List.map eAdr [(v2, 6), (v2, 10), (v2, 12), (v2, 14), (v2, 22)]⟩, stp Try.prog 40 Try.f100 p100_10 9] (d_vs [.v 0 1, .v 0 2, .v 0 2, .v 0 2, .v 0 2, .v 0 2, .v 0 2, .v 0 1] (d_c1 (e_s (m := 0) (y_app 22 10 106 1 eAdr (L := ([(v2, 6), (v2, 10), (v2, 12)] : List (Nat × Nat))) (M := ([(v2, 14), (v2, 22)] : (List (Nat × Nat)))) (bytes := 8) (rfl) (fun _ => rfl) (by kernel_rfl))) (d_c1 (e_d 1) (d_nl)))) ?_
  refine ve_go (ks' := [kl (cx100 M w0) (q100 M w0 r) [.b 0, .c (cat Try.f100 [1, 1, 1])] (cat Try.f100 p100_9) 39, .b 0, .c (cat Try.f100 [1, 1, 1])]) 2 ⟨[(1,.pp 1 v2 0),(2,.ptr 2 0),(3,.ref 10),(11,.int .i64 1)],[(1,eTCascadeStyle v1),(2,eTCascadeStyle zTCascadeStyle)],[(10,⟨106,1,List.map eAdr [(v2, 6), (v2, 10), (v2, 12), (v2, 14), (v2, 22)]⟩)],[1,2,10]⟩ ?_
  refine lp_back ?_
  refine lp_round ?_
  refine ve_un (ks' := [.c (cat Try.f100 p100_10), .b 1, .c (cat Try.f100 p100_11), kl (cx100 M w0) (q100 M w0 r) [.b 0, .c (cat Try.f100 [1, 1, 1])] (cat Try.f100 p100_9) 38, .b 0, .c (cat Try.f100 [1, 1, 1])]) 9 ?_
  refine ve_pk [1, 2, 3, 4, 11] [1, 2] [10] ?_
  refine ve_dr 2 [(14, .ref 10), (15, .int .i64 1), (16, .adr v2 14), (17, .adr v2 16), (18, .int .i64 1), (19, .adr v2 22), (20, .adr v2 24), (21, .sl (List.map eAdr [(v2, 16), (v2, 24)]))] [] [] [appS 22 10 ⟨106, 1, List.map eAdr [(v2, 6), (v2, 10), (v2, 12), (v2, 14), (v2, 22), (v2, 16), (v2, 24)]⟩, stp Try.prog 40 Try.f100 p100_10 9] (d_vs [.v 0 1, .v 0 2, .v 0 2, .v 0 2, .v 0 2, .v 0 2, .v 0 2, .v 0 1] (d_c1 (e_s (m := 0) (y_app 22 10 106 1 eAdr (L := ([(v2, 6), (v2, 10), (v2, 12), (v2, 14), (v2, 22)] : List (Nat × Nat))) (M := ([(v2, 16), (v2, 24)] : (List (Nat × Nat)))) (bytes := 8) (rfl) (fun _ => rfl) (by kernel_rfl))) (d_c1 (e_d 1) (d_nl)))) ?_
  refine ve_go (ks' := [kl (cx100 M w0) (q100 M w0 r) [.b 0, .c (cat Try.f100 [1, 1, 1])] (cat Try.f100 p100_9) 38, .b 0, .c (cat Try.f100 [1, 1, 1])]) 2 ⟨[(1,.pp 1 v2 0),(2,.ptr 2 0),(3,.ref 10),(11,.int .i64 2)],[(1,eTCascadeStyle v1),(2,eTCascadeStyle zTCascadeStyle)],[(10,⟨106,1,List.map eAdr [(v2, 6), (v2, 10), (v2, 12), (v2, 14), (v2, 22), (v2, 16), (v2, 24)]⟩)],[1,2,10]⟩ ?_
  refine lp_back ?_
  refine lp_round ?_
  refine ve_un (ks' := [.c (cat Try.f100 p100_10), .b 1, .c (cat Try.f100 p100_11), kl (cx100 M w0) (q100 M w0 r) [.b 0, .c (cat Try.f100 [1, 1, 1])] (cat Try.f100 p100_9) 37, .b 0, .c (cat Try.f100 [1, 1, 1])]) 9 ?_
  refine ve_pk [1, 2, 3, 4, 11] [1, 2] [10] ?_
  refine ve_dr 2 [(14, .ref 10), (15, .int .i64 2), (16, .adr v2 14), (17, .adr v2 18), (18, .int .i64 2), (19, .adr v2 22), (20, .adr v2 26), (21, .sl (List.map eAdr [(v2, 18), (v2, 26)]))] [] [] [appS 22 10 ⟨106, 1, List.map eAdr [(v2, 6), (v2, 10), (v2, 12), (v2, 14), (v2, 22), (v2, 16), (v2, 24), (v2, 18), (v2, 26)]⟩, stp Try.prog 40 Try.f100 p100_10 9] (d_vs [.v 0 1, .v 0 2, .v 0 2, .v 0 2, .v 0 2, .v 0 2, .v 0 2, .v 0 1] (d_c1 (e_s (m := 0) (y_app 22 10 106 1 eAdr (L := ([(v2, 6), (v2, 10), (v2, 12), (v2, 14), (v2, 22), (v2, 16), (v2, 24)] : List (Nat × Nat))) (M := ([(v2, 18), (v2, 26)] : (List (Nat × Nat)))) (bytes := 8) (rfl) (fun _ => rfl) (by kernel_rfl))) (d_c1 (e_d 1) (d_nl)))) ?_
  refine ve_go (ks' := [kl (cx100 M w0) (q100 M w0 r) [.b 0, .c (cat Try.f100 [1, 1, 1])] (cat Try.f100 p100_9) 37, .b 0, .c (cat Try.f100 [1, 1, 1])]) 2 ⟨[(1,.pp 1 v2 0),(2,.ptr 2 0),(3,.ref 10),(11,.int .i64 3)],[(1,eTCascadeStyle v1),(2,eTCascadeStyle zTCascadeStyle)],[(10,⟨106,1,List.map eAdr [(v2, 6), (v2, 10), (v2, 12), (v2, 14), (v2, 22), (v2, 16), (v2, 24), (v2, 18), (v2, 26)]⟩)],[1,2,10]⟩ ?_
  refine lp_back ?_
  refine lp_round ?_
  refine ve_un (ks' := [.c (cat Try.f100 p100_10), .b 1, .c (cat Try.f100 p100_11), kl (cx100 M w0) (q100 M w0 r) [.b 0, .c (cat Try.f100 [1, 1, 1])] (cat Try.f100 p100_9) 36, .b 0, .c (cat Try.f100 [1, 1, 1])]) 9 ?_
  refine ve_pk [1, 2, 3, 4, 11] [1, 2] [10] ?_
  refine ve_dr 2 [(14, .ref 10), (15, .int .i64 3), (16, .adr v2 14), (17, .adr v2 20), (18, .int .i64 3), (19, .adr v2 22), (20, .adr v2 28), (21, .sl (List.map eAdr [(v2, 20), (v2, 28)]))] [] [] [appS 22 10 ⟨106, 1, List.map eAdr [(v2, 6), (v2, 10), (v2, 12), (v2, 14), (v2, 22), (v2, 16), (v2, 24), (v2, 18), (v2, 26), (v2, 20), (v2, 28)]⟩, stp Try.prog 40 Try.f100 p100_10 9] (d_vs [.v 0 1, .v 0 2, .v 0 2, .v 0 2, .v 0 2, .v 0 2, .v 0 2, .v 0 1] (d_c1 (e_s (m := 0) (y_app 22 10 106 1 eAdr (L := ([(v2, 6), (v2, 10), (v2, 12), (v2, 14), (v2, 22), (v2, 16), (v2, 24), (v2, 18), (v2, 26)] : List (Nat × Nat))) (M := ([(v2, 20), (v2, 28)] : (List (Nat × Nat)))) (bytes := 8) (rfl) (fun _ => rfl) (by kernel_rfl))) (d_c1 (e_d 1) (d_nl)))) ?_
  refine ve_go (ks' := [kl (cx100 M w0) (q100 M w0 r) [.b 0, .c (cat Try.f100 [1, 1, 1])] (cat Try.f100 p100_9) 36, .b 0, .c (cat Try.f100 [1, 1, 1])]) 2 ⟨[(1,.pp 1 v2 0),(2,.ptr 2 0),(3,.ref 10),(11,.int .i64 4)],[(1,eTCascadeStyle v1),(2,eTCascadeStyle zTCascadeStyle)],[(10,⟨106,1,List.map eAdr [(v2, 6), (v2, 10), (v2, 12), (v2, 14), (v2, 22), (v2, 16), (v2, 24), (v2, 18), (v2, 26), (v2, 20), (v2, 28)]⟩)],[1,2,10]⟩ ?_
  refine lp_back ?_
  refine lp_round ?_
  refine ve_un (ks' := [.c (cat Try.f100 p100_12), .c (cat Try.f100 p100_13), .c (cat Try.f100 p100_1)]) 10 ?_
  refine ve_in 1 ?_
  refine ot_sp (y_len eAdr ([(v2, 6), (v2, 10), (v2, 12), (v2, 14), (v2, 22), (v2, 16), (v2, 24), (v2, 18), (v2, 26), (v2, 20), (v2, 28)] : List (Nat × Nat))) ?_
  refine ot_end ?_
  refine ve_go (ks' := [.c (cat Try.f100 p100_14), .b 2, .c (cat Try.f100 p100_1)]) 1 ⟨[(1,.pp 1 v2 0),(2,.ptr 2 0),(24,.ref 10),(25,.int .i64 11),(26,.int .i64 0)],[(1,eTCascadeStyle v1),(2,eTCascadeStyle zTCascadeStyle)],[(10,⟨106,1,List.map eAdr [(v2, 6), (v2, 10), (v2, 12), (v2, 14), (v2, 22), (v2, 16), (v2, 24), (v2, 18), (v2, 26), (v2, 20), (v2, 28)]⟩)],[1,2,10]⟩ ?_
  refine lp_enter 40 (c := cat Try.f100 p100_2) (by kernel_rfl) ?_
  refine lp_round ?_
  refine ve_un (ks' := [.c (cat Try.f100 p100_3), .c (cat Try.f100 p100_4), .b 3, .c (cat Try.f100 p100_0), kl (cx100 M w0) (q100 M w0 r) [.b 2, .c (cat Try.f100 p100_1)] (cat Try.f100 p100_2) 39, .b 2, .c (cat Try.f100 p100_1)]) 8 ?_
  refine ve_in 0 ?_
  refine ot_sp (y_ixr 10 1 eAdr (L := ([(v2, 6), (v2, 10), (v2, 12), (v2, 14), (v2, 22), (v2, 16), (v2, 24), (v2, 18), (v2, 26), (v2, 20), (v2, 28)] : List (Nat × Nat))) (i := (0 : Int)) (by kernel_rfl)) ?_
  refine ot_sp (y_ldr 106 0 eAdr eAdr (L := ([(v2, 6), (v2, 10), (v2, 12), (v2, 14), (v2, 22), (v2, 16), (v2, 24), (v2, 18), (v2, 26), (v2, 20), (v2, 28)] : List (Nat × Nat))) (j := (0 : Int).toNat) (of_decide_eq_true (by kernel_rfl)) (fun _ => rfl)) ?_
  refine ot_end ?_
  refine ve_un (ks' := [.c (cat Try.f100 p100_5), .c (cat Try.f100 p100_6), .b 3, .c (cat Try.f100 p100_0), kl (cx100 M w0) (q100 M w0 r) [.b 2, .c (cat Try.f100 p100_1)] (cat Try.f100 p100_2) 39, .b 2, .c (cat Try.f100 p100_1)]) 1 ?_
  refine ve_in 3 ?_
  refine ot_ptr 32 1 1 v2 6 0 ?_
  refine ot_end ?_
  rcases ite_some h with ⟨h1, h⟩ | ⟨h1, h⟩
  ·
   refine ve_sb 34 h1 ?_
   refine ve_un (ks' := [.c (cat Try.f100 p100_7), .b 3, .c (cat Try.f100 p100_0), kl (cx100 M w0) (q100 M w0 r) [.b 2, .c (cat Try.f100 p100_1)] (cat Try.f100 p100_2) 39, .b 2, .c (cat Try.f100 p100_1)]) 1 ?_
   refine ve_in 3 ?_
   refine ot_ptr 37 1 1 v2 6 0 ?_
   refine ot_end ?_
   exact ve_arr 0 (g_block_fixed_j1_ok hK (v2 := v2) h)
  ·
   refine ve_sb 34 h1 ?_
   exact ve_arr 2 (g_block_fixed_j1_ok hK (v2 := v2) h)
end
def p99_0 : List Nat := ones 5 []
def p99_1 : List Nat := [1, 1, 1, 1, 0, 1, 0, 0]
def p99_2 : List Nat := [1, 1, 1, 1, 0, 1, 0, 0, 1, 0]
def p99_3 : List Nat := [1, 1, 1, 1, 0, 1, 0, 0, 1, 1]
def p99_4 : List Nat := [1, 1, 1, 1, 0, 1, 0, 0, 1, 1, 0, 0, 0]
def p99_5 : List Nat := [1, 1, 1, 1, 0, 1, 0, 0, 1, 1, 0, 0, 1]
def p99_6 : List Nat := [1, 1, 1, 1, 0, 1, 0, 0, 1, 1, 1]
def p99_7 : List Nat := [1, 1, 1, 1, 0, 1, 0, 0, 1, 1, 0, 0, 1, 0]
def p99_8 : List Nat := [1, 1, 1, 1, 0, 1, 0, 0, 1, 1, 0, 0, 1, 1]
def p99_9 : List Nat := ones 5 [0]
def p99_10 : List Nat := ones 6 []
def p99_11 : List Nat := [1, 0, 1, 1]
def p99_12 : List Nat := [1, 0, 1, 1, 0, 0]
def p99_13 : List Nat := [1, 0, 1, 1, 0, 1]
def p99_14 : List Nat := [1, 1, 1, 0, 1]
def p99_15 : List Nat := [1, 1, 1, 1]
def p99_16 : List Nat := [1, 1, 1, 0, 1, 0, 0]
def p99_17 : List Nat := [1, 1, 1, 0, 1, 0, 1]
def p99_18 : List Nat := [1, 1, 1, 0, 1, 0, 1, 0]
def p99_19 : List Nat := [1, 1, 1, 0, 1, 0, 1, 1]
def p99_20 : List Nat := [1, 1, 1, 1, 0, 0]
def p99_21 : List Nat := [1, 1, 1, 1, 0, 1]
def p99_22 : List Nat := [1, 1, 1, 1, 0, 1, 0]
noncomputable section
abbrev cx99 (M : Nat → Prop) (w0 : Base) : Cx := ⟨Try.prog, 71, M, w0⟩
abbrev q99 (M : Nat → Prop) (w0 : Base) (r : (Int × Int)) := bodyPost Try.prog Try.f99 (RetQ M w0 (fun v _ => v = .tup [.int .i64 r.1, .int .i64 r.2]))
abbrev k99_1 (M : Nat → Prop) (w0 : Base) (r : (Int × Int)) (m1 : Nat) : Kont := kl (cx99 M w0) (q99 M w0 r) [.b 0, .c (cat Try.f99 p99_0)] (cat Try.f99 p99_1) m1
def s99_l1 (v2 : TBlockEnv) (v6 : ((List TBoxtreeBox) × Bool)) (v11 : Int) (v12 : Int) (v13 : Int) : AS := ⟨[(3,.ptr 3 0),(4,.int .i64 v11),(5,.int .i64 v12),(47,.sl (List.map eTBoxtreeBox v6.1)),(48,.int .i64 (v6.1.length : Int)),(49,.int .i64 v13)],[(3,eTBlockEnv v2)],[],[3]⟩
abbrev H99_1 (M : Nat → Prop) (w0 : Base) (r : (Int × Int)) (v2 : TBlockEnv) (v6 : ((List TBoxtreeBox) × Bool)) (m1 : Nat) (L1 : Int → Int → Int → Option (Int × Int)) : Prop := ∀ {v11 : Int} {v12 : Int} {v13 : Int}, L1 v11 v12 v13 = some r → LP (cx99 M w0) (q99 M w0 r) [.b 0, .c (cat Try.f99 p99_0)] (cat Try.f99 p99_1) m1 (s99_l1 v2 v6 v11 v12 v13)
variable {K : Kn} {n : Nat} {M : Nat → Prop} {w0 : Base} {r : (Int × Int)} {v1 : TBoxtreeBox} {v2 : TBlockEnv} {v6 : ((List TBoxtreeBox) × Bool)} {v11 : Int} {v12 : Int} {v13 : Int} {m1 : Nat} {L1 : Int → Int → Int → Option (Int × Int)}
theorem g_block_inside_l1_b_ok (hK : KnOk K) (hL1 : H99_1 M w0 r v2 v6 m1 L1) (h : g_block_inside_l1_b K n v2 v6 L1 v11 v12 v13 = some r) : VE (cx99 M w0) (q99 M w0 r) [.c (cat Try.f99 p99_1), k99_1 M w0 r m1, .b 0, .c (cat Try.f99 p99_0)] .normal (s99_l1 v2 v6 v11 v12 v13) := by
  unfold g_block_inside_l1_b at h
  refine ve_un (ks' := [.c (cat Try.f99 p99_2), .c (cat Try.f99 p99_3), k99_1 M w0 r m1, .b 0, .c (cat Try.f99 p99_0)]) 3 ?_
  rcases ite_some h with ⟨h13, h⟩ | ⟨h13, h⟩
  ·
   refine ve_sb 50 h13 ?_
   refine ve_un (ks' := [.c (cat Try.f99 p99_4), .c (cat Try.f99 p99_5), .b 1, .c (cat Try.f99 p99_6), k99_1 M w0 r m1, .b 0, .c (cat Try.f99 p99_0)]) 5 ?_
   refine ve_in 0 ?_
   obtain ⟨h14, h⟩ := chk_some h
   refine ot_sp (y_ixs eTBoxtreeBox xTBoxtreeBox h14 (eTBoxtreeBox_len) (xTBoxtreeBox_eq)) ?_
   refine ot_end ?_
   refine ve_un (ks' := [.c (cat Try.f99 p99_7), .c (cat Try.f99 p99_8), .b 1, .c (cat Try.f99 p99_6), k99_1 M w0 r m1, .b 0, .c (cat Try.f99 p99_0)]) 1 ?_
   refine ve_in 3 ?_
   obtain ⟨v14, h15, h⟩ := bind_some h
   refine ot_cd (hK.d_TBoxtreeBox__IntInt h15) ?_
   refine ot_end ?_
   exact ve_arr 3 (lp_back (hL1 h))
  ·
   refine ve_sb 50 h13 ?_
   refine ve_un (ks' := [.c (cat Try.f99 p99_9), .c (cat Try.f99 p99_10)]) 6 ?_
   refine ve_in 1 ?_
   obtain ⟨v15, h16, h⟩ := bind_some h
   refine ot_cl (g_block_limit_ok hK h16) ?_
   refine ot_go 3 1 ?_
   obtain ⟨v16, h17, h⟩ := bind_some h
   refine ot_cl (g_block_limit_ok hK h17) ?_
   refine ot_end ?_
   refine ve_rt 1 ?_
   have hr := Option.some.inj h
   subst hr
   exact ve_dt
theorem g_block_inside_l1_ok (hK : KnOk K) (m : Nat) : H99_1 M w0 r v2 v6 m (g_block_inside_l1 K n v2 v6 m) := by
  induction m with
 | zero => intro v11 v12 v13 h; cases h
 | succ m ih => intro v11 v12 v13 h; have h : g_block_inside_l1_b K n v2 v6 (g_block_inside_l1 K n v2 v6 m) v11 v12 v13 = some r := h; exact lp_round (g_block_inside_l1_b_ok hK ih h)
theorem g_block_inside_ok (hK : KnOk K) (h : g_block_inside K n v1 v2 = some r) : ACalls Try.prog 99 [.agg (xTBoxtreeBox v1), .agg (eTBlockEnv v2)] (fun v _ => v = .tup [.int .i64 r.1, .int .i64 r.2]) := by
  refine acalls_intro (c := cat Try.f99 []) Try.func99 (by kernel_rfl) _ Try.ntmps99 (of_decide_eq_true (by kernel_rfl)) fun M w0 => ?_
  refine ve_cast (s' := ⟨[(0,.agg (xTBoxtreeBox v1)),(1,.agg (eTBlockEnv v2))],[],[],[]⟩) (by kernel_rfl) ?_
  unfold g_block_inside at h
  refine ve_un (ks' := [.c (cat Try.f99 [1, 0, 0]), .c (cat Try.f99 [1, 0, 1]), .c (cat Try.f99 [1, 1])]) 4 ?_
  refine ve_in 2 ?_
  obtain ⟨v3, h1, h⟩ := bind_some h
  refine ot_cl (g_block_fixed_ok hK h1) ?_
  refine ot_go 4 1 ?_
  obtain ⟨v4, h2, h⟩ := bind_some h
  refine ot_cl (g_block_Length_ok hK h2) ?_
  refine ot_end ?_
  refine ve_un (ks' := [.c (cat Try.f99 p99_11), .c (cat Try.f99 [1, 1])]) 2 ?_
  rcases ite_some h with ⟨h3, h⟩ | ⟨h3, h⟩
  ·
   refine ve_sb 22 h3 ?_
   refine ve_un (ks' := [.c (cat Try.f99 p99_12), .c (cat Try.f99 p99_13), .c (cat Try.f99 [1, 1])]) 2 ?_
   refine ve_in 1 ?_
   obtain ⟨v5, h4, h⟩ := bind_some h
   refine ot_cl (g_block_limit_ok hK h4) ?_
   refine ot_end ?_
   refine ve_rt 4 ?_
   have hr := Option.some.inj h
   subst hr
   exact ve_dt
  ·
   refine ve_sb 22 h3 ?_
   refine ve_un (ks' := [.c (cat Try.f99 [1, 1, 0]), .c (cat Try.f99 [1, 1, 1])]) 3 ?_
   refine ve_in 1 ?_
   obtain ⟨v6, h5, h⟩ := bind_some h
   refine ot_cl (g_block_flow_ok hK h5) ?_
   refine ot_end ?_
   refine ve_un (ks' := [.c (cat Try.f99 p99_14), .c (cat Try.f99 p99_15)]) 3 ?_
   rcases ite_some h with ⟨h6, h⟩ | ⟨h6, h⟩
   ·
    refine ve_sb 33 h6 ?_
    refine ve_un (ks' := [.c (cat Try.f99 p99_16), .c (cat Try.f99 p99_17), .c (cat Try.f99 p99_15)]) 2 ?_
    refine ve_in 5 ?_
    obtain ⟨v7, h7, h⟩ := bind_some h
    refine ot_cd (hK.d_ListTBoxtreeBox_TCascadeStyle__IntInt h7) ?_
    refine ot_end ?_
    refine ve_un (ks' := [.c (cat Try.f99 p99_18), .c (cat Try.f99 p99_19), .c (cat Try.f99 p99_15)]) 1 ?_
    refine ve_in 1 ?_
    obtain ⟨v8, h8, h⟩ := bind_some h
    refine ot_cl (g_block_limit_ok hK h8) ?_
    refine ot_go 3 1 ?_
    obtain ⟨v9, h9, h⟩ := bind_some h
    refine ot_cl (g_block_limit_ok hK h9) ?_
    refine ot_end ?_
    refine ve_rt 2 ?_
    have hr := Option.some.inj h
    subst hr
    exact ve_dt
   ·
    refine ve_sb 33 h6 ?_
    refine ve_un (ks' := [.c (cat Try.f99 p99_20), .c (cat Try.f99 p99_21), .c (cat Try.f99 p99_0)]) 4 ?_
    refine ve_in 1 ?_
    refine ot_sp (y_len eTBoxtreeBox v6.1) ?_
    refine ot_end ?_
    exact ve_arr 1 (lp_en (p := p99_22) n (g_block_inside_l1_ok hK n h))
end
def p79_0 : List Nat := [1, 1, 1, 0]
def p79_1 : List Nat := [1, 1, 1, 1]
noncomputable section
variable {K : Kn} {n : Nat} {M : Nat → Prop} {w0 : Base} {r : (Int × Int)} {v1 : TBoxtreeBox} {v2 : TBlockEnv} 
theorem g_block_Widths_ok (hK : KnOk K) (h : g_block_Widths K n v1 v2 = some r) : ACalls Try.prog 79 [.agg (xTBoxtreeBox v1), .agg (eTBlockEnv v2)] (fun v _ => v = .tup [.int .i64 r.1, .int .i64 r.2]) := by
  refine acalls_intro (c := cat Try.f79 []) Try.func79 (by kernel_rfl) _ Try.ntmps79 (of_decide_eq_true (by kernel_rfl)) fun M w0 => ?_
  refine ve_cast (s' := ⟨[(0,.agg (xTBoxtreeBox v1)),(1,.agg (eTBlockEnv v2))],[],[],[]⟩) (by kernel_rfl) ?_
  unfold g_block_Widths at h
  refine ve_un (ks' := [.c (cat Try.f79 [1, 0]), .c (cat Try.f79 [1, 1])]) 3 ?_
  refine ve_in 2 ?_
  obtain ⟨v3, h1, h⟩ := bind_some h
  refine ot_cl (g_block_inside_ok hK h1) ?_
  refine ot_end ?_
  refine ve_un (ks' := [.c (cat Try.f79 [1, 1, 0]), .c (cat Try.f79 [1, 1, 1])]) 1 ?_
  refine ve_in 2 ?_
  obtain ⟨v4, h2, h⟩ := bind_some h
  refine ot_cl (g_block_fixed_ok hK h2) ?_
  refine ot_end ?_
  refine ve_un (ks' := [.c (cat Try.f79 p79_0), .c (cat Try.f79 p79_1)]) 1 ?_
  refine ve_pk [4, 5, 6] [6] [] ?_
  obtain ⟨v5, h3, h⟩ := bind_some h
  obtain ⟨v6, h4, h⟩ := bind_some h
  obtain ⟨v7, h5, h⟩ := bind_some h
  obtain ⟨v8, h6, h⟩ := bind_some h
  obtain ⟨v9, h7, h⟩ := bind_some h
  obtain ⟨v10, h8, h⟩ := bind_some h
  refine ve_dr 2 [(16, .agg (eTCascadeStyle v4)), (17, .agg (eTCascadeStyle v4)), (18, .int .i64 v3.1), (19, .int .i64 v5), (20, .agg (eTBlockSizes v6)), (21, .int .i64 v7), (22, .agg (eTCascadeStyle v4)), (23, .agg (eTCascadeStyle v4)), (24, .int .i64 v3.2), (25, .int .i64 v8), (26, .agg (eTBlockSizes v9)), (27, .int .i64 v10)] [] [] [stp Try.prog 28 Try.f79 p79_0 12, stp Try.prog 28 Try.f79 p79_0 13] (d_vs [.v 0 1, .v 0 1, .v 0 1] (d_c1 (e_c 0 1 19 (g_block_Clamp_ok hK h3)) (d_c1 (e_c 0 1 20 (g_block_Edges_ok hK h4)) (d_c1 (e_c 0 1 21 (g_api_BlockSizes_Sum_ok hK h5)) (d_vs [.v 0 2, .v 0 2, .v 0 2] (d_c1 (e_c 0 2 25 (g_block_Clamp_ok hK h6)) (d_c1 (e_c 0 2 26 (g_block_Edges_ok hK h7)) (d_c1 (e_c 0 1 27 (g_api_BlockSizes_Sum_ok hK h8)) (d_c1 (e_d 0) (d_c1 (e_d 1) (d_nl))))))))))) ?_
  refine ve_rt 1 ?_
  have hr := Option.some.inj h
  subst hr
  exact ve_dt
end
noncomputable section
variable {K : Kn} {n : Nat} {M : Nat → Prop} {w0 : Base} {r : (Int × Int)} {v1 : TBoxtreeBox} 
theorem g_law17_spread_ok (hK : KnOk K) (h : g_law17_spread K n v1 = some r) : ACalls Try.prog 55 [.agg (xTBoxtreeBox v1)] (fun v _ => v = .tup [.int .i64 r.1, .int .i64 r.2]) := by
  refine acalls_intro (c := cat Try.f55 []) Try.func55 (by kernel_rfl) _ Try.ntmps55 (of_decide_eq_true (by kernel_rfl)) fun M w0 => ?_
  refine ve_cast (s' := ⟨[(0,.agg (xTBoxtreeBox v1))],[],[],[]⟩) (by kernel_rfl) ?_
  unfold g_law17_spread at h
  refine ve_un (ks' := [.c (cat Try.f55 [1, 0]), .c (cat Try.f55 [1, 1])]) 3 ?_
  refine ve_pk [1] [1] [] ?_
  obtain ⟨v2, h1, h⟩ := bind_some h
  obtain ⟨v3, h2, h⟩ := bind_some h
  refine ve_dr 2 [(4, .agg (xTBoxtreeBox v1)), (5, .agg (eTBlockEnv v2)), (6, .tup [.int .i64 v3.1, .int .i64 v3.2]), (7, .int .i64 v3.1), (8, .int .i64 v3.2)] [] [] [stp Try.prog 9 Try.f55 [1, 0] 5, stp Try.prog 9 Try.f55 [1, 0] 6] (d_vs [.v 0 1] (d_c1 (e_c 0 1 5 (g_law17_Env_ok hK h1)) (d_c1 (e_c 0 1 6 (g_block_Widths_ok hK h2)) (d_vs [.v 0 1, .v 0 1] (d_c1 (e_d 0) (d_c1 (e_d 1) (d_nl))))))) ?_
  refine ve_rt 1 ?_
  have hr := Option.some.inj h
  subst hr
  exact ve_dt
end
end Go.Proofs.Ytlpndemhnpajiaa
