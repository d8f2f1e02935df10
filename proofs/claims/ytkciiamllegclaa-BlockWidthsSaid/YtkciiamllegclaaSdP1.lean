/- The runs of the functions that BlockWidths reaches do what their plain forms say, part 1. Made by a program. -/
import Derived.Test.YtkciiamllegclaaSdGk
import Derived.Test.YtkciiamllegclaaSdP0
namespace Go.Proofs.Ytkciiamllegclaa
open Go.RowKit
set_option maxRecDepth 20000
set_option linter.all false
set_option linter.unusedVariables false
set_option linter.unusedSimpArgs false


def p63_0 : List Nat := [1, 1, 1, 0, 1, 0, 0, 1, 1, 1]
def p63_1 : List Nat := [1, 1, 1, 1]
def p63_2 : List Nat := [1, 1, 1, 0, 1, 0, 0]
def p63_3 : List Nat := [1, 1, 1, 0, 1, 0, 0, 1, 1, 0, 0, 0]
def p63_4 : List Nat := [1, 1, 1, 0, 1, 0, 0, 1, 1, 0, 0, 1]
def p63_5 : List Nat := [1, 1, 1, 0, 1, 0, 0, 1, 1, 0, 0, 1, 0]
def p63_6 : List Nat := [1, 1, 1, 0, 1, 0, 0, 1, 1, 0, 0, 1, 1]
def p63_7 : List Nat := [1, 1, 1, 0, 1, 0, 0, 1, 1, 0, 0, 1, 1, 0]
def p63_8 : List Nat := [1, 1, 0, 1, 0]
def p63_9 : List Nat := [1, 1, 0, 1, 0, 0]
def p63_10 : List Nat := [1, 1, 0, 1, 0, 0, 1, 1, 0, 0, 1]
def p63_11 : List Nat := [1, 1, 0, 1, 0, 0, 1, 1, 1]
def p63_12 : List Nat := [1, 1, 1, 0, 0]
def p63_13 : List Nat := [1, 1, 1, 0, 1]
def p63_14 : List Nat := [1, 1, 1, 0, 1, 0]
noncomputable section
abbrev cx63 (M : Nat → Prop) (w0 : World) : Cx := ⟨Try.prog, 40, M, w0⟩
abbrev q63 (M : Nat → Prop) (w0 : World) (r : TCascadeStyle) := bodyPost Try.prog Try.f63 (RetQ M w0 (fun v _ => v = .agg (eTCascadeStyle r)))
def s63_j11 (v2 : Nat) (v13 : TCascadeStyle) : AS := ⟨[(1,.pp 1 v2 0),(2,.ptr 2 0),(24,.ref 10),(25,.int .i64 11),(26,.int .i64 10)],[(1,eTCascadeStyle v13),(2,eTCascadeStyle zTCascadeStyle)],[(10,⟨101,1,List.map eAdr [(v2, 6), (v2, 10), (v2, 12), (v2, 14), (v2, 22), (v2, 16), (v2, 24), (v2, 18), (v2, 26), (v2, 20), (v2, 28)]⟩)],[1,2,10]⟩
def s63_j10 (v2 : Nat) (v12 : TCascadeStyle) : AS := ⟨[(1,.pp 1 v2 0),(2,.ptr 2 0),(24,.ref 10),(25,.int .i64 11),(26,.int .i64 9)],[(1,eTCascadeStyle v12),(2,eTCascadeStyle zTCascadeStyle)],[(10,⟨101,1,List.map eAdr [(v2, 6), (v2, 10), (v2, 12), (v2, 14), (v2, 22), (v2, 16), (v2, 24), (v2, 18), (v2, 26), (v2, 20), (v2, 28)]⟩)],[1,2,10]⟩
def s63_j9 (v2 : Nat) (v11 : TCascadeStyle) : AS := ⟨[(1,.pp 1 v2 0),(2,.ptr 2 0),(24,.ref 10),(25,.int .i64 11),(26,.int .i64 8)],[(1,eTCascadeStyle v11),(2,eTCascadeStyle zTCascadeStyle)],[(10,⟨101,1,List.map eAdr [(v2, 6), (v2, 10), (v2, 12), (v2, 14), (v2, 22), (v2, 16), (v2, 24), (v2, 18), (v2, 26), (v2, 20), (v2, 28)]⟩)],[1,2,10]⟩
def s63_j8 (v2 : Nat) (v10 : TCascadeStyle) : AS := ⟨[(1,.pp 1 v2 0),(2,.ptr 2 0),(24,.ref 10),(25,.int .i64 11),(26,.int .i64 7)],[(1,eTCascadeStyle v10),(2,eTCascadeStyle zTCascadeStyle)],[(10,⟨101,1,List.map eAdr [(v2, 6), (v2, 10), (v2, 12), (v2, 14), (v2, 22), (v2, 16), (v2, 24), (v2, 18), (v2, 26), (v2, 20), (v2, 28)]⟩)],[1,2,10]⟩
def s63_j7 (v2 : Nat) (v9 : TCascadeStyle) : AS := ⟨[(1,.pp 1 v2 0),(2,.ptr 2 0),(24,.ref 10),(25,.int .i64 11),(26,.int .i64 6)],[(1,eTCascadeStyle v9),(2,eTCascadeStyle zTCascadeStyle)],[(10,⟨101,1,List.map eAdr [(v2, 6), (v2, 10), (v2, 12), (v2, 14), (v2, 22), (v2, 16), (v2, 24), (v2, 18), (v2, 26), (v2, 20), (v2, 28)]⟩)],[1,2,10]⟩
def s63_j6 (v2 : Nat) (v8 : TCascadeStyle) : AS := ⟨[(1,.pp 1 v2 0),(2,.ptr 2 0),(24,.ref 10),(25,.int .i64 11),(26,.int .i64 5)],[(1,eTCascadeStyle v8),(2,eTCascadeStyle zTCascadeStyle)],[(10,⟨101,1,List.map eAdr [(v2, 6), (v2, 10), (v2, 12), (v2, 14), (v2, 22), (v2, 16), (v2, 24), (v2, 18), (v2, 26), (v2, 20), (v2, 28)]⟩)],[1,2,10]⟩
def s63_j5 (v2 : Nat) (v7 : TCascadeStyle) : AS := ⟨[(1,.pp 1 v2 0),(2,.ptr 2 0),(24,.ref 10),(25,.int .i64 11),(26,.int .i64 4)],[(1,eTCascadeStyle v7),(2,eTCascadeStyle zTCascadeStyle)],[(10,⟨101,1,List.map eAdr [(v2, 6), (v2, 10), (v2, 12), (v2, 14), (v2, 22), (v2, 16), (v2, 24), (v2, 18), (v2, 26), (v2, 20), (v2, 28)]⟩)],[1,2,10]⟩
def s63_j4 (v2 : Nat) (v6 : TCascadeStyle) : AS := ⟨[(1,.pp 1 v2 0),(2,.ptr 2 0),(24,.ref 10),(25,.int .i64 11),(26,.int .i64 3)],[(1,eTCascadeStyle v6),(2,eTCascadeStyle zTCascadeStyle)],[(10,⟨101,1,List.map eAdr [(v2, 6), (v2, 10), (v2, 12), (v2, 14), (v2, 22), (v2, 16), (v2, 24), (v2, 18), (v2, 26), (v2, 20), (v2, 28)]⟩)],[1,2,10]⟩
def s63_j3 (v2 : Nat) (v5 : TCascadeStyle) : AS := ⟨[(1,.pp 1 v2 0),(2,.ptr 2 0),(24,.ref 10),(25,.int .i64 11),(26,.int .i64 2)],[(1,eTCascadeStyle v5),(2,eTCascadeStyle zTCascadeStyle)],[(10,⟨101,1,List.map eAdr [(v2, 6), (v2, 10), (v2, 12), (v2, 14), (v2, 22), (v2, 16), (v2, 24), (v2, 18), (v2, 26), (v2, 20), (v2, 28)]⟩)],[1,2,10]⟩
def s63_j2 (v2 : Nat) (v4 : TCascadeStyle) : AS := ⟨[(1,.pp 1 v2 0),(2,.ptr 2 0),(24,.ref 10),(25,.int .i64 11),(26,.int .i64 1)],[(1,eTCascadeStyle v4),(2,eTCascadeStyle zTCascadeStyle)],[(10,⟨101,1,List.map eAdr [(v2, 6), (v2, 10), (v2, 12), (v2, 14), (v2, 22), (v2, 16), (v2, 24), (v2, 18), (v2, 26), (v2, 20), (v2, 28)]⟩)],[1,2,10]⟩
def s63_j1 (v2 : Nat) (v3 : TCascadeStyle) : AS := ⟨[(1,.pp 1 v2 0),(2,.ptr 2 0),(24,.ref 10),(25,.int .i64 11),(26,.int .i64 0)],[(1,eTCascadeStyle v3),(2,eTCascadeStyle zTCascadeStyle)],[(10,⟨101,1,List.map eAdr [(v2, 6), (v2, 10), (v2, 12), (v2, 14), (v2, 22), (v2, 16), (v2, 24), (v2, 18), (v2, 26), (v2, 20), (v2, 28)]⟩)],[1,2,10]⟩
variable {K : Kn} {n : Nat} {M : Nat → Prop} {w0 : World} {r : TCascadeStyle} {v1 : TCascadeStyle} {v2 : Nat} {v3 : TCascadeStyle} {v4 : TCascadeStyle} {v5 : TCascadeStyle} {v6 : TCascadeStyle} {v7 : TCascadeStyle} {v8 : TCascadeStyle} {v9 : TCascadeStyle} {v10 : TCascadeStyle} {v11 : TCascadeStyle} {v12 : TCascadeStyle} {v13 : TCascadeStyle} 
theorem g_block_fixed_j11_ok (hK : KnOk K) (h : g_block_fixed_j11 K n v13 = some r) : VE (cx63 M w0) (q63 M w0 r) [.b 3, .c (cat Try.f63 p63_0), kl (cx63 M w0) (q63 M w0 r) [.b 2, .c (cat Try.f63 p63_1)] (cat Try.f63 p63_2) 29, .b 2, .c (cat Try.f63 p63_1)] .normal (s63_j11 v2 v13) := by
  unfold g_block_fixed_j11 at h
  refine ve_go (ks' := [kl (cx63 M w0) (q63 M w0 r) [.b 2, .c (cat Try.f63 p63_1)] (cat Try.f63 p63_2) 29, .b 2, .c (cat Try.f63 p63_1)]) 2 ⟨[(1,.pp 1 v2 0),(2,.ptr 2 0),(24,.ref 10),(25,.int .i64 11),(26,.int .i64 11)],[(1,eTCascadeStyle v13),(2,eTCascadeStyle zTCascadeStyle)],[(10,⟨101,1,List.map eAdr [(v2, 6), (v2, 10), (v2, 12), (v2, 14), (v2, 22), (v2, 16), (v2, 24), (v2, 18), (v2, 26), (v2, 20), (v2, 28)]⟩)],[1,2,10]⟩ ?_
  refine lp_back ?_
  refine lp_round ?_
  refine ve_rt 11 ?_
  have hr := Option.some.inj h
  subst hr
  exact ve_d1
theorem g_block_fixed_j10_ok (hK : KnOk K) (h : g_block_fixed_j10 K n v12 = some r) : VE (cx63 M w0) (q63 M w0 r) [.b 3, .c (cat Try.f63 p63_0), kl (cx63 M w0) (q63 M w0 r) [.b 2, .c (cat Try.f63 p63_1)] (cat Try.f63 p63_2) 30, .b 2, .c (cat Try.f63 p63_1)] .normal (s63_j10 v2 v12) := by
  unfold g_block_fixed_j10 at h
  refine ve_go (ks' := [kl (cx63 M w0) (q63 M w0 r) [.b 2, .c (cat Try.f63 p63_1)] (cat Try.f63 p63_2) 30, .b 2, .c (cat Try.f63 p63_1)]) 2 ⟨[(1,.pp 1 v2 0),(2,.ptr 2 0),(24,.ref 10),(25,.int .i64 11),(26,.int .i64 10)],[(1,eTCascadeStyle v12),(2,eTCascadeStyle zTCascadeStyle)],[(10,⟨101,1,List.map eAdr [(v2, 6), (v2, 10), (v2, 12), (v2, 14), (v2, 22), (v2, 16), (v2, 24), (v2, 18), (v2, 26), (v2, 20), (v2, 28)]⟩)],[1,2,10]⟩ ?_
  refine lp_back ?_
  refine lp_round ?_
  refine ve_un (ks' := [.c (cat Try.f63 p63_3), .c (cat Try.f63 p63_4), .b 3, .c (cat Try.f63 p63_0), kl (cx63 M w0) (q63 M w0 r) [.b 2, .c (cat Try.f63 p63_1)] (cat Try.f63 p63_2) 29, .b 2, .c (cat Try.f63 p63_1)]) 8 ?_
  refine ve_in 0 ?_
  refine ot_sp (y_ixr 10 1 eAdr (L := ([(v2, 6), (v2, 10), (v2, 12), (v2, 14), (v2, 22), (v2, 16), (v2, 24), (v2, 18), (v2, 26), (v2, 20), (v2, 28)] : List (Nat × Nat))) (i := (10 : Int)) (by kernel_rfl)) ?_
  refine ot_sp (y_ldr 101 0 eAdr eAdr (L := ([(v2, 6), (v2, 10), (v2, 12), (v2, 14), (v2, 22), (v2, 16), (v2, 24), (v2, 18), (v2, 26), (v2, 20), (v2, 28)] : List (Nat × Nat))) (j := (10 : Int).toNat) (of_decide_eq_true (by kernel_rfl)) (fun _ => rfl)) ?_
  refine ot_end ?_
  refine ve_un (ks' := [.c (cat Try.f63 p63_5), .c (cat Try.f63 p63_6), .b 3, .c (cat Try.f63 p63_0), kl (cx63 M w0) (q63 M w0 r) [.b 2, .c (cat Try.f63 p63_1)] (cat Try.f63 p63_2) 29, .b 2, .c (cat Try.f63 p63_1)]) 1 ?_
  refine ve_in 3 ?_
  refine ot_ptr 32 1 1 v2 28 0 ?_
  refine ot_end ?_
  rcases ite_some h with ⟨h11, h⟩ | ⟨h11, h⟩
  ·
   refine ve_sb 34 h11 ?_
   refine ve_un (ks' := [.c (cat Try.f63 p63_7), .b 3, .c (cat Try.f63 p63_0), kl (cx63 M w0) (q63 M w0 r) [.b 2, .c (cat Try.f63 p63_1)] (cat Try.f63 p63_2) 29, .b 2, .c (cat Try.f63 p63_1)]) 1 ?_
   refine ve_in 3 ?_
   refine ot_ptr 37 1 1 v2 28 0 ?_
   refine ot_end ?_
   exact ve_arr 0 (g_block_fixed_j11_ok hK (v2 := v2) h)
  ·
   refine ve_sb 34 h11 ?_
   exact ve_arr 2 (g_block_fixed_j11_ok hK (v2 := v2) h)
theorem g_block_fixed_j9_ok (hK : KnOk K) (h : g_block_fixed_j9 K n v11 = some r) : VE (cx63 M w0) (q63 M w0 r) [.b 3, .c (cat Try.f63 p63_0), kl (cx63 M w0) (q63 M w0 r) [.b 2, .c (cat Try.f63 p63_1)] (cat Try.f63 p63_2) 31, .b 2, .c (cat Try.f63 p63_1)] .normal (s63_j9 v2 v11) := by
  unfold g_block_fixed_j9 at h
  refine ve_go (ks' := [kl (cx63 M w0) (q63 M w0 r) [.b 2, .c (cat Try.f63 p63_1)] (cat Try.f63 p63_2) 31, .b 2, .c (cat Try.f63 p63_1)]) 2 ⟨[(1,.pp 1 v2 0),(2,.ptr 2 0),(24,.ref 10),(25,.int .i64 11),(26,.int .i64 9)],[(1,eTCascadeStyle v11),(2,eTCascadeStyle zTCascadeStyle)],[(10,⟨101,1,List.map eAdr [(v2, 6), (v2, 10), (v2, 12), (v2, 14), (v2, 22), (v2, 16), (v2, 24), (v2, 18), (v2, 26), (v2, 20), (v2, 28)]⟩)],[1,2,10]⟩ ?_
  refine lp_back ?_
  refine lp_round ?_
  refine ve_un (ks' := [.c (cat Try.f63 p63_3), .c (cat Try.f63 p63_4), .b 3, .c (cat Try.f63 p63_0), kl (cx63 M w0) (q63 M w0 r) [.b 2, .c (cat Try.f63 p63_1)] (cat Try.f63 p63_2) 30, .b 2, .c (cat Try.f63 p63_1)]) 8 ?_
  refine ve_in 0 ?_
  refine ot_sp (y_ixr 10 1 eAdr (L := ([(v2, 6), (v2, 10), (v2, 12), (v2, 14), (v2, 22), (v2, 16), (v2, 24), (v2, 18), (v2, 26), (v2, 20), (v2, 28)] : List (Nat × Nat))) (i := (9 : Int)) (by kernel_rfl)) ?_
  refine ot_sp (y_ldr 101 0 eAdr eAdr (L := ([(v2, 6), (v2, 10), (v2, 12), (v2, 14), (v2, 22), (v2, 16), (v2, 24), (v2, 18), (v2, 26), (v2, 20), (v2, 28)] : List (Nat × Nat))) (j := (9 : Int).toNat) (of_decide_eq_true (by kernel_rfl)) (fun _ => rfl)) ?_
  refine ot_end ?_
  refine ve_un (ks' := [.c (cat Try.f63 p63_5), .c (cat Try.f63 p63_6), .b 3, .c (cat Try.f63 p63_0), kl (cx63 M w0) (q63 M w0 r) [.b 2, .c (cat Try.f63 p63_1)] (cat Try.f63 p63_2) 30, .b 2, .c (cat Try.f63 p63_1)]) 1 ?_
  refine ve_in 3 ?_
  refine ot_ptr 32 1 1 v2 20 0 ?_
  refine ot_end ?_
  rcases ite_some h with ⟨h10, h⟩ | ⟨h10, h⟩
  ·
   refine ve_sb 34 h10 ?_
   refine ve_un (ks' := [.c (cat Try.f63 p63_7), .b 3, .c (cat Try.f63 p63_0), kl (cx63 M w0) (q63 M w0 r) [.b 2, .c (cat Try.f63 p63_1)] (cat Try.f63 p63_2) 30, .b 2, .c (cat Try.f63 p63_1)]) 1 ?_
   refine ve_in 3 ?_
   refine ot_ptr 37 1 1 v2 20 0 ?_
   refine ot_end ?_
   exact ve_arr 0 (g_block_fixed_j10_ok hK (v2 := v2) h)
  ·
   refine ve_sb 34 h10 ?_
   exact ve_arr 2 (g_block_fixed_j10_ok hK (v2 := v2) h)
theorem g_block_fixed_j8_ok (hK : KnOk K) (h : g_block_fixed_j8 K n v10 = some r) : VE (cx63 M w0) (q63 M w0 r) [.b 3, .c (cat Try.f63 p63_0), kl (cx63 M w0) (q63 M w0 r) [.b 2, .c (cat Try.f63 p63_1)] (cat Try.f63 p63_2) 32, .b 2, .c (cat Try.f63 p63_1)] .normal (s63_j8 v2 v10) := by
  unfold g_block_fixed_j8 at h
  refine ve_go (ks' := [kl (cx63 M w0) (q63 M w0 r) [.b 2, .c (cat Try.f63 p63_1)] (cat Try.f63 p63_2) 32, .b 2, .c (cat Try.f63 p63_1)]) 2 ⟨[(1,.pp 1 v2 0),(2,.ptr 2 0),(24,.ref 10),(25,.int .i64 11),(26,.int .i64 8)],[(1,eTCascadeStyle v10),(2,eTCascadeStyle zTCascadeStyle)],[(10,⟨101,1,List.map eAdr [(v2, 6), (v2, 10), (v2, 12), (v2, 14), (v2, 22), (v2, 16), (v2, 24), (v2, 18), (v2, 26), (v2, 20), (v2, 28)]⟩)],[1,2,10]⟩ ?_
  refine lp_back ?_
  refine lp_round ?_
  refine ve_un (ks' := [.c (cat Try.f63 p63_3), .c (cat Try.f63 p63_4), .b 3, .c (cat Try.f63 p63_0), kl (cx63 M w0) (q63 M w0 r) [.b 2, .c (cat Try.f63 p63_1)] (cat Try.f63 p63_2) 31, .b 2, .c (cat Try.f63 p63_1)]) 8 ?_
  refine ve_in 0 ?_
  refine ot_sp (y_ixr 10 1 eAdr (L := ([(v2, 6), (v2, 10), (v2, 12), (v2, 14), (v2, 22), (v2, 16), (v2, 24), (v2, 18), (v2, 26), (v2, 20), (v2, 28)] : List (Nat × Nat))) (i := (8 : Int)) (by kernel_rfl)) ?_
  refine ot_sp (y_ldr 101 0 eAdr eAdr (L := ([(v2, 6), (v2, 10), (v2, 12), (v2, 14), (v2, 22), (v2, 16), (v2, 24), (v2, 18), (v2, 26), (v2, 20), (v2, 28)] : List (Nat × Nat))) (j := (8 : Int).toNat) (of_decide_eq_true (by kernel_rfl)) (fun _ => rfl)) ?_
  refine ot_end ?_
  refine ve_un (ks' := [.c (cat Try.f63 p63_5), .c (cat Try.f63 p63_6), .b 3, .c (cat Try.f63 p63_0), kl (cx63 M w0) (q63 M w0 r) [.b 2, .c (cat Try.f63 p63_1)] (cat Try.f63 p63_2) 31, .b 2, .c (cat Try.f63 p63_1)]) 1 ?_
  refine ve_in 3 ?_
  refine ot_ptr 32 1 1 v2 26 0 ?_
  refine ot_end ?_
  rcases ite_some h with ⟨h9, h⟩ | ⟨h9, h⟩
  ·
   refine ve_sb 34 h9 ?_
   refine ve_un (ks' := [.c (cat Try.f63 p63_7), .b 3, .c (cat Try.f63 p63_0), kl (cx63 M w0) (q63 M w0 r) [.b 2, .c (cat Try.f63 p63_1)] (cat Try.f63 p63_2) 31, .b 2, .c (cat Try.f63 p63_1)]) 1 ?_
   refine ve_in 3 ?_
   refine ot_ptr 37 1 1 v2 26 0 ?_
   refine ot_end ?_
   exact ve_arr 0 (g_block_fixed_j9_ok hK (v2 := v2) h)
  ·
   refine ve_sb 34 h9 ?_
   exact ve_arr 2 (g_block_fixed_j9_ok hK (v2 := v2) h)
theorem g_block_fixed_j7_ok (hK : KnOk K) (h : g_block_fixed_j7 K n v9 = some r) : VE (cx63 M w0) (q63 M w0 r) [.b 3, .c (cat Try.f63 p63_0), kl (cx63 M w0) (q63 M w0 r) [.b 2, .c (cat Try.f63 p63_1)] (cat Try.f63 p63_2) 33, .b 2, .c (cat Try.f63 p63_1)] .normal (s63_j7 v2 v9) := by
  unfold g_block_fixed_j7 at h
  refine ve_go (ks' := [kl (cx63 M w0) (q63 M w0 r) [.b 2, .c (cat Try.f63 p63_1)] (cat Try.f63 p63_2) 33, .b 2, .c (cat Try.f63 p63_1)]) 2 ⟨[(1,.pp 1 v2 0),(2,.ptr 2 0),(24,.ref 10),(25,.int .i64 11),(26,.int .i64 7)],[(1,eTCascadeStyle v9),(2,eTCascadeStyle zTCascadeStyle)],[(10,⟨101,1,List.map eAdr [(v2, 6), (v2, 10), (v2, 12), (v2, 14), (v2, 22), (v2, 16), (v2, 24), (v2, 18), (v2, 26), (v2, 20), (v2, 28)]⟩)],[1,2,10]⟩ ?_
  refine lp_back ?_
  refine lp_round ?_
  refine ve_un (ks' := [.c (cat Try.f63 p63_3), .c (cat Try.f63 p63_4), .b 3, .c (cat Try.f63 p63_0), kl (cx63 M w0) (q63 M w0 r) [.b 2, .c (cat Try.f63 p63_1)] (cat Try.f63 p63_2) 32, .b 2, .c (cat Try.f63 p63_1)]) 8 ?_
  refine ve_in 0 ?_
  refine ot_sp (y_ixr 10 1 eAdr (L := ([(v2, 6), (v2, 10), (v2, 12), (v2, 14), (v2, 22), (v2, 16), (v2, 24), (v2, 18), (v2, 26), (v2, 20), (v2, 28)] : List (Nat × Nat))) (i := (7 : Int)) (by kernel_rfl)) ?_
  refine ot_sp (y_ldr 101 0 eAdr eAdr (L := ([(v2, 6), (v2, 10), (v2, 12), (v2, 14), (v2, 22), (v2, 16), (v2, 24), (v2, 18), (v2, 26), (v2, 20), (v2, 28)] : List (Nat × Nat))) (j := (7 : Int).toNat) (of_decide_eq_true (by kernel_rfl)) (fun _ => rfl)) ?_
  refine ot_end ?_
  refine ve_un (ks' := [.c (cat Try.f63 p63_5), .c (cat Try.f63 p63_6), .b 3, .c (cat Try.f63 p63_0), kl (cx63 M w0) (q63 M w0 r) [.b 2, .c (cat Try.f63 p63_1)] (cat Try.f63 p63_2) 32, .b 2, .c (cat Try.f63 p63_1)]) 1 ?_
  refine ve_in 3 ?_
  refine ot_ptr 32 1 1 v2 18 0 ?_
  refine ot_end ?_
  rcases ite_some h with ⟨h8, h⟩ | ⟨h8, h⟩
  ·
   refine ve_sb 34 h8 ?_
   refine ve_un (ks' := [.c (cat Try.f63 p63_7), .b 3, .c (cat Try.f63 p63_0), kl (cx63 M w0) (q63 M w0 r) [.b 2, .c (cat Try.f63 p63_1)] (cat Try.f63 p63_2) 32, .b 2, .c (cat Try.f63 p63_1)]) 1 ?_
   refine ve_in 3 ?_
   refine ot_ptr 37 1 1 v2 18 0 ?_
   refine ot_end ?_
   exact ve_arr 0 (g_block_fixed_j8_ok hK (v2 := v2) h)
  ·
   refine ve_sb 34 h8 ?_
   exact ve_arr 2 (g_block_fixed_j8_ok hK (v2 := v2) h)
theorem g_block_fixed_j6_ok (hK : KnOk K) (h : g_block_fixed_j6 K n v8 = some r) : VE (cx63 M w0) (q63 M w0 r) [.b 3, .c (cat Try.f63 p63_0), kl (cx63 M w0) (q63 M w0 r) [.b 2, .c (cat Try.f63 p63_1)] (cat Try.f63 p63_2) 34, .b 2, .c (cat Try.f63 p63_1)] .normal (s63_j6 v2 v8) := by
  unfold g_block_fixed_j6 at h
  refine ve_go (ks' := [kl (cx63 M w0) (q63 M w0 r) [.b 2, .c (cat Try.f63 p63_1)] (cat Try.f63 p63_2) 34, .b 2, .c (cat Try.f63 p63_1)]) 2 ⟨[(1,.pp 1 v2 0),(2,.ptr 2 0),(24,.ref 10),(25,.int .i64 11),(26,.int .i64 6)],[(1,eTCascadeStyle v8),(2,eTCascadeStyle zTCascadeStyle)],[(10,⟨101,1,List.map eAdr [(v2, 6), (v2, 10), (v2, 12), (v2, 14), (v2, 22), (v2, 16), (v2, 24), (v2, 18), (v2, 26), (v2, 20), (v2, 28)]⟩)],[1,2,10]⟩ ?_
  refine lp_back ?_
  refine lp_round ?_
  refine ve_un (ks' := [.c (cat Try.f63 p63_3), .c (cat Try.f63 p63_4), .b 3, .c (cat Try.f63 p63_0), kl (cx63 M w0) (q63 M w0 r) [.b 2, .c (cat Try.f63 p63_1)] (cat Try.f63 p63_2) 33, .b 2, .c (cat Try.f63 p63_1)]) 8 ?_
  refine ve_in 0 ?_
  refine ot_sp (y_ixr 10 1 eAdr (L := ([(v2, 6), (v2, 10), (v2, 12), (v2, 14), (v2, 22), (v2, 16), (v2, 24), (v2, 18), (v2, 26), (v2, 20), (v2, 28)] : List (Nat × Nat))) (i := (6 : Int)) (by kernel_rfl)) ?_
  refine ot_sp (y_ldr 101 0 eAdr eAdr (L := ([(v2, 6), (v2, 10), (v2, 12), (v2, 14), (v2, 22), (v2, 16), (v2, 24), (v2, 18), (v2, 26), (v2, 20), (v2, 28)] : List (Nat × Nat))) (j := (6 : Int).toNat) (of_decide_eq_true (by kernel_rfl)) (fun _ => rfl)) ?_
  refine ot_end ?_
  refine ve_un (ks' := [.c (cat Try.f63 p63_5), .c (cat Try.f63 p63_6), .b 3, .c (cat Try.f63 p63_0), kl (cx63 M w0) (q63 M w0 r) [.b 2, .c (cat Try.f63 p63_1)] (cat Try.f63 p63_2) 33, .b 2, .c (cat Try.f63 p63_1)]) 1 ?_
  refine ve_in 3 ?_
  refine ot_ptr 32 1 1 v2 24 0 ?_
  refine ot_end ?_
  rcases ite_some h with ⟨h7, h⟩ | ⟨h7, h⟩
  ·
   refine ve_sb 34 h7 ?_
   refine ve_un (ks' := [.c (cat Try.f63 p63_7), .b 3, .c (cat Try.f63 p63_0), kl (cx63 M w0) (q63 M w0 r) [.b 2, .c (cat Try.f63 p63_1)] (cat Try.f63 p63_2) 33, .b 2, .c (cat Try.f63 p63_1)]) 1 ?_
   refine ve_in 3 ?_
   refine ot_ptr 37 1 1 v2 24 0 ?_
   refine ot_end ?_
   exact ve_arr 0 (g_block_fixed_j7_ok hK (v2 := v2) h)
  ·
   refine ve_sb 34 h7 ?_
   exact ve_arr 2 (g_block_fixed_j7_ok hK (v2 := v2) h)
theorem g_block_fixed_j5_ok (hK : KnOk K) (h : g_block_fixed_j5 K n v7 = some r) : VE (cx63 M w0) (q63 M w0 r) [.b 3, .c (cat Try.f63 p63_0), kl (cx63 M w0) (q63 M w0 r) [.b 2, .c (cat Try.f63 p63_1)] (cat Try.f63 p63_2) 35, .b 2, .c (cat Try.f63 p63_1)] .normal (s63_j5 v2 v7) := by
  unfold g_block_fixed_j5 at h
  refine ve_go (ks' := [kl (cx63 M w0) (q63 M w0 r) [.b 2, .c (cat Try.f63 p63_1)] (cat Try.f63 p63_2) 35, .b 2, .c (cat Try.f63 p63_1)]) 2 ⟨[(1,.pp 1 v2 0),(2,.ptr 2 0),(24,.ref 10),(25,.int .i64 11),(26,.int .i64 5)],[(1,eTCascadeStyle v7),(2,eTCascadeStyle zTCascadeStyle)],[(10,⟨101,1,List.map eAdr [(v2, 6), (v2, 10), (v2, 12), (v2, 14), (v2, 22), (v2, 16), (v2, 24), (v2, 18), (v2, 26), (v2, 20), (v2, 28)]⟩)],[1,2,10]⟩ ?_
  refine lp_back ?_
  refine lp_round ?_
  refine ve_un (ks' := [.c (cat Try.f63 p63_3), .c (cat Try.f63 p63_4), .b 3, .c (cat Try.f63 p63_0), kl (cx63 M w0) (q63 M w0 r) [.b 2, .c (cat Try.f63 p63_1)] (cat Try.f63 p63_2) 34, .b 2, .c (cat Try.f63 p63_1)]) 8 ?_
  refine ve_in 0 ?_
  refine ot_sp (y_ixr 10 1 eAdr (L := ([(v2, 6), (v2, 10), (v2, 12), (v2, 14), (v2, 22), (v2, 16), (v2, 24), (v2, 18), (v2, 26), (v2, 20), (v2, 28)] : List (Nat × Nat))) (i := (5 : Int)) (by kernel_rfl)) ?_
  refine ot_sp (y_ldr 101 0 eAdr eAdr (L := ([(v2, 6), (v2, 10), (v2, 12), (v2, 14), (v2, 22), (v2, 16), (v2, 24), (v2, 18), (v2, 26), (v2, 20), (v2, 28)] : List (Nat × Nat))) (j := (5 : Int).toNat) (of_decide_eq_true (by kernel_rfl)) (fun _ => rfl)) ?_
  refine ot_end ?_
  refine ve_un (ks' := [.c (cat Try.f63 p63_5), .c (cat Try.f63 p63_6), .b 3, .c (cat Try.f63 p63_0), kl (cx63 M w0) (q63 M w0 r) [.b 2, .c (cat Try.f63 p63_1)] (cat Try.f63 p63_2) 34, .b 2, .c (cat Try.f63 p63_1)]) 1 ?_
  refine ve_in 3 ?_
  refine ot_ptr 32 1 1 v2 16 0 ?_
  refine ot_end ?_
  rcases ite_some h with ⟨h6, h⟩ | ⟨h6, h⟩
  ·
   refine ve_sb 34 h6 ?_
   refine ve_un (ks' := [.c (cat Try.f63 p63_7), .b 3, .c (cat Try.f63 p63_0), kl (cx63 M w0) (q63 M w0 r) [.b 2, .c (cat Try.f63 p63_1)] (cat Try.f63 p63_2) 34, .b 2, .c (cat Try.f63 p63_1)]) 1 ?_
   refine ve_in 3 ?_
   refine ot_ptr 37 1 1 v2 16 0 ?_
   refine ot_end ?_
   exact ve_arr 0 (g_block_fixed_j6_ok hK (v2 := v2) h)
  ·
   refine ve_sb 34 h6 ?_
   exact ve_arr 2 (g_block_fixed_j6_ok hK (v2 := v2) h)
theorem g_block_fixed_j4_ok (hK : KnOk K) (h : g_block_fixed_j4 K n v6 = some r) : VE (cx63 M w0) (q63 M w0 r) [.b 3, .c (cat Try.f63 p63_0), kl (cx63 M w0) (q63 M w0 r) [.b 2, .c (cat Try.f63 p63_1)] (cat Try.f63 p63_2) 36, .b 2, .c (cat Try.f63 p63_1)] .normal (s63_j4 v2 v6) := by
  unfold g_block_fixed_j4 at h
  refine ve_go (ks' := [kl (cx63 M w0) (q63 M w0 r) [.b 2, .c (cat Try.f63 p63_1)] (cat Try.f63 p63_2) 36, .b 2, .c (cat Try.f63 p63_1)]) 2 ⟨[(1,.pp 1 v2 0),(2,.ptr 2 0),(24,.ref 10),(25,.int .i64 11),(26,.int .i64 4)],[(1,eTCascadeStyle v6),(2,eTCascadeStyle zTCascadeStyle)],[(10,⟨101,1,List.map eAdr [(v2, 6), (v2, 10), (v2, 12), (v2, 14), (v2, 22), (v2, 16), (v2, 24), (v2, 18), (v2, 26), (v2, 20), (v2, 28)]⟩)],[1,2,10]⟩ ?_
  refine lp_back ?_
  refine lp_round ?_
  refine ve_un (ks' := [.c (cat Try.f63 p63_3), .c (cat Try.f63 p63_4), .b 3, .c (cat Try.f63 p63_0), kl (cx63 M w0) (q63 M w0 r) [.b 2, .c (cat Try.f63 p63_1)] (cat Try.f63 p63_2) 35, .b 2, .c (cat Try.f63 p63_1)]) 8 ?_
  refine ve_in 0 ?_
  refine ot_sp (y_ixr 10 1 eAdr (L := ([(v2, 6), (v2, 10), (v2, 12), (v2, 14), (v2, 22), (v2, 16), (v2, 24), (v2, 18), (v2, 26), (v2, 20), (v2, 28)] : List (Nat × Nat))) (i := (4 : Int)) (by kernel_rfl)) ?_
  refine ot_sp (y_ldr 101 0 eAdr eAdr (L := ([(v2, 6), (v2, 10), (v2, 12), (v2, 14), (v2, 22), (v2, 16), (v2, 24), (v2, 18), (v2, 26), (v2, 20), (v2, 28)] : List (Nat × Nat))) (j := (4 : Int).toNat) (of_decide_eq_true (by kernel_rfl)) (fun _ => rfl)) ?_
  refine ot_end ?_
  refine ve_un (ks' := [.c (cat Try.f63 p63_5), .c (cat Try.f63 p63_6), .b 3, .c (cat Try.f63 p63_0), kl (cx63 M w0) (q63 M w0 r) [.b 2, .c (cat Try.f63 p63_1)] (cat Try.f63 p63_2) 35, .b 2, .c (cat Try.f63 p63_1)]) 1 ?_
  refine ve_in 3 ?_
  refine ot_ptr 32 1 1 v2 22 0 ?_
  refine ot_end ?_
  rcases ite_some h with ⟨h5, h⟩ | ⟨h5, h⟩
  ·
   refine ve_sb 34 h5 ?_
   refine ve_un (ks' := [.c (cat Try.f63 p63_7), .b 3, .c (cat Try.f63 p63_0), kl (cx63 M w0) (q63 M w0 r) [.b 2, .c (cat Try.f63 p63_1)] (cat Try.f63 p63_2) 35, .b 2, .c (cat Try.f63 p63_1)]) 1 ?_
   refine ve_in 3 ?_
   refine ot_ptr 37 1 1 v2 22 0 ?_
   refine ot_end ?_
   exact ve_arr 0 (g_block_fixed_j5_ok hK (v2 := v2) h)
  ·
   refine ve_sb 34 h5 ?_
   exact ve_arr 2 (g_block_fixed_j5_ok hK (v2 := v2) h)
theorem g_block_fixed_j3_ok (hK : KnOk K) (h : g_block_fixed_j3 K n v5 = some r) : VE (cx63 M w0) (q63 M w0 r) [.b 3, .c (cat Try.f63 p63_0), kl (cx63 M w0) (q63 M w0 r) [.b 2, .c (cat Try.f63 p63_1)] (cat Try.f63 p63_2) 37, .b 2, .c (cat Try.f63 p63_1)] .normal (s63_j3 v2 v5) := by
  unfold g_block_fixed_j3 at h
  refine ve_go (ks' := [kl (cx63 M w0) (q63 M w0 r) [.b 2, .c (cat Try.f63 p63_1)] (cat Try.f63 p63_2) 37, .b 2, .c (cat Try.f63 p63_1)]) 2 ⟨[(1,.pp 1 v2 0),(2,.ptr 2 0),(24,.ref 10),(25,.int .i64 11),(26,.int .i64 3)],[(1,eTCascadeStyle v5),(2,eTCascadeStyle zTCascadeStyle)],[(10,⟨101,1,List.map eAdr [(v2, 6), (v2, 10), (v2, 12), (v2, 14), (v2, 22), (v2, 16), (v2, 24), (v2, 18), (v2, 26), (v2, 20), (v2, 28)]⟩)],[1,2,10]⟩ ?_
  refine lp_back ?_
  refine lp_round ?_
  refine ve_un (ks' := [.c (cat Try.f63 p63_3), .c (cat Try.f63 p63_4), .b 3, .c (cat Try.f63 p63_0), kl (cx63 M w0) (q63 M w0 r) [.b 2, .c (cat Try.f63 p63_1)] (cat Try.f63 p63_2) 36, .b 2, .c (cat Try.f63 p63_1)]) 8 ?_
  refine ve_in 0 ?_
  refine ot_sp (y_ixr 10 1 eAdr (L := ([(v2, 6), (v2, 10), (v2, 12), (v2, 14), (v2, 22), (v2, 16), (v2, 24), (v2, 18), (v2, 26), (v2, 20), (v2, 28)] : List (Nat × Nat))) (i := (3 : Int)) (by kernel_rfl)) ?_
  refine ot_sp (y_ldr 101 0 eAdr eAdr (L := ([(v2, 6), (v2, 10), (v2, 12), (v2, 14), (v2, 22), (v2, 16), (v2, 24), (v2, 18), (v2, 26), (v2, 20), (v2, 28)] : List (Nat × Nat))) (j := (3 : Int).toNat) (of_decide_eq_true (by kernel_rfl)) (fun _ => rfl)) ?_
  refine ot_end ?_
  refine ve_un (ks' := [.c (cat Try.f63 p63_5), .c (cat Try.f63 p63_6), .b 3, .c (cat Try.f63 p63_0), kl (cx63 M w0) (q63 M w0 r) [.b 2, .c (cat Try.f63 p63_1)] (cat Try.f63 p63_2) 36, .b 2, .c (cat Try.f63 p63_1)]) 1 ?_
  refine ve_in 3 ?_
  refine ot_ptr 32 1 1 v2 14 0 ?_
  refine ot_end ?_
  rcases ite_some h with ⟨h4, h⟩ | ⟨h4, h⟩
  ·
   refine ve_sb 34 h4 ?_
   refine ve_un (ks' := [.c (cat Try.f63 p63_7), .b 3, .c (cat Try.f63 p63_0), kl (cx63 M w0) (q63 M w0 r) [.b 2, .c (cat Try.f63 p63_1)] (cat Try.f63 p63_2) 36, .b 2, .c (cat Try.f63 p63_1)]) 1 ?_
   refine ve_in 3 ?_
   refine ot_ptr 37 1 1 v2 14 0 ?_
   refine ot_end ?_
   exact ve_arr 0 (g_block_fixed_j4_ok hK (v2 := v2) h)
  ·
   refine ve_sb 34 h4 ?_
   exact ve_arr 2 (g_block_fixed_j4_ok hK (v2 := v2) h)
theorem g_block_fixed_j2_ok (hK : KnOk K) (h : g_block_fixed_j2 K n v4 = some r) : VE (cx63 M w0) (q63 M w0 r) [.b 3, .c (cat Try.f63 p63_0), kl (cx63 M w0) (q63 M w0 r) [.b 2, .c (cat Try.f63 p63_1)] (cat Try.f63 p63_2) 38, .b 2, .c (cat Try.f63 p63_1)] .normal (s63_j2 v2 v4) := by
  unfold g_block_fixed_j2 at h
  refine ve_go (ks' := [kl (cx63 M w0) (q63 M w0 r) [.b 2, .c (cat Try.f63 p63_1)] (cat Try.f63 p63_2) 38, .b 2, .c (cat Try.f63 p63_1)]) 2 ⟨[(1,.pp 1 v2 0),(2,.ptr 2 0),(24,.ref 10),(25,.int .i64 11),(26,.int .i64 2)],[(1,eTCascadeStyle v4),(2,eTCascadeStyle zTCascadeStyle)],[(10,⟨101,1,List.map eAdr [(v2, 6), (v2, 10), (v2, 12), (v2, 14), (v2, 22), (v2, 16), (v2, 24), (v2, 18), (v2, 26), (v2, 20), (v2, 28)]⟩)],[1,2,10]⟩ ?_
  refine lp_back ?_
  refine lp_round ?_
  refine ve_un (ks' := [.c (cat Try.f63 p63_3), .c (cat Try.f63 p63_4), .b 3, .c (cat Try.f63 p63_0), kl (cx63 M w0) (q63 M w0 r) [.b 2, .c (cat Try.f63 p63_1)] (cat Try.f63 p63_2) 37, .b 2, .c (cat Try.f63 p63_1)]) 8 ?_
  refine ve_in 0 ?_
  refine ot_sp (y_ixr 10 1 eAdr (L := ([(v2, 6), (v2, 10), (v2, 12), (v2, 14), (v2, 22), (v2, 16), (v2, 24), (v2, 18), (v2, 26), (v2, 20), (v2, 28)] : List (Nat × Nat))) (i := (2 : Int)) (by kernel_rfl)) ?_
  refine ot_sp (y_ldr 101 0 eAdr eAdr (L := ([(v2, 6), (v2, 10), (v2, 12), (v2, 14), (v2, 22), (v2, 16), (v2, 24), (v2, 18), (v2, 26), (v2, 20), (v2, 28)] : List (Nat × Nat))) (j := (2 : Int).toNat) (of_decide_eq_true (by kernel_rfl)) (fun _ => rfl)) ?_
  refine ot_end ?_
  refine ve_un (ks' := [.c (cat Try.f63 p63_5), .c (cat Try.f63 p63_6), .b 3, .c (cat Try.f63 p63_0), kl (cx63 M w0) (q63 M w0 r) [.b 2, .c (cat Try.f63 p63_1)] (cat Try.f63 p63_2) 37, .b 2, .c (cat Try.f63 p63_1)]) 1 ?_
  refine ve_in 3 ?_
  refine ot_ptr 32 1 1 v2 12 0 ?_
  refine ot_end ?_
  rcases ite_some h with ⟨h3, h⟩ | ⟨h3, h⟩
  ·
   refine ve_sb 34 h3 ?_
   refine ve_un (ks' := [.c (cat Try.f63 p63_7), .b 3, .c (cat Try.f63 p63_0), kl (cx63 M w0) (q63 M w0 r) [.b 2, .c (cat Try.f63 p63_1)] (cat Try.f63 p63_2) 37, .b 2, .c (cat Try.f63 p63_1)]) 1 ?_
   refine ve_in 3 ?_
   refine ot_ptr 37 1 1 v2 12 0 ?_
   refine ot_end ?_
   exact ve_arr 0 (g_block_fixed_j3_ok hK (v2 := v2) h)
  ·
   refine ve_sb 34 h3 ?_
   exact ve_arr 2 (g_block_fixed_j3_ok hK (v2 := v2) h)
theorem g_block_fixed_j1_ok (hK : KnOk K) (h : g_block_fixed_j1 K n v3 = some r) : VE (cx63 M w0) (q63 M w0 r) [.b 3, .c (cat Try.f63 p63_0), kl (cx63 M w0) (q63 M w0 r) [.b 2, .c (cat Try.f63 p63_1)] (cat Try.f63 p63_2) 39, .b 2, .c (cat Try.f63 p63_1)] .normal (s63_j1 v2 v3) := by
  unfold g_block_fixed_j1 at h
  refine ve_go (ks' := [kl (cx63 M w0) (q63 M w0 r) [.b 2, .c (cat Try.f63 p63_1)] (cat Try.f63 p63_2) 39, .b 2, .c (cat Try.f63 p63_1)]) 2 ⟨[(1,.pp 1 v2 0),(2,.ptr 2 0),(24,.ref 10),(25,.int .i64 11),(26,.int .i64 1)],[(1,eTCascadeStyle v3),(2,eTCascadeStyle zTCascadeStyle)],[(10,⟨101,1,List.map eAdr [(v2, 6), (v2, 10), (v2, 12), (v2, 14), (v2, 22), (v2, 16), (v2, 24), (v2, 18), (v2, 26), (v2, 20), (v2, 28)]⟩)],[1,2,10]⟩ ?_
  refine lp_back ?_
  refine lp_round ?_
  refine ve_un (ks' := [.c (cat Try.f63 p63_3), .c (cat Try.f63 p63_4), .b 3, .c (cat Try.f63 p63_0), kl (cx63 M w0) (q63 M w0 r) [.b 2, .c (cat Try.f63 p63_1)] (cat Try.f63 p63_2) 38, .b 2, .c (cat Try.f63 p63_1)]) 8 ?_
  refine ve_in 0 ?_
  refine ot_sp (y_ixr 10 1 eAdr (L := ([(v2, 6), (v2, 10), (v2, 12), (v2, 14), (v2, 22), (v2, 16), (v2, 24), (v2, 18), (v2, 26), (v2, 20), (v2, 28)] : List (Nat × Nat))) (i := (1 : Int)) (by kernel_rfl)) ?_
  refine ot_sp (y_ldr 101 0 eAdr eAdr (L := ([(v2, 6), (v2, 10), (v2, 12), (v2, 14), (v2, 22), (v2, 16), (v2, 24), (v2, 18), (v2, 26), (v2, 20), (v2, 28)] : List (Nat × Nat))) (j := (1 : Int).toNat) (of_decide_eq_true (by kernel_rfl)) (fun _ => rfl)) ?_
  refine ot_end ?_
  refine ve_un (ks' := [.c (cat Try.f63 p63_5), .c (cat Try.f63 p63_6), .b 3, .c (cat Try.f63 p63_0), kl (cx63 M w0) (q63 M w0 r) [.b 2, .c (cat Try.f63 p63_1)] (cat Try.f63 p63_2) 38, .b 2, .c (cat Try.f63 p63_1)]) 1 ?_
  refine ve_in 3 ?_
  refine ot_ptr 32 1 1 v2 10 0 ?_
  refine ot_end ?_
  rcases ite_some h with ⟨h2, h⟩ | ⟨h2, h⟩
  ·
   refine ve_sb 34 h2 ?_
   refine ve_un (ks' := [.c (cat Try.f63 p63_7), .b 3, .c (cat Try.f63 p63_0), kl (cx63 M w0) (q63 M w0 r) [.b 2, .c (cat Try.f63 p63_1)] (cat Try.f63 p63_2) 38, .b 2, .c (cat Try.f63 p63_1)]) 1 ?_
   refine ve_in 3 ?_
   refine ot_ptr 37 1 1 v2 10 0 ?_
   refine ot_end ?_
   exact ve_arr 0 (g_block_fixed_j2_ok hK (v2 := v2) h)
  ·
   refine ve_sb 34 h2 ?_
   exact ve_arr 2 (g_block_fixed_j2_ok hK (v2 := v2) h)
theorem g_block_fixed_ok (hK : KnOk K) (h : g_block_fixed K n v1 = some r) : ACalls Try.prog 63 [.agg (eTCascadeStyle v1)] (fun v _ => v = .agg (eTCascadeStyle r)) := by
  refine acalls_intro (c := cat Try.f63 []) Try.func63 (by kernel_rfl) _ Try.ntmps63 (of_decide_eq_true (by kernel_rfl)) fun M w0 => ?_
  refine ve_cast (s' := ⟨[(0,.agg (eTCascadeStyle v1))],[],[],[]⟩) (by kernel_rfl) ?_
  unfold g_block_fixed at h
  refine ve_un (ks' := [.c (cat Try.f63 [1, 0]), .c (cat Try.f63 [1, 1])]) 3 ?_
  refine ve_rev 1 1 0 fun v2 => ?_
  refine ve_in 3 ?_
  refine ot_bsn 102 3 #[(0, (.tmp 7)), (1, (.tmp 8)), (2, (.tmp 9))] 10 (e := 101) (sz := 1) (l := List.map eAdr [(v2, 6), (v2, 10), (v2, 12)]) ?_
  refine ot_end ?_
  refine ve_go (ks' := [.c (cat Try.f63 p63_8), .b 0, .c (cat Try.f63 [1, 1, 1])]) 4 ⟨[(1,.pp 1 v2 0),(2,.ptr 2 0),(3,.ref 10),(11,.int .i64 0)],[(1,eTCascadeStyle v1),(2,eTCascadeStyle zTCascadeStyle)],[(10,⟨101,1,List.map eAdr [(v2, 6), (v2, 10), (v2, 12)]⟩)],[1,2,10]⟩ ?_
  refine lp_enter 40 (c := cat Try.f63 p63_9) (by kernel_rfl) ?_
  refine lp_round ?_
  refine ve_un (ks' := [.c (cat Try.f63 p63_10), .b 1, .c (cat Try.f63 p63_11), kl (cx63 M w0) (q63 M w0 r) [.b 0, .c (cat Try.f63 [1, 1, 1])] (cat Try.f63 p63_9) 39, .b 0, .c (cat Try.f63 [1, 1, 1])]) 9 ?_
  refine ve_pk [1, 2, 3, 4, 11] [1, 2] [10] ?_
  refine ve_dr 2 [(14, .ref 10), (15, .int .i64 0), (16, .adr v2 14), (17, .adr v2 14), (18, .int .i64 0), (19, .adr v2 22), (20, .adr v2 22), (21, .sl (List.map eAdr [(v2, 14), (v2, 22)]))] [] [] [appS 22 10 ⟨101, 1, List.map eAdr [(v2, 6), (v2, 10), (v2, 12), (v2, 14), (v2, 22)]⟩, stp Try.prog 40 Try.f63 p63_10 9] (d_vs [.v 0 1, .v 0 2, .v 0 2, .v 0 2, .v 0 2, .v 0 2, .v 0 2, .v 0 1] (d_c1 (e_s (m := 0) (y_app 22 10 101 1 eAdr (L := ([(v2, 6), (v2, 10), (v2, 12)] : List (Nat × Nat))) (M := ([(v2, 14), (v2, 22)] : (List (Nat × Nat)))) (bytes := 8) (rfl) (fun _ => rfl) (by kernel_rfl))) (d_c1 (e_d 1) (d_nl)))) ?_
  refine ve_go (ks' := [kl (cx63 M w0) (q63 M w0 r) [.b 0, .c (cat Try.f63 [1, 1, 1])] (cat Try.f63 p63_9) 39, .b 0, .c (cat Try.f63 [1, 1, 1])]) 2 ⟨[(1,.pp 1 v2 0),(2,.ptr 2 0),(3,.ref 10),(11,.int .i64 1)],[(1,eTCascadeStyle v1),(2,eTCascadeStyle zTCascadeStyle)],[(10,⟨101,1,List.map eAdr [(v2, 6), (v2, 10), (v2, 12), (v2, 14), (v2, 22)]⟩)],[1,2,10]⟩ ?_
  refine lp_back ?_
  refine lp_round ?_
  refine ve_un (ks' := [.c (cat Try.f63 p63_10), .b 1, .c (cat Try.f63 p63_11), kl (cx63 M w0) (q63 M w0 r) [.b 0, .c (cat Try.f63 [1, 1, 1])] (cat Try.f63 p63_9) 38, .b 0, .c (cat Try.f63 [1, 1, 1])]) 9 ?_
  refine ve_pk [1, 2, 3, 4, 11] [1, 2] [10] ?_
  refine ve_dr 2 [(14, .ref 10), (15, .int .i64 1), (16, .adr v2 14), (17, .adr v2 16), (18, .int .i64 1), (19, .adr v2 22), (20, .adr v2 24), (21, .sl (List.map eAdr [(v2, 16), (v2, 24)]))] [] [] [appS 22 10 ⟨101, 1, List.map eAdr [(v2, 6), (v2, 10), (v2, 12), (v2, 14), (v2, 22), (v2, 16), (v2, 24)]⟩, stp Try.prog 40 Try.f63 p63_10 9] (d_vs [.v 0 1, .v 0 2, .v 0 2, .v 0 2, .v 0 2, .v 0 2, .v 0 2, .v 0 1] (d_c1 (e_s (m := 0) (y_app 22 10 101 1 eAdr (L := ([(v2, 6), (v2, 10), (v2, 12), (v2, 14), (v2, 22)] : List (Nat × Nat))) (M := ([(v2, 16), (v2, 24)] : (List (Nat × Nat)))) (bytes := 8) (rfl) (fun _ => rfl) (by kernel_rfl))) (d_c1 (e_d 1) (d_nl)))) ?_
  refine ve_go (ks' := [kl (cx63 M w0) (q63 M w0 r) [.b 0, .c (cat Try.f63 [1, 1, 1])] (cat Try.f63 p63_9) 38, .b 0, .c (cat Try.f63 [1, 1, 1])]) 2 ⟨[(1,.pp 1 v2 0),(2,.ptr 2 0),(3,.ref 10),(11,.int .i64 2)],[(1,eTCascadeStyle v1),(2,eTCascadeStyle zTCascadeStyle)],[(10,⟨101,1,List.map eAdr [(v2, 6), (v2, 10), (v2, 12), (v2, 14), (v2, 22), (v2, 16), (v2, 24)]⟩)],[1,2,10]⟩ ?_
  refine lp_back ?_
  refine lp_round ?_
  refine ve_un (ks' := [.c (cat Try.f63 p63_10), .b 1, .c (cat Try.f63 p63_11), kl (cx63 M w0) (q63 M w0 r) [.b 0, .c (cat Try.f63 [1, 1, 1])] (cat Try.f63 p63_9) 37, .b 0, .c (cat Try.f63 [1, 1, 1])]) 9 ?_
  refine ve_pk [1, 2, 3, 4, 11] [1, 2] [10] ?_
  refine ve_dr 2 [(14, .ref 10), (15, .int .i64 2), (16, .adr v2 14), (17, .adr v2 18), (18, .int .i64 2), (19, .adr v2 22), (20, .adr v2 26), (21, .sl (List.map eAdr [(v2, 18), (v2, 26)]))] [] [] [appS 22 10 ⟨101, 1, List.map eAdr [(v2, 6), (v2, 10), (v2, 12), (v2, 14), (v2, 22), (v2, 16), (v2, 24), (v2, 18), (v2, 26)]⟩, stp Try.prog 40 Try.f63 p63_10 9] (d_vs [.v 0 1, .v 0 2, .v 0 2, .v 0 2, .v 0 2, .v 0 2, .v 0 2, .v 0 1] (d_c1 (e_s (m := 0) (y_app 22 10 101 1 eAdr (L := ([(v2, 6), (v2, 10), (v2, 12), (v2, 14), (v2, 22), (v2, 16), (v2, 24)] : List (Nat × Nat))) (M := ([(v2, 18), (v2, 26)] : (List (Nat × Nat)))) (bytes := 8) (rfl) (fun _ => rfl) (by kernel_rfl))) (d_c1 (e_d 1) (d_nl)))) ?_
  refine ve_go (ks' := [kl (cx63 M w0) (q63 M w0 r) [.b 0, .c (cat Try.f63 [1, 1, 1])] (cat Try.f63 p63_9) 37, .b 0, .c (cat Try.f63 [1, 1, 1])]) 2 ⟨[(1,.pp 1 v2 0),(2,.ptr 2 0),(3,.ref 10),(11,.int .i64 3)],[(1,eTCascadeStyle v1),(2,eTCascadeStyle zTCascadeStyle)],[(10,⟨101,1,List.map eAdr [(v2, 6), (v2, 10), (v2, 12), (v2, 14), (v2, 22), (v2, 16), (v2, 24), (v2, 18), (v2, 26)]⟩)],[1,2,10]⟩ ?_
  refine lp_back ?_
  refine lp_round ?_
  refine ve_un (ks' := [.c (cat Try.f63 p63_10), .b 1, .c (cat Try.f63 p63_11), kl (cx63 M w0) (q63 M w0 r) [.b 0, .c (cat Try.f63 [1, 1, 1])] (cat Try.f63 p63_9) 36, .b 0, .c (cat Try.f63 [1, 1, 1])]) 9 ?_
  refine ve_pk [1, 2, 3, 4, 11] [1, 2] [10] ?_
  refine ve_dr 2 [(14, .ref 10), (15, .int .i64 3), (16, .adr v2 14), (17, .adr v2 20), (18, .int .i64 3), (19, .adr v2 22), (20, .adr v2 28), (21, .sl (List.map eAdr [(v2, 20), (v2, 28)]))] [] [] [appS 22 10 ⟨101, 1, List.map eAdr [(v2, 6), (v2, 10), (v2, 12), (v2, 14), (v2, 22), (v2, 16), (v2, 24), (v2, 18), (v2, 26), (v2, 20), (v2, 28)]⟩, stp Try.prog 40 Try.f63 p63_10 9] (d_vs [.v 0 1, .v 0 2, .v 0 2, .v 0 2, .v 0 2, .v 0 2, .v 0 2, .v 0 1] (d_c1 (e_s (m := 0) (y_app 22 10 101 1 eAdr (L := ([(v2, 6), (v2, 10), (v2, 12), (v2, 14), (v2, 22), (v2, 16), (v2, 24), (v2, 18), (v2, 26)] : List (Nat × Nat))) (M := ([(v2, 20), (v2, 28)] : (List (Nat × Nat)))) (bytes := 8) (rfl) (fun _ => rfl) (by kernel_rfl))) (d_c1 (e_d 1) (d_nl)))) ?_
  refine ve_go (ks' := [kl (cx63 M w0) (q63 M w0 r) [.b 0, .c (cat Try.f63 [1, 1, 1])] (cat Try.f63 p63_9) 36, .b 0, .c (cat Try.f63 [1, 1, 1])]) 2 ⟨[(1,.pp 1 v2 0),(2,.ptr 2 0),(3,.ref 10),(11,.int .i64 4)],[(1,eTCascadeStyle v1),(2,eTCascadeStyle zTCascadeStyle)],[(10,⟨101,1,List.map eAdr [(v2, 6), (v2, 10), (v2, 12), (v2, 14), (v2, 22), (v2, 16), (v2, 24), (v2, 18), (v2, 26), (v2, 20), (v2, 28)]⟩)],[1,2,10]⟩ ?_
  refine lp_back ?_
  refine lp_round ?_
  refine ve_un (ks' := [.c (cat Try.f63 p63_12), .c (cat Try.f63 p63_13), .c (cat Try.f63 p63_1)]) 10 ?_
  refine ve_in 1 ?_
  refine ot_sp (y_len eAdr ([(v2, 6), (v2, 10), (v2, 12), (v2, 14), (v2, 22), (v2, 16), (v2, 24), (v2, 18), (v2, 26), (v2, 20), (v2, 28)] : List (Nat × Nat))) ?_
  refine ot_end ?_
  refine ve_go (ks' := [.c (cat Try.f63 p63_14), .b 2, .c (cat Try.f63 p63_1)]) 1 ⟨[(1,.pp 1 v2 0),(2,.ptr 2 0),(24,.ref 10),(25,.int .i64 11),(26,.int .i64 0)],[(1,eTCascadeStyle v1),(2,eTCascadeStyle zTCascadeStyle)],[(10,⟨101,1,List.map eAdr [(v2, 6), (v2, 10), (v2, 12), (v2, 14), (v2, 22), (v2, 16), (v2, 24), (v2, 18), (v2, 26), (v2, 20), (v2, 28)]⟩)],[1,2,10]⟩ ?_
  refine lp_enter 40 (c := cat Try.f63 p63_2) (by kernel_rfl) ?_
  refine lp_round ?_
  refine ve_un (ks' := [.c (cat Try.f63 p63_3), .c (cat Try.f63 p63_4), .b 3, .c (cat Try.f63 p63_0), kl (cx63 M w0) (q63 M w0 r) [.b 2, .c (cat Try.f63 p63_1)] (cat Try.f63 p63_2) 39, .b 2, .c (cat Try.f63 p63_1)]) 8 ?_
  refine ve_in 0 ?_
  refine ot_sp (y_ixr 10 1 eAdr (L := ([(v2, 6), (v2, 10), (v2, 12), (v2, 14), (v2, 22), (v2, 16), (v2, 24), (v2, 18), (v2, 26), (v2, 20), (v2, 28)] : List (Nat × Nat))) (i := (0 : Int)) (by kernel_rfl)) ?_
  refine ot_sp (y_ldr 101 0 eAdr eAdr (L := ([(v2, 6), (v2, 10), (v2, 12), (v2, 14), (v2, 22), (v2, 16), (v2, 24), (v2, 18), (v2, 26), (v2, 20), (v2, 28)] : List (Nat × Nat))) (j := (0 : Int).toNat) (of_decide_eq_true (by kernel_rfl)) (fun _ => rfl)) ?_
  refine ot_end ?_
  refine ve_un (ks' := [.c (cat Try.f63 p63_5), .c (cat Try.f63 p63_6), .b 3, .c (cat Try.f63 p63_0), kl (cx63 M w0) (q63 M w0 r) [.b 2, .c (cat Try.f63 p63_1)] (cat Try.f63 p63_2) 39, .b 2, .c (cat Try.f63 p63_1)]) 1 ?_
  refine ve_in 3 ?_
  refine ot_ptr 32 1 1 v2 6 0 ?_
  refine ot_end ?_
  rcases ite_some h with ⟨h1, h⟩ | ⟨h1, h⟩
  ·
   refine ve_sb 34 h1 ?_
   refine ve_un (ks' := [.c (cat Try.f63 p63_7), .b 3, .c (cat Try.f63 p63_0), kl (cx63 M w0) (q63 M w0 r) [.b 2, .c (cat Try.f63 p63_1)] (cat Try.f63 p63_2) 39, .b 2, .c (cat Try.f63 p63_1)]) 1 ?_
   refine ve_in 3 ?_
   refine ot_ptr 37 1 1 v2 6 0 ?_
   refine ot_end ?_
   exact ve_arr 0 (g_block_fixed_j1_ok hK (v2 := v2) h)
  ·
   refine ve_sb 34 h1 ?_
   exact ve_arr 2 (g_block_fixed_j1_ok hK (v2 := v2) h)
end

def p62_0 : List Nat := ones 5 []
def p62_1 : List Nat := [1, 1, 1, 1, 0, 1, 0, 0]
def p62_2 : List Nat := [1, 1, 1, 1, 0, 1, 0, 0, 1, 0]
def p62_3 : List Nat := [1, 1, 1, 1, 0, 1, 0, 0, 1, 1]
def p62_4 : List Nat := [1, 1, 1, 1, 0, 1, 0, 0, 1, 1, 0, 0, 0]
def p62_5 : List Nat := [1, 1, 1, 1, 0, 1, 0, 0, 1, 1, 0, 0, 1]
def p62_6 : List Nat := [1, 1, 1, 1, 0, 1, 0, 0, 1, 1, 1]
def p62_7 : List Nat := [1, 1, 1, 1, 0, 1, 0, 0, 1, 1, 0, 0, 1, 0]
def p62_8 : List Nat := [1, 1, 1, 1, 0, 1, 0, 0, 1, 1, 0, 0, 1, 1]
def p62_9 : List Nat := ones 5 [0]
def p62_10 : List Nat := ones 6 []
def p62_11 : List Nat := [1, 0, 1, 1]
def p62_12 : List Nat := [1, 0, 1, 1, 0, 0]
def p62_13 : List Nat := [1, 0, 1, 1, 0, 1]
def p62_14 : List Nat := [1, 1, 1, 0, 1]
def p62_15 : List Nat := [1, 1, 1, 1]
def p62_16 : List Nat := [1, 1, 1, 0, 1, 0, 0]
def p62_17 : List Nat := [1, 1, 1, 0, 1, 0, 1]
def p62_18 : List Nat := [1, 1, 1, 0, 1, 0, 1, 0]
def p62_19 : List Nat := [1, 1, 1, 0, 1, 0, 1, 1]
def p62_20 : List Nat := [1, 1, 1, 1, 0, 0]
def p62_21 : List Nat := [1, 1, 1, 1, 0, 1]
def p62_22 : List Nat := [1, 1, 1, 1, 0, 1, 0]
noncomputable section
abbrev cx62 (M : Nat → Prop) (w0 : World) : Cx := ⟨Try.prog, 71, M, w0⟩
abbrev q62 (M : Nat → Prop) (w0 : World) (r : (Int × Int)) := bodyPost Try.prog Try.f62 (RetQ M w0 (fun v _ => v = .tup [.int .i64 r.1, .int .i64 r.2]))
abbrev k62_1 (M : Nat → Prop) (w0 : World) (r : (Int × Int)) (m1 : Nat) : Kont := kl (cx62 M w0) (q62 M w0 r) [.b 0, .c (cat Try.f62 p62_0)] (cat Try.f62 p62_1) m1
def s62_l1 (v2 : TBlockEnv) (v6 : ((List TBoxtreeBox) × Bool)) (v11 : Int) (v12 : Int) (v13 : Int) : AS := ⟨[(3,.ptr 3 0),(4,.int .i64 v11),(5,.int .i64 v12),(47,.sl (List.map eTBoxtreeBox v6.1)),(48,.int .i64 (v6.1.length : Int)),(49,.int .i64 v13)],[(3,eTBlockEnv v2)],[],[3]⟩
abbrev H62_1 (M : Nat → Prop) (w0 : World) (r : (Int × Int)) (v2 : TBlockEnv) (v6 : ((List TBoxtreeBox) × Bool)) (m1 : Nat) (L1 : Int → Int → Int → Option (Int × Int)) : Prop := ∀ {v11 : Int} {v12 : Int} {v13 : Int}, L1 v11 v12 v13 = some r → LP (cx62 M w0) (q62 M w0 r) [.b 0, .c (cat Try.f62 p62_0)] (cat Try.f62 p62_1) m1 (s62_l1 v2 v6 v11 v12 v13)
variable {K : Kn} {n : Nat} {M : Nat → Prop} {w0 : World} {r : (Int × Int)} {v1 : TBoxtreeBox} {v2 : TBlockEnv} {v6 : ((List TBoxtreeBox) × Bool)} {v11 : Int} {v12 : Int} {v13 : Int} {m1 : Nat} {L1 : Int → Int → Int → Option (Int × Int)}
theorem g_block_inside_l1_b_ok (hK : KnOk K) (hL1 : H62_1 M w0 r v2 v6 m1 L1) (h : g_block_inside_l1_b K n v2 v6 L1 v11 v12 v13 = some r) : VE (cx62 M w0) (q62 M w0 r) [.c (cat Try.f62 p62_1), k62_1 M w0 r m1, .b 0, .c (cat Try.f62 p62_0)] .normal (s62_l1 v2 v6 v11 v12 v13) := by
  unfold g_block_inside_l1_b at h
  refine ve_un (ks' := [.c (cat Try.f62 p62_2), .c (cat Try.f62 p62_3), k62_1 M w0 r m1, .b 0, .c (cat Try.f62 p62_0)]) 3 ?_
  rcases ite_some h with ⟨h13, h⟩ | ⟨h13, h⟩
  ·
   refine ve_sb 50 h13 ?_
   refine ve_un (ks' := [.c (cat Try.f62 p62_4), .c (cat Try.f62 p62_5), .b 1, .c (cat Try.f62 p62_6), k62_1 M w0 r m1, .b 0, .c (cat Try.f62 p62_0)]) 5 ?_
   refine ve_in 0 ?_
   obtain ⟨h14, h⟩ := chk_some h
   refine ot_sp (y_ixs eTBoxtreeBox xTBoxtreeBox h14 (eTBoxtreeBox_len) (xTBoxtreeBox_eq)) ?_
   refine ot_end ?_
   refine ve_un (ks' := [.c (cat Try.f62 p62_7), .c (cat Try.f62 p62_8), .b 1, .c (cat Try.f62 p62_6), k62_1 M w0 r m1, .b 0, .c (cat Try.f62 p62_0)]) 1 ?_
   refine ve_in 3 ?_
   obtain ⟨v14, h15, h⟩ := bind_some h
   refine ot_cd (hK.d_TBoxtreeBox__IntInt h15) ?_
   refine ot_end ?_
   exact ve_arr 3 (lp_back (hL1 h))
  ·
   refine ve_sb 50 h13 ?_
   refine ve_un (ks' := [.c (cat Try.f62 p62_9), .c (cat Try.f62 p62_10)]) 6 ?_
   refine ve_in 1 ?_
   obtain ⟨v15, h16, h⟩ := bind_some h
   refine ot_cl (g_block_limit_ok hK h16) ?_
   refine ot_go 3 1 ?_
   obtain ⟨v16, h17, h⟩ := bind_some h
   refine ot_cl (g_block_limit_ok hK h17) ?_
   refine ot_end ?_
   refine ve_rt 1 ?_
   have hr := Option.some.inj h
   subst hr
   exact ve_dt
theorem g_block_inside_l1_ok (hK : KnOk K) (m : Nat) : H62_1 M w0 r v2 v6 m (g_block_inside_l1 K n v2 v6 m) := by
  induction m with
 | zero => intro v11 v12 v13 h; cases h
 | succ m ih => intro v11 v12 v13 h; have h : g_block_inside_l1_b K n v2 v6 (g_block_inside_l1 K n v2 v6 m) v11 v12 v13 = some r := h; exact lp_round (g_block_inside_l1_b_ok hK ih h)
theorem g_block_inside_ok (hK : KnOk K) (h : g_block_inside K n v1 v2 = some r) : ACalls Try.prog 62 [.agg (xTBoxtreeBox v1), .agg (eTBlockEnv v2)] (fun v _ => v = .tup [.int .i64 r.1, .int .i64 r.2]) := by
  refine acalls_intro (c := cat Try.f62 []) Try.func62 (by kernel_rfl) _ Try.ntmps62 (of_decide_eq_true (by kernel_rfl)) fun M w0 => ?_
  refine ve_cast (s' := ⟨[(0,.agg (xTBoxtreeBox v1)),(1,.agg (eTBlockEnv v2))],[],[],[]⟩) (by kernel_rfl) ?_
  unfold g_block_inside at h
  refine ve_un (ks' := [.c (cat Try.f62 [1, 0, 0]), .c (cat Try.f62 [1, 0, 1]), .c (cat Try.f62 [1, 1])]) 4 ?_
  refine ve_in 2 ?_
  obtain ⟨v3, h1, h⟩ := bind_some h
  refine ot_cl (g_block_fixed_ok hK h1) ?_
  refine ot_go 4 1 ?_
  obtain ⟨v4, h2, h⟩ := bind_some h
  refine ot_cl (g_block_Length_ok hK h2) ?_
  refine ot_end ?_
  refine ve_un (ks' := [.c (cat Try.f62 p62_11), .c (cat Try.f62 [1, 1])]) 2 ?_
  rcases ite_some h with ⟨h3, h⟩ | ⟨h3, h⟩
  ·
   refine ve_sb 22 h3 ?_
   refine ve_un (ks' := [.c (cat Try.f62 p62_12), .c (cat Try.f62 p62_13), .c (cat Try.f62 [1, 1])]) 2 ?_
   refine ve_in 1 ?_
   obtain ⟨v5, h4, h⟩ := bind_some h
   refine ot_cl (g_block_limit_ok hK h4) ?_
   refine ot_end ?_
   refine ve_rt 4 ?_
   have hr := Option.some.inj h
   subst hr
   exact ve_dt
  ·
   refine ve_sb 22 h3 ?_
   refine ve_un (ks' := [.c (cat Try.f62 [1, 1, 0]), .c (cat Try.f62 [1, 1, 1])]) 3 ?_
   refine ve_in 1 ?_
   obtain ⟨v6, h5, h⟩ := bind_some h
   refine ot_cl (g_block_flow_ok hK h5) ?_
   refine ot_end ?_
   refine ve_un (ks' := [.c (cat Try.f62 p62_14), .c (cat Try.f62 p62_15)]) 3 ?_
   rcases ite_some h with ⟨h6, h⟩ | ⟨h6, h⟩
   ·
    refine ve_sb 33 h6 ?_
    refine ve_un (ks' := [.c (cat Try.f62 p62_16), .c (cat Try.f62 p62_17), .c (cat Try.f62 p62_15)]) 2 ?_
    refine ve_in 5 ?_
    obtain ⟨v7, h7, h⟩ := bind_some h
    refine ot_cd (hK.d_ListTBoxtreeBox_TCascadeStyle__IntInt h7) ?_
    refine ot_end ?_
    refine ve_un (ks' := [.c (cat Try.f62 p62_18), .c (cat Try.f62 p62_19), .c (cat Try.f62 p62_15)]) 1 ?_
    refine ve_in 1 ?_
    obtain ⟨v8, h8, h⟩ := bind_some h
    refine ot_cl (g_block_limit_ok hK h8) ?_
    refine ot_go 3 1 ?_
    obtain ⟨v9, h9, h⟩ := bind_some h
    refine ot_cl (g_block_limit_ok hK h9) ?_
    refine ot_end ?_
    refine ve_rt 2 ?_
    have hr := Option.some.inj h
    subst hr
    exact ve_dt
   ·
    refine ve_sb 33 h6 ?_
    refine ve_un (ks' := [.c (cat Try.f62 p62_20), .c (cat Try.f62 p62_21), .c (cat Try.f62 p62_0)]) 4 ?_
    refine ve_in 1 ?_
    refine ot_sp (y_len eTBoxtreeBox v6.1) ?_
    refine ot_end ?_
    exact ve_arr 1 (lp_en (p := p62_22) n (g_block_inside_l1_ok hK n h))
end

def p46_0 : List Nat := [1, 1, 1, 0]
def p46_1 : List Nat := [1, 1, 1, 1]
noncomputable section
abbrev cx46 (M : Nat → Prop) (w0 : World) : Cx := ⟨Try.prog, 28, M, w0⟩
abbrev q46 (M : Nat → Prop) (w0 : World) (r : (Int × Int)) := bodyPost Try.prog Try.f46 (RetQ M w0 (fun v _ => v = .tup [.int .i64 r.1, .int .i64 r.2]))
variable {K : Kn} {n : Nat} {M : Nat → Prop} {w0 : World} {r : (Int × Int)} {v1 : TBoxtreeBox} {v2 : TBlockEnv} 
theorem g_block_Widths_ok (hK : KnOk K) (h : g_block_Widths K n v1 v2 = some r) : ACalls Try.prog 46 [.agg (xTBoxtreeBox v1), .agg (eTBlockEnv v2)] (fun v _ => v = .tup [.int .i64 r.1, .int .i64 r.2]) := by
  refine acalls_intro (c := cat Try.f46 []) Try.func46 (by kernel_rfl) _ Try.ntmps46 (of_decide_eq_true (by kernel_rfl)) fun M w0 => ?_
  refine ve_cast (s' := ⟨[(0,.agg (xTBoxtreeBox v1)),(1,.agg (eTBlockEnv v2))],[],[],[]⟩) (by kernel_rfl) ?_
  unfold g_block_Widths at h
  refine ve_un (ks' := [.c (cat Try.f46 [1, 0]), .c (cat Try.f46 [1, 1])]) 3 ?_
  refine ve_in 2 ?_
  obtain ⟨v3, h1, h⟩ := bind_some h
  refine ot_cl (g_block_inside_ok hK h1) ?_
  refine ot_end ?_
  refine ve_un (ks' := [.c (cat Try.f46 [1, 1, 0]), .c (cat Try.f46 [1, 1, 1])]) 1 ?_
  refine ve_in 2 ?_
  obtain ⟨v4, h2, h⟩ := bind_some h
  refine ot_cl (g_block_fixed_ok hK h2) ?_
  refine ot_end ?_
  refine ve_un (ks' := [.c (cat Try.f46 p46_0), .c (cat Try.f46 p46_1)]) 1 ?_
  refine ve_pk [4, 5, 6] [6] [] ?_
  obtain ⟨v5, h3, h⟩ := bind_some h
  obtain ⟨v6, h4, h⟩ := bind_some h
  obtain ⟨v7, h5, h⟩ := bind_some h
  obtain ⟨v8, h6, h⟩ := bind_some h
  obtain ⟨v9, h7, h⟩ := bind_some h
  obtain ⟨v10, h8, h⟩ := bind_some h
  refine ve_dr 2 [(16, .agg (eTCascadeStyle v4)), (17, .agg (eTCascadeStyle v4)), (18, .int .i64 v3.1), (19, .int .i64 v5), (20, .agg (eTBlockSizes v6)), (21, .int .i64 v7), (22, .agg (eTCascadeStyle v4)), (23, .agg (eTCascadeStyle v4)), (24, .int .i64 v3.2), (25, .int .i64 v8), (26, .agg (eTBlockSizes v9)), (27, .int .i64 v10)] [] [] [stp Try.prog 28 Try.f46 p46_0 12, stp Try.prog 28 Try.f46 p46_0 13] (d_vs [.v 0 1, .v 0 1, .v 0 1] (d_c1 (e_c 0 1 19 (g_block_Clamp_ok hK h3)) (d_c1 (e_c 0 1 20 (g_block_Edges_ok hK h4)) (d_c1 (e_c 0 1 21 (g_api_BlockSizes_Sum_ok hK h5)) (d_vs [.v 0 2, .v 0 2, .v 0 2] (d_c1 (e_c 0 2 25 (g_block_Clamp_ok hK h6)) (d_c1 (e_c 0 2 26 (g_block_Edges_ok hK h7)) (d_c1 (e_c 0 1 27 (g_api_BlockSizes_Sum_ok hK h8)) (d_c1 (e_d 0) (d_c1 (e_d 1) (d_nl))))))))))) ?_
  refine ve_rt 1 ?_
  have hr := Option.some.inj h
  subst hr
  exact ve_dt
end

def p61_0 : List Nat := [1, 1, 1, 1]
def p61_1 : List Nat := [1, 1, 1, 0, 1, 0, 0]
def p61_2 : List Nat := [1, 1, 1, 0, 1, 0, 0, 0, 0]
def p61_3 : List Nat := [1, 1, 1, 0, 1, 0, 0, 0, 1]
def p61_4 : List Nat := [1, 1, 1, 0, 1, 0, 0, 1]
def p61_5 : List Nat := [1, 1, 1, 0, 1, 0, 0, 1, 0, 0, 0]
def p61_6 : List Nat := [1, 1, 1, 0, 1, 0, 0, 1, 0, 0, 1]
def p61_7 : List Nat := [1, 1, 1, 0, 1, 0, 0, 1, 1]
def p61_8 : List Nat := [1, 1, 1, 0, 1, 0]
noncomputable section
abbrev cx61 (M : Nat → Prop) (w0 : World) : Cx := ⟨Try.prog, 31, M, w0⟩
abbrev q61 (M : Nat → Prop) (w0 : World) (r : (Int × Int)) := bodyPost Try.prog Try.f61 (RetQ M w0 (fun v _ => v = .tup [.int .i64 r.1, .int .i64 r.2]))
abbrev k61_1 (M : Nat → Prop) (w0 : World) (r : (Int × Int)) (m1 : Nat) : Kont := kl (cx61 M w0) (q61 M w0 r) [.b 0, .c (cat Try.f61 p61_0)] (cat Try.f61 p61_1) m1
def s61_l1 (v1 : (List TBoxtreeBox)) (v3 : Int) (v4 : Int) (v5 : Int) : AS := ⟨[(0,.sl (List.map eTBoxtreeBox v1)),(6,.int .i64 v3),(7,.int .i64 v4),(8,.int .i64 v5)],[],[],[]⟩
abbrev H61_1 (M : Nat → Prop) (w0 : World) (r : (Int × Int)) (v1 : (List TBoxtreeBox)) (m1 : Nat) (L1 : Int → Int → Int → Option (Int × Int)) : Prop := ∀ {v3 : Int} {v4 : Int} {v5 : Int}, L1 v3 v4 v5 = some r → LP (cx61 M w0) (q61 M w0 r) [.b 0, .c (cat Try.f61 p61_0)] (cat Try.f61 p61_1) m1 (s61_l1 v1 v3 v4 v5)
variable {K : Kn} {n : Nat} {M : Nat → Prop} {w0 : World} {r : (Int × Int)} {v1 : (List TBoxtreeBox)} {v2 : TCascadeStyle} {v3 : Int} {v4 : Int} {v5 : Int} {m1 : Nat} {L1 : Int → Int → Int → Option (Int × Int)}
theorem g_ref17_Spread_l1_b_ok (hK : KnOk K) (hL1 : H61_1 M w0 r v1 m1 L1) (h : g_ref17_Spread_l1_b K n v1 L1 v3 v4 v5 = some r) : VE (cx61 M w0) (q61 M w0 r) [.c (cat Try.f61 p61_1), k61_1 M w0 r m1, .b 0, .c (cat Try.f61 p61_0)] .normal (s61_l1 v1 v3 v4 v5) := by
  unfold g_ref17_Spread_l1_b at h
  refine ve_un (ks' := [.c (cat Try.f61 p61_2), .c (cat Try.f61 p61_3), .c (cat Try.f61 p61_4), k61_1 M w0 r m1, .b 0, .c (cat Try.f61 p61_0)]) 2 ?_
  refine ve_in 2 ?_
  refine ot_sp (y_len eTBoxtreeBox v1) ?_
  refine ot_end ?_
  rcases ite_some h with ⟨h3, h⟩ | ⟨h3, h⟩
  ·
   refine ve_sb 13 h3 ?_
   refine ve_un (ks' := [.c (cat Try.f61 p61_5), .c (cat Try.f61 p61_6), .b 1, .c (cat Try.f61 p61_7), k61_1 M w0 r m1, .b 0, .c (cat Try.f61 p61_0)]) 5 ?_
   refine ve_in 2 ?_
   obtain ⟨h4, h⟩ := chk_some h
   refine ot_sp (y_ixs eTBoxtreeBox xTBoxtreeBox h4 (eTBoxtreeBox_len) (xTBoxtreeBox_eq)) ?_
   refine ot_end ?_
   exact ve_arr 5 (lp_back (hL1 h))
  ·
   refine ve_sb 13 h3 ?_
   refine ve_rt 8 ?_
   have hr := Option.some.inj h
   subst hr
   exact ve_dt
theorem g_ref17_Spread_l1_ok (hK : KnOk K) (m : Nat) : H61_1 M w0 r v1 m (g_ref17_Spread_l1 K n v1 m) := by
  induction m with
 | zero => intro v3 v4 v5 h; cases h
 | succ m ih => intro v3 v4 v5 h; have h : g_ref17_Spread_l1_b K n v1 (g_ref17_Spread_l1 K n v1 m) v3 v4 v5 = some r := h; exact lp_round (g_ref17_Spread_l1_b_ok hK ih h)
theorem g_ref17_Spread_ok (hK : KnOk K) (h : g_ref17_Spread K n v1 v2 = some r) : ACalls Try.prog 61 [.sl (List.map eTBoxtreeBox v1), .agg (eTCascadeStyle v2)] (fun v _ => v = .tup [.int .i64 r.1, .int .i64 r.2]) := by
  refine acalls_intro (c := cat Try.f61 []) Try.func61 (by kernel_rfl) _ Try.ntmps61 (of_decide_eq_true (by kernel_rfl)) fun M w0 => ?_
  refine ve_cast (s' := ⟨[(0,.sl (List.map eTBoxtreeBox v1)),(1,.agg (eTCascadeStyle v2))],[],[],[]⟩) (by kernel_rfl) ?_
  unfold g_ref17_Spread at h
  exact ve_arr 10 (lp_en (p := p61_8) n (g_ref17_Spread_l1_ok hK n h))
end

def p64_0 : List Nat := ones 6 []
def p64_1 : List Nat := ones 5 [0, 1, 0, 0]
def p64_2 : List Nat := ones 5 [0, 1, 0, 0, 0, 0]
def p64_3 : List Nat := ones 5 [0, 1, 0, 0, 0, 1]
def p64_4 : List Nat := ones 5 [0, 1, 0, 0, 1]
def p64_5 : List Nat := ones 5 [0, 1, 0, 0, 1, 0, 0, 0]
def p64_6 : List Nat := ones 5 [0, 1, 0, 0, 1, 0, 0, 1]
def p64_7 : List Nat := ones 5 [0, 1, 0, 0, 1, 1]
def p64_8 : List Nat := ones 6 [0]
def p64_9 : List Nat := ones 7 []
def p64_10 : List Nat := [1, 1, 0, 0]
def p64_11 : List Nat := [1, 1, 0, 1]
def p64_12 : List Nat := [1, 1, 0, 1, 0, 0]
def p64_13 : List Nat := [1, 1, 0, 1, 0, 1]
def p64_14 : List Nat := [1, 1, 0, 1, 0, 1, 0]
def p64_15 : List Nat := [1, 1, 0, 1, 0, 1, 1]
def p64_16 : List Nat := ones 5 [0, 1, 0]
noncomputable section
abbrev cx64 (M : Nat → Prop) (w0 : World) : Cx := ⟨Try.prog, 52, M, w0⟩
abbrev q64 (M : Nat → Prop) (w0 : World) (r : (Int × Int)) := bodyPost Try.prog Try.f64 (RetQ M w0 (fun v _ => v = .tup [.int .i64 r.1, .int .i64 r.2]))
abbrev k64_1 (M : Nat → Prop) (w0 : World) (r : (Int × Int)) (m1 : Nat) : Kont := kl (cx64 M w0) (q64 M w0 r) [.b 0, .c (cat Try.f64 p64_0)] (cat Try.f64 p64_1) m1
def s64_l1 (v2 : (List TBoxtreeBox)) (v8 : Int) (v9 : Int) (v10 : Int) : AS := ⟨[(4,.ref 1013),(7,.int .i64 v8),(8,.int .i64 v9),(9,.int .i64 v10)],[],[(1013,⟨63,59,List.map eTBoxtreeBox v2⟩)],[1013]⟩
abbrev H64_1 (M : Nat → Prop) (w0 : World) (r : (Int × Int)) (v2 : (List TBoxtreeBox)) (m1 : Nat) (L1 : Int → Int → Int → Option (Int × Int)) : Prop := ∀ {v8 : Int} {v9 : Int} {v10 : Int}, L1 v8 v9 v10 = some r → LP (cx64 M w0) (q64 M w0 r) [.b 0, .c (cat Try.f64 p64_0)] (cat Try.f64 p64_1) m1 (s64_l1 v2 v8 v9 v10)
variable {K : Kn} {n : Nat} {M : Nat → Prop} {w0 : World} {r : (Int × Int)} {v1 : TBoxtreeBox} {v2 : (List TBoxtreeBox)} {v8 : Int} {v9 : Int} {v10 : Int} {m1 : Nat} {L1 : Int → Int → Int → Option (Int × Int)}
theorem g_ref17_contents_l1_b_ok (hK : KnOk K) (hL1 : H64_1 M w0 r v2 m1 L1) (h : g_ref17_contents_l1_b K n v2 L1 v8 v9 v10 = some r) : VE (cx64 M w0) (q64 M w0 r) [.c (cat Try.f64 p64_1), k64_1 M w0 r m1, .b 0, .c (cat Try.f64 p64_0)] .normal (s64_l1 v2 v8 v9 v10) := by
  unfold g_ref17_contents_l1_b at h
  refine ve_un (ks' := [.c (cat Try.f64 p64_2), .c (cat Try.f64 p64_3), .c (cat Try.f64 p64_4), k64_1 M w0 r m1, .b 0, .c (cat Try.f64 p64_0)]) 2 ?_
  refine ve_in 2 ?_
  refine ot_sp (y_len eTBoxtreeBox v2) ?_
  refine ot_end ?_
  rcases ite_some h with ⟨h10, h⟩ | ⟨h10, h⟩
  ·
   refine ve_sb 31 h10 ?_
   refine ve_un (ks' := [.c (cat Try.f64 p64_5), .c (cat Try.f64 p64_6), .b 1, .c (cat Try.f64 p64_7), k64_1 M w0 r m1, .b 0, .c (cat Try.f64 p64_0)]) 5 ?_
   refine ve_in 2 ?_
   obtain ⟨h11, h⟩ := chk_some h
   refine ot_sp (y_ixr 1013 59 eTBoxtreeBox h11) ?_
   refine ot_sp (y_ldr 63 0 eTBoxtreeBox xTBoxtreeBox (inb_spec h11).2 (xTBoxtreeBox_eq)) ?_
   obtain ⟨v11, h12, h⟩ := bind_some h
   refine ot_cl (hK.k_g_ref17_Widths h12) ?_
   refine ot_end ?_
   exact ve_arr 5 (lp_back (hL1 h))
  ·
   refine ve_sb 31 h10 ?_
   refine ve_un (ks' := [.c (cat Try.f64 p64_8), .c (cat Try.f64 p64_9)]) 6 ?_
   refine ve_in 1 ?_
   obtain ⟨v12, h13, h⟩ := bind_some h
   refine ot_cl (g_ref17_Width_ok hK h13) ?_
   refine ot_go 3 1 ?_
   obtain ⟨v13, h14, h⟩ := bind_some h
   refine ot_cl (g_ref17_Width_ok hK h14) ?_
   refine ot_end ?_
   refine ve_rt 1 ?_
   have hr := Option.some.inj h
   subst hr
   exact ve_dt
theorem g_ref17_contents_l1_ok (hK : KnOk K) (m : Nat) : H64_1 M w0 r v2 m (g_ref17_contents_l1 K n v2 m) := by
  induction m with
 | zero => intro v8 v9 v10 h; cases h
 | succ m ih => intro v8 v9 v10 h; have h : g_ref17_contents_l1_b K n v2 (g_ref17_contents_l1 K n v2 m) v8 v9 v10 = some r := h; exact lp_round (g_ref17_contents_l1_b_ok hK ih h)
theorem g_ref17_contents_ok (hK : KnOk K) (h : g_ref17_contents K n v1 = some r) : ACalls Try.prog 64 [.agg (xTBoxtreeBox v1)] (fun v _ => v = .tup [.int .i64 r.1, .int .i64 r.2]) := by
  refine acalls_intro (c := cat Try.f64 []) Try.func64 (by kernel_rfl) _ Try.ntmps64 (of_decide_eq_true (by kernel_rfl)) fun M w0 => ?_
  refine ve_cast (s' := ⟨[(0,.agg (xTBoxtreeBox v1))],[],[],[]⟩) (by kernel_rfl) ?_
  unfold g_ref17_contents at h
  refine ve_un (ks' := [.c (cat Try.f64 [1, 0]), .c (cat Try.f64 [1, 1])]) 3 ?_
  refine ve_in 1 ?_
  obtain ⟨v2, h1, h⟩ := bind_some h
  refine ot_co 1013 (g_ref17_Inside_ok hK h1) (one_ref 25) ?_
  refine ot_end ?_
  refine ve_un (ks' := [.c (cat Try.f64 p64_10), .c (cat Try.f64 p64_11), .c (cat Try.f64 [1, 1, 1])]) 2 ?_
  refine ve_in 1 ?_
  obtain ⟨v3, h2, h⟩ := bind_some h
  refine ot_cl (g_ref17_outer_ok hK h2) ?_
  refine ot_end ?_
  rcases ite_some h with ⟨h3, h⟩ | ⟨h3, h⟩
  ·
   refine ve_sb 16 h3 ?_
   refine ve_un (ks' := [.c (cat Try.f64 p64_12), .c (cat Try.f64 p64_13), .c (cat Try.f64 [1, 1, 1])]) 2 ?_
   refine ve_in 3 ?_
   refine ot_f 1013 ?_
   obtain ⟨v4, h4, h⟩ := bind_some h
   refine ot_cl (g_ref17_Spread_ok hK h4) ?_
   refine ot_end ?_
   refine ve_un (ks' := [.c (cat Try.f64 p64_14), .c (cat Try.f64 p64_15), .c (cat Try.f64 [1, 1, 1])]) 1 ?_
   refine ve_in 1 ?_
   obtain ⟨v5, h5, h⟩ := bind_some h
   refine ot_cl (g_ref17_Width_ok hK h5) ?_
   refine ot_go 3 1 ?_
   obtain ⟨v6, h6, h⟩ := bind_some h
   refine ot_cl (g_ref17_Width_ok hK h6) ?_
   refine ot_end ?_
   refine ve_rt 2 ?_
   have hr := Option.some.inj h
   subst hr
   exact ve_dt
  ·
   refine ve_sb 16 h3 ?_
   exact ve_arr 10 (lp_en (p := p64_16) n (g_ref17_contents_l1_ok hK n h))
end


noncomputable section
abbrev cx76 (M : Nat → Prop) (w0 : World) : Cx := ⟨Try.prog, 8, M, w0⟩
abbrev q76 (M : Nat → Prop) (w0 : World) (r : TCascadeLength) := bodyPost Try.prog Try.f76 (RetQ M w0 (fun v _ => v = .agg (eTCascadeLength r)))
variable {K : Kn} {n : Nat} {M : Nat → Prop} {w0 : World} {r : TCascadeLength} {v1 : TCascadeLength} 
theorem g_ref17_auto_ok (hK : KnOk K) (h : g_ref17_auto K n v1 = some r) : ACalls Try.prog 76 [.agg (eTCascadeLength v1)] (fun v _ => v = .agg (eTCascadeLength r)) := by
  refine acalls_intro (c := cat Try.f76 []) Try.func76 (by kernel_rfl) _ Try.ntmps76 (of_decide_eq_true (by kernel_rfl)) fun M w0 => ?_
  refine ve_cast (s' := ⟨[(0,.agg (eTCascadeLength v1))],[],[],[]⟩) (by kernel_rfl) ?_
  unfold g_ref17_auto at h
  refine ve_un (ks' := [.c (cat Try.f76 [1, 0, 1]), .c (cat Try.f76 [1, 1])]) 5 ?_
  rcases ite_some h with ⟨h1, h⟩ | ⟨h1, h⟩
  ·
   refine ve_sb 5 h1 ?_
   refine ve_rt 5 ?_
   have hr := Option.some.inj h
   subst hr
   exact ve_d1
  ·
   refine ve_sb 5 h1 ?_
   refine ve_rt 5 ?_
   have hr := Option.some.inj h
   subst hr
   exact ve_d1
end

def p73_0 : List Nat := [1, 0, 1, 0]
def p73_1 : List Nat := [1, 0, 1, 0, 0]
def p73_2 : List Nat := [1, 0, 1, 0, 0, 1, 0, 0, 0]
def p73_3 : List Nat := [1, 0, 1, 0, 0, 1, 0, 0, 1]
def p73_4 : List Nat := [1, 0, 1, 0, 0, 1, 1]
def p73_5 : List Nat := [1, 1, 1, 0]
def p73_6 : List Nat := [1, 1, 1, 1]
def p73_7 : List Nat := [1, 1, 1, 1, 0]
def p73_8 : List Nat := ones 5 []
noncomputable section
abbrev cx73 (M : Nat → Prop) (w0 : World) : Cx := ⟨Try.prog, 37, M, w0⟩
abbrev q73 (M : Nat → Prop) (w0 : World) (r : TCascadeStyle) := bodyPost Try.prog Try.f73 (RetQ M w0 (fun v _ => v = .agg (eTCascadeStyle r)))
variable {K : Kn} {n : Nat} {M : Nat → Prop} {w0 : World} {r : TCascadeStyle} {v1 : TCascadeStyle} 
theorem g_ref17_plain_ok (hK : KnOk K) (h : g_ref17_plain K n v1 = some r) : ACalls Try.prog 73 [.agg (eTCascadeStyle v1)] (fun v _ => v = .agg (eTCascadeStyle r)) := by
  refine acalls_intro (c := cat Try.f73 []) Try.func73 (by kernel_rfl) _ Try.ntmps73 (of_decide_eq_true (by kernel_rfl)) fun M w0 => ?_
  refine ve_cast (s' := ⟨[(0,.agg (eTCascadeStyle v1))],[],[],[]⟩) (by kernel_rfl) ?_
  unfold g_ref17_plain at h
  refine ve_go (ks' := [.c (cat Try.f73 p73_0), .b 0, .c (cat Try.f73 [1, 1])]) 6 ⟨[(1,.ptr 1 0),(2,.ptr 2 0),(3,.int .i64 0)],[(1,eTCascadeStyle v1),(2,eTCascadeStyle zTCascadeStyle)],[],[1,2]⟩ ?_
  refine lp_enter 40 (c := cat Try.f73 p73_1) (by kernel_rfl) ?_
  refine lp_round ?_
  refine ve_un (ks' := [.c (cat Try.f73 p73_2), .c (cat Try.f73 p73_3), .b 1, .c (cat Try.f73 p73_4), kl (cx73 M w0) (q73 M w0 r) [.b 0, .c (cat Try.f73 [1, 1])] (cat Try.f73 p73_1) 39, .b 0, .c (cat Try.f73 [1, 1])]) 8 ?_
  refine ve_in 5 ?_
  obtain ⟨v2, h1, h⟩ := bind_some h
  refine ot_cl (g_ref17_auto_ok hK h1) ?_
  refine ot_end ?_
  refine ve_in 5 ?_
  obtain ⟨v3, h2, h⟩ := bind_some h
  refine ot_cl (g_ref17_auto_ok hK h2) ?_
  refine ot_end ?_
  refine ve_go (ks' := [kl (cx73 M w0) (q73 M w0 r) [.b 0, .c (cat Try.f73 [1, 1])] (cat Try.f73 p73_1) 39, .b 0, .c (cat Try.f73 [1, 1])]) 2 ⟨[(1,.ptr 1 0),(2,.ptr 2 0),(3,.int .i64 1)],[(1,eTCascadeStyle ({ v1 with Margin := ⟨v2, v1.Margin.a1, v1.Margin.a2, v1.Margin.a3⟩, Padding := ⟨v3, v1.Padding.a1, v1.Padding.a2, v1.Padding.a3⟩ } : TCascadeStyle)),(2,eTCascadeStyle zTCascadeStyle)],[],[1,2]⟩ ?_
  refine lp_back ?_
  refine lp_round ?_
  refine ve_un (ks' := [.c (cat Try.f73 p73_2), .c (cat Try.f73 p73_3), .b 1, .c (cat Try.f73 p73_4), kl (cx73 M w0) (q73 M w0 r) [.b 0, .c (cat Try.f73 [1, 1])] (cat Try.f73 p73_1) 38, .b 0, .c (cat Try.f73 [1, 1])]) 8 ?_
  refine ve_in 5 ?_
  obtain ⟨v4, h3, h⟩ := bind_some h
  refine ot_cl (g_ref17_auto_ok hK h3) ?_
  refine ot_end ?_
  refine ve_in 5 ?_
  obtain ⟨v5, h4, h⟩ := bind_some h
  refine ot_cl (g_ref17_auto_ok hK h4) ?_
  refine ot_end ?_
  refine ve_go (ks' := [kl (cx73 M w0) (q73 M w0 r) [.b 0, .c (cat Try.f73 [1, 1])] (cat Try.f73 p73_1) 38, .b 0, .c (cat Try.f73 [1, 1])]) 2 ⟨[(1,.ptr 1 0),(2,.ptr 2 0),(3,.int .i64 2)],[(1,eTCascadeStyle ({ v1 with Margin := ⟨v2, v4, v1.Margin.a2, v1.Margin.a3⟩, Padding := ⟨v3, v5, v1.Padding.a2, v1.Padding.a3⟩ } : TCascadeStyle)),(2,eTCascadeStyle zTCascadeStyle)],[],[1,2]⟩ ?_
  refine lp_back ?_
  refine lp_round ?_
  refine ve_un (ks' := [.c (cat Try.f73 p73_2), .c (cat Try.f73 p73_3), .b 1, .c (cat Try.f73 p73_4), kl (cx73 M w0) (q73 M w0 r) [.b 0, .c (cat Try.f73 [1, 1])] (cat Try.f73 p73_1) 37, .b 0, .c (cat Try.f73 [1, 1])]) 8 ?_
  refine ve_in 5 ?_
  obtain ⟨v6, h5, h⟩ := bind_some h
  refine ot_cl (g_ref17_auto_ok hK h5) ?_
  refine ot_end ?_
  refine ve_in 5 ?_
  obtain ⟨v7, h6, h⟩ := bind_some h
  refine ot_cl (g_ref17_auto_ok hK h6) ?_
  refine ot_end ?_
  refine ve_go (ks' := [kl (cx73 M w0) (q73 M w0 r) [.b 0, .c (cat Try.f73 [1, 1])] (cat Try.f73 p73_1) 37, .b 0, .c (cat Try.f73 [1, 1])]) 2 ⟨[(1,.ptr 1 0),(2,.ptr 2 0),(3,.int .i64 3)],[(1,eTCascadeStyle ({ v1 with Margin := ⟨v2, v4, v6, v1.Margin.a3⟩, Padding := ⟨v3, v5, v7, v1.Padding.a3⟩ } : TCascadeStyle)),(2,eTCascadeStyle zTCascadeStyle)],[],[1,2]⟩ ?_
  refine lp_back ?_
  refine lp_round ?_
  refine ve_un (ks' := [.c (cat Try.f73 p73_2), .c (cat Try.f73 p73_3), .b 1, .c (cat Try.f73 p73_4), kl (cx73 M w0) (q73 M w0 r) [.b 0, .c (cat Try.f73 [1, 1])] (cat Try.f73 p73_1) 36, .b 0, .c (cat Try.f73 [1, 1])]) 8 ?_
  refine ve_in 5 ?_
  obtain ⟨v8, h7, h⟩ := bind_some h
  refine ot_cl (g_ref17_auto_ok hK h7) ?_
  refine ot_end ?_
  refine ve_in 5 ?_
  obtain ⟨v9, h8, h⟩ := bind_some h
  refine ot_cl (g_ref17_auto_ok hK h8) ?_
  refine ot_end ?_
  refine ve_go (ks' := [kl (cx73 M w0) (q73 M w0 r) [.b 0, .c (cat Try.f73 [1, 1])] (cat Try.f73 p73_1) 36, .b 0, .c (cat Try.f73 [1, 1])]) 2 ⟨[(1,.ptr 1 0),(2,.ptr 2 0),(3,.int .i64 4)],[(1,eTCascadeStyle ({ v1 with Margin := ⟨v2, v4, v6, v8⟩, Padding := ⟨v3, v5, v7, v9⟩ } : TCascadeStyle)),(2,eTCascadeStyle zTCascadeStyle)],[],[1,2]⟩ ?_
  refine lp_back ?_
  refine lp_round ?_
  refine ve_un (ks' := [.c (cat Try.f73 [1, 1, 0]), .c (cat Try.f73 [1, 1, 1])]) 9 ?_
  refine ve_in 2 ?_
  obtain ⟨v10, h9, h⟩ := bind_some h
  refine ot_cl (g_ref17_auto_ok hK h9) ?_
  refine ot_end ?_
  refine ve_un (ks' := [.c (cat Try.f73 p73_5), .c (cat Try.f73 p73_6)]) 1 ?_
  refine ve_in 2 ?_
  obtain ⟨v11, h10, h⟩ := bind_some h
  refine ot_cl (g_ref17_auto_ok hK h10) ?_
  refine ot_end ?_
  refine ve_un (ks' := [.c (cat Try.f73 p73_7), .c (cat Try.f73 p73_8)]) 1 ?_
  refine ve_in 2 ?_
  obtain ⟨v12, h11, h⟩ := bind_some h
  refine ot_cl (g_ref17_auto_ok hK h11) ?_
  refine ot_end ?_
  refine ve_rt 3 ?_
  have hr := Option.some.inj h
  subst hr
  exact ve_d1
end

def p65_0 : List Nat := ones 6 []
def p65_1 : List Nat := ones 6 [0]
def p65_2 : List Nat := ones 7 []
def p65_3 : List Nat := ones 7 [0]
def p65_4 : List Nat := ones 8 []
def p65_5 : List Nat := [1, 1, 1, 0]
def p65_6 : List Nat := [1, 1, 1, 1]
def p65_7 : List Nat := [1, 1, 1, 1, 0]
def p65_8 : List Nat := ones 5 []
def p65_9 : List Nat := ones 5 [0, 1]
noncomputable section
abbrev cx65 (M : Nat → Prop) (w0 : World) : Cx := ⟨Try.prog, 39, M, w0⟩
abbrev q65 (M : Nat → Prop) (w0 : World) (r : (Int × Int)) := bodyPost Try.prog Try.f65 (RetQ M w0 (fun v _ => v = .tup [.int .i64 r.1, .int .i64 r.2]))
def s65_j1 (v4 : TCascadeStyle) (v8 : Int) (v9 : Int) : AS := ⟨[(1,.int .i64 v8),(2,.int .i64 v9),(3,.ptr 3 0)],[(3,eTCascadeStyle v4)],[],[3]⟩
variable {K : Kn} {n : Nat} {M : Nat → Prop} {w0 : World} {r : (Int × Int)} {v1 : TCascadeStyle} {v2 : Int} {v3 : Int} {v4 : TCascadeStyle} {v8 : Int} {v9 : Int} 
theorem g_ref17_Framed_j1_ok (hK : KnOk K) (h : g_ref17_Framed_j1 K n v4 v8 v9 = some r) : VE (cx65 M w0) (q65 M w0 r) [.c (cat Try.f65 p65_0)] .normal (s65_j1 v4 v8 v9) := by
  unfold g_ref17_Framed_j1 at h
  refine ve_un (ks' := [.c (cat Try.f65 p65_1), .c (cat Try.f65 p65_2)]) 1 ?_
  refine ve_in 1 ?_
  obtain ⟨v10, h6, h⟩ := bind_some h
  refine ot_cl (g_ref17_Edges_ok hK h6) ?_
  obtain ⟨v11, h7, h⟩ := bind_some h
  refine ot_cl (g_ref17_Sum_ok hK h7) ?_
  refine ot_end ?_
  refine ve_un (ks' := [.c (cat Try.f65 p65_3), .c (cat Try.f65 p65_4)]) 1 ?_
  refine ve_pk [1, 2, 3, 10] [3] [] ?_
  obtain ⟨v12, h8, h⟩ := bind_some h
  obtain ⟨v13, h9, h⟩ := bind_some h
  refine ve_dr 2 [(29, .agg (eTCascadeStyle v4)), (30, .int .i64 v8), (31, .int .i64 v12), (32, .int .i64 v11), (33, .int .i64 (w64 (v12 + v11))), (34, .agg (eTCascadeStyle v4)), (35, .int .i64 v9), (36, .int .i64 v13), (37, .int .i64 v11), (38, .int .i64 (w64 (v13 + v11)))] [] [] [stp Try.prog 39 Try.f65 p65_3 10, stp Try.prog 39 Try.f65 p65_3 11] (d_vs [.v 0 1, .v 0 1] (d_c1 (e_c 0 1 31 (g_ref17_Clamp_ok hK h8)) (d_vs [.v 0 1, .v 0 1, .v 0 2, .v 0 2] (d_c1 (e_c 0 1 36 (g_ref17_Clamp_ok hK h9)) (d_vs [.v 0 2, .v 0 2] (d_c1 (e_d 0) (d_c1 (e_d 1) (d_nl)))))))) ?_
  refine ve_rt 1 ?_
  have hr := Option.some.inj h
  subst hr
  exact ve_dt
theorem g_ref17_Framed_ok (hK : KnOk K) (h : g_ref17_Framed K n v1 v2 v3 = some r) : ACalls Try.prog 65 [.agg (eTCascadeStyle v1), .int .i64 v2, .int .i64 v3] (fun v _ => v = .tup [.int .i64 r.1, .int .i64 r.2]) := by
  refine acalls_intro (c := cat Try.f65 []) Try.func65 (by kernel_rfl) _ Try.ntmps65 (of_decide_eq_true (by kernel_rfl)) fun M w0 => ?_
  refine ve_cast (s' := ⟨[(0,.agg (eTCascadeStyle v1)),(1,.int .i64 v2),(2,.int .i64 v3)],[],[],[]⟩) (by kernel_rfl) ?_
  unfold g_ref17_Framed at h
  refine ve_un (ks' := [.c (cat Try.f65 [1, 0]), .c (cat Try.f65 [1, 1])]) 3 ?_
  refine ve_in 1 ?_
  obtain ⟨v4, h1, h⟩ := bind_some h
  refine ot_cl (g_ref17_plain_ok hK h1) ?_
  refine ot_end ?_
  refine ve_un (ks' := [.c (cat Try.f65 [1, 1, 0]), .c (cat Try.f65 [1, 1, 1])]) 1 ?_
  refine ve_in 1 ?_
  obtain ⟨v5, h2, h⟩ := bind_some h
  refine ot_cl (g_ref17_Width_ok hK h2) ?_
  refine ot_end ?_
  refine ve_un (ks' := [.c (cat Try.f65 p65_5), .c (cat Try.f65 p65_6)]) 1 ?_
  refine ve_in 1 ?_
  obtain ⟨v6, h3, h⟩ := bind_some h
  refine ot_cl (g_ref17_Width_ok hK h3) ?_
  refine ot_end ?_
  refine ve_un (ks' := [.c (cat Try.f65 p65_7), .c (cat Try.f65 p65_8)]) 1 ?_
  refine ve_in 2 ?_
  obtain ⟨v7, h4, h⟩ := bind_some h
  refine ot_cl (g_ref17_pixels_ok hK h4) ?_
  refine ot_end ?_
  refine ve_un (ks' := [.c (cat Try.f65 p65_9), .c (cat Try.f65 p65_0)]) 3 ?_
  rcases ite_some h with ⟨h5, h⟩ | ⟨h5, h⟩
  ·
   refine ve_sb 23 h5 ?_
   exact ve_arr 4 (g_ref17_Framed_j1_ok hK h)
  ·
   refine ve_sb 23 h5 ?_
   exact ve_arr 2 (g_ref17_Framed_j1_ok hK h)
end


noncomputable section
abbrev cx47 (M : Nat → Prop) (w0 : World) : Cx := ⟨Try.prog, 18, M, w0⟩
abbrev q47 (M : Nat → Prop) (w0 : World) (r : (Int × Int)) := bodyPost Try.prog Try.f47 (RetQ M w0 (fun v _ => v = .tup [.int .i64 r.1, .int .i64 r.2]))
variable {K : Kn} {n : Nat} {M : Nat → Prop} {w0 : World} {r : (Int × Int)} {v1 : TBoxtreeBox} 
theorem g_ref17_Widths_ok (hK : KnOk K) (h : g_ref17_Widths K n v1 = some r) : ACalls Try.prog 47 [.agg (xTBoxtreeBox v1)] (fun v _ => v = .tup [.int .i64 r.1, .int .i64 r.2]) := by
  refine acalls_intro (c := cat Try.f47 []) Try.func47 (by kernel_rfl) _ Try.ntmps47 (of_decide_eq_true (by kernel_rfl)) fun M w0 => ?_
  refine ve_cast (s' := ⟨[(0,.agg (xTBoxtreeBox v1))],[],[],[]⟩) (by kernel_rfl) ?_
  unfold g_ref17_Widths at h
  refine ve_un (ks' := [.c (cat Try.f47 [1, 0]), .c (cat Try.f47 [1, 1])]) 3 ?_
  refine ve_in 1 ?_
  obtain ⟨v2, h1, h⟩ := bind_some h
  refine ot_cl (g_ref17_contents_ok hK h1) ?_
  refine ot_end ?_
  refine ve_un (ks' := [.c (cat Try.f47 [1, 1, 0]), .c (cat Try.f47 [1, 1, 1])]) 1 ?_
  refine ve_in 4 ?_
  obtain ⟨v3, h2, h⟩ := bind_some h
  refine ot_cl (g_ref17_Framed_ok hK h2) ?_
  refine ot_end ?_
  refine ve_rt 1 ?_
  have hr := Option.some.inj h
  subst hr
  exact ve_dt
end

def p48_0 : List Nat := [1, 1, 1, 0]
def p48_1 : List Nat := [1, 1, 1, 1]
def p48_2 : List Nat := [1, 1, 0, 1]
def p48_3 : List Nat := [1, 1, 0, 1, 0, 0]
def p48_4 : List Nat := [1, 1, 0, 1, 0, 1]
def p48_5 : List Nat := [1, 1, 0, 1, 0, 1, 0]
def p48_6 : List Nat := [1, 1, 0, 1, 0, 1, 1]
noncomputable section
abbrev cx48 (M : Nat → Prop) (w0 : World) : Cx := ⟨Try.prog, 46, M, w0⟩
abbrev q48 (M : Nat → Prop) (w0 : World) (r : Int) := bodyPost Try.prog Try.f48 (RetQ M w0 (fun v _ => v = .int .i64 r))
def s48_j1 (v1 : TBoxtreeBox) (v2 : Int) (v9 : Int) : AS := ⟨[(1,.int .i64 v2),(3,.ptr 3 0),(7,.int .i64 v9)],[(3,xTBoxtreeBox v1)],[],[3]⟩
variable {K : Kn} {n : Nat} {M : Nat → Prop} {w0 : World} {r : Int} {v1 : TBoxtreeBox} {v2 : Int} {v3 : TBlockEnv} {v9 : Int} 
theorem g_block_Shrink_j1_ok (hK : KnOk K) (h : g_block_Shrink_j1 K n v1 v2 v9 = some r) : VE (cx48 M w0) (q48 M w0 r) [.c (cat Try.f48 [1, 1, 1])] .normal (s48_j1 v1 v2 v9) := by
  unfold g_block_Shrink_j1 at h
  refine ve_un (ks' := [.c (cat Try.f48 p48_0), .c (cat Try.f48 p48_1)]) 1 ?_
  refine ve_in 4 ?_
  obtain ⟨v10, h7, h⟩ := bind_some h
  refine ot_cl (g_block_Clamp_ok hK h7) ?_
  refine ot_end ?_
  refine ve_rt 1 ?_
  have hr := Option.some.inj h
  subst hr
  exact ve_d1
theorem g_block_Shrink_ok (hK : KnOk K) (h : g_block_Shrink K n v1 v2 v3 = some r) : ACalls Try.prog 48 [.agg (xTBoxtreeBox v1), .int .i64 v2, .agg (eTBlockEnv v3)] (fun v _ => v = .int .i64 r) := by
  refine acalls_intro (c := cat Try.f48 []) Try.func48 (by kernel_rfl) _ Try.ntmps48 (of_decide_eq_true (by kernel_rfl)) fun M w0 => ?_
  refine ve_cast (s' := ⟨[(0,.agg (xTBoxtreeBox v1)),(1,.int .i64 v2),(2,.agg (eTBlockEnv v3))],[],[],[]⟩) (by kernel_rfl) ?_
  unfold g_block_Shrink at h
  refine ve_un (ks' := [.c (cat Try.f48 [1, 0]), .c (cat Try.f48 [1, 1])]) 3 ?_
  refine ve_in 4 ?_
  obtain ⟨v4, h1, h⟩ := bind_some h
  refine ot_cl (g_block_Length_ok hK h1) ?_
  refine ot_end ?_
  refine ve_un (ks' := [.c (cat Try.f48 p48_2), .c (cat Try.f48 [1, 1, 1])]) 3 ?_
  rcases ite_some h with ⟨h2, h⟩ | ⟨h2, h⟩
  ·
   refine ve_sb 21 h2 ?_
   refine ve_un (ks' := [.c (cat Try.f48 p48_3), .c (cat Try.f48 p48_4), .c (cat Try.f48 [1, 1, 1])]) 2 ?_
   refine ve_in 2 ?_
   obtain ⟨v5, h3, h⟩ := bind_some h
   refine ot_cl (g_block_inside_ok hK h3) ?_
   refine ot_end ?_
   refine ve_un (ks' := [.c (cat Try.f48 p48_5), .c (cat Try.f48 p48_6), .c (cat Try.f48 [1, 1, 1])]) 1 ?_
   refine ve_pk [1, 3, 9, 10] [3] [] ?_
   obtain ⟨v6, h4, h⟩ := bind_some h
   obtain ⟨v7, h5, h⟩ := bind_some h
   obtain ⟨v8, h6, h⟩ := bind_some h
   refine ve_dr 1 [(28, .int .i64 v2), (29, .int .i64 v6), (30, .ptr 3 2), (31, .agg (eTCascadeStyle v1.Style)), (32, .int .i64 v2), (33, .agg (eTBlockSizes v7)), (34, .int .i64 v8), (35, .int .i64 (w64 (v6 - v8)))] [] [] [stp Try.prog 46 Try.f48 p48_5 8] (d_vs [.v 0 1] (d_c1 (e_c 0 1 29 (g_block_limit_ok hK h4)) (d_vs [.v 0 1, .v 0 1, .v 0 1] (d_c1 (e_c 0 1 33 (g_block_Edges_ok hK h5)) (d_c1 (e_c 0 1 34 (g_api_BlockSizes_Sum_ok hK h6)) (d_vs [.v 0 1] (d_c1 (e_d 0) (d_nl)))))))) ?_
   exact ve_arr 1 (g_block_Shrink_j1_ok hK h)
  ·
   refine ve_sb 21 h2 ?_
   exact ve_arr 2 (g_block_Shrink_j1_ok hK h)
end

def p49_0 : List Nat := [1, 1, 1, 1]
def p49_1 : List Nat := [1, 1, 1, 1, 0]
def p49_2 : List Nat := ones 5 []
def p49_3 : List Nat := [1, 1, 1, 0, 1]
def p49_4 : List Nat := [1, 1, 1, 0, 1, 0, 0]
def p49_5 : List Nat := [1, 1, 1, 0, 1, 0, 1]
noncomputable section
abbrev cx49 (M : Nat → Prop) (w0 : World) : Cx := ⟨Try.prog, 42, M, w0⟩
abbrev q49 (M : Nat → Prop) (w0 : World) (r : Int) := bodyPost Try.prog Try.f49 (RetQ M w0 (fun v _ => v = .int .i64 r))
def s49_j1 (v1 : TBoxtreeBox) (v3 : Int) (v8 : Int) : AS := ⟨[(1,.int .i64 v3),(2,.ptr 2 0),(5,.int .i64 v8)],[(2,xTBoxtreeBox v1)],[],[2]⟩
variable {K : Kn} {n : Nat} {M : Nat → Prop} {w0 : World} {r : Int} {v1 : TBoxtreeBox} {v2 : Int} {v3 : Int} {v8 : Int} 
theorem g_ref17_Shrink_j1_ok (hK : KnOk K) (h : g_ref17_Shrink_j1 K n v1 v3 v8 = some r) : VE (cx49 M w0) (q49 M w0 r) [.c (cat Try.f49 p49_0)] .normal (s49_j1 v1 v3 v8) := by
  unfold g_ref17_Shrink_j1 at h
  refine ve_un (ks' := [.c (cat Try.f49 p49_1), .c (cat Try.f49 p49_2)]) 1 ?_
  refine ve_in 4 ?_
  obtain ⟨v9, h7, h⟩ := bind_some h
  refine ot_cl (g_ref17_Clamp_ok hK h7) ?_
  refine ot_end ?_
  refine ve_rt 1 ?_
  have hr := Option.some.inj h
  subst hr
  exact ve_d1
theorem g_ref17_Shrink_ok (hK : KnOk K) (h : g_ref17_Shrink K n v1 v2 = some r) : ACalls Try.prog 49 [.agg (xTBoxtreeBox v1), .int .i64 v2] (fun v _ => v = .int .i64 r) := by
  refine acalls_intro (c := cat Try.f49 []) Try.func49 (by kernel_rfl) _ Try.ntmps49 (of_decide_eq_true (by kernel_rfl)) fun M w0 => ?_
  refine ve_cast (s' := ⟨[(0,.agg (xTBoxtreeBox v1)),(1,.int .i64 v2)],[],[],[]⟩) (by kernel_rfl) ?_
  unfold g_ref17_Shrink at h
  refine ve_un (ks' := [.c (cat Try.f49 [1, 0]), .c (cat Try.f49 [1, 1])]) 3 ?_
  refine ve_in 1 ?_
  obtain ⟨v3, h1, h⟩ := bind_some h
  refine ot_cl (g_ref17_Width_ok hK h1) ?_
  refine ot_end ?_
  refine ve_un (ks' := [.c (cat Try.f49 [1, 1, 0]), .c (cat Try.f49 [1, 1, 1])]) 1 ?_
  refine ve_in 4 ?_
  obtain ⟨v4, h2, h⟩ := bind_some h
  refine ot_cl (g_ref17_Length_ok hK h2) ?_
  refine ot_end ?_
  refine ve_un (ks' := [.c (cat Try.f49 p49_3), .c (cat Try.f49 p49_0)]) 3 ?_
  rcases ite_some h with ⟨h3, h⟩ | ⟨h3, h⟩
  ·
   refine ve_sb 20 h3 ?_
   refine ve_un (ks' := [.c (cat Try.f49 p49_4), .c (cat Try.f49 p49_5), .c (cat Try.f49 p49_0)]) 2 ?_
   refine ve_in 1 ?_
   obtain ⟨v5, h4, h⟩ := bind_some h
   refine ot_cl (g_ref17_contents_ok hK h4) ?_
   refine ot_end ?_
   refine ve_in 4 ?_
   obtain ⟨v6, h5, h⟩ := bind_some h
   refine ot_cl (g_ref17_Edges_ok hK h5) ?_
   obtain ⟨v7, h6, h⟩ := bind_some h
   refine ot_cl (g_ref17_Sum_ok hK h6) ?_
   refine ot_end ?_
   exact ve_arr 0 (g_ref17_Shrink_j1_ok hK h)
  ·
   refine ve_sb 20 h3 ?_
   exact ve_arr 2 (g_ref17_Shrink_j1_ok hK h)
end

def p12_0 : List Nat := ones 7 []
def p12_1 : List Nat := [1, 1, 0, 1]
def p12_2 : List Nat := [1, 1, 1, 0]
def p12_3 : List Nat := [1, 1, 1, 1]
def p12_4 : List Nat := [1, 1, 1, 1, 0]
def p12_5 : List Nat := ones 5 []
def p12_6 : List Nat := ones 5 [0]
def p12_7 : List Nat := ones 6 []
def p12_8 : List Nat := ones 6 [0]
def p12_9 : List Nat := [1, 1, 0, 0]
noncomputable section
abbrev cx12 (M : Nat → Prop) (w0 : World) : Cx := ⟨Try.prog, 60, M, w0⟩
abbrev q12 (M : Nat → Prop) (w0 : World) (r : Bool) := bodyPost Try.prog Try.f12 (RetQ M w0 (fun v _ => v = .bool r))
def s12_j2 (v14 : Bool) : AS := ⟨[(4,.bool v14)],[],[],[]⟩
def s12_j1 (v1 : (List TKnapsackref17Spec)) (v2 : Int) (v5 : Bool) : AS := ⟨[(0,.sl (List.map eTKnapsackref17Spec v1)),(1,.int .i64 v2),(20,.bool v5)],[],[],[]⟩
variable {K : Kn} {n : Nat} {M : Nat → Prop} {w0 : World} {r : Bool} {v1 : (List TKnapsackref17Spec)} {v2 : Int} {v5 : Bool} {v14 : Bool} 
theorem g_law17_BlockWidths_j2_ok (hK : KnOk K) (h : g_law17_BlockWidths_j2 K n v14 = some r) : VE (cx12 M w0) (q12 M w0 r) [.c (cat Try.f12 p12_0)] .normal (s12_j2 v14) := by
  unfold g_law17_BlockWidths_j2 at h
  refine ve_rt 1 ?_
  have hr := Option.some.inj h
  subst hr
  exact ve_d1
theorem g_law17_BlockWidths_j1_ok (hK : KnOk K) (h : g_law17_BlockWidths_j1 K n v1 v2 v5 = some r) : VE (cx12 M w0) (q12 M w0 r) [.c (cat Try.f12 p12_1), .c (cat Try.f12 [1, 1, 1])] .normal (s12_j1 v1 v2 v5) := by
  unfold g_law17_BlockWidths_j1 at h
  rcases ite_some h with ⟨h5, h⟩ | ⟨h5, h⟩
  ·
   refine ve_sb 20 h5 ?_
   refine ve_rt 5 ?_
   have hr := Option.some.inj h
   subst hr
   exact ve_d1
  ·
   refine ve_sb 20 h5 ?_
   refine ve_un (ks' := [.c (cat Try.f12 p12_2), .c (cat Try.f12 p12_3)]) 3 ?_
   refine ve_in 1 ?_
   obtain ⟨v6, h6, h⟩ := bind_some h
   refine ot_co 1023 (g_ref17_Tree_ok hK h6) (one_tupa (i := 0) (j := 58) rfl (by kernel_rfl)) ?_
   refine ot_end ?_
   refine ve_un (ks' := [.c (cat Try.f12 p12_4), .c (cat Try.f12 p12_5)]) 1 ?_
   refine ve_pk [1, 5] [5] [1023] ?_
   refine ve_f 1023 ?_
   obtain ⟨v8, h8, h⟩ := bind_some h
   obtain ⟨v9, h9, h⟩ := bind_some h
   refine ve_dr 2 [(27, .agg (xTBoxtreeBox v6.1)), (28, .agg (eTBlockEnv v8)), (29, .tup [.int .i64 v9.1, .int .i64 v9.2]), (26, .tup [.int .i64 v9.1, .int .i64 v9.2]), (30, .int .i64 v9.1), (31, .int .i64 v9.2)] [] [] [stp Try.prog 60 Try.f12 p12_4 6, stp Try.prog 60 Try.f12 p12_4 7] (d_vs [.v 0 1] (d_c1 (e_c 0 1 28 (g_law17_Env_ok hK h8)) (d_c1 (e_c 0 1 29 (g_block_Widths_ok hK h9)) (d_vs [.v 0 1, .v 0 1, .v 0 2] (d_c1 (e_d 0) (d_c1 (e_d 1) (d_nl))))))) ?_
   refine ve_un (ks' := [.c (cat Try.f12 p12_6), .c (cat Try.f12 p12_7)]) 1 ?_
   refine ve_in 1 ?_
   obtain ⟨v10, h10, h⟩ := bind_some h
   refine ot_cl (g_ref17_Widths_ok hK h10) ?_
   refine ot_end ?_
   refine ve_un (ks' := [.c (cat Try.f12 p12_8), .c (cat Try.f12 p12_0)]) 1 ?_
   refine ve_pk [1, 5, 7, 8, 9, 10] [5] [] ?_
   rcases ite_some h with ⟨h11, h⟩ | ⟨h11, h⟩
   ·
    rcases ite_some h with ⟨h12, h⟩ | ⟨h12, h⟩
    ·
     rcases ite_some h with ⟨h13, h⟩ | ⟨h13, h⟩
     ·
      obtain ⟨v11, h14, h⟩ := bind_some h
      obtain ⟨v12, h15, h⟩ := bind_some h
      obtain ⟨v13, h16, h⟩ := bind_some h
      refine ve_dr 1 [(37, .int .i64 v9.1), (38, .int .i64 v10.1), (39, .bool (v9.1 == v10.1)), (40, .bool true), (41, .int .i64 v9.2), (42, .int .i64 v10.2), (43, .bool (v9.2 == v10.2)), (44, .bool (v9.2 == v10.2)), (45, .bool true), (46, .int .i64 v9.1), (47, .int .i64 v9.2), (48, .bool (decide (v9.1 ≤ v9.2))), (49, .bool (decide (v9.1 ≤ v9.2))), (50, .bool true), (51, .agg (xTBoxtreeBox v6.1)), (52, .int .i64 v2), (53, .agg (eTBlockEnv v11)), (54, .int .i64 v12), (55, .agg (xTBoxtreeBox v6.1)), (56, .int .i64 v2), (57, .int .i64 v13), (58, .bool (v12 == v13)), (59, .bool (v12 == v13))] [] [] [stp Try.prog 60 Try.f12 p12_8 23] (d_vs [.v 0 1, .v 0 1, .v 0 1] (d_c1 (k_v (lo := 0) (k := 1) (kallS ⟨(by kernel_rfl), (aop_boolc 40 (e := (v9.1 == v10.1)) (b := true) h11 (by kernel_rfl) (by kernel_rfl))⟩ (kall0))) (d_vs [.v 0 1, .v 0 1, .v 0 1, .v 0 1] (d_c1 (k_v (lo := 0) (k := 1) (kallS ⟨(by kernel_rfl), (aop_boolc 45 (e := (v9.2 == v10.2)) (b := true) h12 (by kernel_rfl) (by kernel_rfl))⟩ (kall0))) (d_vs [.v 0 1, .v 0 1, .v 0 1, .v 0 1] (d_c1 (k_v (lo := 0) (k := 1) (kallS ⟨(by kernel_rfl), (aop_boolc 50 (e := (decide (v9.1 ≤ v9.2))) (b := true) h13 (by kernel_rfl) (by kernel_rfl))⟩ (kall0))) (d_vs [.v 0 1, .v 0 1] (d_c1 (e_c 0 1 53 (g_law17_Env_ok hK h14)) (d_c1 (e_c 0 1 54 (g_block_Shrink_ok hK h15)) (d_vs [.v 0 1, .v 0 1] (d_c1 (e_c 0 1 57 (g_ref17_Shrink_ok hK h16)) (d_vs [.v 0 1, .v 0 1] (d_c1 (e_d 0) (d_nl)))))))))))))) ?_
      exact ve_arr 0 (g_law17_BlockWidths_j2_ok hK h)
     ·
      refine ve_dr 1 [(37, .int .i64 v9.1), (38, .int .i64 v10.1), (39, .bool (v9.1 == v10.1)), (40, .bool true), (41, .int .i64 v9.2), (42, .int .i64 v10.2), (43, .bool (v9.2 == v10.2)), (44, .bool (v9.2 == v10.2)), (45, .bool true), (46, .int .i64 v9.1), (47, .int .i64 v9.2), (48, .bool (decide (v9.1 ≤ v9.2))), (49, .bool (decide (v9.1 ≤ v9.2))), (50, .bool false), (51, .tup []), (52, .tup []), (53, .tup []), (54, .tup []), (55, .tup []), (56, .tup []), (57, .tup []), (58, .tup []), (59, .bool false)] [] [] [stp Try.prog 60 Try.f12 p12_8 23] (d_vs [.v 0 1, .v 0 1, .v 0 1] (d_c1 (k_v (lo := 0) (k := 1) (kallS ⟨(by kernel_rfl), (aop_boolc 40 (e := (v9.1 == v10.1)) (b := true) h11 (by kernel_rfl) (by kernel_rfl))⟩ (kall0))) (d_vs [.v 0 1, .v 0 1, .v 0 1, .v 0 1] (d_c1 (k_v (lo := 0) (k := 1) (kallS ⟨(by kernel_rfl), (aop_boolc 45 (e := (v9.2 == v10.2)) (b := true) h12 (by kernel_rfl) (by kernel_rfl))⟩ (kall0))) (d_vs [.v 0 1, .v 0 1, .v 0 1, .v 0 1] (d_c1 (k_v (lo := 0) (k := 1) (kallS ⟨(by kernel_rfl), (aop_boolc 50 (e := (decide (v9.1 ≤ v9.2))) (b := false) h13 (by kernel_rfl) (by kernel_rfl))⟩ (kall0))) (d_c1 (k_off (lo := 0) (k := 1) (by kernel_rfl) (kallS (by kernel_rfl) (kall0)) (kallS (by kernel_rfl) (kallS (by kernel_rfl) (kall0)))) (d_c1 (k_off (lo := 0) (k := 1) (by kernel_rfl) (kallS (by kernel_rfl) (kall0)) (kallS (by kernel_rfl) (kallS (by kernel_rfl) (kall0)))) (d_c1 (k_off (lo := 0) (k := 1) (by kernel_rfl) (kallS (by kernel_rfl) (kall0)) (kallS (by kernel_rfl) (kallS (by kernel_rfl) (kall0)))) (d_c1 (k_off (lo := 0) (k := 1) (by kernel_rfl) (kallS (by kernel_rfl) (kall0)) (kallS (by kernel_rfl) (kallS (by kernel_rfl) (kall0)))) (d_c1 (k_off (lo := 0) (k := 1) (by kernel_rfl) (kallS (by kernel_rfl) (kall0)) (kallS (by kernel_rfl) (kallS (by kernel_rfl) (kall0)))) (d_c1 (k_off (lo := 0) (k := 1) (by kernel_rfl) (kallS (by kernel_rfl) (kall0)) (kallS (by kernel_rfl) (kallS (by kernel_rfl) (kall0)))) (d_c1 (k_off (lo := 0) (k := 1) (by kernel_rfl) (kallS (by kernel_rfl) (kall0)) (kallS (by kernel_rfl) (kallS (by kernel_rfl) (kall0)))) (d_c1 (k_off (lo := 0) (k := 1) (by kernel_rfl) (kallS (by kernel_rfl) (kall0)) (kallS (by kernel_rfl) (kallS (by kernel_rfl) (kall0)))) (d_vs [.v 0 1] (d_c1 (e_d 0) (d_nl))))))))))))))))) ?_
      exact ve_arr 0 (g_law17_BlockWidths_j2_ok hK h)
    ·
     refine ve_dr 1 [(37, .int .i64 v9.1), (38, .int .i64 v10.1), (39, .bool (v9.1 == v10.1)), (40, .bool true), (41, .int .i64 v9.2), (42, .int .i64 v10.2), (43, .bool (v9.2 == v10.2)), (44, .bool (v9.2 == v10.2)), (45, .bool false), (46, .tup []), (47, .tup []), (48, .tup []), (49, .bool false), (50, .bool false), (51, .tup []), (52, .tup []), (53, .tup []), (54, .tup []), (55, .tup []), (56, .tup []), (57, .tup []), (58, .tup []), (59, .bool false)] [] [] [stp Try.prog 60 Try.f12 p12_8 23] (d_vs [.v 0 1, .v 0 1, .v 0 1] (d_c1 (k_v (lo := 0) (k := 1) (kallS ⟨(by kernel_rfl), (aop_boolc 40 (e := (v9.1 == v10.1)) (b := true) h11 (by kernel_rfl) (by kernel_rfl))⟩ (kall0))) (d_vs [.v 0 1, .v 0 1, .v 0 1, .v 0 1] (d_c1 (k_v (lo := 0) (k := 1) (kallS ⟨(by kernel_rfl), (aop_boolc 45 (e := (v9.2 == v10.2)) (b := false) h12 (by kernel_rfl) (by kernel_rfl))⟩ (kall0))) (d_c1 (k_off (lo := 0) (k := 1) (by kernel_rfl) (kallS (by kernel_rfl) (kall0)) (kallS (by kernel_rfl) (kallS (by kernel_rfl) (kall0)))) (d_c1 (k_off (lo := 0) (k := 1) (by kernel_rfl) (kallS (by kernel_rfl) (kall0)) (kallS (by kernel_rfl) (kallS (by kernel_rfl) (kall0)))) (d_c1 (k_off (lo := 0) (k := 1) (by kernel_rfl) (kallS (by kernel_rfl) (kall0)) (kallS (by kernel_rfl) (kallS (by kernel_rfl) (kall0)))) (d_vs [.v 0 1, .v 0 1] (d_c1 (k_off (lo := 0) (k := 1) (by kernel_rfl) (kallS (by kernel_rfl) (kall0)) (kallS (by kernel_rfl) (kallS (by kernel_rfl) (kall0)))) (d_c1 (k_off (lo := 0) (k := 1) (by kernel_rfl) (kallS (by kernel_rfl) (kall0)) (kallS (by kernel_rfl) (kallS (by kernel_rfl) (kall0)))) (d_c1 (k_off (lo := 0) (k := 1) (by kernel_rfl) (kallS (by kernel_rfl) (kall0)) (kallS (by kernel_rfl) (kallS (by kernel_rfl) (kall0)))) (d_c1 (k_off (lo := 0) (k := 1) (by kernel_rfl) (kallS (by kernel_rfl) (kall0)) (kallS (by kernel_rfl) (kallS (by kernel_rfl) (kall0)))) (d_c1 (k_off (lo := 0) (k := 1) (by kernel_rfl) (kallS (by kernel_rfl) (kall0)) (kallS (by kernel_rfl) (kallS (by kernel_rfl) (kall0)))) (d_c1 (k_off (lo := 0) (k := 1) (by kernel_rfl) (kallS (by kernel_rfl) (kall0)) (kallS (by kernel_rfl) (kallS (by kernel_rfl) (kall0)))) (d_c1 (k_off (lo := 0) (k := 1) (by kernel_rfl) (kallS (by kernel_rfl) (kall0)) (kallS (by kernel_rfl) (kallS (by kernel_rfl) (kall0)))) (d_c1 (k_off (lo := 0) (k := 1) (by kernel_rfl) (kallS (by kernel_rfl) (kall0)) (kallS (by kernel_rfl) (kallS (by kernel_rfl) (kall0)))) (d_vs [.v 0 1] (d_c1 (e_d 0) (d_nl))))))))))))))))))) ?_
     exact ve_arr 0 (g_law17_BlockWidths_j2_ok hK h)
   ·
    refine ve_dr 1 [(37, .int .i64 v9.1), (38, .int .i64 v10.1), (39, .bool (v9.1 == v10.1)), (40, .bool false), (41, .tup []), (42, .tup []), (43, .tup []), (44, .bool false), (45, .bool false), (46, .tup []), (47, .tup []), (48, .tup []), (49, .bool false), (50, .bool false), (51, .tup []), (52, .tup []), (53, .tup []), (54, .tup []), (55, .tup []), (56, .tup []), (57, .tup []), (58, .tup []), (59, .bool false)] [] [] [stp Try.prog 60 Try.f12 p12_8 23] (d_vs [.v 0 1, .v 0 1, .v 0 1] (d_c1 (k_v (lo := 0) (k := 1) (kallS ⟨(by kernel_rfl), (aop_boolc 40 (e := (v9.1 == v10.1)) (b := false) h11 (by kernel_rfl) (by kernel_rfl))⟩ (kall0))) (d_c1 (k_off (lo := 0) (k := 1) (by kernel_rfl) (kallS (by kernel_rfl) (kall0)) (kallS (by kernel_rfl) (kallS (by kernel_rfl) (kall0)))) (d_c1 (k_off (lo := 0) (k := 1) (by kernel_rfl) (kallS (by kernel_rfl) (kall0)) (kallS (by kernel_rfl) (kallS (by kernel_rfl) (kall0)))) (d_c1 (k_off (lo := 0) (k := 1) (by kernel_rfl) (kallS (by kernel_rfl) (kall0)) (kallS (by kernel_rfl) (kallS (by kernel_rfl) (kall0)))) (d_vs [.v 0 1, .v 0 1] (d_c1 (k_off (lo := 0) (k := 1) (by kernel_rfl) (kallS (by kernel_rfl) (kall0)) (kallS (by kernel_rfl) (kallS (by kernel_rfl) (kall0)))) (d_c1 (k_off (lo := 0) (k := 1) (by kernel_rfl) (kallS (by kernel_rfl) (kall0)) (kallS (by kernel_rfl) (kallS (by kernel_rfl) (kall0)))) (d_c1 (k_off (lo := 0) (k := 1) (by kernel_rfl) (kallS (by kernel_rfl) (kall0)) (kallS (by kernel_rfl) (kallS (by kernel_rfl) (kall0)))) (d_vs [.v 0 1, .v 0 1] (d_c1 (k_off (lo := 0) (k := 1) (by kernel_rfl) (kallS (by kernel_rfl) (kall0)) (kallS (by kernel_rfl) (kallS (by kernel_rfl) (kall0)))) (d_c1 (k_off (lo := 0) (k := 1) (by kernel_rfl) (kallS (by kernel_rfl) (kall0)) (kallS (by kernel_rfl) (kallS (by kernel_rfl) (kall0)))) (d_c1 (k_off (lo := 0) (k := 1) (by kernel_rfl) (kallS (by kernel_rfl) (kall0)) (kallS (by kernel_rfl) (kallS (by kernel_rfl) (kall0)))) (d_c1 (k_off (lo := 0) (k := 1) (by kernel_rfl) (kallS (by kernel_rfl) (kall0)) (kallS (by kernel_rfl) (kallS (by kernel_rfl) (kall0)))) (d_c1 (k_off (lo := 0) (k := 1) (by kernel_rfl) (kallS (by kernel_rfl) (kall0)) (kallS (by kernel_rfl) (kallS (by kernel_rfl) (kall0)))) (d_c1 (k_off (lo := 0) (k := 1) (by kernel_rfl) (kallS (by kernel_rfl) (kall0)) (kallS (by kernel_rfl) (kallS (by kernel_rfl) (kall0)))) (d_c1 (k_off (lo := 0) (k := 1) (by kernel_rfl) (kallS (by kernel_rfl) (kall0)) (kallS (by kernel_rfl) (kallS (by kernel_rfl) (kall0)))) (d_c1 (k_off (lo := 0) (k := 1) (by kernel_rfl) (kallS (by kernel_rfl) (kall0)) (kallS (by kernel_rfl) (kallS (by kernel_rfl) (kall0)))) (d_vs [.v 0 1] (d_c1 (e_d 0) (d_nl))))))))))))))))))))) ?_
    exact ve_arr 0 (g_law17_BlockWidths_j2_ok hK h)
theorem g_law17_BlockWidths_ok (hK : KnOk K) (h : g_law17_BlockWidths K n v1 v2 = some r) : ACalls Try.prog 12 [.sl (List.map eTKnapsackref17Spec v1), .int .i64 v2] (fun v _ => v = .bool r) := by
  refine acalls_intro (c := cat Try.f12 []) Try.func12 (by kernel_rfl) _ Try.ntmps12 (of_decide_eq_true (by kernel_rfl)) fun M w0 => ?_
  refine ve_cast (s' := ⟨[(0,.sl (List.map eTKnapsackref17Spec v1)),(1,.int .i64 v2)],[],[],[]⟩) (by kernel_rfl) ?_
  unfold g_law17_BlockWidths at h
  refine ve_un (ks' := [.c (cat Try.f12 [1, 0, 0]), .c (cat Try.f12 [1, 0, 1]), .c (cat Try.f12 [1, 1])]) 4 ?_
  refine ve_in 0 ?_
  obtain ⟨v3, h1, h⟩ := bind_some h
  refine ot_cl (g_law17_fit_ok hK h1) ?_
  refine ot_end ?_
  rcases ite_some h with ⟨h2, h⟩ | ⟨h2, h⟩
  ·
   refine ve_sb 12 h2 ?_
   refine ve_rt 5 ?_
   have hr := Option.some.inj h
   subst hr
   exact ve_d1
  ·
   refine ve_sb 12 h2 ?_
   refine ve_un (ks' := [.c (cat Try.f12 p12_9), .c (cat Try.f12 p12_1), .c (cat Try.f12 [1, 1, 1])]) 4 ?_
   refine ve_in 1 ?_
   obtain ⟨v4, h3, h⟩ := bind_some h
   refine ot_cl (g_ref17_Few_ok hK h3) ?_
   refine ot_go 4 2 ?_
   rcases ite_some h with ⟨h4, h⟩ | ⟨h4, h⟩
   ·
    refine ot_sb 16 h4 ?_
    refine ot_end ?_
    exact ve_arr 0 (g_law17_BlockWidths_j1_ok hK h)
   ·
    refine ot_sb 16 h4 ?_
    refine ot_go 5 1 ?_
    refine ot_sp (y_len eTKnapsackref17Spec v1) ?_
    refine ot_end ?_
    exact ve_arr 0 (g_law17_BlockWidths_j1_ok hK h)
end


noncomputable section
abbrev cx58 (M : Nat → Prop) (w0 : World) : Cx := ⟨Try.prog, 9, M, w0⟩
abbrev q58 (M : Nat → Prop) (w0 : World) (r : TBlockFragment) := bodyPost Try.prog Try.f58 (RetQ M w0 (fun v s => v = .agg (List.set (xTBlockFragment ({ r with Kids := [] } : TBlockFragment)) 66 (.ref 8)) ∧ look 8 s.r = some ⟨60, 67, List.map eTBlockFragment r.Kids⟩))
variable {K : Kn} {n : Nat} {M : Nat → Prop} {w0 : World} {r : TBlockFragment} {v1 : TBoxtreeBox} {v2 : Int} 
theorem g_law17_lay_ok (hK : KnOk K) (h : g_law17_lay K n v1 v2 = some r) : ACalls Try.prog 58 [.agg (xTBoxtreeBox v1), .int .i64 v2] (fun v s => v = .agg (List.set (xTBlockFragment ({ r with Kids := [] } : TBlockFragment)) 66 (.ref 8)) ∧ look 8 s.r = some ⟨60, 67, List.map eTBlockFragment r.Kids⟩) := by
  refine acalls_intro (c := cat Try.f58 []) Try.func58 (by kernel_rfl) _ Try.ntmps58 (of_decide_eq_true (by kernel_rfl)) fun M w0 => ?_
  refine ve_cast (s' := ⟨[(0,.agg (xTBoxtreeBox v1)),(1,.int .i64 v2)],[],[],[]⟩) (by kernel_rfl) ?_
  unfold g_law17_lay at h
  refine ve_un (ks' := [.c (cat Try.f58 [1, 0]), .c (cat Try.f58 [1, 1])]) 3 ?_
  refine ve_pk [1, 2, 4] [2, 4] [] ?_
  obtain ⟨v3, h1, h⟩ := bind_some h
  obtain ⟨v4, h2, h⟩ := bind_some h
  refine ve_dr 1 [(5, .agg (xTBoxtreeBox v1)), (6, .int .i64 v2), (7, .agg (eTBlockEnv v3)), (8, .agg (List.set (xTBlockFragment ({ v4 with Kids := [] } : TBlockFragment)) 66 (.ref 8)))] [] [(8, ⟨60, 67, List.map eTBlockFragment v4.Kids⟩)] [stp Try.prog 9 Try.f58 [1, 0] 4] (d_vs [.v 0 1, .v 0 1] (d_c1 (e_c 0 1 7 (g_law17_Env_ok hK h1)) (d_c1 (e_o 0 1 8 (g_block_Layout_ok hK h2) (one_agg (i := 66) (by kernel_rfl))) (d_c1 (e_d 0) (d_nl))))) ?_
  refine ve_rt 1 ?_
  have hr := Option.some.inj h
  subst hr
  exact ve_o1
end


noncomputable section
abbrev cx59 (M : Nat → Prop) (w0 : World) : Cx := ⟨Try.prog, 9, M, w0⟩
abbrev q59 (M : Nat → Prop) (w0 : World) (r : (Int × Int)) := bodyPost Try.prog Try.f59 (RetQ M w0 (fun v _ => v = .tup [.int .i64 r.1, .int .i64 r.2]))
variable {K : Kn} {n : Nat} {M : Nat → Prop} {w0 : World} {r : (Int × Int)} {v1 : TBoxtreeBox} 
theorem g_law17_spread_ok (hK : KnOk K) (h : g_law17_spread K n v1 = some r) : ACalls Try.prog 59 [.agg (xTBoxtreeBox v1)] (fun v _ => v = .tup [.int .i64 r.1, .int .i64 r.2]) := by
  refine acalls_intro (c := cat Try.f59 []) Try.func59 (by kernel_rfl) _ Try.ntmps59 (of_decide_eq_true (by kernel_rfl)) fun M w0 => ?_
  refine ve_cast (s' := ⟨[(0,.agg (xTBoxtreeBox v1))],[],[],[]⟩) (by kernel_rfl) ?_
  unfold g_law17_spread at h
  refine ve_un (ks' := [.c (cat Try.f59 [1, 0]), .c (cat Try.f59 [1, 1])]) 3 ?_
  refine ve_pk [1] [1] [] ?_
  obtain ⟨v2, h1, h⟩ := bind_some h
  obtain ⟨v3, h2, h⟩ := bind_some h
  refine ve_dr 2 [(4, .agg (xTBoxtreeBox v1)), (5, .agg (eTBlockEnv v2)), (6, .tup [.int .i64 v3.1, .int .i64 v3.2]), (7, .int .i64 v3.1), (8, .int .i64 v3.2)] [] [] [stp Try.prog 9 Try.f59 [1, 0] 5, stp Try.prog 9 Try.f59 [1, 0] 6] (d_vs [.v 0 1] (d_c1 (e_c 0 1 5 (g_law17_Env_ok hK h1)) (d_c1 (e_c 0 1 6 (g_block_Widths_ok hK h2)) (d_vs [.v 0 1, .v 0 1] (d_c1 (e_d 0) (d_c1 (e_d 1) (d_nl))))))) ?_
  refine ve_rt 1 ?_
  have hr := Option.some.inj h
  subst hr
  exact ve_dt
end
end Go.Proofs.Ytkciiamllegclaa
