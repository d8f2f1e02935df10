/- Layer 17: Clamp, Edges, Sum, Used of the program and of the reference: each returns what its plain function says. -/
import Derived.Test.YtkciiamllegclaaScal
import Derived.Deep.LoopGhost
namespace Go.Proofs.Ytkciiamllegclaa
open Go.ChangeShapes Go.WideShapes Go.ChangeAt Go.RowKit
attribute [local go_sem ↓ high] run_max_i run_min_i

/-- A style's cells. -/
abbrev Sty (cs : Array Value) : Prop := Flat styleKinds cs
theorem Sty.i {cs : Array Value} (h : Sty cs) (i : Nat) (hk : styleKinds[i]? = some (.int .i64) := by rfl) : cs[i]? = some (.int .i64 (gi cs i)) := Flat.int h i hk

theorem clamp_c (cs : Array Value) (width content : Int) (w : World) (hs : Sty cs) :
    Calls Try.prog 22 #[.agg cs, .int .i64 width, .int .i64 content] w fun e w' => e = .returned (.int .i64 (clampM cs width content)) ∧ Below w.heap.size w w' := by
  have h10 := hs.i 10
  have h11 := hs.i 11
  have h12 := hs.i 12
  have h13 := hs.i 13
  go_enter Try.func22, Try.ntmps22
  go_wp2_with fail
  refine (len_c _ _ _ _).mono ?_
  rintro e w1 ⟨rfl, hb1⟩
  obtain ⟨hc1, hf1⟩ := bcell hb1
  have hz1 := hb1.size
  have H1 := Lib.hid hb1
  clear hb1
  simp at hc1 hf1 hz1
  go_wp2_with fail
  all_goals
    refine (len_c _ _ _ _).mono ?_
    rintro e w2 ⟨rfl, hb2⟩
    have H2 := Lib.hid hb2
    clear hb2
    go_wp2_with fail
  all_goals
    go_ret
    clear hc1 hf1
    refine ⟨ret_int ?_, (bl1 _ _).trans ((H1.out.mono (by simp)).trans (H2.out.mono (by omega)))⟩
    unfold clampM
    simp only [*, if_true, if_false, Bool.false_eq_true] <;> omega
theorem rclamp_c (cs : Array Value) (width content : Int) (w : World) (hs : Sty cs) :
    Calls Try.prog 23 #[.agg cs, .int .i64 width, .int .i64 content] w fun e w' => e = .returned (.int .i64 (clampM cs width content)) ∧ Below w.heap.size w w' := by
  have h10 := hs.i 10
  have h11 := hs.i 11
  have h12 := hs.i 12
  have h13 := hs.i 13
  go_enter Try.func23, Try.ntmps23
  go_wp2_with fail
  refine (rlen_c _ _ _ _).mono ?_
  rintro e w1 ⟨rfl, hb1⟩
  obtain ⟨hc1, hf1⟩ := bcell hb1
  have hz1 := hb1.size
  have H1 := Lib.hid hb1
  clear hb1
  simp at hc1 hf1 hz1
  go_wp2_with fail
  all_goals
    refine (rlen_c _ _ _ _).mono ?_
    rintro e w2 ⟨rfl, hb2⟩
    have H2 := Lib.hid hb2
    clear hb2
    go_wp2_with fail
  all_goals
    go_ret
    clear hc1 hf1
    refine ⟨ret_int ?_, (bl1 _ _).trans ((H1.out.mono (by simp)).trans (H2.out.mono (by omega)))⟩
    unfold clampM
    simp only [*, if_true, if_false, Bool.false_eq_true] <;> omega
theorem zsum_c (z : Sz) (hz : z.Small) (w : World) :
    Calls Try.prog 26 #[.agg z.cells] w fun e w' => e = .returned (.int .i64 z.sum) ∧ Below w.heap.size w w' := by
  have hb := hz.c
  have hb1 := hz.m1
  have hb2 := hz.m3
  have hb3 := hz.b1
  have hb4 := hz.b3
  have hb5 := hz.p1
  have hb6 := hz.p3
  go_enter Try.func26, Try.ntmps26
  go_wp2
  go_ret
  exact ⟨rfl, bl1 _ _⟩
theorem rsum_c (z : Sz) (hz : z.Small) (w : World) :
    Calls Try.prog 27 #[.agg z.cells] w fun e w' => e = .returned (.int .i64 z.sum) ∧ Below w.heap.size w w' := by
  have hb := hz.c
  have hb1 := hz.m1
  have hb2 := hz.m3
  have hb3 := hz.b1
  have hb4 := hz.b3
  have hb5 := hz.p1
  have hb6 := hz.p3
  go_enter Try.func27, Try.ntmps27
  go_wp2
  go_ret
  exact ⟨rfl, bl1 _ _⟩
end Go.Proofs.Ytkciiamllegclaa
