/- BlockMargins: collapsing margins is commutative, associative and idempotent, the empty margin is neutral, a margin of one number has its size. -/
import Derived.Test.YtkciiamllegclaaFit
import Derived.Test.YtkciiamllegclaaLate
import Derived.Deep.DeepCutAuto
namespace Go.Proofs.Ytkciiamllegclaa
open Go.ChangeShapes Go.WideShapes Go.ChangeAt Go.RowKit
attribute [local go_sem ↓ high] run_max_i run_min_i
set_option maxHeartbeats 4000000 in
set_option maxRecDepth 100000 in
theorem margins_c (a0 a1 b0 b1 c0 c1 n : Int) (w : World) (hn : -9223372036854775808 ≤ n ∧ n ≤ 9223372036854775807) :
    Calls Try.prog 3 #[.agg #[.int .i64 a0, .int .i64 a1, .int .i64 b0, .int .i64 b1, .int .i64 c0, .int .i64 c1], .int .i64 n] w fun e w' => e = .returned (.bool true) ∧ Below w.heap.size w w' := by
  go_enter Try.func3, Try.ntmps3
  go_wp2_with fail
  refine (fit_c _).mono ?_
  rintro e w1 ⟨rfl, hb1⟩
  have A1 := Lib.hid ((Blk.new w 24 #[.int .i64 a0, .int .i64 a1, .int .i64 b0, .int .i64 b1, .int .i64 c0, .int .i64 c1]).below' hb1)
  have T1 := Lib.hid ((bl1 _ _).trans (hb1.mono (by simp)))
  have lA := A1.out.lt
  have lA1 : w.heap.size < w1.heap.size + 1 := by omega
  have lA2 : w.heap.size < w1.heap.size + 1 + 1 := by omega
  have cA := A1.out.cell
  clear hb1
  go_upto_region 3 with (fail)
  go_cut [5, 6, 7] (fun s5 s6 s7 wx => ∃ g5 g6 g7 : Nat, s5 = .pointer (some ⟨g5, 0, none⟩) ∧ s6 = .pointer (some ⟨g6, 0, none⟩) ∧ s7 = .pointer (some ⟨g7, 0, none⟩) ∧ Hid (Blk wx g5 23 #[.int .i64 a0, .int .i64 a1]) ∧ Hid (Blk wx g6 23 #[.int .i64 b0, .int .i64 b1]) ∧ Hid (Blk wx g7 23 #[.int .i64 c0, .int .i64 c1]) ∧ Hid (Below w.heap.size w wx))
  case first =>
    go_region
    all_goals (go_wp2_with fail; go_meet; exact ⟨_, _, _, rfl, rfl, rfl, Lib.hid (by first | exact (nb3_1 w1 _ _ rfl).drew | exact (nb3_2 w1 _ _ rfl).drew | exact (nb3_3 w1 _ _ rfl).drew), Lib.hid (by first | exact (nb3_1 w1 _ _ rfl).drew | exact (nb3_2 w1 _ _ rfl).drew | exact (nb3_3 w1 _ _ rfl).drew), Lib.hid (by first | exact (nb3_1 w1 _ _ rfl).drew | exact (nb3_2 w1 _ _ rfl).drew | exact (nb3_3 w1 _ _ rfl).drew), Lib.hid ((((T1.out.alloc (by omega) _).alloc (by simp; omega) _).alloc (by simp; omega) _).drew)⟩)
  case rest =>
    obtain ⟨g5, g6, g7, rfl, rfl, rfl, hA, hB, hC, hT⟩ := hcut
    have m1 : max b0 a0 = max a0 b0 := Int.max_comm _ _
    have m2 : min b1 a1 = min a1 b1 := Int.min_comm _ _
    go_wp2_with fail
    have cA := Late.cells hA.out
    have cB := Late.cells hB.out
    have cC := Late.cells hC.out
    refine wp_region_late (by kernel_rfl) (by kernel_rfl) ?_
    repeat (go_big_quiet_step ((first | (go_at_call 14; exact late_of (collapse_c _ _ _ _ _)) | (go_at_call 15; exact late_of (join_c _ _ _ _ _)) | (go_at_call 16; exact late_of (msum_c _ _ _)) | (go_at_call 18; exact late_of (rof_c _ _)))))
    refine wpQuiet_nil ?_
    intro x
    obtain ⟨w2, hw2⟩ := x
    dsimp only
    have hA2 := Lib.hid (hA.out.below' hw2)
    have hB2 := Lib.hid (hB.out.below' hw2)
    have T2 := Lib.hid (hT.out.trans (hw2.mono hT.out.size))
    clear cA cB cC hw2
    go_wp2_with fail
    have cA := Late.cells hA2.out
    have cB := Late.cells hB2.out
    refine wp_region_late (by kernel_rfl) (by kernel_rfl) ?_
    repeat (go_big_quiet_step ((first | (go_at_call 14; exact late_of (collapse_c _ _ _ _ _)) | (go_at_call 15; exact late_of (join_c _ _ _ _ _)) | (go_at_call 16; exact late_of (msum_c _ _ _)) | (go_at_call 18; exact late_of (rof_c _ _)))))
    refine wpQuiet_nil ?_
    intro x
    obtain ⟨w3, hw3⟩ := x
    dsimp only
    have T3 := Lib.hid (T2.out.trans (hw3.mono T2.out.size))
    clear cA cB hw3
    go_wp2_with fail
    refine (of_c _ _).mono ?_
    rintro e w4 ⟨rfl, hb4⟩
    have T4 := Lib.hid (T3.out.trans (hb4.mono T3.out.size))
    have z4 := T4.out.size
    clear hb4
    have hsum : wrap64 (max n 0 + min n 0) = n := by rw [show max n 0 + min n 0 = n by omega]; exact IntWalk.wrap64_in _ hn
    go_wp2_with fail
    have cO := Late.cells (Blk.new w4 23 #[.int .i64 (max n 0), .int .i64 (min n 0)])
    have T5 := Lib.hid (T4.out.alloc z4 (.cells #[.int .i64 (max n 0), .int .i64 (min n 0)] 23))
    refine wp_region_late (by kernel_rfl) (by kernel_rfl) ?_
    repeat (go_big_quiet_step ((first | (go_at_call 14; exact late_of (collapse_c _ _ _ _ _)) | (go_at_call 15; exact late_of (join_c _ _ _ _ _)) | (go_at_call 16; exact late_of (msum_c _ _ _)) | (go_at_call 18; exact late_of (rof_c _ _)))))
    refine wpQuiet_nil ?_
    intro x
    obtain ⟨w6, hw6⟩ := x
    dsimp only
    have T6 := Lib.hid (T5.out.trans (hw6.mono T5.out.size))
    clear cO hw6
    go_wp2_with fail
    go_ret
    exact ⟨rfl, T6.out⟩
end Go.Proofs.Ytkciiamllegclaa
