/- BlockSizes, plain: true of every description and width. -/
import Derived.Test.YtkciiamllegclaaSzQSize
import Derived.Test.YtkciiamllegclaaSzGop
namespace Go.Proofs.Ytkciiamllegclaa.QBlockSizes
set_option linter.all false
open Go.RowKit
theorem fit_true (K : Kn) (n : Nat) : g_law17_fit K (n + 5) = some true := by kernel_rfl
theorem holds (x0 : TKnapsackref17Spec) (x1 : Int) (x2 : Int) (h0 : HasT Try.prog 37 (eTKnapsackref17Spec x0)) (h1 : HasT Try.prog 3 ((eInt .i64) x1)) (h2 : HasT Try.prog 3 ((eInt .i64) x2)) : ∃ n, g_law17_BlockSizes (KN n) n x0 x1 x2 = some true := by
  refine ⟨0 + 5, ?_⟩
  obtain ⟨b, hb, _⟩ := few_tot (KN (0 + 5)) (0 + 5) [x0] 1 (by simp) (by simp)
  unfold g_law17_BlockSizes
  simp only [fit_true, hb, Option.bind_some, Bool.not_true, Bool.false_eq_true, if_false]
  have key : ∀ b, g_law17_BlockSizes_j1 (KN (0 + 5)) (0 + 5) x0 x1 x2 b = some true := by
    intro b
    unfold g_law17_BlockSizes_j1
    simp only [len_def, rlen_def, clamp_def, rclamp_def, edges_def, redges_def, sum_def, rsum_def, used_def, rused_def, g_law17_BlockSizes_j2, g_law17_BlockSizes_j3, Option.bind_some, qSizes_refl]
    cases b <;> simp
  cases b
  · simp only [Bool.not_false, if_true]; exact key _
  · simp only [Bool.not_true, Bool.false_eq_true, if_false]
    split <;> exact key _
end Go.Proofs.Ytkciiamllegclaa.QBlockSizes
