/- BlockLayouts, plain: true of every list that can be handed in. -/
import Derived.Test.YtkciiamllegclaaSlQTree
import Derived.Test.YtkciiamllegclaaSlGop
namespace Go.Proofs.Ytkciiamllegclaa.QBlockLayouts
set_option linter.all false
open Go.RowKit
theorem blockLayouts (L : List TKnapsackref17Spec) (w : Int) (hL : (L.length : Int) ≤ 9223372036854775807) : ∃ n, g_law17_BlockLayouts (KN n) n L w = some true := by
  refine ⟨(L.length + 95) + 5, ?_⟩
  generalize hn : (L.length + 95) = N at *
  obtain ⟨v, hv, hv2⟩ := few_tot (KN (N + 5)) (N + 5) L 20 hL (by omega)
  unfold g_law17_BlockLayouts
  simp only [fit_true, Option.bind_some, Bool.not_true, Bool.false_eq_true, if_false, hv, g_law17_BlockLayouts_j1]
  cases v with
  | false => simp
  | true =>
    have h20 := (hv2 rfl).1
    simp only [Bool.not_true, Bool.false_eq_true, if_false]
    cases h0 : ((L.length : Int) == 0) with
    | true => simp
    | false =>
      have h0' : L.length ≠ 0 := by simpa using h0
      obtain ⟨b, i', e1, e2, e3, e4, e5⟩ := tree_ok 20 (N + 5) L 0 (by omega) (by omega) (by omega) (by omega)
      obtain ⟨f, f1, f2, f3⟩ := lay_eq 20 (N + 5) b w e4 (by omega)
      simp only [Bool.false_eq_true, if_false]
      rw [show g_ref17_Tree (KN (N + 5)) (N + 5) L 0 = _ from e1]
      simp only [Option.bind_some, g_law17_Env, f1, f2, same_self 21 (N + 5) (N + 5) f f3 (by omega) (by omega) (by omega)]
theorem holds (x0 : (List TKnapsackref17Spec)) (x1 : Int) (h0 : HasT Try.prog 39 ((eSl eTKnapsackref17Spec) x0)) (h1 : HasT Try.prog 3 ((eInt .i64) x1)) : ∃ n, g_law17_BlockLayouts (KN n) n x0 x1 = some true := by
  obtain ⟨l, hl, hm, _⟩ := h0.sl_inv Try.underlying39
  simp only [eSl, List.cons.injEq, AV.sl.injEq, and_true] at hl
  have hlen : l.length = x0.length := by rw [← hl, List.length_map]
  have hm' : l.length ≤ 9223372036854775807 := hm
  exact blockLayouts x0 x1 (by omega)
end Go.Proofs.Ytkciiamllegclaa.QBlockLayouts
