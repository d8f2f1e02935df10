/- BlockWithin, plain: true of every list that can be handed in. -/
import Derived.Test.YtkciiamllegclaaSwQTree
import Derived.Test.YtkciiamllegclaaSwGop
namespace Go.Proofs.Ytkciiamllegclaa.QBlockWithin
set_option linter.all false
open Go.RowKit
theorem rwithin_ok (d N : Nat) (b : TBoxtreeBox) (z : TBlockSizes) (hg : GoodB (d + 1) b) (hN : d + 25 ≤ N) : ∃ f, g_block_Within (KN (N + 1)) (N + 1) b z ⟨58, 59, 60, 61⟩ = some f ∧ g_ref17_Within (KN (N + 1)) (N + 1) b z = some f ∧ Fd (d + 2) f ∧ f.Empty = false ∧ f.Before = ofM z.Margin.a0 ∧ f.After = ofM z.Margin.a2 := by
  obtain ⟨f, h1, h2, h3, h4⟩ := core d N b z false hg (by omega) ⟨58, 59, 60, 61⟩ ⟨rfl, rfl⟩ (fun k hk => by
    obtain ⟨f, h1, h2, h3⟩ := lay_eq d N k z.Content hk (by omega)
    refine ⟨f, ?_, h2, h3⟩
    show g_law17_lay (KN N) N k z.Content = some f
    unfold g_law17_lay g_law17_Env
    simp only [Option.bind_some, h1])
  refine ⟨f, ?_, ?_, h3, (h4 rfl).1, (h4 rfl).2.1, (h4 rfl).2.2⟩
  · unfold g_block_Within
    simp only [aboveM, belowM, Bool.false_and] at h1
    rw [h1]; rfl
  · unfold g_ref17_Within
    rw [h2]; rfl
theorem blockWithin (L : List TKnapsackref17Spec) (w c : Int) (hL : (L.length : Int) ≤ 9223372036854775807) : ∃ n, g_law17_BlockWithin (KN n) n L w c = some true := by
  refine ⟨(L.length + 95) + 5, ?_⟩
  generalize hn : (L.length + 95) = N at *
  obtain ⟨v, hv, hv2⟩ := few_tot (KN (N + 5)) (N + 5) L 20 hL (by omega)
  unfold g_law17_BlockWithin
  simp only [fit_true, Option.bind_some, Bool.not_true, Bool.false_eq_true, if_false, hv, g_law17_BlockWithin_j1]
  cases v with
  | false => simp
  | true =>
    have h20 := (hv2 rfl).1
    simp only [Bool.not_true, Bool.false_eq_true, if_false]
    cases h0 : ((L.length : Int) == 0) with
    | true => simp
    | false =>
      have h0' : L.length ≠ 0 := by simpa using h0
      obtain ⟨b, i', e1, e2, e3, e4, e5⟩ := tree_ok 20 (N + 5) L 0 (by omega) (by omega) (by omega) (by omega)
      obtain ⟨f, f1, f2, f3, f4, f5, f6⟩ := rwithin_ok 19 (N + 4) b (edgesM b.Style w (limM c)) e4 (by omega)
      simp only [Bool.false_eq_true, if_false]
      rw [show g_ref17_Tree (KN (N + 5)) (N + 5) L 0 = _ from e1]
      simp only [Option.bind_some, g_law17_Env, rwidth_def, redges_def]
      rw [show g_block_Within (KN (N + 5)) (N + 5) b (edgesM b.Style w (limM c)) ⟨58, 59, 60, 61⟩ = _ from f1, show g_ref17_Within (KN (N + 5)) (N + 5) b (edgesM b.Style w (limM c)) = _ from f2]
      simp only [Option.bind_some, same_self 21 (N + 5) (N + 5) f f3 (by omega) (by omega) (by omega), if_true, f4, Bool.not_false, g_block_Of, f5, f6, g_law17_BlockWithin_j2]
      simp [ofM, qTBlockMargin]
theorem holds (x0 : (List TKnapsackref17Spec)) (x1 : Int) (x2 : Int) (h0 : HasT Try.prog 39 ((eSl eTKnapsackref17Spec) x0)) (h1 : HasT Try.prog 3 ((eInt .i64) x1)) (h2 : HasT Try.prog 3 ((eInt .i64) x2)) : ∃ n, g_law17_BlockWithin (KN n) n x0 x1 x2 = some true := by
  obtain ⟨l, hl, hm, _⟩ := h0.sl_inv Try.underlying39
  simp only [eSl, List.cons.injEq, AV.sl.injEq, and_true] at hl
  have hlen : l.length = x0.length := by rw [← hl, List.length_map]
  have hm' : l.length ≤ 9223372036854775807 := hm
  exact blockWithin x0 x1 x2 (by omega)
end Go.Proofs.Ytkciiamllegclaa.QBlockWithin
