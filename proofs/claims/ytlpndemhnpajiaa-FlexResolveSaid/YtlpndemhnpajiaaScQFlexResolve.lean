/- FlexResolve, plain: true of all items and every space. -/
import Derived.Test.YtlpndemhnpajiaaScQResD
import Derived.Test.YtlpndemhnpajiaaScGop
namespace Go.Proofs.Ytlpndemhnpajiaa.QFlexResolve
set_option linter.all false
open Go.RowKit
open QSort (wn chk_inb iteT iteF sb)
theorem holds (x0 : (List TFlexItem)) (x1 : Int) (h0 : HasT Try.prog 28 ((eSl eTFlexItem) x0)) (h1 : HasT Try.prog 3 ((eInt .i64) x1)) : ∃ n, g_law19_FlexResolve (KN n) n x0 x1 = some true := by
  refine ⟨20010, ?_⟩
  unfold g_law19_FlexResolve
  rw [fit_ok' (by omega)]
  simp only [Option.bind_some, Bool.not_true, Bool.false_eq_true, if_false, g_law19_few, g_law19_few_j1]
  by_cases hc : (x0.length : Int) ≤ 30
  · rw [iteT hc]
    by_cases h2 : x1 ≤ 1099511627776
    · rw [iteT h2]
      by_cases h3 : x1 ≥ -1099511627776
      · simp only [sb, h3, decide_true, Bool.not_true, Bool.false_eq_true, if_false]
        rw [Rs.flex_ok x0 (by omega) (by omega) (by omega) (by omega), Rs.ref_ok x0 (by omega) (by omega) (by omega), sb, sb, equal_self _ _ (by rw [Rs.resolve_len]; omega) (by rw [Rs.resolve_len]; omega)]
        rfl
      · simp only [sb, h3, decide_false, Bool.not_false, if_true]
    · rw [iteF h2]; rfl
  · rw [iteF hc]; rfl
end Go.Proofs.Ytlpndemhnpajiaa.QFlexResolve
