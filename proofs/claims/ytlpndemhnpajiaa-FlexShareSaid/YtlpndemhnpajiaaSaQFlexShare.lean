/- FlexShare, plain: true of every number and every list of weights. -/
import Derived.Test.YtlpndemhnpajiaaSaQShareB
import Derived.Test.YtlpndemhnpajiaaSaGop
namespace Go.Proofs.Ytlpndemhnpajiaa.QFlexShare
set_option linter.all false
open Go.RowKit
theorem holds (x0 : Int) (x1 : (List Int)) (h0 : HasT Try.prog 3 ((eInt .i64) x0)) (h1 : HasT Try.prog 22 ((eSl (eInt .i64)) x1)) : ∃ n, g_law19_FlexShare (KN n) n x0 x1 = some true := by
  refine ⟨20010, ?_⟩
  unfold g_law19_FlexShare
  rw [fit_ok' (by omega)]
  simp only [Option.bind_some, Bool.not_true, Bool.false_eq_true, if_false]
  by_cases hc : (x1.length : Int) > 100
  · rw [QSort.iteT hc]
  · rw [QSort.iteF hc, Sh.flex_ok x0 x1 (by omega) (by omega) (by omega), Sh.ref_ok x0 x1 (by omega) (by omega)]
    simp only [Option.bind_some]
    have hl : (Sh.share (Sh.lim x0 Sh.mx) (Sh.wts x1)).length = x1.length := by rw [Sh.share_len, Sh.wts_len]
    rw [equal_self _ _ (by omega) (by omega)]
    rfl
end Go.Proofs.Ytlpndemhnpajiaa.QFlexShare
