/- FlexWidths, plain: true of every list of descriptions. -/
import Derived.Test.YtlpndemhnpajiaaSmQFw
import Derived.Test.YtlpndemhnpajiaaSmGop
namespace Go.Proofs.Ytlpndemhnpajiaa.QFlexWidths
set_option linter.all false
open Go.RowKit
open QSort (wn chk_inb iteT iteF iteB iteC sb)
theorem holds (x0 : (List TKnapsackref17Spec)) (h0 : HasT Try.prog 40 ((eSl eTKnapsackref17Spec) x0)) : ∃ n, g_law19_FlexWidths (KN n) n x0 = some true := by
  obtain ⟨l, hl, hm, _⟩ := h0.sl_inv Try.underlying40
  simp only [eSl, List.cons.injEq, AV.sl.injEq, and_true] at hl
  have hlen : l.length = x0.length := by rw [← hl, List.length_map]
  have hm' : l.length ≤ 9223372036854775807 := hm
  refine ⟨x0.length + 20010, ?_⟩
  generalize hN : x0.length + 20010 = N
  have hN1 : 20010 ≤ N := by omega
  have hN2 : x0.length < N := by omega
  unfold g_law19_FlexWidths
  rw [fit_ok' (by omega)]
  simp only [Option.bind_some, Bool.not_true, Bool.false_eq_true, if_false]
  obtain ⟨v, hv, hv2⟩ := fits_tot (KN N) N x0 (by omega) hN2
  rw [hv, sb]
  cases v with
  | false => rfl
  | true =>
    obtain ⟨b, hb, hB⟩ := box_ok N x0 (hv2 rfl) (by omega)
    obtain ⟨p, p1, p2⟩ := Fw.widths_ok hB hN1
    simp only [Bool.not_true, Bool.false_eq_true, if_false]
    rw [hb, sb]
    unfold g_law17_Env
    rw [sb, show (⟨(Fv.fn 54), (Fv.fn 55), (Fv.fn 56), (Fv.fn 57)⟩ : TBlockEnv) = Wd.E1 from rfl, p1, sb, sb, p2, sb]
    simp [g_law19_FlexWidths_j1]
end Go.Proofs.Ytlpndemhnpajiaa.QFlexWidths
