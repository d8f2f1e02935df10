/- Layouts and widths of blocks do not depend on how deep one looks. No program in sight. -/
import Derived.Test.YtlpndemhnpajiaaSmQWidB
import Derived.Test.YtlpndemhnpajiaaSmGm
namespace Go.Proofs.Ytlpndemhnpajiaa
set_option linter.all false
open Go.RowKit
open Wd (E1)
theorem wid_ind (d : Nat) (b : TBoxtreeBox) (hg : GoodB d b) (ht : TB d b) : ∃ p, (∀ N, d + 25 ≤ N → g_block_Widths (KN N) N b E1 = some p ∧ g_ref17_Widths (KN N) N b = some p) ∧ p.1 ≤ p.2 ∧ -7340032 ≤ p.1 ∧ p.2 ≤ 7340032 := by
  obtain ⟨x, y, hc⟩ := Wd.widths_eq d (d + 25) b hg ht (Nat.le_refl _)
  obtain ⟨p, p1, p2, p3⟩ := Wd.frame_def (d + 25) b x y hc
  refine ⟨p, fun N hN => ⟨?_, ?_⟩, p3⟩
  · exact m_g_block_Widths (KN_mono _ _ hN) hN b E1 p p1
  · exact m_g_ref17_Widths (KN_mono _ _ hN) hN b p p2
theorem env_wid {d N : Nat} {b : TBoxtreeBox} {p : Int × Int} (h : ∀ N, d + 25 ≤ N → g_block_Widths (KN N) N b E1 = some p ∧ g_ref17_Widths (KN N) N b = some p) (hN : d + 26 ≤ N) : (KN N).d_TBoxtreeBox__IntInt (Fv.fn 55) b = some p := by
  obtain ⟨M, rfl⟩ : ∃ M, N = M + 1 := ⟨N - 1, by omega⟩
  show g_law17_spread (KN M) M b = some p
  unfold g_law17_spread g_law17_Env
  simp only [Option.bind_some]
  rw [show (⟨(Fv.fn 54), (Fv.fn 55), (Fv.fn 56), (Fv.fn 57)⟩ : TBlockEnv) = E1 from rfl, (h M (by omega)).1]; rfl
end Go.Proofs.Ytlpndemhnpajiaa
