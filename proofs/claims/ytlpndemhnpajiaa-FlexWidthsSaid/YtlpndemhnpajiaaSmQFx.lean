/- Layer 19: the fixed example, equal lists, sums. No program in sight. -/
import Derived.Test.YtlpndemhnpajiaaSmQb
namespace Go.Proofs.Ytlpndemhnpajiaa
set_option linter.all false
open Go.RowKit
set_option maxRecDepth 20000
theorem fit_ok (k : Nat) : g_law19_fit (KN (k + 12)) (k + 12) = some true := by kernel_rfl
theorem fit_ok' {n : Nat} (h : 12 ≤ n) : g_law19_fit (KN n) n = some true := by
  obtain ⟨k, rfl⟩ : ∃ k, n = k + 12 := ⟨n - 12, by omega⟩
  exact fit_ok k
theorem tnat (i : Nat) : ((i : Int)).toNat = i := by omega
end Go.Proofs.Ytlpndemhnpajiaa
