/- Layer 19: the fixed example, equal lists, sums. No program in sight. -/
import Derived.Test.YtlpndemhnpajiaaSkQb
namespace Go.Proofs.Ytlpndemhnpajiaa
set_option linter.all false
open Go.RowKit
set_option maxRecDepth 20000
theorem fit_ok (k : Nat) : g_law19_fit (KN (k + 12)) (k + 12) = some true := by kernel_rfl
theorem fit_ok' {n : Nat} (h : 12 ≤ n) : g_law19_fit (KN n) n = some true := by
  obtain ⟨k, rfl⟩ : ∃ k, n = k + 12 := ⟨n - 12, by omega⟩
  exact fit_ok k
theorem w64_suc {i b : Nat} (h : i < b) (hb : b ≤ 4611686018427387904) : w64 ((i : Int) + 1) = ((i + 1 : Nat) : Int) := by rw [w64_id (by omega) (by omega)]; omega
theorem tnat (i : Nat) : ((i : Int)).toNat = i := by omega
theorem equal_loop (K : Kn) (n : Nat) (L : List Int) (hL : L.length ≤ 4611686018427387904) : ∀ (m i : Nat), i ≤ L.length → L.length < m + i → g_law19_equal_l1 K n L L m i = some true := by
  intro m
  induction m with
  | zero => intro i h1 h2; omega
  | succ m ih =>
    intro i h1 h2
    simp only [g_law19_equal_l1, g_law19_equal_l1_b]
    by_cases hi : i < L.length
    · have hlt : (i : Int) < (L.length : Int) := by omega
      have hne : ((List.getD L i default) != (List.getD L i default)) = false := by simp
      simp only [hlt, decide_true, if_true, inb_of (by omega) hlt, chk_true, Option.bind_some, tnat, hne, Bool.false_eq_true, if_false, w64_suc hi hL]
      exact ih (i + 1) (by omega) (by omega)
    · have hd : decide ((i : Int) < (L.length : Int)) = false := by simp; omega
      simp only [hd, Bool.false_eq_true, if_false]
theorem equal_self (K : Kn) {n : Nat} (L : List Int) (hn : L.length < n) (hL : L.length ≤ 4611686018427387904) : g_law19_equal K n L L = some true := by
  unfold g_law19_equal
  have : ((L.length : Int) != (L.length : Int)) = false := by simp
  simp only [this, Bool.false_eq_true, if_false]
  exact equal_loop K n L hL n 0 (by omega) (by omega)
end Go.Proofs.Ytlpndemhnpajiaa
