/- Layer 17, plain: the program's layout of a tree of boxes is the reference's. No program in sight. -/
import Derived.Test.YtlpndemhnpajiaaSmQLayA
namespace Go.Proofs.Ytlpndemhnpajiaa
set_option linter.all false
open Go.RowKit
theorem w64_eq {a b : Int} (h : a % 18446744073709551616 = b % 18446744073709551616) : w64 a = w64 b := by
  unfold w64; rw [IntKind.wrap_i64, IntKind.wrap_i64]; omega
theorem w64_mod (a : Int) : w64 a % 18446744073709551616 = a % 18446744073709551616 := by
  unfold w64; rw [IntKind.wrap_i64]; omega
section
variable (K : Kn) (n : Nat) (hn : 20 < n) (b : TBoxtreeBox) (z : TBlockSizes) (L : List TBlockFragment) (hl : L.length ≤ 20)
include hn hl
def pixM (l : TCascadeLength) : Int × Bool := if l.Kind = 1 then (max (min (max l.Value (-1048576)) 1048576) 0, true) else (0, false)
omit hn hl in
theorem pix_def (l : TCascadeLength) : g_ref17_pixels K n l = some (pixM l) := by
  unfold g_ref17_pixels pixM
  by_cases h : l.Kind = 1 <;> simp [h, g_ref17_limit]
end
def GoodB : Nat → TBoxtreeBox → Prop
  | 0, _ => False
  | d + 1, b => b.Kids.length ≤ 20 ∧ ((∀ k ∈ b.Kids, k.Kind = 1 ∧ GoodB d k) ∨ ∀ k ∈ b.Kids, k.Kind = 3)
theorem lenM_bd (l : TCascadeLength) (b : Int) : -1048576 ≤ (lenM l b).1 ∧ (lenM l b).1 ≤ 1048576 := by
  unfold lenM; split
  · simp only []; omega
  · split <;> simp only [] <;> omega
end Go.Proofs.Ytlpndemhnpajiaa
