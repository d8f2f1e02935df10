/- Layer 17, plain: the program's layout of a tree of boxes is the reference's. No program in sight. -/
import Derived.Test.YtlpndemhnpajiaaSkQLayA
namespace Go.Proofs.Ytlpndemhnpajiaa
set_option linter.all false
open Go.RowKit
def GoodB : Nat → TBoxtreeBox → Prop
  | 0, _ => False
  | d + 1, b => b.Kids.length ≤ 20 ∧ ((∀ k ∈ b.Kids, k.Kind = 1 ∧ GoodB d k) ∨ ∀ k ∈ b.Kids, k.Kind = 3)
end Go.Proofs.Ytlpndemhnpajiaa
