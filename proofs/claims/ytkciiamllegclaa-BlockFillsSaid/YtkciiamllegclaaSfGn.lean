/- The knots hold. Made by a program. -/
import Derived.Test.YtkciiamllegclaaSfP2
namespace Go.Proofs.Ytkciiamllegclaa
open Go.RowKit
set_option maxRecDepth 20000
set_option linter.all false
set_option linter.unusedVariables false
set_option linter.unusedSimpArgs false

theorem KN_ok : ∀ n, KnOk (KN n)
  | 0 => ⟨trivial⟩
  | n + 1 => by
    have hK := KN_ok n
    refine ⟨trivial⟩
end Go.Proofs.Ytkciiamllegclaa
