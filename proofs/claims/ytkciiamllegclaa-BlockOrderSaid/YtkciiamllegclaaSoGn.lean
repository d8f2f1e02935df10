/- The knots hold. Made by a program. -/
import Derived.Test.YtkciiamllegclaaSoP1
namespace Go.Proofs.Ytkciiamllegclaa
open Go.RowKit
set_option maxRecDepth 20000
set_option linter.all false
set_option linter.unusedVariables false
set_option linter.unusedSimpArgs false

theorem KN_ok : ∀ n, KnOk (KN n)
  | 0 => ⟨fun _ _ _ h => (by cases h)⟩
  | n + 1 => by
    have hK := KN_ok n
    refine ⟨?_⟩
    · intro a0 a1 r h
      exact g_ref17_Same_ok (KN n) hK n a0 a1 r h
end Go.Proofs.Ytkciiamllegclaa
