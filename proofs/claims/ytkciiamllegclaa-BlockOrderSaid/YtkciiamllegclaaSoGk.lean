/- What is asked of calls that come back. Made by a program. -/
import Derived.Test.YtkciiamllegclaaSoGf
import Derived.Test.YtkciiamllegclaaProg
namespace Go.Proofs.Ytkciiamllegclaa
open Go.RowKit
set_option maxRecDepth 20000
set_option linter.all false
set_option linter.unusedVariables false
set_option linter.unusedSimpArgs false

structure KnOk (K : Kn) : Prop where
  k_g_ref17_Same : ∀ (a0 : TBlockFragment) (a1 : TBlockFragment) (r : Bool), K.k_g_ref17_Same a0 a1 = some r → ACalls Try.prog 38 [.agg (xTBlockFragment a0), .agg (xTBlockFragment a1)] (fun v _ => v = .bool r)
end Go.Proofs.Ytkciiamllegclaa
