/- What is asked of calls that come back. Made by a program. -/
import Derived.Test.YtkciiamllegclaaSfGf
import Derived.Test.YtkciiamllegclaaProg
namespace Go.Proofs.Ytkciiamllegclaa
open Go.RowKit
set_option maxRecDepth 20000
set_option linter.all false
set_option linter.unusedVariables false
set_option linter.unusedSimpArgs false

structure KnOk (K : Kn) : Prop where
  none_ : True
end Go.Proofs.Ytkciiamllegclaa
