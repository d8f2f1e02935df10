/- The knots hold. Made by a program. -/
import Derived.Test.YtkciiamllegclaaSvP0
namespace Go.Proofs.Ytkciiamllegclaa
open Go.RowKit
set_option maxRecDepth 20000
set_option linter.all false
variable[ZX]
theorem o4:∀n,au (KN n)
 | 0=>⟨fun h=>(by cases h),fun h=>(by cases h),fun h=>(by cases h),fun h=>(by cases h)⟩
 | n+1=>by
  have a:=o4 n;refine⟨?_,?_,?_,?_⟩
  ·intro b c r h;exact aF.aO (qa (n:=n) a h) (by kernel_rfl)
  ·intro b c r h;exact aF.aO (mF (n:=n) a h) (by kernel_rfl)
  ·intro b c r h;exact jD (n:=n) a h
  ·intro f b c r h;simp only[KN]at h;obtain⟨d,h⟩|⟨d,h⟩:=aj h
   ·have:=iN d;subst this;exact⟨by kernel_rfl,eZ (n:=n) a h⟩
   cases h
end Go.Proofs.Ytkciiamllegclaa
