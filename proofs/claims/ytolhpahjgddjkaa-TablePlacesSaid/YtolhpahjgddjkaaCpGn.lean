/- The knots hold. Made by a program. -/
import Derived.Test.YtolhpahjgddjkaaCpP1
namespace Go.Proofs.Ytolhpahjgddjkaa
open Go.RowKit
set_option maxRecDepth 20000
set_option linter.all false
set_option linter.unusedVariables false
set_option linter.unusedSimpArgs false
theorem KN_ok:∀ n,KnOk (KN n)
  | 0=>⟨fun h=>(by cases h),fun h=>(by cases h),fun h=>(by cases h)⟩
  | n+1=>by
    have hK:=KN_ok n
    refine ⟨?_,?_,?_⟩
    · intro a0 a1 a2 a3 a4 r h
      exact go (n:=n) hK h
    · intro f a0 a1 r h
      cases f with
      | c59 x0=>exact ⟨by kernel_rfl,iD (n:=n) hK h⟩
      | fn i =>
      simp only [KN] at h
      cases h
    · intro f a0 r h
      cases f with
      | c59 x0=>cases h
      | fn i =>
      simp only [KN] at h
      rcases au h with ⟨hf,h⟩ | ⟨hf,h⟩
      · have:=Nat.eq_of_beq_eq_true hf
        subst this
        exact ⟨by kernel_rfl,jB (n:=n) hK h⟩
      cases h
end Go.Proofs.Ytolhpahjgddjkaa
