/- The knots hold. Made by a program. -/
import Derived.Test.YtolhpahjgddjkaaCcP3
namespace Go.Proofs.Ytolhpahjgddjkaa
open Go.RowKit
set_option maxRecDepth 20000
set_option linter.all false
set_option linter.unusedVariables false
set_option linter.unusedSimpArgs false
theorem KN_ok:∀ n,KnOk (KN n)
  | 0=>⟨fun h=>(by cases h),fun h=>(by cases h),fun h=>(by cases h),fun h=>(by cases h),fun h=>(by cases h),fun h=>(by cases h),fun h=>(by cases h),fun h=>(by cases h),fun h=>(by cases h),fun h=>(by cases h)⟩
  | n+1=>by
    have hK:=KN_ok n
    refine ⟨?_,?_,?_,?_,?_,?_,?_,?_,?_,?_⟩
    · intro a0 a1 a2 a3 a4 r h
      exact rA (n:=n) hK h
    · intro f a0 a1 r h
      cases f with
      | c31 x0=>cases h
      | c36 x0=>cases h
      | c59 x0=>exact ⟨by kernel_rfl,xd (n:=n) hK h⟩
      | c65 x0 x1=>exact ⟨by kernel_rfl,xa (n:=n) hK h⟩
      | fn i =>
      simp only [KN] at h
      cases h
    · intro f a0 r h
      cases f with
      | c31 x0=>cases h
      | c36 x0=>cases h
      | c59 x0=>cases h
      | c65 x0 x1=>cases h
      | fn i =>
      simp only [KN] at h
      rcases au h with ⟨hf,h⟩ | ⟨hf,h⟩
      · have:=Nat.eq_of_beq_eq_true hf
        subst this
        exact ⟨by kernel_rfl,uJ (n:=n) hK h⟩
      cases h
    · intro f a0 a1 a2 r h
      cases f with
      | c31 x0=>cases h
      | c36 x0=>cases h
      | c59 x0=>cases h
      | c65 x0 x1=>cases h
      | fn i =>
      simp only [KN] at h
      rcases au h with ⟨hf,h⟩ | ⟨hf,h⟩
      · have:=Nat.eq_of_beq_eq_true hf
        subst this
        exact ⟨by kernel_rfl,ACalls.frz (uY (n:=n) hK h) (by kernel_rfl)⟩
      cases h
    · intro f a0 a1 r h
      cases f with
      | c31 x0=>cases h
      | c36 x0=>cases h
      | c59 x0=>cases h
      | c65 x0 x1=>cases h
      | fn i =>
      simp only [KN] at h
      rcases au h with ⟨hf,h⟩ | ⟨hf,h⟩
      · have:=Nat.eq_of_beq_eq_true hf
        subst this
        exact ⟨by kernel_rfl,wY (n:=n) hK h⟩
      cases h
    · intro f a0 a1 r h
      cases f with
      | c31 x0=>cases h
      | c36 x0=>cases h
      | c59 x0=>cases h
      | c65 x0 x1=>cases h
      | fn i =>
      simp only [KN] at h
      rcases au h with ⟨hf,h⟩ | ⟨hf,h⟩
      · have:=Nat.eq_of_beq_eq_true hf
        subst this
        exact ⟨by kernel_rfl,ACalls.frz (g_law17_lay_ok (n:=n) hK h) (by kernel_rfl)⟩
      cases h
    · intro f a0 r h
      cases f with
      | c31 x0=>cases h
      | c36 x0=>cases h
      | c59 x0=>cases h
      | c65 x0 x1=>cases h
      | fn i =>
      simp only [KN] at h
      rcases au h with ⟨hf,h⟩ | ⟨hf,h⟩
      · have:=Nat.eq_of_beq_eq_true hf
        subst this
        exact ⟨by kernel_rfl,ui (n:=n) hK h⟩
      cases h
    · intro f a0 r h
      cases f with
      | c31 x0=>cases h
      | c36 x0=>cases h
      | c59 x0=>cases h
      | c65 x0 x1=>cases h
      | fn i =>
      simp only [KN] at h
      rcases au h with ⟨hf,h⟩ | ⟨hf,h⟩
      · have:=Nat.eq_of_beq_eq_true hf
        subst this
        exact ⟨by kernel_rfl,uD (n:=n) hK h⟩
      cases h
    · intro f a0 r h
      cases f with
      | c31 x0=>exact ⟨by kernel_rfl,vN (n:=n) hK h⟩
      | c36 x0=>exact ⟨by kernel_rfl,vb (n:=n) hK h⟩
      | c59 x0=>cases h
      | c65 x0 x1=>cases h
      | fn i =>
      simp only [KN] at h
      cases h
    · intro f a0 r h
      cases f with
      | c31 x0=>cases h
      | c36 x0=>cases h
      | c59 x0=>cases h
      | c65 x0 x1=>cases h
      | fn i =>
      simp only [KN] at h
      rcases au h with ⟨hf,h⟩ | ⟨hf,h⟩
      · have:=Nat.eq_of_beq_eq_true hf
        subst this
        exact ⟨by kernel_rfl,vI (n:=n) hK h⟩
      rcases au h with ⟨hf,h⟩ | ⟨hf,h⟩
      · have:=Nat.eq_of_beq_eq_true hf
        subst this
        exact ⟨by kernel_rfl,wW (n:=n) hK h⟩
      cases h
end Go.Proofs.Ytolhpahjgddjkaa
