/- The knots hold. Made by a program. -/
import Derived.Test.YtolhpahjgddjkaaCoP3
namespace Go.Proofs.Ytolhpahjgddjkaa
open Go.RowKit
set_option maxRecDepth 20000
set_option linter.all false
set_option linter.unusedVariables false
set_option linter.unusedSimpArgs false
theorem KN_ok:∀ n,KnOk (KN n)
  | 0=>⟨fun h=>(by cases h),fun h=>(by cases h),fun h=>(by cases h),fun h=>(by cases h),fun h=>(by cases h),fun h=>(by cases h),fun h=>(by cases h),fun h=>(by cases h),fun h=>(by cases h),fun h=>(by cases h),fun h=>(by cases h)⟩
  | n+1=>by
    have hK:=KN_ok n
    refine ⟨?_,?_,?_,?_,?_,?_,?_,?_,?_,?_,?_⟩
    · intro a0 a1 r h
      exact uo (n:=n) hK h
    · intro a0 a1 a2 a3 a4 r h
      exact rS (n:=n) hK h
    · intro f a0 a1 r h
      cases f with
      | c31 x0=>cases h
      | c36 x0=>cases h
      | c59 x0=>exact ⟨by kernel_rfl,xw (n:=n) hK h⟩
      | c65 x0 x1=>exact ⟨by kernel_rfl,wS (n:=n) hK h⟩
      | fn i =>
      simp only [KN] at h
      cases h
    · intro f a0 r h
      cases f with
      | c31 x0=>cases h
      | c36 x0=>cases h
      | c59 x0=>cases h
      | c65 x0 x1=>cases h
      | fn i =>
      simp only [KN] at h
      rcases aq h with ⟨hf,h⟩ | ⟨hf,h⟩
      · have:=Nat.eq_of_beq_eq_true hf
        subst this
        exact ⟨by kernel_rfl,uF (n:=n) hK h⟩
      cases h
    · intro f a0 a1 a2 r h
      cases f with
      | c31 x0=>cases h
      | c36 x0=>cases h
      | c59 x0=>cases h
      | c65 x0 x1=>cases h
      | fn i =>
      simp only [KN] at h
      rcases aq h with ⟨hf,h⟩ | ⟨hf,h⟩
      · have:=Nat.eq_of_beq_eq_true hf
        subst this
        exact ⟨by kernel_rfl,ACalls.frz (wK (n:=n) hK h) (by kernel_rfl)⟩
      cases h
    · intro f a0 a1 r h
      cases f with
      | c31 x0=>cases h
      | c36 x0=>cases h
      | c59 x0=>cases h
      | c65 x0 x1=>cases h
      | fn i =>
      simp only [KN] at h
      rcases aq h with ⟨hf,h⟩ | ⟨hf,h⟩
      · have:=Nat.eq_of_beq_eq_true hf
        subst this
        exact ⟨by kernel_rfl,wD (n:=n) hK h⟩
      cases h
    · intro f a0 a1 r h
      cases f with
      | c31 x0=>cases h
      | c36 x0=>cases h
      | c59 x0=>cases h
      | c65 x0 x1=>cases h
      | fn i =>
      simp only [KN] at h
      rcases aq h with ⟨hf,h⟩ | ⟨hf,h⟩
      · have:=Nat.eq_of_beq_eq_true hf
        subst this
        exact ⟨by kernel_rfl,ACalls.frz (g_law17_lay_ok (n:=n) hK h) (by kernel_rfl)⟩
      cases h
    · intro f a0 r h
      cases f with
      | c31 x0=>cases h
      | c36 x0=>cases h
      | c59 x0=>cases h
      | c65 x0 x1=>cases h
      | fn i =>
      simp only [KN] at h
      rcases aq h with ⟨hf,h⟩ | ⟨hf,h⟩
      · have:=Nat.eq_of_beq_eq_true hf
        subst this
        exact ⟨by kernel_rfl,sO (n:=n) hK h⟩
      cases h
    · intro f a0 r h
      cases f with
      | c31 x0=>cases h
      | c36 x0=>cases h
      | c59 x0=>cases h
      | c65 x0 x1=>cases h
      | fn i =>
      simp only [KN] at h
      rcases aq h with ⟨hf,h⟩ | ⟨hf,h⟩
      · have:=Nat.eq_of_beq_eq_true hf
        subst this
        exact ⟨by kernel_rfl,w9 (n:=n) hK h⟩
      cases h
    · intro f a0 r h
      cases f with
      | c31 x0=>exact ⟨by kernel_rfl,vp (n:=n) hK h⟩
      | c36 x0=>exact ⟨by kernel_rfl,xn (n:=n) hK h⟩
      | c59 x0=>cases h
      | c65 x0 x1=>cases h
      | fn i =>
      simp only [KN] at h
      cases h
    · intro f a0 r h
      cases f with
      | c31 x0=>cases h
      | c36 x0=>cases h
      | c59 x0=>cases h
      | c65 x0 x1=>cases h
      | fn i =>
      simp only [KN] at h
      rcases aq h with ⟨hf,h⟩ | ⟨hf,h⟩
      · have:=Nat.eq_of_beq_eq_true hf
        subst this
        exact ⟨by kernel_rfl,vM (n:=n) hK h⟩
      rcases aq h with ⟨hf,h⟩ | ⟨hf,h⟩
      · have:=Nat.eq_of_beq_eq_true hf
        subst this
        exact ⟨by kernel_rfl,uT (n:=n) hK h⟩
      cases h
end Go.Proofs.Ytolhpahjgddjkaa
