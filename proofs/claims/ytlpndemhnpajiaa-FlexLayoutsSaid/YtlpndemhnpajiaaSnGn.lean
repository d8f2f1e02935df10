/- The knots hold. Made by a program. -/
import Derived.Test.YtlpndemhnpajiaaSnP4
namespace Go.Proofs.Ytlpndemhnpajiaa
open Go.RowKit
set_option maxRecDepth 20000
set_option linter.all false
set_option linter.unusedVariables false
set_option linter.unusedSimpArgs false
theorem KN_ok:∀ n,KnOk (KN n)
  | 0=>⟨fun h=>(by cases h),fun h=>(by cases h),fun h=>(by cases h),fun h=>(by cases h),fun h=>(by cases h),fun h=>(by cases h),fun h=>(by cases h),fun h=>(by cases h),fun h=>(by cases h),fun h=>(by cases h),fun h=>(by cases h)⟩
  | n+1=>by
    have hK:=KN_ok n
    refine ⟨?_,?_,?_,?_,?_,?_,?_,?_,?_,?_,?_⟩
    · intro a0 a1 r h
      exact yn hK h
    · intro a0 a1 r h
      exact ACalls.frz (wA hK h) (by kernel_rfl)
    · intro a0 r h
      exact wu hK h
    · intro a0 a1 r h
      exact ACalls.frz (uU hK h) (by kernel_rfl)
    · intro a0 a1 a2 a3 a4 r h
      exact tX hK h
    · intro f a0 a1 r h
      cases f with
      | c36 x0=>exact ⟨by kernel_rfl,zT hK h⟩
      | c45 x0=>exact ⟨by kernel_rfl,yP hK h⟩
      | fn i =>
      simp only [KN] at h
      cases h
    · intro f a0 a1 a2 r h
      cases f with
      | c36 x0=>cases h
      | c45 x0=>cases h
      | fn i =>
      simp only [KN] at h
      rcases ao h with ⟨hf,h⟩ | ⟨hf,h⟩
      · have:=Nat.eq_of_beq_eq_true hf
        subst this
        exact ⟨by kernel_rfl,ACalls.frz (wU hK h) (by kernel_rfl)⟩
      cases h
    · intro f a0 a1 r h
      cases f with
      | c36 x0=>cases h
      | c45 x0=>cases h
      | fn i =>
      simp only [KN] at h
      rcases ao h with ⟨hf,h⟩ | ⟨hf,h⟩
      · have:=Nat.eq_of_beq_eq_true hf
        subst this
        exact ⟨by kernel_rfl,yL hK h⟩
      cases h
    · intro f a0 a1 r h
      cases f with
      | c36 x0=>cases h
      | c45 x0=>cases h
      | fn i =>
      simp only [KN] at h
      rcases ao h with ⟨hf,h⟩ | ⟨hf,h⟩
      · have:=Nat.eq_of_beq_eq_true hf
        subst this
        exact ⟨by kernel_rfl,ACalls.frz (g_law17_lay_ok hK h) (by kernel_rfl)⟩
      cases h
    · intro f a0 r h
      cases f with
      | c36 x0=>cases h
      | c45 x0=>cases h
      | fn i =>
      simp only [KN] at h
      rcases ao h with ⟨hf,h⟩ | ⟨hf,h⟩
      · have:=Nat.eq_of_beq_eq_true hf
        subst this
        exact ⟨by kernel_rfl,vD hK h⟩
      cases h
    · intro f a0 r h
      cases f with
      | c36 x0=>cases h
      | c45 x0=>cases h
      | fn i =>
      simp only [KN] at h
      rcases ao h with ⟨hf,h⟩ | ⟨hf,h⟩
      · have:=Nat.eq_of_beq_eq_true hf
        subst this
        exact ⟨by kernel_rfl,BW hK h⟩
      cases h
end Go.Proofs.Ytlpndemhnpajiaa
