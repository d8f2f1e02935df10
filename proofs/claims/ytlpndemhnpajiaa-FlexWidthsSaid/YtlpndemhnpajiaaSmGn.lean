/- The knots hold. Made by a program. -/
import Derived.Test.YtlpndemhnpajiaaSmP2
namespace Go.Proofs.Ytlpndemhnpajiaa
open Go.RowKit
set_option maxRecDepth 20000
set_option linter.all false
set_option linter.unusedVariables false
set_option linter.unusedSimpArgs false
theorem KN_ok : ∀ n, KnOk (KN n)
  | 0 => ⟨fun h => (by cases h), fun h => (by cases h), fun h => (by cases h), fun h => (by cases h), fun h => (by cases h), fun h => (by cases h), fun h => (by cases h), fun h => (by cases h), fun h => (by cases h)⟩
  | n + 1 => by
    have hK := KN_ok n
    refine ⟨?_, ?_, ?_, ?_, ?_, ?_, ?_, ?_, ?_⟩
    · intro a0 a1 r h
      exact ACalls.frz (g_ref17_Tree_ok hK h) (by kernel_rfl)
    · intro a0 r h
      exact g_ref17_Widths_ok hK h
    · intro a0 a1 a2 a3 a4 r h
      exact g_slices_symMergeCmpFunc_int_ok hK h
    · intro f a0 a1 r h
      cases f with
      | c36 x0 => exact ⟨by kernel_rfl, g_flex_Share_1_ok hK h⟩
      | c45 x0 => exact ⟨by kernel_rfl, g_flex_Order_1_ok hK h⟩
      | c50 x0 => cases h
      | fn i =>
      simp only [KN] at h
      cases h
    · intro f a0 a1 a2 r h
      cases f with
      | c36 x0 => cases h
      | c45 x0 => cases h
      | c50 x0 => cases h
      | fn i =>
      simp only [KN] at h
      cases h
    · intro f a0 a1 r h
      cases f with
      | c36 x0 => cases h
      | c45 x0 => cases h
      | c50 x0 => cases h
      | fn i =>
      simp only [KN] at h
      rcases ite_some h with ⟨hf, h⟩ | ⟨hf, h⟩
      · have := Nat.eq_of_beq_eq_true hf
        subst this
        exact ⟨by kernel_rfl, g_ref17_Spread_ok hK h⟩
      cases h
    · intro f a0 a1 r h
      cases f with
      | c36 x0 => cases h
      | c45 x0 => cases h
      | c50 x0 => cases h
      | fn i =>
      simp only [KN] at h
      cases h
    · intro f a0 r h
      cases f with
      | c36 x0 => cases h
      | c45 x0 => cases h
      | c50 x0 => cases h
      | fn i =>
      simp only [KN] at h
      rcases ite_some h with ⟨hf, h⟩ | ⟨hf, h⟩
      · have := Nat.eq_of_beq_eq_true hf
        subst this
        exact ⟨by kernel_rfl, g_boxtree_Outer_ok hK h⟩
      cases h
    · intro f a0 r h
      cases f with
      | c36 x0 => cases h
      | c45 x0 => cases h
      | c50 x0 => cases h
      | fn i =>
      simp only [KN] at h
      rcases ite_some h with ⟨hf, h⟩ | ⟨hf, h⟩
      · have := Nat.eq_of_beq_eq_true hf
        subst this
        exact ⟨by kernel_rfl, g_law17_spread_ok hK h⟩
      cases h
end Go.Proofs.Ytlpndemhnpajiaa
