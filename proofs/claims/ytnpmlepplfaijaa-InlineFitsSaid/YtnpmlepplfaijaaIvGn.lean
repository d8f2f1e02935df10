/- The knots hold. Made by a program. -/
import Derived.Test.YtnpmlepplfaijaaIvP1
namespace Go.Proofs.Ytnpmlepplfaijaa
open Go.RowKit
set_option maxRecDepth 20000
set_option linter.all false
set_option linter.unusedVariables false
set_option linter.unusedSimpArgs false
theorem yG:∀n,aj (KN n)
 | 0=>⟨fun h=>(by cases h),fun h=>(by cases h),fun h=>(by cases h),fun h=>(by cases h),fun h=>(by cases h),fun h=>(by cases h),fun h=>(by cases h),fun h=>(by cases h)⟩
 | n+1=>by
  have hK:=yG n;refine⟨?_,?_,?_,?_,?_,?_,?_,?_⟩
  ·intro a0 a1 a2 r h;exact aN.bj (Am (n:=n) hK h) (by kernel_rfl)
  ·intro a0 a1 a2 r h;exact vB (n:=n) hK h
  ·intro f a0 a1 a2 r h;cases f with
   | c42 x0 x1_0 x1_1 x1_2 x1_3=>cases h
   | fn i =>
   simp only[KN]at h;obtain⟨hf,h⟩|⟨hf,h⟩:=ah h
   ·have:=Nat.eq_of_beq_eq_true hf;subst this;exact⟨by kernel_rfl,aN.bj (HR (n:=n) hK h) (by kernel_rfl)⟩
   cases h
  ·intro f a0 a1 r h;cases f with
   | c42 x0 x1_0 x1_1 x1_2 x1_3=>cases h
   | fn i =>
   simp only[KN]at h;obtain⟨hf,h⟩|⟨hf,h⟩:=ah h
   ·have:=Nat.eq_of_beq_eq_true hf;subst this;exact⟨by kernel_rfl,BB (n:=n) hK h⟩
   cases h
  ·intro f a0 a1 r h;cases f with
   | c42 x0 x1_0 x1_1 x1_2 x1_3=>cases h
   | fn i =>
   simp only[KN]at h;obtain⟨hf,h⟩|⟨hf,h⟩:=ah h
   ·have:=Nat.eq_of_beq_eq_true hf;subst this;exact⟨by kernel_rfl,aN.bj (B3 (n:=n) hK h) (by kernel_rfl)⟩
   cases h
  ·intro f a0 r h;cases f with
   | c42 x0 x1_0 x1_1 x1_2 x1_3=>cases h
   | fn i =>
   simp only[KN]at h;obtain⟨hf,h⟩|⟨hf,h⟩:=ah h
   ·have:=Nat.eq_of_beq_eq_true hf;subst this;exact⟨by kernel_rfl,xl (n:=n) hK h⟩
   cases h
  ·intro f a0 r h;cases f with
   | c42 x0 x1_0 x1_1 x1_2 x1_3=>cases h
   | fn i =>
   simp only[KN]at h;obtain⟨hf,h⟩|⟨hf,h⟩:=ah h
   ·have:=Nat.eq_of_beq_eq_true hf;subst this;exact⟨by kernel_rfl,BT (n:=n) hK h⟩
   cases h
  ·intro f a0 r h;cases f with
   | c42 x0 x1_0 x1_1 x1_2 x1_3=>exact⟨by kernel_rfl,Bw (n:=n) hK h⟩
   | fn i =>
   simp only[KN]at h;cases h
end Go.Proofs.Ytnpmlepplfaijaa
