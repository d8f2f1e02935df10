/- The knots hold. Made by a program. -/
import Derived.Test.YtnpmlepplfaijaaItP1
namespace Go.Proofs.Ytnpmlepplfaijaa
open Go.RowKit
set_option maxRecDepth 20000
set_option linter.all false
set_option linter.unusedVariables false
set_option linter.unusedSimpArgs false
theorem xy:∀n,ak (KN n)
 | 0=>⟨fun h=>(by cases h),fun h=>(by cases h),fun h=>(by cases h),fun h=>(by cases h),fun h=>(by cases h),fun h=>(by cases h),fun h=>(by cases h),fun h=>(by cases h),fun h=>(by cases h)⟩
 | n+1=>by
  have hK:=xy n;refine⟨?_,?_,?_,?_,?_,?_,?_,?_,?_⟩
  ·intro a0 r h;exact Cp (n:=n) hK h
  ·intro a0 a1 a2 r h;exact aH.bp (yE (n:=n) hK h) (by kernel_rfl)
  ·intro a0 a1 a2 r h;exact xJ (n:=n) hK h
  ·intro f a0 a1 a2 r h;cases f with
   | c42 x0 x1_0 x1_1 x1_2 x1_3=>cases h
   | fn i =>
   simp only[KN]at h;obtain⟨hf,h⟩|⟨hf,h⟩:=ai h
   ·have:=Nat.eq_of_beq_eq_true hf;subst this;exact⟨by kernel_rfl,aH.bp (FB (n:=n) hK h) (by kernel_rfl)⟩
   cases h
  ·intro f a0 a1 r h;cases f with
   | c42 x0 x1_0 x1_1 x1_2 x1_3=>cases h
   | fn i =>
   simp only[KN]at h;obtain⟨hf,h⟩|⟨hf,h⟩:=ai h
   ·have:=Nat.eq_of_beq_eq_true hf;subst this;exact⟨by kernel_rfl,Gg (n:=n) hK h⟩
   cases h
  ·intro f a0 a1 r h;cases f with
   | c42 x0 x1_0 x1_1 x1_2 x1_3=>cases h
   | fn i =>
   simp only[KN]at h;obtain⟨hf,h⟩|⟨hf,h⟩:=ai h
   ·have:=Nat.eq_of_beq_eq_true hf;subst this;exact⟨by kernel_rfl,aH.bp (EO (n:=n) hK h) (by kernel_rfl)⟩
   cases h
  ·intro f a0 r h;cases f with
   | c42 x0 x1_0 x1_1 x1_2 x1_3=>cases h
   | fn i =>
   simp only[KN]at h;obtain⟨hf,h⟩|⟨hf,h⟩:=ai h
   ·have:=Nat.eq_of_beq_eq_true hf;subst this;exact⟨by kernel_rfl,AA (n:=n) hK h⟩
   cases h
  ·intro f a0 r h;cases f with
   | c42 x0 x1_0 x1_1 x1_2 x1_3=>cases h
   | fn i =>
   simp only[KN]at h;obtain⟨hf,h⟩|⟨hf,h⟩:=ai h
   ·have:=Nat.eq_of_beq_eq_true hf;subst this;exact⟨by kernel_rfl,Gz (n:=n) hK h⟩
   cases h
  ·intro f a0 r h;cases f with
   | c42 x0 x1_0 x1_1 x1_2 x1_3=>exact⟨by kernel_rfl,Ml (n:=n) hK h⟩
   | fn i =>
   simp only[KN]at h;cases h
end Go.Proofs.Ytnpmlepplfaijaa
