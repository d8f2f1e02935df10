/- The knots hold. Made by a program. -/
import Derived.Test.YtnpmlepplfaijaaGreatIwP4
namespace Go.Proofs.YtnpmlepplfaijaaGreat
open Go.RowKit
set_option maxRecDepth 20000
set_option linter.all false
set_option linter.unusedVariables false
set_option linter.unusedSimpArgs false
theorem HH:∀n,am (KN n)
 | 0=>⟨fun h=>(by cases h),fun h=>(by cases h),fun h=>(by cases h),fun h=>(by cases h),fun h=>(by cases h),fun h=>(by cases h),fun h=>(by cases h),fun h=>(by cases h),fun h=>(by cases h),fun h=>(by cases h),fun h=>(by cases h),fun h=>(by cases h)⟩
 | n+1=>by
  have hK:=HH n;refine⟨?_,?_,?_,?_,?_,?_,?_,?_,?_,?_,?_,?_⟩
  ·intro a0 a1 r h;exact aaR (n:=n) hK h
  ·intro a0 a1 a2 r h;exact aO.bZ (MG (n:=n) hK h) (by kernel_rfl)
  ·intro a0 a1 r h;exact Ko (n:=n) hK h
  ·intro a0 r h;exact Ou (n:=n) hK h
  ·intro a0 a1 a2 r h;exact JZ (n:=n) hK h
  ·intro a0 a1 a2 r h;exact aO.bZ (J2 (n:=n) hK h) (by kernel_rfl)
  ·intro f a0 a1 a2 r h;cases f with
   | c23 x0 x1_0 x1_1 x1_2 x1_3=>cases h
   | fn i =>
   simp only[KN]at h;obtain⟨hf,h⟩|⟨hf,h⟩:=ak h
   ·have:=Nat.eq_of_beq_eq_true hf;subst this;exact⟨by kernel_rfl,aO.bZ (GY (n:=n) hK h) (by kernel_rfl)⟩
   cases h
  ·intro f a0 a1 r h;cases f with
   | c23 x0 x1_0 x1_1 x1_2 x1_3=>cases h
   | fn i =>
   simp only[KN]at h;obtain⟨hf,h⟩|⟨hf,h⟩:=ak h
   ·have:=Nat.eq_of_beq_eq_true hf;subst this;exact⟨by kernel_rfl,Mx (n:=n) hK h⟩
   cases h
  ·intro f a0 a1 r h;cases f with
   | c23 x0 x1_0 x1_1 x1_2 x1_3=>cases h
   | fn i =>
   simp only[KN]at h;obtain⟨hf,h⟩|⟨hf,h⟩:=ak h
   ·have:=Nat.eq_of_beq_eq_true hf;subst this;exact⟨by kernel_rfl,aO.bZ (Tf (n:=n) hK h) (by kernel_rfl)⟩
   cases h
  ·intro f a0 r h;cases f with
   | c23 x0 x1_0 x1_1 x1_2 x1_3=>cases h
   | fn i =>
   simp only[KN]at h;obtain⟨hf,h⟩|⟨hf,h⟩:=ak h
   ·have:=Nat.eq_of_beq_eq_true hf;subst this;exact⟨by kernel_rfl,Nf (n:=n) hK h⟩
   cases h
  ·intro f a0 r h;cases f with
   | c23 x0 x1_0 x1_1 x1_2 x1_3=>cases h
   | fn i =>
   simp only[KN]at h;obtain⟨hf,h⟩|⟨hf,h⟩:=ak h
   ·have:=Nat.eq_of_beq_eq_true hf;subst this;exact⟨by kernel_rfl,aaO (n:=n) hK h⟩
   cases h
  ·intro f a0 r h;cases f with
   | c23 x0 x1_0 x1_1 x1_2 x1_3=>exact⟨by kernel_rfl,YF (n:=n) hK h⟩
   | fn i =>
   simp only[KN]at h;cases h
end Go.Proofs.YtnpmlepplfaijaaGreat
