/- The knots hold. Made by a program. -/
import Derived.Test.YtnpmlepplfaijaaGreatIlP3
namespace Go.Proofs.YtnpmlepplfaijaaGreat
open Go.RowKit
set_option maxRecDepth 20000
set_option linter.all false
set_option linter.unusedVariables false
set_option linter.unusedSimpArgs false
theorem Ip:∀n,am (KN n)
 | 0=>⟨fun h=>(by cases h),fun h=>(by cases h),fun h=>(by cases h),fun h=>(by cases h),fun h=>(by cases h),fun h=>(by cases h),fun h=>(by cases h),fun h=>(by cases h),fun h=>(by cases h),fun h=>(by cases h),fun h=>(by cases h),fun h=>(by cases h)⟩
 | n+1=>by
  have hK:=Ip n;refine⟨?_,?_,?_,?_,?_,?_,?_,?_,?_,?_,?_,?_⟩
  ·intro a0 a1 r h;exact I9 (n:=n) hK h
  ·intro a0 a1 a2 r h;exact aN.bW (Ho (n:=n) hK h) (by kernel_rfl)
  ·intro a0 a1 r h;exact Ga (n:=n) hK h
  ·intro a0 r h;exact Fe (n:=n) hK h
  ·intro a0 a1 a2 r h;exact J2 (n:=n) hK h
  ·intro a0 a1 a2 r h;exact aN.bW (GG (n:=n) hK h) (by kernel_rfl)
  ·intro f a0 a1 a2 r h;cases f with
   | c23 x0 x1_0 x1_1 x1_2 x1_3=>cases h
   | fn i =>
   simp only[KN]at h;obtain⟨hf,h⟩|⟨hf,h⟩:=ak h
   ·have:=Nat.eq_of_beq_eq_true hf;subst this;exact⟨by kernel_rfl,aN.bW (K4 (n:=n) hK h) (by kernel_rfl)⟩
   cases h
  ·intro f a0 a1 r h;cases f with
   | c23 x0 x1_0 x1_1 x1_2 x1_3=>cases h
   | fn i =>
   simp only[KN]at h;obtain⟨hf,h⟩|⟨hf,h⟩:=ak h
   ·have:=Nat.eq_of_beq_eq_true hf;subst this;exact⟨by kernel_rfl,KT (n:=n) hK h⟩
   cases h
  ·intro f a0 a1 r h;cases f with
   | c23 x0 x1_0 x1_1 x1_2 x1_3=>cases h
   | fn i =>
   simp only[KN]at h;obtain⟨hf,h⟩|⟨hf,h⟩:=ak h
   ·have:=Nat.eq_of_beq_eq_true hf;subst this;exact⟨by kernel_rfl,aN.bW (Oa (n:=n) hK h) (by kernel_rfl)⟩
   cases h
  ·intro f a0 r h;cases f with
   | c23 x0 x1_0 x1_1 x1_2 x1_3=>cases h
   | fn i =>
   simp only[KN]at h;obtain⟨hf,h⟩|⟨hf,h⟩:=ak h
   ·have:=Nat.eq_of_beq_eq_true hf;subst this;exact⟨by kernel_rfl,F3 (n:=n) hK h⟩
   cases h
  ·intro f a0 r h;cases f with
   | c23 x0 x1_0 x1_1 x1_2 x1_3=>cases h
   | fn i =>
   simp only[KN]at h;obtain⟨hf,h⟩|⟨hf,h⟩:=ak h
   ·have:=Nat.eq_of_beq_eq_true hf;subst this;exact⟨by kernel_rfl,XM (n:=n) hK h⟩
   cases h
  ·intro f a0 r h;cases f with
   | c23 x0 x1_0 x1_1 x1_2 x1_3=>exact⟨by kernel_rfl,Zj (n:=n) hK h⟩
   | fn i =>
   simp only[KN]at h;cases h
end Go.Proofs.YtnpmlepplfaijaaGreat
