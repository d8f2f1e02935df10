/- The knots hold. Made by a program. -/
import Derived.Test.YtnpmlepplfaijaaGreatIrP3
namespace Go.Proofs.YtnpmlepplfaijaaGreat
open Go.RowKit
set_option maxRecDepth 20000
set_option linter.all false
set_option linter.unusedVariables false
set_option linter.unusedSimpArgs false
theorem GH:∀n,aq (KN n)
 | 0=>⟨fun h=>(by cases h),fun h=>(by cases h),fun h=>(by cases h),fun h=>(by cases h),fun h=>(by cases h),fun h=>(by cases h),fun h=>(by cases h),fun h=>(by cases h),fun h=>(by cases h),fun h=>(by cases h),fun h=>(by cases h),fun h=>(by cases h)⟩
 | n+1=>by
  have hK:=GH n;refine⟨?_,?_,?_,?_,?_,?_,?_,?_,?_,?_,?_,?_⟩
  ·intro a0 a1 r h;exact Ia (n:=n) hK h
  ·intro a0 a1 a2 r h;exact aN.bQ (Gi (n:=n) hK h) (by kernel_rfl)
  ·intro a0 a1 r h;exact D3 (n:=n) hK h
  ·intro a0 r h;exact HR (n:=n) hK h
  ·intro a0 a1 a2 r h;exact Ee (n:=n) hK h
  ·intro a0 a1 a2 r h;exact aN.bQ (CS (n:=n) hK h) (by kernel_rfl)
  ·intro f a0 a1 a2 r h;cases f with
   | c23 x0 x1_0 x1_1 x1_2 x1_3=>cases h
   | fn i =>
   simp only[KN]at h;obtain⟨hf,h⟩|⟨hf,h⟩:=am h
   ·have:=Nat.eq_of_beq_eq_true hf;subst this;exact⟨by kernel_rfl,aN.bQ (Em (n:=n) hK h) (by kernel_rfl)⟩
   cases h
  ·intro f a0 a1 r h;cases f with
   | c23 x0 x1_0 x1_1 x1_2 x1_3=>cases h
   | fn i =>
   simp only[KN]at h;obtain⟨hf,h⟩|⟨hf,h⟩:=am h
   ·have:=Nat.eq_of_beq_eq_true hf;subst this;exact⟨by kernel_rfl,It (n:=n) hK h⟩
   cases h
  ·intro f a0 a1 r h;cases f with
   | c23 x0 x1_0 x1_1 x1_2 x1_3=>cases h
   | fn i =>
   simp only[KN]at h;obtain⟨hf,h⟩|⟨hf,h⟩:=am h
   ·have:=Nat.eq_of_beq_eq_true hf;subst this;exact⟨by kernel_rfl,aN.bQ (NL (n:=n) hK h) (by kernel_rfl)⟩
   cases h
  ·intro f a0 r h;cases f with
   | c23 x0 x1_0 x1_1 x1_2 x1_3=>cases h
   | fn i =>
   simp only[KN]at h;obtain⟨hf,h⟩|⟨hf,h⟩:=am h
   ·have:=Nat.eq_of_beq_eq_true hf;subst this;exact⟨by kernel_rfl,F3 (n:=n) hK h⟩
   cases h
  ·intro f a0 r h;cases f with
   | c23 x0 x1_0 x1_1 x1_2 x1_3=>cases h
   | fn i =>
   simp only[KN]at h;obtain⟨hf,h⟩|⟨hf,h⟩:=am h
   ·have:=Nat.eq_of_beq_eq_true hf;subst this;exact⟨by kernel_rfl,WL (n:=n) hK h⟩
   cases h
  ·intro f a0 r h;cases f with
   | c23 x0 x1_0 x1_1 x1_2 x1_3=>exact⟨by kernel_rfl,Ro (n:=n) hK h⟩
   | fn i =>
   simp only[KN]at h;cases h
end Go.Proofs.YtnpmlepplfaijaaGreat
