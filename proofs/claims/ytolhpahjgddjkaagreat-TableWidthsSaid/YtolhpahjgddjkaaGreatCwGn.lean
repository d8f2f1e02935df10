/- The knots hold. Made by a program. -/
import Derived.Test.YtolhpahjgddjkaaGreatCwP3
namespace Go.Proofs.YtolhpahjgddjkaaGreat
open Go.RowKit
set_option maxRecDepth 20000
set_option linter.all false
set_option linter.unusedVariables false
set_option linter.unusedSimpArgs false
theorem JQ:∀n,am (KN n)
 | 0=>⟨fun h=>(by cases h),fun h=>(by cases h),fun h=>(by cases h),fun h=>(by cases h),fun h=>(by cases h),fun h=>(by cases h),fun h=>(by cases h),fun h=>(by cases h),fun h=>(by cases h),fun h=>(by cases h),fun h=>(by cases h)⟩
 | n+1=>by
  have hK:=JQ n;refine⟨?_,?_,?_,?_,?_,?_,?_,?_,?_,?_,?_⟩
  ·intro a0 r h;exact OP (n:=n) hK h
  ·intro a0 a1 a2 a3 a4 r h;exact FC (n:=n) hK h
  ·intro f a0 a1 r h;cases f with
   | c19 x0 x1=>cases h
   | c65 x0=>cases h
   | c70 x0=>exact⟨by kernel_rfl,abZ (n:=n) hK h⟩
   | c77 x0=>cases h
   | c86 x0 x1=>exact⟨by kernel_rfl,abP (n:=n) hK h⟩
   | fn i =>
   simp only[KN]at h;cases h
  ·intro f a0 r h;cases f with
   | c19 x0 x1=>cases h
   | c65 x0=>cases h
   | c70 x0=>cases h
   | c77 x0=>cases h
   | c86 x0 x1=>cases h
   | fn i =>
   simp only[KN]at h;obtain⟨hf,h⟩|⟨hf,h⟩:=av h
   ·have:=Nat.eq_of_beq_eq_true hf;subst this;exact⟨by kernel_rfl,P7 (n:=n) hK h⟩
   cases h
  ·intro f a0 a1 a2 r h;cases f with
   | c19 x0 x1=>cases h
   | c65 x0=>cases h
   | c70 x0=>cases h
   | c77 x0=>cases h
   | c86 x0 x1=>cases h
   | fn i =>
   simp only[KN]at h;obtain⟨hf,h⟩|⟨hf,h⟩:=av h
   ·have:=Nat.eq_of_beq_eq_true hf;subst this;exact⟨by kernel_rfl,aQ.cH (RK (n:=n) hK h) (by kernel_rfl)⟩
   cases h
  ·intro f a0 a1 r h;cases f with
   | c19 x0 x1=>cases h
   | c65 x0=>cases h
   | c70 x0=>cases h
   | c77 x0=>cases h
   | c86 x0 x1=>cases h
   | fn i =>
   simp only[KN]at h;obtain⟨hf,h⟩|⟨hf,h⟩:=av h
   ·have:=Nat.eq_of_beq_eq_true hf;subst this;exact⟨by kernel_rfl,K5 (n:=n) hK h⟩
   cases h
  ·intro f a0 a1 r h;cases f with
   | c19 x0 x1=>cases h
   | c65 x0=>cases h
   | c70 x0=>cases h
   | c77 x0=>cases h
   | c86 x0 x1=>cases h
   | fn i =>
   simp only[KN]at h;obtain⟨hf,h⟩|⟨hf,h⟩:=av h
   ·have:=Nat.eq_of_beq_eq_true hf;subst this;exact⟨by kernel_rfl,aQ.cH (aad (n:=n) hK h) (by kernel_rfl)⟩
   cases h
  ·intro f a0 r h;cases f with
   | c19 x0 x1=>cases h
   | c65 x0=>cases h
   | c70 x0=>cases h
   | c77 x0=>cases h
   | c86 x0 x1=>cases h
   | fn i =>
   simp only[KN]at h;obtain⟨hf,h⟩|⟨hf,h⟩:=av h
   ·have:=Nat.eq_of_beq_eq_true hf;subst this;exact⟨by kernel_rfl,H3 (n:=n) hK h⟩
   cases h
  ·intro f a0 r h;cases f with
   | c19 x0 x1=>cases h
   | c65 x0=>cases h
   | c70 x0=>cases h
   | c77 x0=>cases h
   | c86 x0 x1=>cases h
   | fn i =>
   simp only[KN]at h;obtain⟨hf,h⟩|⟨hf,h⟩:=av h
   ·have:=Nat.eq_of_beq_eq_true hf;subst this;exact⟨by kernel_rfl,UK (n:=n) hK h⟩
   cases h
  ·intro f a0 r h;cases f with
   | c19 x0 x1=>cases h
   | c65 x0=>exact⟨by kernel_rfl,RQ (n:=n) hK h⟩
   | c70 x0=>cases h
   | c77 x0=>exact⟨by kernel_rfl,aai (n:=n) hK h⟩
   | c86 x0 x1=>cases h
   | fn i =>
   simp only[KN]at h;cases h
  ·intro f a0 r h;cases f with
   | c19 x0 x1=>cases h
   | c65 x0=>cases h
   | c70 x0=>cases h
   | c77 x0=>cases h
   | c86 x0 x1=>cases h
   | fn i =>
   simp only[KN]at h;obtain⟨hf,h⟩|⟨hf,h⟩:=av h
   ·have:=Nat.eq_of_beq_eq_true hf;subst this;exact⟨by kernel_rfl,UR (n:=n) hK h⟩
   obtain⟨hf,h⟩|⟨hf,h⟩:=av h
   ·have:=Nat.eq_of_beq_eq_true hf;subst this;exact⟨by kernel_rfl,Wk (n:=n) hK h⟩
   cases h
end Go.Proofs.YtolhpahjgddjkaaGreat
