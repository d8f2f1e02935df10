/- The knots hold. Made by a program. -/
import Derived.Test.YtocgkfoifehcbaaGreatRfP2
namespace Go.Proofs.YtocgkfoifehcbaaGreat
open Go.RowKit
set_option maxRecDepth 20000
set_option linter.all false
set_option linter.unusedVariables false
set_option linter.unusedSimpArgs false
theorem F4[GS]:∀n,ao (KN n)
 | 0=>⟨fun h=>(by cases h),fun h=>(by cases h),fun h=>(by cases h),fun h=>(by cases h),fun h=>(by cases h),fun h=>(by cases h),fun h=>(by cases h),fun h=>(by cases h),fun h=>(by cases h),fun h=>(by cases h),fun h=>(by cases h),fun h=>(by cases h),fun h=>(by cases h),fun h=>(by cases h),fun h=>(by cases h),fun h=>(by cases h),fun h=>(by cases h),fun h=>(by cases h),fun h=>(by cases h)⟩
 | n+1=>by
  have hK:=F4 n;refine⟨?_,?_,?_,?_,?_,?_,?_,?_,?_,?_,?_,?_,?_,?_,?_,?_,?_,?_,?_⟩
  ·intro a0 r h;exact zY (n:=n) hK h
  ·intro a0 a1 r h;exact Hy (n:=n) hK h
  ·intro a0 a1 r h;exact EO (n:=n) hK h
  ·intro a0 a1 r h;exact Ks (n:=n) hK h
  ·intro a0 a1 r h;exact Fq (n:=n) hK h
  ·intro a0 r h;exact aU.bT (uF (n:=n) hK h) (by kernel_rfl)
  ·intro a0 a1 r h;exact aU.bT (Oy (n:=n) hK h) (by kernel_rfl)
  ·intro a0 a1 r h;cases h
  ·intro a0 r h;exact aU.bT (Ed (n:=n) hK h) (by kernel_rfl)
  ·intro a0 a1 a2 r h;exact DH (n:=n) hK h
  ·intro a0 a1 a2 r h;exact G8 (n:=n) hK h
  ·intro f a0 a1 a2 r h;cases f with
   | bot i k=>cases h
   | c39 x0=>cases h
   | c43 x0 x1_0 x1_1 x1_2 x1_3 x2=>cases h
   | c48 x0_0 x0_1 x0_2 x0_3=>cases h
   | c52 x0_0 x0_1 x0_2 x0_3=>exact⟨by kernel_rfl,aU.bT (OX (n:=n) hK h) (by kernel_rfl)⟩
   | c54 x0_0 x0_1 x0_2 x0_3=>cases h
   | c65 x0=>cases h
   | c147 x0 x1_0 x1_1 x1_2 x1_3=>cases h
   | fn i =>
   simp only[KN]at h;cases h
  ·intro f a0 a1 r h;cases f with
   | bot i k=>cases h
   | c39 x0=>cases h
   | c43 x0 x1_0 x1_1 x1_2 x1_3 x2=>cases h
   | c48 x0_0 x0_1 x0_2 x0_3=>cases h
   | c52 x0_0 x0_1 x0_2 x0_3=>cases h
   | c54 x0_0 x0_1 x0_2 x0_3=>exact⟨by kernel_rfl,Q2 (n:=n) hK h⟩
   | c65 x0=>cases h
   | c147 x0 x1_0 x1_1 x1_2 x1_3=>cases h
   | fn i =>
   simp only[KN]at h;cases h
  ·intro f a0 a1 a2 a3 a4 r h;cases f with
   | bot i k=>cases h
   | c39 x0=>cases h
   | c43 x0 x1_0 x1_1 x1_2 x1_3 x2=>exact⟨by kernel_rfl,Oo (n:=n) hK h⟩
   | c48 x0_0 x0_1 x0_2 x0_3=>cases h
   | c52 x0_0 x0_1 x0_2 x0_3=>cases h
   | c54 x0_0 x0_1 x0_2 x0_3=>cases h
   | c65 x0=>cases h
   | c147 x0 x1_0 x1_1 x1_2 x1_3=>cases h
   | fn i =>
   simp only[KN]at h;cases h
  ·intro f a0 a1 r h;cases f with
   | bot i k=>cases h
   | c39 x0=>cases h
   | c43 x0 x1_0 x1_1 x1_2 x1_3 x2=>cases h
   | c48 x0_0 x0_1 x0_2 x0_3=>cases h
   | c52 x0_0 x0_1 x0_2 x0_3=>cases h
   | c54 x0_0 x0_1 x0_2 x0_3=>cases h
   | c65 x0=>cases h
   | c147 x0 x1_0 x1_1 x1_2 x1_3=>cases h
   | fn i =>
   simp only[KN]at h;obtain⟨hf,h⟩|⟨hf,h⟩:=ak h
   ·have:=Nat.eq_of_beq_eq_true hf;subst this;exact⟨by kernel_rfl,ve (n:=n) hK h⟩
   cases h
  ·intro f a0 r h;cases f with
   | bot i k=>cases h
   | c39 x0=>cases h
   | c43 x0 x1_0 x1_1 x1_2 x1_3 x2=>cases h
   | c48 x0_0 x0_1 x0_2 x0_3=>cases h
   | c52 x0_0 x0_1 x0_2 x0_3=>cases h
   | c54 x0_0 x0_1 x0_2 x0_3=>cases h
   | c65 x0=>exact⟨by kernel_rfl,Rr (n:=n) hK h⟩
   | c147 x0 x1_0 x1_1 x1_2 x1_3=>cases h
   | fn i =>
   simp only[KN]at h;obtain⟨hf,h⟩|⟨hf,h⟩:=ak h
   ·have:=Nat.eq_of_beq_eq_true hf;subst this;exact⟨by kernel_rfl,GF (n:=n) hK h⟩
   cases h
  ·intro f a0 r h;cases f with
   | bot i k=>cases h
   | c39 x0=>cases h
   | c43 x0 x1_0 x1_1 x1_2 x1_3 x2=>cases h
   | c48 x0_0 x0_1 x0_2 x0_3=>exact⟨by kernel_rfl,K1 (n:=n) hK h⟩
   | c52 x0_0 x0_1 x0_2 x0_3=>cases h
   | c54 x0_0 x0_1 x0_2 x0_3=>cases h
   | c65 x0=>cases h
   | c147 x0 x1_0 x1_1 x1_2 x1_3=>cases h
   | fn i =>
   simp only[KN]at h;cases h
  ·intro f a0 r h;cases f with
   | bot i k=>cases h
   | c39 x0=>cases h
   | c43 x0 x1_0 x1_1 x1_2 x1_3 x2=>cases h
   | c48 x0_0 x0_1 x0_2 x0_3=>cases h
   | c52 x0_0 x0_1 x0_2 x0_3=>cases h
   | c54 x0_0 x0_1 x0_2 x0_3=>cases h
   | c65 x0=>cases h
   | c147 x0 x1_0 x1_1 x1_2 x1_3=>exact⟨by kernel_rfl,TI (n:=n) hK h⟩
   | fn i =>
   simp only[KN]at h;cases h
  ·intro f a0 r h;cases f with
   | bot i k=>cases h
   | c39 x0=>exact⟨by kernel_rfl,O2 (n:=n) hK h⟩
   | c43 x0 x1_0 x1_1 x1_2 x1_3 x2=>cases h
   | c48 x0_0 x0_1 x0_2 x0_3=>cases h
   | c52 x0_0 x0_1 x0_2 x0_3=>cases h
   | c54 x0_0 x0_1 x0_2 x0_3=>cases h
   | c65 x0=>cases h
   | c147 x0 x1_0 x1_1 x1_2 x1_3=>cases h
   | fn i =>
   simp only[KN]at h;cases h
end Go.Proofs.YtocgkfoifehcbaaGreat
