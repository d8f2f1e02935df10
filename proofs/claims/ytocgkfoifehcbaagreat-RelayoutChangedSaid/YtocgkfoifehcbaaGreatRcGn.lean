/- The knots hold. Made by a program. -/
import Derived.Test.YtocgkfoifehcbaaGreatRcP4
namespace Go.Proofs.YtocgkfoifehcbaaGreat
open Go.RowKit
set_option maxRecDepth 20000
set_option linter.all false
set_option linter.unusedVariables false
set_option linter.unusedSimpArgs false
theorem MB[GS]:∀n,ak (KN n)
 | 0=>⟨fun h=>(by cases h),fun h=>(by cases h),fun h=>(by cases h),fun h=>(by cases h),fun h=>(by cases h),fun h=>(by cases h),fun h=>(by cases h),fun h=>(by cases h),fun h=>(by cases h),fun h=>(by cases h),fun h=>(by cases h),fun h=>(by cases h),fun h=>(by cases h),fun h=>(by cases h),fun h=>(by cases h),fun h=>(by cases h),fun h=>(by cases h),fun h=>(by cases h),fun h=>(by cases h),fun h=>(by cases h),fun h=>(by cases h)⟩
 | n+1=>by
  have hK:=MB n;refine⟨?_,?_,?_,?_,?_,?_,?_,?_,?_,?_,?_,?_,?_,?_,?_,?_,?_,?_,?_,?_,?_⟩
  ·intro a0 a1 r h;exact u9 (n:=n) hK h
  ·intro a0 a1 r h;exact lM (n:=n) hK h
  ·intro a0 a1 a2 r h;exact N6 (n:=n) hK h
  ·intro a0 a1 r h;exact m9 (n:=n) hK h
  ·intro a0 r h;exact aW.cf (vo (n:=n) hK h) (by kernel_rfl)
  ·intro a0 a1 r h;exact aW.cf (V7 (n:=n) hK h) (by kernel_rfl)
  ·intro a0 a1 r h;cases h
  ·intro a0 a1 a2 r h;exact Nq (n:=n) hK h
  ·intro a0 r h;exact aW.cf (ML (n:=n) hK h) (by kernel_rfl)
  ·intro a0 a1 a2 r h;exact Mi (n:=n) hK h
  ·intro a0 a1 a2 r h;exact IM (n:=n) hK h
  ·intro a0 a1 a2 a3 a4 r h;exact B1 (n:=n) hK h
  ·intro f a0 a1 r h;cases f with
   | bot i k=>cases h
   | c39 x0=>cases h
   | c43 x0 x1_0 x1_1 x1_2 x1_3 x2=>cases h
   | c48 x0_0 x0_1 x0_2 x0_3=>cases h
   | c52 x0_0 x0_1 x0_2 x0_3=>cases h
   | c54 x0_0 x0_1 x0_2 x0_3=>cases h
   | c65 x0=>cases h
   | c103 x0=>cases h
   | c147 x0 x1_0 x1_1 x1_2 x1_3=>cases h
   | c165 x0=>exact⟨by kernel_rfl,YZ (n:=n) hK h⟩
   | c172 x0=>exact⟨by kernel_rfl,V5 (n:=n) hK h⟩
   | fn i =>
   simp only[KN]at h;cases h
  ·intro f a0 a1 a2 r h;cases f with
   | bot i k=>cases h
   | c39 x0=>cases h
   | c43 x0 x1_0 x1_1 x1_2 x1_3 x2=>cases h
   | c48 x0_0 x0_1 x0_2 x0_3=>cases h
   | c52 x0_0 x0_1 x0_2 x0_3=>exact⟨by kernel_rfl,aW.cf (YJ (n:=n) hK h) (by kernel_rfl)⟩
   | c54 x0_0 x0_1 x0_2 x0_3=>cases h
   | c65 x0=>cases h
   | c103 x0=>cases h
   | c147 x0 x1_0 x1_1 x1_2 x1_3=>cases h
   | c165 x0=>cases h
   | c172 x0=>cases h
   | fn i =>
   simp only[KN]at h;cases h
  ·intro f a0 a1 r h;cases f with
   | bot i k=>cases h
   | c39 x0=>cases h
   | c43 x0 x1_0 x1_1 x1_2 x1_3 x2=>cases h
   | c48 x0_0 x0_1 x0_2 x0_3=>cases h
   | c52 x0_0 x0_1 x0_2 x0_3=>cases h
   | c54 x0_0 x0_1 x0_2 x0_3=>exact⟨by kernel_rfl,YU (n:=n) hK h⟩
   | c65 x0=>cases h
   | c103 x0=>cases h
   | c147 x0 x1_0 x1_1 x1_2 x1_3=>cases h
   | c165 x0=>cases h
   | c172 x0=>cases h
   | fn i =>
   simp only[KN]at h;cases h
  ·intro f a0 a1 a2 a3 a4 r h;cases f with
   | bot i k=>cases h
   | c39 x0=>cases h
   | c43 x0 x1_0 x1_1 x1_2 x1_3 x2=>exact⟨by kernel_rfl,QL (n:=n) hK h⟩
   | c48 x0_0 x0_1 x0_2 x0_3=>cases h
   | c52 x0_0 x0_1 x0_2 x0_3=>cases h
   | c54 x0_0 x0_1 x0_2 x0_3=>cases h
   | c65 x0=>cases h
   | c103 x0=>cases h
   | c147 x0 x1_0 x1_1 x1_2 x1_3=>cases h
   | c165 x0=>cases h
   | c172 x0=>cases h
   | fn i =>
   simp only[KN]at h;cases h
  ·intro f a0 a1 r h;cases f with
   | bot i k=>cases h
   | c39 x0=>cases h
   | c43 x0 x1_0 x1_1 x1_2 x1_3 x2=>cases h
   | c48 x0_0 x0_1 x0_2 x0_3=>cases h
   | c52 x0_0 x0_1 x0_2 x0_3=>cases h
   | c54 x0_0 x0_1 x0_2 x0_3=>cases h
   | c65 x0=>cases h
   | c103 x0=>cases h
   | c147 x0 x1_0 x1_1 x1_2 x1_3=>cases h
   | c165 x0=>cases h
   | c172 x0=>cases h
   | fn i =>
   simp only[KN]at h;obtain⟨hf,h⟩|⟨hf,h⟩:=am h
   ·have:=Nat.eq_of_beq_eq_true hf;subst this;exact⟨by kernel_rfl,gl (n:=n) hK h⟩
   cases h
  ·intro f a0 r h;cases f with
   | bot i k=>cases h
   | c39 x0=>cases h
   | c43 x0 x1_0 x1_1 x1_2 x1_3 x2=>cases h
   | c48 x0_0 x0_1 x0_2 x0_3=>cases h
   | c52 x0_0 x0_1 x0_2 x0_3=>cases h
   | c54 x0_0 x0_1 x0_2 x0_3=>cases h
   | c65 x0=>exact⟨by kernel_rfl,WG (n:=n) hK h⟩
   | c103 x0=>cases h
   | c147 x0 x1_0 x1_1 x1_2 x1_3=>cases h
   | c165 x0=>cases h
   | c172 x0=>cases h
   | fn i =>
   simp only[KN]at h;obtain⟨hf,h⟩|⟨hf,h⟩:=am h
   ·have:=Nat.eq_of_beq_eq_true hf;subst this;exact⟨by kernel_rfl,Md (n:=n) hK h⟩
   cases h
  ·intro f a0 r h;cases f with
   | bot i k=>cases h
   | c39 x0=>cases h
   | c43 x0 x1_0 x1_1 x1_2 x1_3 x2=>cases h
   | c48 x0_0 x0_1 x0_2 x0_3=>exact⟨by kernel_rfl,W6 (n:=n) hK h⟩
   | c52 x0_0 x0_1 x0_2 x0_3=>cases h
   | c54 x0_0 x0_1 x0_2 x0_3=>cases h
   | c65 x0=>cases h
   | c103 x0=>cases h
   | c147 x0 x1_0 x1_1 x1_2 x1_3=>cases h
   | c165 x0=>cases h
   | c172 x0=>cases h
   | fn i =>
   simp only[KN]at h;cases h
  ·intro f a0 r h;cases f with
   | bot i k=>cases h
   | c39 x0=>cases h
   | c43 x0 x1_0 x1_1 x1_2 x1_3 x2=>cases h
   | c48 x0_0 x0_1 x0_2 x0_3=>cases h
   | c52 x0_0 x0_1 x0_2 x0_3=>cases h
   | c54 x0_0 x0_1 x0_2 x0_3=>cases h
   | c65 x0=>cases h
   | c103 x0=>cases h
   | c147 x0 x1_0 x1_1 x1_2 x1_3=>exact⟨by kernel_rfl,Ph (n:=n) hK h⟩
   | c165 x0=>cases h
   | c172 x0=>cases h
   | fn i =>
   simp only[KN]at h;cases h
  ·intro f a0 r h;cases f with
   | bot i k=>cases h
   | c39 x0=>exact⟨by kernel_rfl,Vi (n:=n) hK h⟩
   | c43 x0 x1_0 x1_1 x1_2 x1_3 x2=>cases h
   | c48 x0_0 x0_1 x0_2 x0_3=>cases h
   | c52 x0_0 x0_1 x0_2 x0_3=>cases h
   | c54 x0_0 x0_1 x0_2 x0_3=>cases h
   | c65 x0=>cases h
   | c103 x0=>cases h
   | c147 x0 x1_0 x1_1 x1_2 x1_3=>cases h
   | c165 x0=>cases h
   | c172 x0=>cases h
   | fn i =>
   simp only[KN]at h;cases h
end Go.Proofs.YtocgkfoifehcbaaGreat
