/- The knots hold. Made by a program. -/
import Derived.Test.YtocgkfoifehcbaaGreatRdP4
namespace Go.Proofs.YtocgkfoifehcbaaGreat
open Go.RowKit
set_option maxRecDepth 20000
set_option linter.all false
theorem NX[GS]:∀n,am (KN n)
 | 0=>⟨fun h=>(by cases h),fun h=>(by cases h),fun h=>(by cases h),fun h=>(by cases h),fun h=>(by cases h),fun h=>(by cases h),fun h=>(by cases h),fun h=>(by cases h),fun h=>(by cases h),fun h=>(by cases h),fun h=>(by cases h),fun h=>(by cases h),fun h=>(by cases h),fun h=>(by cases h),fun h=>(by cases h),fun h=>(by cases h),fun h=>(by cases h),fun h=>(by cases h),fun h=>(by cases h)⟩
 | n+1=>by
  have b:=NX n;refine⟨?_,?_,?_,?_,?_,?_,?_,?_,?_,?_,?_,?_,?_,?_,?_,?_,?_,?_,?_⟩
  ·intro c d r h;exact H8 (n:=n) b h
  ·intro c d r h;exact R3 (n:=n) b h
  ·intro c d r h;exact FM (n:=n) b h
  ·intro c r h;exact aY.cA (BD (n:=n) b h) (by kernel_rfl)
  ·intro c d r h;exact aY.cA (Ye (n:=n) b h) (by kernel_rfl)
  ·intro c d r h;cases h
  ·intro c d r h;exact VI (n:=n) b h
  ·intro c r h;exact aY.cA (Pe (n:=n) b h) (by kernel_rfl)
  ·intro c d j r h;exact T7 (n:=n) b h
  ·intro c d j r h;exact Rm (n:=n) b h
  ·intro f c d r h;cases f with
   | bot i k=>cases h
   | c39 a=>cases h
   | c43 a x1_0 x1_1 x1_2 x1_3 e=>cases h
   | c48 x0_0 x0_1 x0_2 x0_3=>cases h
   | c52 x0_0 x0_1 x0_2 x0_3=>cases h
   | c54 x0_0 x0_1 x0_2 x0_3=>cases h
   | c65 a=>cases h
   | c67 a=>cases h
   | c103 a=>cases h
   | c120 a=>cases h
   | c147 a x1_0 x1_1 x1_2 x1_3=>cases h
   | c165 a=>exact⟨by kernel_rfl,WB (n:=n) b h⟩
   | c172 a=>exact⟨by kernel_rfl,YX (n:=n) b h⟩
   | fn i =>
   simp only[KN]at h;cases h
  ·intro f c d j r h;cases f with
   | bot i k=>cases h
   | c39 a=>cases h
   | c43 a x1_0 x1_1 x1_2 x1_3 e=>cases h
   | c48 x0_0 x0_1 x0_2 x0_3=>cases h
   | c52 x0_0 x0_1 x0_2 x0_3=>exact⟨by kernel_rfl,aY.cA (ad9 (n:=n) b h) (by kernel_rfl)⟩
   | c54 x0_0 x0_1 x0_2 x0_3=>cases h
   | c65 a=>cases h
   | c67 a=>cases h
   | c103 a=>cases h
   | c120 a=>cases h
   | c147 a x1_0 x1_1 x1_2 x1_3=>cases h
   | c165 a=>cases h
   | c172 a=>cases h
   | fn i =>
   simp only[KN]at h;cases h
  ·intro f c d r h;cases f with
   | bot i k=>cases h
   | c39 a=>cases h
   | c43 a x1_0 x1_1 x1_2 x1_3 e=>cases h
   | c48 x0_0 x0_1 x0_2 x0_3=>cases h
   | c52 x0_0 x0_1 x0_2 x0_3=>cases h
   | c54 x0_0 x0_1 x0_2 x0_3=>exact⟨by kernel_rfl,ahJ (n:=n) b h⟩
   | c65 a=>cases h
   | c67 a=>cases h
   | c103 a=>cases h
   | c120 a=>cases h
   | c147 a x1_0 x1_1 x1_2 x1_3=>cases h
   | c165 a=>cases h
   | c172 a=>cases h
   | fn i =>
   simp only[KN]at h;cases h
  ·intro f c d j l m r h;cases f with
   | bot i k=>cases h
   | c39 a=>cases h
   | c43 a x1_0 x1_1 x1_2 x1_3 e=>exact⟨by kernel_rfl,afL (n:=n) b h⟩
   | c48 x0_0 x0_1 x0_2 x0_3=>cases h
   | c52 x0_0 x0_1 x0_2 x0_3=>cases h
   | c54 x0_0 x0_1 x0_2 x0_3=>cases h
   | c65 a=>cases h
   | c67 a=>cases h
   | c103 a=>cases h
   | c120 a=>cases h
   | c147 a x1_0 x1_1 x1_2 x1_3=>cases h
   | c165 a=>cases h
   | c172 a=>cases h
   | fn i =>
   simp only[KN]at h;cases h
  ·intro f c d r h;cases f with
   | bot i k=>cases h
   | c39 a=>cases h
   | c43 a x1_0 x1_1 x1_2 x1_3 e=>cases h
   | c48 x0_0 x0_1 x0_2 x0_3=>cases h
   | c52 x0_0 x0_1 x0_2 x0_3=>cases h
   | c54 x0_0 x0_1 x0_2 x0_3=>cases h
   | c65 a=>cases h
   | c67 a=>cases h
   | c103 a=>cases h
   | c120 a=>cases h
   | c147 a x1_0 x1_1 x1_2 x1_3=>cases h
   | c165 a=>cases h
   | c172 a=>cases h
   | fn i =>
   simp only[KN]at h;obtain⟨g,h⟩|⟨g,h⟩:=ao h
   ·have:=nx g;subst this;exact⟨by kernel_rfl,Ci (n:=n) b h⟩
   cases h
  ·intro f c r h;cases f with
   | bot i k=>cases h
   | c39 a=>cases h
   | c43 a x1_0 x1_1 x1_2 x1_3 e=>cases h
   | c48 x0_0 x0_1 x0_2 x0_3=>cases h
   | c52 x0_0 x0_1 x0_2 x0_3=>cases h
   | c54 x0_0 x0_1 x0_2 x0_3=>cases h
   | c65 a=>exact⟨by kernel_rfl,ahZ (n:=n) b h⟩
   | c67 a=>cases h
   | c103 a=>cases h
   | c120 a=>exact⟨by kernel_rfl,Xn (n:=n) b h⟩
   | c147 a x1_0 x1_1 x1_2 x1_3=>cases h
   | c165 a=>cases h
   | c172 a=>cases h
   | fn i =>
   simp only[KN]at h;obtain⟨g,h⟩|⟨g,h⟩:=ao h
   ·have:=nx g;subst this;exact⟨by kernel_rfl,Tu (n:=n) b h⟩
   cases h
  ·intro f c r h;cases f with
   | bot i k=>cases h
   | c39 a=>cases h
   | c43 a x1_0 x1_1 x1_2 x1_3 e=>cases h
   | c48 x0_0 x0_1 x0_2 x0_3=>exact⟨by kernel_rfl,ahH (n:=n) b h⟩
   | c52 x0_0 x0_1 x0_2 x0_3=>cases h
   | c54 x0_0 x0_1 x0_2 x0_3=>cases h
   | c65 a=>cases h
   | c67 a=>cases h
   | c103 a=>cases h
   | c120 a=>cases h
   | c147 a x1_0 x1_1 x1_2 x1_3=>cases h
   | c165 a=>cases h
   | c172 a=>cases h
   | fn i =>
   simp only[KN]at h;cases h
  ·intro f c r h;cases f with
   | bot i k=>cases h
   | c39 a=>cases h
   | c43 a x1_0 x1_1 x1_2 x1_3 e=>cases h
   | c48 x0_0 x0_1 x0_2 x0_3=>cases h
   | c52 x0_0 x0_1 x0_2 x0_3=>cases h
   | c54 x0_0 x0_1 x0_2 x0_3=>cases h
   | c65 a=>cases h
   | c67 a=>cases h
   | c103 a=>cases h
   | c120 a=>cases h
   | c147 a x1_0 x1_1 x1_2 x1_3=>exact⟨by kernel_rfl,aiJ (n:=n) b h⟩
   | c165 a=>cases h
   | c172 a=>cases h
   | fn i =>
   simp only[KN]at h;cases h
  ·intro f c r h;cases f with
   | bot i k=>cases h
   | c39 a=>exact⟨by kernel_rfl,aeR (n:=n) b h⟩
   | c43 a x1_0 x1_1 x1_2 x1_3 e=>cases h
   | c48 x0_0 x0_1 x0_2 x0_3=>cases h
   | c52 x0_0 x0_1 x0_2 x0_3=>cases h
   | c54 x0_0 x0_1 x0_2 x0_3=>cases h
   | c65 a=>cases h
   | c67 a=>exact⟨by kernel_rfl,abj (n:=n) b h⟩
   | c103 a=>cases h
   | c120 a=>cases h
   | c147 a x1_0 x1_1 x1_2 x1_3=>cases h
   | c165 a=>cases h
   | c172 a=>cases h
   | fn i =>
   simp only[KN]at h;cases h
end Go.Proofs.YtocgkfoifehcbaaGreat
