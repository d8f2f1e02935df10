/- The knots hold. Made by a program. -/
import Derived.Test.YtocgkfoifehcbaaGreatRkP4
namespace Go.Proofs.YtocgkfoifehcbaaGreat
open Go.RowKit
set_option maxRecDepth 20000
set_option linter.all false
theorem TB[GS]:∀n,ao (KN n)
 | 0=>⟨fun h=>(by cases h),fun h=>(by cases h),fun h=>(by cases h),fun h=>(by cases h),fun h=>(by cases h),fun h=>(by cases h),fun h=>(by cases h),fun h=>(by cases h),fun h=>(by cases h),fun h=>(by cases h),fun h=>(by cases h),fun h=>(by cases h),fun h=>(by cases h),fun h=>(by cases h),fun h=>(by cases h),fun h=>(by cases h),fun h=>(by cases h)⟩
 | n+1=>by
  have b:=TB n;refine⟨?_,?_,?_,?_,?_,?_,?_,?_,?_,?_,?_,?_,?_,?_,?_,?_,?_⟩
  ·intro c d r h;exact Ub (n:=n) b h
  ·intro c d r h;exact UH (n:=n) b h
  ·intro c r h;exact aX.cB (B4 (n:=n) b h) (by kernel_rfl)
  ·intro c d r h;exact aX.cB (ag6 (n:=n) b h) (by kernel_rfl)
  ·intro c d r h;cases h
  ·intro c r h;exact aX.cB (Ug (n:=n) b h) (by kernel_rfl)
  ·intro c d j r h;exact Qp (n:=n) b h
  ·intro c d j r h;exact OU (n:=n) b h
  ·intro f c d r h;cases f with
   | bot i k=>cases h
   | c39 a=>cases h
   | c43 a x1_0 x1_1 x1_2 x1_3 e=>cases h
   | c48 x0_0 x0_1 x0_2 x0_3=>cases h
   | c52 x0_0 x0_1 x0_2 x0_3=>cases h
   | c54 x0_0 x0_1 x0_2 x0_3=>cases h
   | c65 a=>cases h
   | c103 a=>cases h
   | c147 a x1_0 x1_1 x1_2 x1_3=>cases h
   | c165 a=>exact⟨by kernel_rfl,ad2 (n:=n) b h⟩
   | c172 a=>exact⟨by kernel_rfl,ajp (n:=n) b h⟩
   | fn i =>
   simp only[KN]at h;cases h
  ·intro f c d j r h;cases f with
   | bot i k=>cases h
   | c39 a=>cases h
   | c43 a x1_0 x1_1 x1_2 x1_3 e=>cases h
   | c48 x0_0 x0_1 x0_2 x0_3=>cases h
   | c52 x0_0 x0_1 x0_2 x0_3=>exact⟨by kernel_rfl,aX.cB (ag4 (n:=n) b h) (by kernel_rfl)⟩
   | c54 x0_0 x0_1 x0_2 x0_3=>cases h
   | c65 a=>cases h
   | c103 a=>cases h
   | c147 a x1_0 x1_1 x1_2 x1_3=>cases h
   | c165 a=>cases h
   | c172 a=>cases h
   | fn i =>
   simp only[KN]at h;cases h
  ·intro f c d r h;cases f with
   | bot i k=>cases h
   | c39 a=>cases h
   | c43 a x1_0 x1_1 x1_2 x1_3 e=>cases h
   | c48 x0_0 x0_1 x0_2 x0_3=>cases h
   | c52 x0_0 x0_1 x0_2 x0_3=>cases h
   | c54 x0_0 x0_1 x0_2 x0_3=>exact⟨by kernel_rfl,aaG (n:=n) b h⟩
   | c65 a=>cases h
   | c103 a=>cases h
   | c147 a x1_0 x1_1 x1_2 x1_3=>cases h
   | c165 a=>cases h
   | c172 a=>cases h
   | fn i =>
   simp only[KN]at h;cases h
  ·intro f c d j l m r h;cases f with
   | bot i k=>cases h
   | c39 a=>cases h
   | c43 a x1_0 x1_1 x1_2 x1_3 e=>exact⟨by kernel_rfl,ake (n:=n) b h⟩
   | c48 x0_0 x0_1 x0_2 x0_3=>cases h
   | c52 x0_0 x0_1 x0_2 x0_3=>cases h
   | c54 x0_0 x0_1 x0_2 x0_3=>cases h
   | c65 a=>cases h
   | c103 a=>cases h
   | c147 a x1_0 x1_1 x1_2 x1_3=>cases h
   | c165 a=>cases h
   | c172 a=>cases h
   | fn i =>
   simp only[KN]at h;cases h
  ·intro f c d r h;cases f with
   | bot i k=>cases h
   | c39 a=>cases h
   | c43 a x1_0 x1_1 x1_2 x1_3 e=>cases h
   | c48 x0_0 x0_1 x0_2 x0_3=>cases h
   | c52 x0_0 x0_1 x0_2 x0_3=>cases h
   | c54 x0_0 x0_1 x0_2 x0_3=>cases h
   | c65 a=>cases h
   | c103 a=>cases h
   | c147 a x1_0 x1_1 x1_2 x1_3=>cases h
   | c165 a=>cases h
   | c172 a=>cases h
   | fn i =>
   simp only[KN]at h;obtain⟨g,h⟩|⟨g,h⟩:=am h
   ·have:=mo g;subst this;exact⟨by kernel_rfl,CE (n:=n) b h⟩
   cases h
  ·intro f c r h;cases f with
   | bot i k=>cases h
   | c39 a=>cases h
   | c43 a x1_0 x1_1 x1_2 x1_3 e=>cases h
   | c48 x0_0 x0_1 x0_2 x0_3=>cases h
   | c52 x0_0 x0_1 x0_2 x0_3=>cases h
   | c54 x0_0 x0_1 x0_2 x0_3=>cases h
   | c65 a=>exact⟨by kernel_rfl,ad7 (n:=n) b h⟩
   | c103 a=>cases h
   | c147 a x1_0 x1_1 x1_2 x1_3=>cases h
   | c165 a=>cases h
   | c172 a=>cases h
   | fn i =>
   simp only[KN]at h;obtain⟨g,h⟩|⟨g,h⟩:=am h
   ·have:=mo g;subst this;exact⟨by kernel_rfl,OG (n:=n) b h⟩
   cases h
  ·intro f c r h;cases f with
   | bot i k=>cases h
   | c39 a=>cases h
   | c43 a x1_0 x1_1 x1_2 x1_3 e=>cases h
   | c48 x0_0 x0_1 x0_2 x0_3=>exact⟨by kernel_rfl,afx (n:=n) b h⟩
   | c52 x0_0 x0_1 x0_2 x0_3=>cases h
   | c54 x0_0 x0_1 x0_2 x0_3=>cases h
   | c65 a=>cases h
   | c103 a=>cases h
   | c147 a x1_0 x1_1 x1_2 x1_3=>cases h
   | c165 a=>cases h
   | c172 a=>cases h
   | fn i =>
   simp only[KN]at h;cases h
  ·intro f c r h;cases f with
   | bot i k=>cases h
   | c39 a=>cases h
   | c43 a x1_0 x1_1 x1_2 x1_3 e=>cases h
   | c48 x0_0 x0_1 x0_2 x0_3=>cases h
   | c52 x0_0 x0_1 x0_2 x0_3=>cases h
   | c54 x0_0 x0_1 x0_2 x0_3=>cases h
   | c65 a=>cases h
   | c103 a=>cases h
   | c147 a x1_0 x1_1 x1_2 x1_3=>exact⟨by kernel_rfl,afq (n:=n) b h⟩
   | c165 a=>cases h
   | c172 a=>cases h
   | fn i =>
   simp only[KN]at h;cases h
  ·intro f c r h;cases f with
   | bot i k=>cases h
   | c39 a=>exact⟨by kernel_rfl,WF (n:=n) b h⟩
   | c43 a x1_0 x1_1 x1_2 x1_3 e=>cases h
   | c48 x0_0 x0_1 x0_2 x0_3=>cases h
   | c52 x0_0 x0_1 x0_2 x0_3=>cases h
   | c54 x0_0 x0_1 x0_2 x0_3=>cases h
   | c65 a=>cases h
   | c103 a=>cases h
   | c147 a x1_0 x1_1 x1_2 x1_3=>cases h
   | c165 a=>cases h
   | c172 a=>cases h
   | fn i =>
   simp only[KN]at h;cases h
end Go.Proofs.YtocgkfoifehcbaaGreat
