/- The knots hold. Made by a program. -/
import Derived.Test.YtocgkfoifehcbaaGreatRpP3
namespace Go.Proofs.YtocgkfoifehcbaaGreat
open Go.RowKit
set_option maxRecDepth 20000
set_option linter.all false
theorem RV[GS]:∀n,am (KN n)
 | 0=>⟨fun h=>(by cases h),fun h=>(by cases h),fun h=>(by cases h),fun h=>(by cases h),fun h=>(by cases h),fun h=>(by cases h),fun h=>(by cases h),fun h=>(by cases h),fun h=>(by cases h),fun h=>(by cases h),fun h=>(by cases h),fun h=>(by cases h),fun h=>(by cases h),fun h=>(by cases h),fun h=>(by cases h)⟩
 | n+1=>by
  have b:=RV n;refine⟨?_,?_,?_,?_,?_,?_,?_,?_,?_,?_,?_,?_,?_,?_,?_⟩
  ·intro c d r h;exact PD (n:=n) b h
  ·intro c r h;exact aZ.cA (Dc (n:=n) b h) (by kernel_rfl)
  ·intro c d r h;exact aZ.cA (ai9 (n:=n) b h) (by kernel_rfl)
  ·intro c d r h;cases h
  ·intro c r h;exact aZ.cA (Oy (n:=n) b h) (by kernel_rfl)
  ·intro c d m r h;exact Wl (n:=n) b h
  ·intro c d m r h;exact Ud (n:=n) b h
  ·intro f c d r h;cases f with
   | bot i k=>cases h
   | c39 a=>cases h
   | c43 a x1_0 x1_1 x1_2 x1_3 g=>cases h
   | c48 x0_0 x0_1 x0_2 x0_3=>cases h
   | c52 x0_0 x0_1 x0_2 x0_3=>cases h
   | c54 x0_0 x0_1 x0_2 x0_3=>cases h
   | c65 a=>cases h
   | c103 a=>cases h
   | c147 a x1_0 x1_1 x1_2 x1_3=>cases h
   | c165 a=>exact⟨by kernel_rfl,ahr (n:=n) b h⟩
   | c172 a=>exact⟨by kernel_rfl,agI (n:=n) b h⟩
   | fn i =>
   simp only[KN]at h;cases h
  ·intro f c d m r h;cases f with
   | bot i k=>cases h
   | c39 a=>cases h
   | c43 a x1_0 x1_1 x1_2 x1_3 g=>cases h
   | c48 x0_0 x0_1 x0_2 x0_3=>cases h
   | c52 x0_0 x0_1 x0_2 x0_3=>exact⟨by kernel_rfl,aZ.cA (afW (n:=n) b h) (by kernel_rfl)⟩
   | c54 x0_0 x0_1 x0_2 x0_3=>cases h
   | c65 a=>cases h
   | c103 a=>cases h
   | c147 a x1_0 x1_1 x1_2 x1_3=>cases h
   | c165 a=>cases h
   | c172 a=>cases h
   | fn i =>
   simp only[KN]at h;cases h
  ·intro f c d r h;cases f with
   | bot i k=>cases h
   | c39 a=>cases h
   | c43 a x1_0 x1_1 x1_2 x1_3 g=>cases h
   | c48 x0_0 x0_1 x0_2 x0_3=>cases h
   | c52 x0_0 x0_1 x0_2 x0_3=>cases h
   | c54 x0_0 x0_1 x0_2 x0_3=>exact⟨by kernel_rfl,akw (n:=n) b h⟩
   | c65 a=>cases h
   | c103 a=>cases h
   | c147 a x1_0 x1_1 x1_2 x1_3=>cases h
   | c165 a=>cases h
   | c172 a=>cases h
   | fn i =>
   simp only[KN]at h;cases h
  ·intro f j c d m o p r h;cases f with
   | bot i k=>cases h
   | c39 a=>cases h
   | c43 a x1_0 x1_1 x1_2 x1_3 g=>have l:=fun e=>@PF.h _ _ j e;simp only[Fv.eu,g6,BY,and_assoc]at l;haveI:LK a:=⟨fun e=>(l e).1⟩;haveI:PF x1_0:=⟨fun e=>(l e).2.1⟩;haveI:PF x1_1:=⟨fun e=>(l e).2.2.1⟩;haveI:PF x1_2:=⟨fun e=>(l e).2.2.2.1⟩;haveI:PF x1_3:=⟨fun e=>(l e).2.2.2.2.1⟩;haveI:LK g:=⟨fun e=>(l e).2.2.2.2.2⟩;exact⟨by kernel_rfl,abr (n:=n) b h⟩
   | c48 x0_0 x0_1 x0_2 x0_3=>cases h
   | c52 x0_0 x0_1 x0_2 x0_3=>cases h
   | c54 x0_0 x0_1 x0_2 x0_3=>cases h
   | c65 a=>cases h
   | c103 a=>cases h
   | c147 a x1_0 x1_1 x1_2 x1_3=>cases h
   | c165 a=>cases h
   | c172 a=>cases h
   | fn i =>
   simp only[KN]at h;cases h
  ·intro f c d r h;cases f with
   | bot i k=>cases h
   | c39 a=>cases h
   | c43 a x1_0 x1_1 x1_2 x1_3 g=>cases h
   | c48 x0_0 x0_1 x0_2 x0_3=>cases h
   | c52 x0_0 x0_1 x0_2 x0_3=>cases h
   | c54 x0_0 x0_1 x0_2 x0_3=>cases h
   | c65 a=>cases h
   | c103 a=>cases h
   | c147 a x1_0 x1_1 x1_2 x1_3=>cases h
   | c165 a=>cases h
   | c172 a=>cases h
   | fn i =>
   simp only[KN]at h;obtain⟨j,h⟩|⟨j,h⟩:=ao h
   ·have:=iO j;subst this;exact⟨by kernel_rfl,DR (n:=n) b h⟩
   cases h
  ·intro f c r h;cases f with
   | bot i k=>cases h
   | c39 a=>cases h
   | c43 a x1_0 x1_1 x1_2 x1_3 g=>cases h
   | c48 x0_0 x0_1 x0_2 x0_3=>cases h
   | c52 x0_0 x0_1 x0_2 x0_3=>cases h
   | c54 x0_0 x0_1 x0_2 x0_3=>cases h
   | c65 a=>exact⟨by kernel_rfl,air (n:=n) b h⟩
   | c103 a=>cases h
   | c147 a x1_0 x1_1 x1_2 x1_3=>cases h
   | c165 a=>cases h
   | c172 a=>cases h
   | fn i =>
   simp only[KN]at h;obtain⟨j,h⟩|⟨j,h⟩:=ao h
   ·have:=iO j;subst this;exact⟨by kernel_rfl,QC (n:=n) b h⟩
   cases h
  ·intro f c r h;cases f with
   | bot i k=>cases h
   | c39 a=>cases h
   | c43 a x1_0 x1_1 x1_2 x1_3 g=>cases h
   | c48 x0_0 x0_1 x0_2 x0_3=>exact⟨by kernel_rfl,abw (n:=n) b h⟩
   | c52 x0_0 x0_1 x0_2 x0_3=>cases h
   | c54 x0_0 x0_1 x0_2 x0_3=>cases h
   | c65 a=>cases h
   | c103 a=>cases h
   | c147 a x1_0 x1_1 x1_2 x1_3=>cases h
   | c165 a=>cases h
   | c172 a=>cases h
   | fn i =>
   simp only[KN]at h;cases h
  ·intro f c r h;cases f with
   | bot i k=>cases h
   | c39 a=>exact⟨by kernel_rfl,afX (n:=n) b h⟩
   | c43 a x1_0 x1_1 x1_2 x1_3 g=>cases h
   | c48 x0_0 x0_1 x0_2 x0_3=>cases h
   | c52 x0_0 x0_1 x0_2 x0_3=>cases h
   | c54 x0_0 x0_1 x0_2 x0_3=>cases h
   | c65 a=>cases h
   | c103 a=>cases h
   | c147 a x1_0 x1_1 x1_2 x1_3=>cases h
   | c165 a=>cases h
   | c172 a=>cases h
   | fn i =>
   simp only[KN]at h;cases h
end Go.Proofs.YtocgkfoifehcbaaGreat
