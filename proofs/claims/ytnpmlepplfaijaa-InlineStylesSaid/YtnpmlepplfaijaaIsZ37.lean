/- Plain laws about the plain functions: words for all of them. No program in sight. -/
import Derived.Test.YtnpmlepplfaijaaIsGf
import Derived.Test.YtnpmlepplfaijaaIsGop
namespace Go.Proofs.Ytnpmlepplfaijaa
set_option linter.all false
open Go.RowKit
theorem dT{n:Int}(h1 : -9223372036854775808≤n)(h2:n≤9223372036854775807):af n=n:=by
 unfold af;rw[IntKind.wrap_i64];omega
theorem Bv{α:Type}(x:Option α):aQ true x=x:=rfl
theorem xV{i:Int}{n:Nat}(h0:0≤i)(h1:i<n):bd i n=true:=by simp[bd,h0,h1]
theorem zj{α:Type}[Inhabited α]{L:List α}{k:Nat}(h:k<L.length):L.getD k default=L[k]:=by simp[List.getD_eq_getElem?_getD,List.getElem?_eq_getElem h]
end Go.Proofs.Ytnpmlepplfaijaa
namespace Go.Proofs.Ytnpmlepplfaijaa
set_option linter.all false
open Go.RowKit
set_option maxRecDepth 100000 in
theorem xR(k:Nat):mQ (KN (k+40)) (k+40)=some true:=by kernel_rfl
end Go.Proofs.Ytnpmlepplfaijaa
namespace Go.Proofs.Ytnpmlepplfaijaa
set_option linter.all false
open Go.RowKit
section
variable(K:Kn)(n:Nat)
def da(l:cB):Prop := -16777216≤l.Value∧l.Value≤16777216
theorem dj(l:cB):∃b,cJ K n l=some b∧(b=true→da l):=by
 unfold cJ kk;by_cases h:l.Value ≥ -16777216
 ·simp only[h,decide_true,if_true];exact⟨_,rfl,fun e=>⟨h,of_decide_eq_true e⟩⟩
 ·simp only[h,decide_false,Bool.false_eq_true,if_false];exact⟨_,rfl,fun e=>by cases e⟩
structure oW(x:cg):Prop where
 text:(x.Text.size:Int)≤60
 left:da x.Style.Left
 top:da x.Style.Top
 width:da x.Style.Width
 height:da x.Style.Height
 minw:da x.Style.MinWidth
 maxw:da x.Style.MaxWidth
 basis:da x.Style.Basis
 lh:0≤x.Style.LineHeight∧x.Style.LineHeight≤65536
 fs:0≤x.Style.FontSize∧x.Style.FontSize≤65536
 grow:0≤x.Style.Grow∧x.Style.Grow≤1048576
 shrink:0≤x.Style.Shrink∧x.Style.Shrink≤1048576
 m0:da x.Style.Margin.a0
 m1:da x.Style.Margin.a1
 m2:da x.Style.Margin.a2
 m3:da x.Style.Margin.a3
 p0:da x.Style.Padding.a0
 p1:da x.Style.Padding.a1
 p2:da x.Style.Padding.a2
 p3:da x.Style.Padding.a3
theorem EF(L:List cg)(m:Int)(L1:Int→Option Bool)(i:Int)(h0:0≤i)(hi:i<L.length):eJ K n L m L1 i=some false∨(oW (L.getD i.toNat default)∧eJ K n L m L1 i=L1 (af (i+1))):=by
 unfold eJ;simp only[hi,decide_true,if_true,xV h0 hi,Bv];generalize hx:L.getD i.toNat default=x;have j5:∀b,gV K n L m i L1 b=if b=true then some false else L1 (af (i+1)):=fun b=>rfl;obtain⟨b1,e1,f1⟩:=dj K n x.Style.Left;obtain⟨b2,e2,f2⟩:=dj K n x.Style.Top;obtain⟨b3,e3,f3⟩:=dj K n x.Style.Width;obtain⟨b4,e4,f4⟩:=dj K n x.Style.Height;obtain⟨b5,e5,f5⟩:=dj K n x.Style.MinWidth;obtain⟨b6,e6,f6⟩:=dj K n x.Style.MaxWidth;obtain⟨b7,e7,f7⟩:=dj K n x.Style.Basis;obtain⟨c0,g0,k0⟩:=dj K n x.Style.Margin.a0;obtain⟨c1,g1,k1⟩:=dj K n x.Style.Margin.a1;obtain⟨c2,g2,k2⟩:=dj K n x.Style.Margin.a2;obtain⟨c3,g3,k3⟩:=dj K n x.Style.Margin.a3;obtain⟨d0,q0,r0⟩:=dj K n x.Style.Padding.a0;obtain⟨d1,q1,r1⟩:=dj K n x.Style.Padding.a1;obtain⟨d2,q2,r2⟩:=dj K n x.Style.Padding.a2;obtain⟨d3,q3,r3⟩:=dj K n x.Style.Padding.a3;have jt:cr K n L m i L1 true=some false:=rfl;have j1:cr K n L m i L1 false=some false∨((c0=true∧c1=true∧c2=true∧c3=true∧d0=true∧d1=true∧d2=true∧d3=true)∧cr K n L m i L1 false=L1 (af (i+1))):=by
  simp only[cr,iG,jb,km,gV,hx,g0,g1,g2,g3,q0,q1,q2,q3,Option.bind_some];cases c0<;>cases d0<;>cases c1<;>cases d1<;>cases c2<;>cases d2<;>cases c3<;>cases d3<;>simp
 simp only[e1,e2,e3,e4,e5,e6,e7,Option.bind_some,jt];by_cases t0:(x.Text.size:Int)>60
 ·left;simp[t0]
 simp only[t0,decide_false,Bool.false_eq_true,if_false];cases b1
 ·left;simp
 simp only[Bool.not_true,Bool.false_eq_true,if_false];cases b2
 ·left;simp
 simp only[Bool.not_true,Bool.false_eq_true,if_false];cases b3
 ·left;simp
 simp only[Bool.not_true,Bool.false_eq_true,if_false];cases b4
 ·left;simp
 simp only[Bool.not_true,Bool.false_eq_true,if_false];cases b5
 ·left;simp
 simp only[Bool.not_true,Bool.false_eq_true,if_false];cases b6
 ·left;simp
 simp only[Bool.not_true,Bool.false_eq_true,if_false];cases b7
 ·left;simp
 simp only[Bool.not_true,Bool.false_eq_true,if_false];by_cases u1:x.Style.LineHeight<0
 ·left;simp[u1]
 simp only[u1,decide_false,Bool.false_eq_true,if_false];by_cases u2:x.Style.LineHeight>65536
 ·left;simp[u2]
 simp only[u2,decide_false,Bool.false_eq_true,if_false];by_cases u3:x.Style.FontSize<0
 ·left;simp[u3]
 simp only[u3,decide_false,Bool.false_eq_true,if_false];by_cases u4:x.Style.FontSize>65536
 ·left;simp[u4]
 simp only[u4,decide_false,Bool.false_eq_true,if_false];by_cases u5:x.Style.Grow<0
 ·left;simp[u5]
 simp only[u5,decide_false,Bool.false_eq_true,if_false];by_cases u6:x.Style.Grow>1048576
 ·left;simp[u6]
 simp only[u6,decide_false,Bool.false_eq_true,if_false];by_cases u7:x.Style.Shrink<0
 ·left;simp[u7]
 simp only[u7,decide_false,Bool.false_eq_true,if_false];by_cases u8:x.Style.Shrink>1048576
 ·left;simp only[u8,decide_true];exact jt
 simp only[u8,decide_false];rcases j1 with h|⟨⟨a0,a1,a2,a3,p0,p1,p2,p3⟩,h⟩
 ·exact .inl h
 ·refine .inr ⟨⟨by omega,f1 rfl,f2 rfl,f3 rfl,f4 rfl,f5 rfl,f6 rfl,f7 rfl,⟨by omega,by omega⟩,⟨by omega,by omega⟩,⟨by omega,by omega⟩,⟨by omega,by omega⟩,k0 a0,k1 a1,k2 a2,k3 a3,r0 p0,r1 p1,r2 p2,r3 p3⟩,h⟩
theorem Av(L:List cg)(mx:Int)(hL:(L.length:Int)≤9223372036854775807):∀(m:Nat) (i:Int),0≤i→i≤L.length→(L.length:Int)<m+i →
  ∃b,gx K n L mx m i=some b∧(b=true→(L.length:Int)≤mx∧∀k,i.toNat≤k→k<L.length→oW (L.getD k default)):=by
 intro m
 induction m with
 | zero=>intro i h0 h1 h2;omega
 | succ m ih =>
  intro i h0 h1 h2;show ∃b,eJ K n L mx (gx K n L mx m) i=some b∧_;by_cases hi:i<(L.length:Int)
  ·rcases EF K n L mx (gx K n L mx m) i h0 hi with h|⟨h,h'⟩
   ·exact⟨false,h,fun e=>by cases e⟩
   ·obtain⟨b,hb,hk⟩:=ih (i+1) (by omega) (by omega) (by omega);rw[h',dT (by omega) (by omega)];refine⟨b,hb,fun e=>⟨(hk e).1,fun k h3 h4=>?_⟩⟩;by_cases e2:k=i.toNat
    ·subst e2;exact h
    ·exact(hk e).2 k (by omega) h4
  ·have hd:decide (i<(L.length:Int))=false:=by simpa using hi
   unfold eJ;simp only[hd,Bool.false_eq_true,if_false];exact⟨_,rfl,fun e=>⟨of_decide_eq_true e,fun k h3 h4=>by omega⟩⟩
theorem Dl(L:List cg)(mx:Int)(hL:(L.length:Int)≤9223372036854775807)(hn:L.length<n):∃b,mL K n L mx=some b∧(b=true→(L.length:Int)≤mx∧∀x∈L,oW x):=by
 obtain⟨b,h1,h2⟩:=Av K n L mx hL n 0 (by omega) (by omega) (by omega);refine⟨b,h1,fun e=>⟨(h2 e).1,fun x hx=>?_⟩⟩;obtain⟨k,hk,rfl⟩:=List.mem_iff_getElem.1 hx;have:=(h2 e).2 k (by simp) hk;rwa[zj hk]at this
end
end Go.Proofs.Ytnpmlepplfaijaa
namespace Go.Proofs.Ytnpmlepplfaijaa.QInlineStyles
set_option linter.all false
open Go.RowKit
def lY(n:Int):Int:=min (max n 0) 1048576
theorem z7(K:Kn)(n:Nat)(x:Int)(h1 : -4611686018427387904≤x)(h2:x≤4611686018427387904):jQ K n x=some (x / 2):=by
 unfold jQ;by_cases h:x<0
 ·rw[if_pos (by simpa using h),dT (n:=1-x) (by omega) (by omega),Int.tdiv_eq_ediv_of_nonneg (by omega),dT (n:=(1-x) / 2) (by omega) (by omega),dT (by omega) (by omega)];congr 1;omega
 ·rw[if_neg (by simpa using h),Int.tdiv_eq_ediv_of_nonneg (by omega),dT (by omega) (by omega)]
theorem DT(x:Int):0≤lY x∧lY x≤1048576:=by unfold lY;omega
theorem yE(K:Kn)(n:Nat)(s:aH)(h1:0≤s.LineHeight)(h2:s.LineHeight≤65536):∃a b:Int,eH K n s=some (a,b)∧iV K n s=some (a,b)∧af (a+b)=max s.LineHeight 0:=by
 unfold eH iV iT i9 gj ir kH ir;simp only[Option.bind_some];have hz:=DT s.FontSize;unfold lY at hz;generalize min (max s.FontSize 0) 1048576=z at *;have e1:af (z+3)=z+3:=dT (by omega) (by omega);have e2:Int.tdiv (z+3) 4=(z+3) / 4:=Int.tdiv_eq_ediv_of_nonneg (by omega);rw[e1,e2,dT (n:=(z+3) / 4) (by omega) (by omega),dT (n:=z+(z+3) / 4) (by omega) (by omega)];have hm:max s.LineHeight 0=s.LineHeight:=by omega
 rw[hm,dT (n:=s.LineHeight-(z+(z+3) / 4)) (by omega) (by omega),z7 K n _ (by omega) (by omega)];simp only[Option.bind_some];refine⟨_,_,rfl,rfl,?_⟩;rw[dT (n:=z+(s.LineHeight-(z+(z+3) / 4)) / 2) (by omega) (by omega),dT (n:=s.LineHeight-(z+(s.LineHeight-(z+(z+3) / 4)) / 2)) (by omega) (by omega),dT (by omega) (by omega)];omega
theorem yg(K:Kn)(n:Nat)(s:aH)(w u:Int):∃r,gI K n s w u=some r∧jW K n s w u=some r:=by
 unfold gI jW
 repeat' split
 all_goals exact⟨_,rfl,rfl⟩
theorem holds(x0:cg)(x1 x2:Int)(h0:bF Try.prog 29 (bZ x0))(h1:bF Try.prog 3 ((bi .i64) x1))(h2:bF Try.prog 3 ((bi .i64) x2)):∃n,kZ (KN n) n x0 x1 x2=some true:=by
 refine⟨0+40,?_⟩;unfold kZ;obtain⟨v,hv,hv2⟩:=Dl (KN (0+40)) (0+40) [x0] 16 (by simp) (by simp);rw[xR 0];unfold kF;rw[hv];simp only[Option.bind_some,Bool.not_true,Bool.false_eq_true,if_false];have ht:d5 (KN (0+40)) (0+40) x0 x1 x2 true=some true:=rfl;cases v with
 | false=>rfl
 | true =>
  have hf:=(hv2 rfl).2 x0 (by simp);obtain⟨a,b,e1,e2,e3⟩:=yE (KN (0+40)) (0+40) x0.Style hf.lh.1 hf.lh.2;obtain⟨r,e4,e5⟩:=yg (KN (0+40)) (0+40) x0.Style x1 x2;have hf2:d5 (KN (0+40)) (0+40) x0 x1 x2 false=some true:=by
   unfold d5;simp only[Bool.false_eq_true,if_false,e1,e2,e4,e5,Option.bind_some,e3,beq_self_eq_true,if_true,gA]
  have hall:∀b,d5 (KN (0+40)) (0+40) x0 x1 x2 b=some true:=fun b=>by cases b;exact hf2;exact ht
  repeat' split
  all_goals first
   | exact hall _
   | simp_all
end Go.Proofs.Ytnpmlepplfaijaa.QInlineStyles
