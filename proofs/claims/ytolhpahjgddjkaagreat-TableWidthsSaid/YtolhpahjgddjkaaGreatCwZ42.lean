/- Plain laws about the plain functions: words for all of them. No program in sight. -/
import Derived.Test.YtolhpahjgddjkaaGreatCwGf
namespace Go.Proofs.YtolhpahjgddjkaaGreat
set_option linter.all false
open Go.RowKit
theorem cj{n:Int}(h1 : -9223372036854775808≤n)(h2:n≤9223372036854775807):aa n=n:=by
 unfold aa;rw[IntKind.wrap_i64];omega
theorem bS{α:Type}(x:Option α):au true x=x:=rfl
theorem oP{i:Int}{n:Nat}(h0:0≤i)(h1:i<n):aB i n=true:=by simp[aB,h0,h1]
theorem cd{α:Type}[Inhabited α]{L:List α}{k:Nat}(h:k<L.length):L.getD k default=L[k]:=by simp[List.getD_eq_getElem?_getD,List.getElem?_eq_getElem h]
theorem dE{n b:Nat}(h:n*b≤140737488355328)(hb:0<b):fits n b=true:=by
 have h1:n≤n*b:=Nat.le_mul_of_pos_right n hb;have h2:n≤9223372036854775807:=by omega
 simp only[fits,Bool.and_eq_true,decide_eq_true_eq];exact⟨h2,h⟩
end Go.Proofs.YtolhpahjgddjkaaGreat
namespace Go.Proofs.YtolhpahjgddjkaaGreat
set_option linter.all false
open Go.RowKit
def b8(l:ch)(b:Int):Int×Bool :=
 if l.Kind=1 then (min (max l.Value (-1048576)) 1048576,true)
 else if l.Kind=2 then (min (max (aa (Int.tdiv (aa ((min (max b 0) 1048576)*(min (max l.Value (-1000000)) 1000000))) 10000)) (-1048576)) 1048576,true)
 else (0,false)
def di(x:Int):Int:=min (max x 0) 1048576
section
variable(K:Kn)(n:Nat)
theorem CR(x:Int):gC K n x=some (di x):=rfl
theorem lq(l:ch)(b:Int):eX K n l b=some (b8 l b):=by
 unfold eX b8;by_cases h1:l.Kind=1
 ·simp[h1,pL]
 ·by_cases h2:l.Kind=2
  ·simp[h2,pL,gC]
  ·simp[h1,h2]
def dU(s:aE)(w c:Int):Int :=
 let m:=if (b8 s.MaxWidth w).2=true then min (max c 0) (max (b8 s.MaxWidth w).1 0) else max c 0
 if (b8 s.MinWidth w).2=true then max m (b8 s.MinWidth w).1 else m
theorem zh(s:aE)(w c:Int):lF K n s w c=some (dU s w c):=by
 unfold lF dU;simp only[lq,Option.bind_some,ub,ut]
 repeat (first|rfl|split)
def eh(s:aE)(w c:Int):bO :=
 ⟨⟨(b8 s.Margin.a0 w).1,(b8 s.Margin.a1 w).1,(b8 s.Margin.a2 w).1,(b8 s.Margin.a3 w).1⟩,⟨di s.Border.a0,di s.Border.a1,di s.Border.a2,di s.Border.a3⟩,
  ⟨max (b8 s.Padding.a0 w).1 0,max (b8 s.Padding.a1 w).1 0,max (b8 s.Padding.a2 w).1 0,max (b8 s.Padding.a3 w).1 0⟩,c⟩
theorem xE(s:aE)(w c:Int):j8 K n s w c=some (eh s w c):=by
 simp only[j8,lq,CR,Option.bind_some,eh]
def eW(z:bO):Int:=aa ((aa ((aa ((aa ((aa ((aa (z.Content+z.Margin.a1))+z.Margin.a3))+z.Border.a1))+z.Border.a3))+z.Padding.a1))+z.Padding.a3)
theorem pM(z:bO):j0 K n z=some (eW z):=rfl
def DI(s:aE)(v3:Int)(e:bO)(c:Int):bO :=
 let r:=aa (v3-eW { e with Content:=c })
 if r≤0 then { e with Content:=c }
 else if (b8 s.Margin.a3 v3).2=false∧(b8 s.Margin.a1 v3).2=false then { e with Content:=c,Margin:=⟨e.Margin.a0,aa (r-aa (Int.tdiv r 2)),e.Margin.a2,aa (Int.tdiv r 2)⟩ }
 else if (b8 s.Margin.a3 v3).2=false then { e with Content:=c,Margin:=⟨e.Margin.a0,e.Margin.a1,e.Margin.a2,r⟩ }
 else if (b8 s.Margin.a1 v3).2=false then { e with Content:=c,Margin:=⟨e.Margin.a0,r,e.Margin.a2,e.Margin.a3⟩ }
 else { e with Content:=c }
def mF(s:aE)(w:Int):bO :=
 let v3:=di w
 let e:=eh s v3 0
 let x:=if (b8 s.Width v3).2=true then (b8 s.Width v3).1 else aa (v3-eW e)
 DI s v3 e (dU s v3 x)
theorem Yd(s:aE)(v3:Int)(e:bO)(x:Int):qq K n s v3 e x=some (DI s v3 e (dU s v3 x)):=by
 simp only[qq,zh,pM,Option.bind_some,lq,DI];cases h3:(b8 s.Margin.a3 v3).2<;>cases h1:(b8 s.Margin.a1 v3).2<;>simp[u0,oo,h3,h1]<;>split<;>rfl
theorem adv(s:aE)(w:Int):pf K n s w=some (mF s w):=by
 simp only[pf,CR,xE,lq,pM,Option.bind_some,Yd,mF];cases h:(b8 s.Width (di w)).2<;>simp[h]
def gl(l:ch):Prop := -16777216≤l.Value∧l.Value≤16777216
theorem gU(l:ch):∃b,fV K n l=some b∧(b=true→gl l):=by
 unfold fV wg;by_cases h:l.Value ≥ -16777216
 ·simp only[h,decide_true,if_true];exact⟨_,rfl,fun e=>⟨h,of_decide_eq_true e⟩⟩
 ·simp only[h,decide_false,Bool.false_eq_true,if_false];exact⟨_,rfl,fun e=>by cases e⟩
structure Bc(x:dF):Prop where
 text:(x.Text.size:Int)≤60
 left:gl x.Style.Left
 top:gl x.Style.Top
 width:gl x.Style.Width
 height:gl x.Style.Height
 minw:gl x.Style.MinWidth
 maxw:gl x.Style.MaxWidth
 basis:gl x.Style.Basis
 lh:0≤x.Style.LineHeight∧x.Style.LineHeight≤65536
 fs:0≤x.Style.FontSize∧x.Style.FontSize≤65536
 grow:0≤x.Style.Grow∧x.Style.Grow≤1048576
 shrink:0≤x.Style.Shrink∧x.Style.Shrink≤1048576
 m0:gl x.Style.Margin.a0
 m1:gl x.Style.Margin.a1
 m2:gl x.Style.Margin.a2
 m3:gl x.Style.Margin.a3
 p0:gl x.Style.Padding.a0
 p1:gl x.Style.Padding.a1
 p2:gl x.Style.Padding.a2
 p3:gl x.Style.Padding.a3
theorem ZI(L:List dF)(m:Int)(L1:Int→Option Bool)(i:Int)(h0:0≤i)(hi:i<L.length):ln K n L m L1 i=some false∨(Bc (L.getD i.toNat default)∧ln K n L m L1 i=L1 (aa (i+1))):=by
 unfold ln;simp only[hi,decide_true,if_true,oP h0 hi,bS];generalize hx:L.getD i.toNat default=x;have j5:∀b,rE K n L m i L1 b=if b=true then some false else L1 (aa (i+1)):=fun b=>rfl;obtain⟨b1,e1,f1⟩:=gU K n x.Style.Left;obtain⟨b2,e2,f2⟩:=gU K n x.Style.Top;obtain⟨b3,e3,f3⟩:=gU K n x.Style.Width;obtain⟨b4,e4,f4⟩:=gU K n x.Style.Height;obtain⟨b5,e5,f5⟩:=gU K n x.Style.MinWidth;obtain⟨b6,e6,f6⟩:=gU K n x.Style.MaxWidth;obtain⟨b7,e7,f7⟩:=gU K n x.Style.Basis;obtain⟨c0,g0,k0⟩:=gU K n x.Style.Margin.a0;obtain⟨c1,g1,k1⟩:=gU K n x.Style.Margin.a1;obtain⟨c2,g2,k2⟩:=gU K n x.Style.Margin.a2;obtain⟨c3,g3,k3⟩:=gU K n x.Style.Margin.a3;obtain⟨d0,q0,r0⟩:=gU K n x.Style.Padding.a0;obtain⟨d1,q1,r1⟩:=gU K n x.Style.Padding.a1;obtain⟨d2,q2,r2⟩:=gU K n x.Style.Padding.a2;obtain⟨d3,q3,r3⟩:=gU K n x.Style.Padding.a3;have jt:fi K n L m i L1 true=some false:=rfl;have j1:fi K n L m i L1 false=some false∨((c0=true∧c1=true∧c2=true∧c3=true∧d0=true∧d1=true∧d2=true∧d3=true)∧fi K n L m i L1 false=L1 (aa (i+1))):=by
  simp only[fi,wK,wo,uG,rE,hx,g0,g1,g2,g3,q0,q1,q2,q3,Option.bind_some];cases c0<;>cases d0<;>cases c1<;>cases d1<;>cases c2<;>cases d2<;>cases c3<;>cases d3<;>simp
 simp only[e1,e2,e3,e4,e5,e6,e7,Option.bind_some,jt];by_cases t0:(x.Text.size:Int)>60
 ·left;simp[t0]
 simp only[t0,decide_false,Bool.false_eq_true,if_false];cases b1
 ·left;simp
 simp only[Bool.not_true,Bool.false_eq_true,if_false];cases b2
 ·left;simp
 simp only[Bool.not_true,Bool.false_eq_true,if_false];cases b3
 ·left;simp
 simp only[Bool.not_true,Bool.false_eq_true,if_false];cases b4
 ·left;simp
 simp only[Bool.not_true,Bool.false_eq_true,if_false];cases b5
 ·left;simp
 simp only[Bool.not_true,Bool.false_eq_true,if_false];cases b6
 ·left;simp
 simp only[Bool.not_true,Bool.false_eq_true,if_false];cases b7
 ·left;simp
 simp only[Bool.not_true,Bool.false_eq_true,if_false];by_cases u1:x.Style.LineHeight<0
 ·left;simp[u1]
 simp only[u1,decide_false,Bool.false_eq_true,if_false];by_cases u2:x.Style.LineHeight>65536
 ·left;simp[u2]
 simp only[u2,decide_false,Bool.false_eq_true,if_false];by_cases u3:x.Style.FontSize<0
 ·left;simp[u3]
 simp only[u3,decide_false,Bool.false_eq_true,if_false];by_cases u4:x.Style.FontSize>65536
 ·left;simp[u4]
 simp only[u4,decide_false,Bool.false_eq_true,if_false];by_cases u5:x.Style.Grow<0
 ·left;simp[u5]
 simp only[u5,decide_false,Bool.false_eq_true,if_false];by_cases u6:x.Style.Grow>1048576
 ·left;simp[u6]
 simp only[u6,decide_false,Bool.false_eq_true,if_false];by_cases u7:x.Style.Shrink<0
 ·left;simp[u7]
 simp only[u7,decide_false,Bool.false_eq_true,if_false];by_cases u8:x.Style.Shrink>1048576
 ·left;simp only[u8,decide_true];exact jt
 simp only[u8,decide_false];rcases j1 with h|⟨⟨a0,a1,a2,a3,p0,p1,p2,p3⟩,h⟩
 ·exact .inl h
 ·refine .inr ⟨⟨by omega,f1 rfl,f2 rfl,f3 rfl,f4 rfl,f5 rfl,f6 rfl,f7 rfl,⟨by omega,by omega⟩,⟨by omega,by omega⟩,⟨by omega,by omega⟩,⟨by omega,by omega⟩,k0 a0,k1 a1,k2 a2,k3 a3,r0 p0,r1 p1,r2 p2,r3 p3⟩,h⟩
theorem Q1(L:List dF)(mx:Int)(hL:(L.length:Int)≤9223372036854775807):∀(m:Nat) (i:Int),0≤i→i≤L.length→(L.length:Int)<m+i →
  ∃b,oK K n L mx m i=some b∧(b=true→(L.length:Int)≤mx∧∀k,i.toNat≤k→k<L.length→Bc (L.getD k default)):=by
 intro m
 induction m with
 | zero=>intro i h0 h1 h2;omega
 | succ m ih =>
  intro i h0 h1 h2;show ∃b,ln K n L mx (oK K n L mx m) i=some b∧_;by_cases hi:i<(L.length:Int)
  ·rcases ZI K n L mx (oK K n L mx m) i h0 hi with h|⟨h,h'⟩
   ·exact⟨false,h,fun e=>by cases e⟩
   ·obtain⟨b,hb,hk⟩:=ih (i+1) (by omega) (by omega) (by omega);rw[h',cj (by omega) (by omega)];refine⟨b,hb,fun e=>⟨(hk e).1,fun k h3 h4=>?_⟩⟩;by_cases e2:k=i.toNat
    ·subst e2;exact h
    ·exact(hk e).2 k (by omega) h4
  ·have hd:decide (i<(L.length:Int))=false:=by simpa using hi
   unfold ln;simp only[hd,Bool.false_eq_true,if_false];exact⟨_,rfl,fun e=>⟨of_decide_eq_true e,fun k h3 h4=>by omega⟩⟩
theorem Wq(L:List dF)(mx:Int)(hL:(L.length:Int)≤9223372036854775807)(hn:L.length<n):∃b,AB K n L mx=some b∧(b=true→(L.length:Int)≤mx∧∀x∈L,Bc x):=by
 obtain⟨b,h1,h2⟩:=Q1 K n L mx hL n 0 (by omega) (by omega) (by omega);refine⟨b,h1,fun e=>⟨(h2 e).1,fun x hx=>?_⟩⟩;obtain⟨k,hk,rfl⟩:=List.mem_iff_getElem.1 hx;have:=(h2 e).2 k (by simp) hk;rwa[cd hk]at this
end
theorem dQ{i:Nat}(h:i<1000000):aa ((i:Int)+1)=((i+1:Nat):Int):=by rw[cj (by omega) (by omega)];omega
theorem nN{i n:Nat}(h:i<n):decide ((i:Int)<(n:Int))=true:=by simpa using h
theorem oS{i n:Nat}(h:n≤i):decide ((i:Int)<(n:Int))=false:=by simpa using h
theorem lr{i n:Nat}(h:i<n):aB (i:Int) n=true:=oP (by omega) (by omega)
theorem drop_at'{α:Type}[Inhabited α]{L:List α}{i:Nat}(h:i<L.length):L.drop i=L.getD i default::L.drop (i+1):=by
 rw[cd h];exact List.drop_eq_getElem_cons h
theorem i8{α:Type}[Inhabited α]{L:List α}{i:Nat}(h:i<L.length):L.getD i default∈L:=by
 rw[cd h];exact List.getElem_mem h
def gZ(k:ac):Bool:=k.Kind == 3||k.Style.Position != 2
def ga(k:ac):Bool:=k.Kind == 1||(k.Kind == 6||k.Kind == 7)
theorem SK(K:Kn)(n:Nat)(k:ac):ur K n k=some (gZ k):=by
 unfold ur gZ uI;cases h:k.Kind == 3<;>simp
theorem Gx(K:Kn)(n:Nat)(k:ac):sB K n k=some (ga k):=by
 unfold sB ga pT;cases h:k.Kind == 1<;>cases h2:k.Kind == 6<;>simp
theorem Ta(K:Kn)(n:Nat)(hO:∀x,K.kT (Fv.fn 97) x=some (ga x))(L:List ac)(hL:L.length≤20):∀(m i:Nat),i≤L.length→L.length<m+i →
  ∃r,oF K n L (Fv.fn 97) m i=some r∧decide (r≥0)=(L.drop i).any ga:=by
 intro m
 induction m with
 | zero=>intro i h1 h2;omega
 | succ m ih =>
  intro i h1 h2;simp only[oF,yi];by_cases hi:i<L.length
  ·rw[drop_at' hi];simp only[nN hi,if_true,lr hi,bS,hO,Option.bind_some,Int.toNat_natCast,List.any_cons,dQ (show i<1000000 by omega)];cases hq:ga (L.getD i default)
   ·simp only[Bool.false_eq_true,if_false,Bool.false_or];exact ih (i+1) (by omega) (by omega)
   ·exact⟨_,rfl,by simp⟩
  ·have e:i=L.length:=by omega
   subst e;simp only[oS (Nat.le_refl _),Bool.false_eq_true,if_false,List.drop_length];exact⟨_,rfl,by simp⟩
theorem St(K:Kn)(n:Nat)(hO:∀x,K.kT (Fv.fn 97) x=some (ga x))(L:List ac)(hL:L.length≤20)(hn:20<n):sG K n L (Fv.fn 97)=some (L.any ga):=by
 obtain⟨r,h1,h2⟩:=Ta K n hO L hL n 0 (by omega) (by omega);unfold sG AE;rw[show oF K n L (Fv.fn 97) n 0=some r from h1];simp only[Option.bind_some,h2,List.drop_zero]
theorem U3(K:Kn)(n:Nat)(b:ac)(hb:b.Kids.length≤20):∀(m i:Nat) (acc:List ac),i≤b.Kids.length→b.Kids.length<m+i→acc.length≤i →
  sA K n b m i acc=(sG K n (acc++(b.Kids.drop i).filter gZ) (Fv.fn 97)).bind fun v=>some (acc++(b.Kids.drop i).filter gZ,v):=by
 intro m
 induction m with
 | zero=>intro i acc h1 h2;omega
 | succ m ih =>
  intro i acc h1 h2 h3;simp only[sA,wy];by_cases hi:i<b.Kids.length
  ·rw[drop_at' hi];simp only[nN hi,if_true,lr hi,bS,SK,Option.bind_some,xf,Int.toNat_natCast,List.length_cons,List.length_nil,dQ (show i<1000000 by omega),List.filter_cons];cases hq:gZ (b.Kids.getD i default)
   ·simp only[Bool.false_eq_true,if_false];exact ih (i+1) acc (by omega) (by omega) (by omega)
   ·simp only[if_true];rw[dE (by omega) (by omega),bS,ih (i+1) _ (by omega) (by omega) (by simp;omega)];simp only[List.append_assoc,List.singleton_append]
  ·have e:i=b.Kids.length:=by omega
   subst e;simp only[oS (Nat.le_refl _),Bool.false_eq_true,if_false,List.drop_length,List.filter_nil,List.append_nil]
def gM(b:ac):List ac:=b.Kids.filter gZ
theorem Hf{b:ac}:(gM b).length≤b.Kids.length:=List.length_filter_le _ _
theorem Na(K:Kn)(n:Nat)(hO:∀x,K.kT (Fv.fn 97) x=some (ga x))(b:ac)(hb:b.Kids.length≤20)(hn:20<n):qE K n b=some (gM b,(gM b).any ga):=by
 have h:=U3 K n b hb n 0 [] (by omega) (by omega) (by simp);unfold qE;refine (show _=_ from h).trans ?_;simp only[List.nil_append,List.drop_zero];rw[show b.Kids.filter gZ=gM b from rfl,St K n hO _ (Nat.le_trans Hf hb) hn];rfl
def iq(s:aE)(w:Int):List ac→Int→List ag→List ag×Int
 | [],y,acc=>(acc,y)
 | k::r,y,acc=>if k.Text.toList == (⟨#[]⟩:ByteArray).toList then iq s w r y acc else iq s w r (aa (y+s.LineHeight)) (acc++[{ bQ with Kind:=2,Y:=y,W:=w,H:=s.LineHeight,Text:=k.Text }])
theorem W6(K:Kn)(n:Nat)(L:List ac)(s:aE)(w:Int)(hL:L.length≤20):∀(m i:Nat) (y:Int) (acc:List ag),i≤L.length→L.length<m+i→acc.length≤i →
  qM K n L s w m y i acc=some (iq s w (L.drop i) y acc):=by
 intro m
 induction m with
 | zero=>intro i y acc h1 h2;omega
 | succ m ih =>
  intro i y acc h1 h2 h3;simp only[qM,yj];by_cases hi:i<L.length
  ·rw[drop_at' hi];simp only[nN hi,if_true,lr hi,bS,Option.bind_some,tK,Int.toNat_natCast,List.length_cons,List.length_nil,dQ (show i<1000000 by omega),iq];cases hq:(L.getD i default).Text.toList == (⟨#[]⟩:ByteArray).toList
   ·simp only[Bool.not_false,Bool.false_eq_true,if_false,if_true];rw[dE (by omega) (by omega),bS,ih (i+1) _ _ (by omega) (by omega) (by simp;omega)]
   ·simp only[Bool.not_true,Bool.false_eq_true,if_false,if_true];exact ih (i+1) _ acc (by omega) (by omega) (by omega)
  ·have e:i=L.length:=by omega
   subst e;simp only[oS (Nat.le_refl _),Bool.false_eq_true,if_false,List.drop_length,iq]
theorem YB(K:Kn)(n:Nat)(L:List ac)(s:aE)(w:Int)(hL:L.length≤20)(hn:20<n):zV K n L s w=some (iq s w L 0 []) :=
 (W6 K n L s w hL n 0 0 [] (by omega) (by omega) (by simp)).trans (by simp only[List.drop_zero])
theorem CI(s:aE)(w:Int):∀(L:List ac) (y:Int) (acc:List ag),(∀f∈acc,f.Kids=[])→(iq s w L y acc).1.length≤acc.length+L.length∧∀f∈(iq s w L y acc).1,f.Kids=[]
 | [],y,acc,h=>⟨by simp[iq],h⟩
 | k::r,y,acc,h=>by
  unfold iq;split
  ·have:=CI s w r y acc h;exact⟨by simp only[List.length_cons];omega,this.2⟩
  ·have:=CI s w r (aa (y+s.LineHeight)) (acc++[{ bQ with Kind:=2,Y:=y,W:=w,H:=s.LineHeight,Text:=k.Text }]) (fun f hf=>by
    rcases List.mem_append.1 hf with hf|hf
    ·exact h f hf
    ·simp only[List.mem_cons,List.not_mem_nil,or_false]at hf;subst hf;rfl)
   refine⟨?_,this.2⟩;have h1:=this.1;simp only[List.length_append,List.length_cons,List.length_nil]at h1⊢;omega
def uR(f:ag)(w:Int):ag :=
 if f.Style.Position=1 then { f with X:=aa (f.X+(b8 f.Style.Left w).1),Y:=if f.Style.Top.Kind=1 then aa (f.Y+(b8 f.Style.Top 0).1) else f.Y } else f
theorem XB(K:Kn)(n:Nat)(f:ag)(w:Int):vV K n f w=some (uR f w):=by
 unfold vV uR;simp only[lq,Option.bind_some,vk];by_cases h:f.Style.Position=1
 ·by_cases h2:f.Style.Top.Kind=1<;>simp[h,h2]
 ·simp[h]
theorem Ym(f:ag)(w:Int):(uR f w).Kids=f.Kids:=by unfold uR;split<;>rfl
theorem T6{a b:Int}(h:a % 18446744073709551616=b % 18446744073709551616):aa a=aa b:=by
 unfold aa;rw[IntKind.wrap_i64,IntKind.wrap_i64];omega
theorem TS(a:Int):aa a % 18446744073709551616=a % 18446744073709551616:=by
 unfold aa;rw[IntKind.wrap_i64];omega
def oE(bl:Bool)(z:bO)(down:Int)(f:ag):ag :=
 if bl=true then uR { f with X:=aa (f.X+aa (z.Border.a3+z.Padding.a3)),Y:=aa (f.Y+aa (aa (z.Border.a0+z.Padding.a0)+down)) } z.Content
 else { f with X:=aa (f.X+aa (z.Border.a3+z.Padding.a3)),Y:=aa (f.Y+aa (aa (z.Border.a0+z.Padding.a0)+down)) }
theorem WH(bl:Bool)(z:bO)(down:Int)(f:ag):(oE bl z down f).Kids=f.Kids:=by
 unfold oE;split
 ·rw[Ym]
 ·rfl
def Ah(b:ac)(z:bO)(bl:Bool)(L:List ag)(d:Int)(bf af:bj)(em:Bool)(h:Int):ag :=
 ⟨1,b.Node,z.Margin.a3,0,aa (z.Content+aa (aa (aa (z.Border.a3+z.Padding.a3)+z.Border.a1)+z.Padding.a1)),aa (aa (aa (aa (h+z.Border.a0)+z.Padding.a0)+z.Border.a2)+z.Padding.a2),0,⟨#[]⟩,b.Style,bf,af,em,L.map (oE bl z d)⟩
theorem Sq{α:Type}(A R:List α)(x y:α):(A++x::R).set A.length y=A++y::R:=by
 rw[List.set_append_right _ _ (Nat.le_refl _)];simp
theorem Rq{α:Type}(A R:List α)(x d:α):(A++x::R).getD A.length d=x:=by simp[List.getD_eq_getElem?_getD]
theorem Qc(K:Kn)(n:Nat)(b:ac)(z:bO)(v6:(List ac)×Bool)(L:List ag)(d:Int)(bf af:bj)(em:Bool)(v39 H:Int)(hl:L.length≤20)(ho:v6.2=true→v6.1.length=L.length∧∀k∈v6.1,ga k=true):
  ∀(m:Nat) (A R:List ag),A.length+R.length=L.length→R.length<m→pN K n b z v6 L d bf af em v39 H m (A.length:Int) (A++R) =
   some ⟨1,b.Node,z.Margin.a3,0,aa (z.Content+v39),H,0,⟨#[]⟩,b.Style,bf,af,em,A++R.map (oE v6.2 z d)⟩:=by
 intro m
 induction m with
 | zero=>intro A R _ h2;omega
 | succ m ih =>
  intro A R h1 h2;simp only[pN,xo];cases R with
  | nil =>
   have e:A.length=L.length:=by simpa using h1
   simp only[oS (show L.length≤A.length by omega),Bool.false_eq_true,if_false,List.map_nil]
  | cons x R =>
   simp only[List.length_cons]at h1 h2;have hA:A.length<L.length:=by omega
   have nx:=ih (A++[oE v6.2 z d x]) R (by simp;omega) (by omega);simp only[List.append_assoc,List.singleton_append,List.length_append,List.length_cons,List.length_nil,Nat.zero_add]at nx;simp only[nN hA,if_true,Int.toNat_natCast,Sq,Rq,lr (show A.length<(A++x::R).length by simp),List.length_append,List.length_cons,lr (show A.length<A.length+(R.length+1) by omega),bS,Gx,Option.bind_some,xX,tT,XB,dQ (show A.length<1000000 by omega),List.map_cons];cases hv:v6.2 with
   | false =>
    rw[hv]at nx;simp only[Bool.false_eq_true,if_false];simp only[oE,Bool.false_eq_true,if_false]at nx⊢;exact nx
   | true =>
    rw[hv]at nx;obtain⟨g1,g2⟩:=ho hv;have hin:A.length<v6.1.length:=by omega
    simp only[if_true,lr hin,bS,g2 _ (i8 hin)];simp only[oE,if_true]at nx⊢;exact nx
section
variable(K:Kn)(n:Nat)(hn:20<n)(b:ac)(z:bO)(L:List ag)(hl:L.length≤20)
include hn hl
theorem Yc(v6:(List ac)×Bool)(ho:v6.2=true→v6.1.length=L.length∧∀k∈v6.1,ga k=true)(d:Int)(bf af:bj)(em:Bool)(h:Int):qf K n b z v6 L d bf af em h=some (Ah b z v6.2 L d bf af em h):=by
 unfold qf;simp only[AK,Option.bind_some];exact Qc K n b z v6 L d bf af em _ _ hl ho n [] L (by simp) (by omega)
def zZ(s:aE)(h:Int):Int:=if s.Height.Kind=1 then max (min (max s.Height.Value (-1048576)) 1048576) 0 else max h 0
theorem bj6(v6:(List ac)×Bool)(ho:v6.2=true→v6.1.length=L.length∧∀k∈v6.1,ga k=true)(d h:Int)(bf af:bj)(em:Bool):jU K n b z v6 L d h bf af em=some (Ah b z v6.2 L d bf af em (zZ b.Style h)):=by
 unfold jU;simp only[lq,Option.bind_some,tv,Yc K n hn b z L hl v6 ho];by_cases hk:b.Style.Height.Kind=1
 ·simp[hk,zZ,b8]
 ·simp only[zZ,hk,if_false,beq_iff_eq,Bool.false_eq_true];split<;>rfl
end
theorem ady(K:Kn)(n:Nat)(l:List ag)(hl:l.length≤20):wu K n l=some l:=by
 unfold wu both;have hf:fits (([]:List ag).length+l.length) 584=true:=by rw[List.length_nil,Nat.zero_add];exact dE (by omega) (by omega)
 rw[hf];cases l<;>simp[bS]
end Go.Proofs.YtolhpahjgddjkaaGreat
namespace Go.Proofs.YtolhpahjgddjkaaGreat
set_option linter.all false
open Go.RowKit
def mix{α:Type}(i:Nat)(N O:List α):List α:=N.take i++O.drop i
variable{α:Type}[Inhabited α]{i:Nat}{N O:List α}
theorem gm(h:N.length=O.length):(mix i N O).length=O.length:=by unfold mix;simp;omega
theorem kP:mix 0 N O=O:=by simp[mix]
theorem kJ(h:N.length=O.length):mix O.length N O=N:=by unfold mix;rw[List.take_of_length_le (by omega),List.drop_eq_nil_of_le (Nat.le_refl _),List.append_nil]
theorem n8(h:N.length=O.length)(hi:i<O.length):(mix i N O).getD i default=O.getD i default:=by
 unfold mix;rw[List.drop_eq_getElem_cons hi,List.getD_eq_getElem?_getD,List.getElem?_append_right (by simp;omega)];have:i-(N.take i).length=0:=by simp;omega
 rw[this,cd hi];rfl
theorem Yj(h:N.length=O.length){k:Nat}(hk:k<i)(hi:i≤O.length):(mix i N O).getD k default=N.getD k default:=by
 unfold mix;rw[List.getD_eq_getElem?_getD,List.getElem?_append_left (by simp;omega),List.getElem?_take_of_lt hk,List.getD_eq_getElem?_getD]
theorem Wp(h:N.length=O.length)(hi:i<O.length):mix (i+1) N O=N.take i++N.getD i default::O.drop (i+1):=by
 unfold mix;rw[List.take_succ_eq_append_getElem (by omega:i<N.length),cd (by omega:i<N.length),List.append_assoc];rfl
theorem i7(h:N.length=O.length)(hi:i<O.length):List.set (mix i N O) i (N.getD i default)=mix (i+1) N O:=by
 rw[Wp h hi];unfold mix;rw[List.drop_eq_getElem_cons hi];have:i=(N.take i).length+0:=by simp;omega
 conv=>lhs;arg 2;rw[this]
 rw[List.set_append_right _ _ (by omega),Nat.add_sub_cancel_left,List.set_cons_zero]
theorem M1(h:N.length=O.length)(hi:i<O.length):(mix (i+1) N O).getD i default=N.getD i default:=Yj h (by omega) (by omega)
def bR(n:Nat)(f:Nat→α):List α:=(List.range n).map f
theorem eI(n:Nat)(f:Nat→α):(bR n f).length=n:=by simp[bR]
theorem hH{n:Nat}{f:Nat→α}{k:Nat}(h:k<n):(bR n f).getD k default=f k:=by
 rw[cd (by rw[eI];exact h)];simp[bR]
theorem gP{L M:List α}(h:L.length=M.length)(e:∀k,k<M.length→L.getD k default=M.getD k default):L=M:=by
 refine List.ext_getElem h (fun k h1 h2=>?_);have:=e k h2;rw[cd h1,cd h2]at this;exact this
theorem ov{n:Nat}{f:Nat→α}:bR (n+1) f=bR n f++[f n]:=by simp[bR,List.range_succ]
end Go.Proofs.YtolhpahjgddjkaaGreat
namespace Go.Proofs.YtolhpahjgddjkaaGreat
set_option linter.all false
open Go.RowKit
set_option maxRecDepth 20000
theorem ci(i:Nat):((i:Int)).toNat=i:=by omega
def sm:List Int→Int
 | []=>0
 | x::r=>x+sm r
theorem j7:∀(a b:List Int),sm (a++b)=sm a+sm b
 | [],b=>by simp[sm]
 | x::r,b=>by simp only[List.cons_append,sm,j7 r b];omega
theorem Lf{B:Int}(hB:0≤B):∀(a:List Int),(∀x∈a,-B≤x∧x≤B) → -(a.length*B)≤sm a∧sm a≤a.length*B
 | [],_=>by simp[sm]
 | x::r,h=>by
  have h1:=h x (by simp);have h2:=Lf hB r (fun y hy=>h y (by simp[hy]));have e:((x::r).length:Int)*B=r.length*B+B:=by simp[Int.add_mul]
  simp only[sm];rw[e];omega
theorem Y4(l:List Int){a i:Nat}(ha:a≤i)(hi:i<l.length):sm (List.drop a (List.take (i+1) l))=sm (List.drop a (List.take i l))+l.getD i default:=by
 rw[cd hi,List.take_succ_eq_append_getElem hi,List.drop_append_of_le_length (by simp;omega),j7];simp[sm]
end Go.Proofs.YtolhpahjgddjkaaGreat
namespace Go.Proofs.YtolhpahjgddjkaaGreat.QSort
set_option linter.all false
open Go.RowKit
theorem aH{α:Type}{i:Int}{m:Nat}{x:Option α}(h:0≤i∧i<m):au (aB i m) x=x:=by rw[oP h.1 h.2];rfl
theorem gd{A B:List Int}{x:Int}{i:Nat}(h:i=A.length):(A++x::B).getD i default=x:=by subst h;simp[List.getD_eq_getElem?_getD]
theorem zL{A B:List Int}{x y:Int}{i:Nat}(h:i=A.length+1):(A++x::y::B).getD i default=y:=by subst h;simp[List.getD_eq_getElem?_getD]
theorem sw{A B:List Int}{x y:Int}{i j:Nat}(h:i=A.length)(hj:j=A.length+1):List.set (List.set (A++x::y::B) j x) i y=A++y::x::B:=by subst h;subst hj;simp[List.set_append]
theorem sw'{A B:List Int}{x y:Int}{i j:Nat}(h:i=A.length)(hj:j=A.length+1):List.set (List.set (A++x::y::B) i y) j x=A++y::x::B:=by subst h;subst hj;simp[List.set_append]
theorem wn{n:Int}{k:Nat}(h:n=k)(hk:k≤4000000000):aa n=(k:Int):=by subst h;exact cj (by omega) (by omega)
theorem half{i j:Nat}(h:i+j≤4000000000):aa ((IntKind.wrap .u64 (aa ((i:Int)+(j:Int)))) / 2)=(((i+j) / 2:Nat):Int):=by
 rw[wn (n:=(i:Int)+(j:Int)) (k:=i+j) (by omega) (by omega),IntKind.wrap_u64];exact wn (by omega) (by omega)
theorem bp{α:Type}{p:Prop}[Decidable p]{x y:α}(h:p):(if decide p=true then x else y)=x:=by simp[h]
theorem bo{α:Type}{p:Prop}[Decidable p]{x y:α}(h:¬ p):(if decide p=true then x else y)=y:=by simp[h]
theorem NF{α:Type}{p:Prop}[Decidable p]{x y:α}(h:¬ p):(if (!decide p)=true then x else y)=x:=by simp[h]
theorem Hv{α:Type}{p:Prop}[Decidable p]{x y:α}(h:p):(if (!decide p)=true then x else y)=y:=by simp[h]
theorem sb{α β:Type}(x:α)(k:α→Option β):(some x).bind k=k x:=rfl
structure jn(K:Kn)(f:Fv)(D:Int→Prop)(key:Int→Int):Prop where
 ok:∀a b,D a→D b→∃c,K.gR f a b=some c∧(c<0↔key a<key b)
def R(key:Int→Int)(a b:Int):Prop:=key a<key b∨key a=key b∧a<b
theorem R.trans{key:Int→Int}{a b c:Int}(h:R key a b)(h2:R key b c):R key a c:=by unfold R at *;omega
theorem R.qK{key:Int→Int}{a:Int}(h:R key a a):False:=by unfold R at *;omega
theorem R.asymm{key:Int→Int}{a b:Int}(h:R key a b)(h2:R key b a):False:=by unfold R at *;omega
theorem R.yh{key:Int→Int}{a b:Int}(h:b<a):key a<key b↔R key a b:=by unfold R;omega
theorem R.not{key:Int→Int}{a b:Int}(h:a≠b)(h2:¬ R key a b):R key b a:=by unfold R at *;omega
variable{K:Kn}{n:Nat}{f:Fv}{D:Int→Prop}{key:Int→Int}
theorem Xy(hC:jn K f D key)(P T:List Int)(b i:Int)(L1:Int→List Int→Option (List Int)):∀(m:Nat) (S1 S2:List Int) (x:Int),S1.length<m→(∀y∈S1,y<x∧D y)→D x→(S1++S2).Pairwise (R key)→(∀y∈S2,R key x y)→P.length+S1.length≤10000 →
  ∃S',S'.Perm (x::(S1++S2))∧S'.Pairwise (R key)∧sW K n ((P.length:Nat):Int) b f i L1 m ((P.length+S1.length:Nat):Int) (P++S1++x::S2++T)=L1 (aa (i+1)) (P++S'++T):=by
 intro m
 induction m with
 | zero=>intro S1 S2 x h;omega
 | succ m ih =>
  intro S1 S2 x hm hS hx hp h2 hl;simp only[sW,wZ];rcases List.eq_nil_or_concat S1 with rfl|⟨S0,y,rfl⟩
  ·refine⟨x::S2,by simp,?_,?_⟩
   ·rw[List.pairwise_cons];exact⟨h2,by simpa using hp⟩
   ·rw[bo (by simp)];simp[rS]
  ·simp only[List.concat_eq_append]at *;have hy:=hS y (by simp);simp only[List.length_append,List.length_cons,List.length_nil]at hm hl;have e1:P++(S0++[y])++x::S2++T=(P++S0)++y::x::(S2++T):=by simp
   have k1:((P.length+(S0++[y]).length:Nat):Int)=((P.length+S0.length+1:Nat):Int):=by simp;omega
   have hlen:((P++S0)++y::x::(S2++T)).length≥P.length+S0.length+2:=by simp;omega
   rw[e1,k1,bp (by omega)];rw[wn (n:=((P.length+S0.length+1:Nat):Int)-1) (k:=P.length+S0.length) (by omega) (by omega)];rw[aH (by omega),aH (by omega)];simp only[Int.toNat_natCast];rw[zL (i:=P.length+S0.length+1) (by simp),gd (i:=P.length+S0.length) (by simp)];obtain⟨c,hc,hlt⟩:=hC.ok x y hx hy.2;rw[hc,sb];simp only[rS];by_cases hr:c<0
   ·rw[bp hr];rw[wn (n:=((P.length+S0.length+1:Nat):Int)-1) (k:=P.length+S0.length) (by omega) (by omega)];simp only[List.length_set];rw[aH (by omega),aH (by omega),aH (by omega),aH (by omega)];simp only[Int.toNat_natCast];rw[zL (i:=P.length+S0.length+1) (by simp),gd (i:=P.length+S0.length) (by simp),sw (by simp) (by simp)];have hxy:R key x y:=(R.yh hy.1).1 (hlt.1 hr);obtain⟨S',p1,p2,p3⟩:=ih S0 (y::S2) x (by omega) (fun z hz=>hS z (by simp[hz])) hx (by simpa using hp)
     (fun z hz=>by
      rcases List.mem_cons.1 hz with rfl|hz
      ·exact hxy
      ·exact h2 z hz) (by omega)
    refine⟨S',by simpa using p1,p2,?_⟩;have e3:P++S0++x::y::(S2++T)=P++S0++x::(y::S2)++T:=by simp
    rw[e3,p3]
   ·rw[bo hr];have hyx:R key y x:=R.not (by omega) (fun h=>hr (hlt.2 ((R.yh hy.1).2 h)));refine⟨S0++y::x::S2,?_,?_,by simp⟩
    ·exact(List.Perm.of_eq (by simp)).trans (List.perm_middle (l₁:=S0++[y]) (a:=x) (l₂:=S2))
    ·simp only[List.append_assoc,List.cons_append,List.nil_append,List.pairwise_append,List.pairwise_cons,List.mem_cons]at hp⊢;obtain⟨q1,⟨q2,q3⟩,q4⟩:=hp;refine⟨q1,⟨?_,h2,q3⟩,?_⟩
     ·rintro z (rfl|hz)
      ·exact hyx
      ·exact q2 z hz
     ·rintro u hu z (rfl|rfl|hz)
      ·exact q4 u hu z (.inl rfl)
      ·exact(q4 u hu y (.inl rfl)).trans hyx
      ·exact q4 u hu z (.inr hz)
theorem YJ(hC:jn K f D key)(P Q:List Int)(hn:10001<n):∀(m:Nat) (S T:List Int),T.length<m→S≠[]→(∀y∈S,∀z∈T,y<z)→T.Pairwise (· < ·)→(∀y∈S++T,D y)→S.Pairwise (R key)→P.length+S.length+T.length≤10000 →
  ∃S',S'.Perm (S++T)∧S'.Pairwise (R key)∧m7 K n ((P.length:Nat):Int) ((P.length+S.length+T.length:Nat):Int) f m ((P.length+S.length:Nat):Int) (P++S++T++Q)=some (P++S'++Q):=by
 intro m
 induction m with
 | zero=>intro S T h;omega
 | succ m ih =>
  intro S T hm hne hST hT hD hS hl;simp only[m7,sX];cases T with
  | nil=>exact⟨S,by simp,hS,by rw[bo (by simp)];simp⟩
  | cons x T =>
   simp only[List.length_cons]at hm hl⊢;rw[bp (by omega)];rw[List.pairwise_cons]at hT;obtain⟨S',p1,p2,p3⟩:=Xy (n:=n) hC P (T++Q) ((P.length+S.length+(T.length+1):Nat):Int) ((P.length+S.length:Nat):Int)
    (m7 K n ((P.length:Nat):Int) ((P.length+S.length+(T.length+1):Nat):Int) f m) n S [] x (by omega) (fun y hy=>⟨hST y hy x (by simp),hD y (by simp[hy])⟩) (hD x (by simp)) (by simpa using hS) (by simp) (by omega)
   have e:P++S++[x]++(T++Q)=P++S++x::T++Q:=by simp
   rw[e]at p3;rw[p3,wn (k:=P.length+(S.length+1)) (by omega) (by omega)];simp only[List.append_nil]at p1;have hlen:S'.length=S.length+1:=by rw[p1.length_eq];simp
   have hmem:∀y,y∈S'↔y=x∨y∈S:=fun y=>by rw[p1.mem_iff];simp
   obtain⟨S'',q1,q2,q3⟩:=ih S' T (by omega) (by intro h;subst h;simp at hlen) (fun y hy z hz=>by
     rcases (hmem y).1 hy with rfl|hy
     ·exact hT.1 z hz
     ·exact hST y hy z (by simp[hz])) hT.2 (fun y hy=>by
     rcases List.mem_append.1 hy with hy|hy
     ·rcases (hmem y).1 hy with rfl|hy
      ·exact hD y (by simp)
      ·exact hD y (by simp[hy])
     ·exact hD y (by simp[hy])) p2 (by omega)
   refine⟨S'',?_,q2,?_⟩
   ·refine q1.trans ((p1.append_right T).trans ?_);exact(List.perm_middle (l₁:=S) (a:=x) (l₂:=T)).symm
   ·rw[hlen,show P.length+(S.length+1)+T.length=P.length+S.length+(T.length+1) by omega,show P++S'++T++Q=P++S'++(T++Q) by simp]at q3;exact q3
theorem On(hC:jn K f D key)(P S Q:List Int)(hn:10001<n)(hS:S.Pairwise (· < ·))(hD:∀y∈S,D y)(hl:P.length+S.length≤10000):
  ∃S',S'.Perm S∧S'.Pairwise (R key)∧rD K n (P++S++Q) ((P.length:Nat):Int) ((P.length+S.length:Nat):Int) f=some (P++S'++Q):=by
 unfold rD;rw[wn (k:=P.length+1) (by omega) (by omega)];cases S with
 | nil =>
  obtain⟨m,rfl⟩:∃m,n=m+1:=⟨n-1,by omega⟩;refine⟨[],by simp,by simp,?_⟩;simp only[m7,sX];rw[bo (by simp;omega)]
 | cons x T =>
  rw[List.pairwise_cons]at hS;simp only[List.length_cons]at hl⊢;obtain⟨S',p1,p2,p3⟩:=YJ (n:=n) hC P Q hn n [x] T (by omega) (by simp) (by simpa using hS.1) hS.2 (by simpa using hD) (by simp) (by simp;omega);refine⟨S',by simpa using p1,p2,?_⟩;simp only[List.length_cons,List.length_nil,Nat.zero_add]at p3;rw[show P.length+(T.length+1)=P.length+1+T.length by omega,show P++x::T++Q=P++[x]++T++Q by simp];exact p3
theorem abD(P M Q:List Int):∀(m:Nat) (X1 Y1 X2 Y2:List Int),X2.length<m→X1.length=Y1.length→X2.length=Y2.length→(P++X1++X2++M++Y1++Y2).length≤10000 →
  pE K n ((P.length:Nat):Int) ((P.length+X1.length+X2.length+M.length:Nat):Int) ((X1.length+X2.length:Nat):Int) m ((X1.length:Nat):Int) (P++Y1++X2++M++X1++Y2++Q)=some (P++Y1++Y2++M++X1++X2++Q):=by
 intro m
 induction m with
 | zero=>intro X1 Y1 X2 Y2 h;omega
 | succ m ih =>
  intro X1 Y1 X2 Y2 hm h1 h2 hl;simp only[pE,vU];cases X2 with
  | nil =>
   cases Y2 with
   | nil=>rw[bo (by simp)]
   | cons=>simp at h2
  | cons x X2 =>
   cases Y2 with
   | nil=>simp at h2
   | cons y Y2 =>
    simp only[List.length_append,List.length_cons]at hm h1 h2 hl⊢;rw[bp (by omega),wn (n:=((P.length+X1.length+(X2.length+1)+M.length:Nat):Int)+((X1.length:Nat):Int)) (k:=P.length+X1.length+(X2.length+1)+M.length+X1.length) (by omega) (by omega),
     wn (n:=((P.length:Nat):Int)+((X1.length:Nat):Int)) (k:=P.length+X1.length) (by omega) (by omega)]
    simp only[List.length_set,List.length_append,List.length_cons];rw[aH (by omega),aH (by omega),aH (by omega),aH (by omega)];simp only[Int.toNat_natCast];have e1:P++Y1++x::X2++M++X1++y::Y2++Q=(P++Y1)++x::(X2++M++X1++y::(Y2++Q)):=by simp
    have e2:P++Y1++x::X2++M++X1++y::Y2++Q=(P++Y1++x::X2++M++X1)++y::(Y2++Q):=by simp
    have g1:List.getD (P++Y1++x::X2++M++X1++y::Y2++Q) (P.length+X1.length) default=x:=by rw[e1];exact gd (by simp;omega)
    have g2:List.getD (P++Y1++x::X2++M++X1++y::Y2++Q) (P.length+X1.length+(X2.length+1)+M.length+X1.length) default=y:=by rw[e2];exact gd (by simp;omega)
    rw[g1,g2];have s1:List.set (P++Y1++x::X2++M++X1++y::Y2++Q) (P.length+X1.length) y=(P++Y1++y::X2++M++X1)++y::(Y2++Q):=by
     rw[e1,show P.length+X1.length=(P++Y1).length by simp;omega];simp
    have s2:List.set ((P++Y1++y::X2++M++X1)++y::(Y2++Q)) (P.length+X1.length+(X2.length+1)+M.length+X1.length) x=P++(Y1++[y])++X2++M++(X1++[x])++Y2++Q:=by
     rw[show P.length+X1.length+(X2.length+1)+M.length+X1.length=(P++Y1++y::X2++M++X1).length by simp;omega];simp
    rw[s1,s2,wn (n:=((X1.length:Nat):Int)+1) (k:=(X1++[x]).length) (by simp) (by simp;omega)];have:=ih (X1++[x]) (Y1++[y]) X2 Y2 (by omega) (by simp;omega) (by omega) (by simp;omega);simp only[List.length_append,List.length_cons,List.length_nil,Nat.zero_add]at this⊢;rw[show P.length+X1.length+(X2.length+1)+M.length=P.length+(X1.length+1)+X2.length+M.length by omega,show X1.length+(X2.length+1)=X1.length+1+X2.length by omega,this];simp
theorem DB(P X M Y Q:List Int)(hXY:X.length=Y.length)(hl:(P++X++M++Y).length≤10000)(hn:10001<n){b k:Int}(hb:b=((P.length+X.length+M.length:Nat):Int))(hk:k=((X.length:Nat):Int)):
  oe K n (P++X++M++Y++Q) ((P.length:Nat):Int) b k f=some (P++Y++M++X++Q):=by
 subst hb;subst hk;unfold oe;have:=abD (K:=K) (n:=n) P M Q n [] [] X Y (by simp at hl;omega) rfl hXY (by simpa using hl);simpa using this
theorem US(hn:10001<n)(mid:Nat):∀(m:Nat) (P U V Q:List Int),U.length+V.length<m→P.length+U.length=mid→0<U.length→0<V.length→(P++U++V).length≤10000 →
  si K n (mid:Int) f m ((U.length:Nat):Int) ((V.length:Nat):Int) (P++U++V++Q)=some (P++V++U++Q):=by
 intro m
 induction m with
 | zero=>intro P U V Q h;omega
 | succ m ih =>
  intro P U V Q hm hmid hU hV hl;simp only[List.length_append]at hl;simp only[si,t9];rw[wn (n:=(mid:Int)-((U.length:Nat):Int)) (k:=P.length) (by omega) (by omega)];by_cases he:U.length=V.length
  ·rw[if_neg (by simp;omega)];have:=DB (K:=K) (n:=n) (f:=f) P U [] V Q he (by simp;omega) hn (b:=(mid:Int)) (k:=((U.length:Nat):Int)) (by simp;omega) rfl;simp only[List.append_nil]at this;rw[this,sb]
  ·rw[if_pos (by simp;omega)];by_cases hgt:U.length>V.length
   ·rw[bp (by omega),wn (n:=((U.length:Nat):Int)-((V.length:Nat):Int)) (k:=U.length-V.length) (by omega) (by omega)]
    -- U=U1++U2 with |U1| = |V|
    obtain⟨U1,U2,rfl,hu⟩:∃U1 U2,U=U1++U2∧U1.length=V.length:=⟨U.take V.length,U.drop V.length,by simp,by simp;omega⟩;simp only[List.length_append]at hmid hU hl hm hgt he⊢;have:=DB (K:=K) (n:=n) (f:=f) P U1 U2 V Q hu (by simp;omega) hn (b:=(mid:Int)) (k:=((V.length:Nat):Int)) (by simp;omega) (by omega);rw[show P++(U1++U2)++V++Q=P++U1++U2++V++Q by simp,this,sb];simp only[rk];have h2:=ih (P++V) U2 U1 Q (by omega) (by simp;omega) (by omega) (by omega) (by simp;omega);rw[show U1.length+U2.length-V.length=U2.length by omega,← hu,h2];simp
   ·rw[bo (by omega),wn (n:=(mid:Int)+((V.length:Nat):Int)) (k:=mid+V.length) (by omega) (by omega),wn (n:=((mid+V.length:Nat):Int)-((U.length:Nat):Int)) (k:=mid+V.length-U.length) (by omega) (by omega),
     wn (n:=((V.length:Nat):Int)-((U.length:Nat):Int)) (k:=V.length-U.length) (by omega) (by omega)]
    obtain⟨V1,V2,rfl,hv⟩:∃V1 V2,V=V1++V2∧V2.length=U.length:=⟨V.take (V.length-U.length),V.drop (V.length-U.length),by simp,by simp;omega⟩;simp only[List.length_append]at hl hm hgt he hV⊢;have:=DB (K:=K) (n:=n) (f:=f) P U V1 V2 Q (by omega) (by simp;omega) hn (b:=((mid+(V1.length+V2.length)-U.length:Nat):Int)) (k:=((U.length:Nat):Int)) (by omega) rfl;rw[show P++U++(V1++V2)++Q=P++U++V1++V2++Q by simp,this,sb];simp only[rk];have h2:=ih P V2 V1 (U++Q) (by omega) (by omega) (by omega) (by omega) (by simp;omega);rw[show V1.length+V2.length-U.length=V1.length by omega,← hv,show P++V2++V1++U++Q=P++V2++V1++(U++Q) by simp,h2];simp
theorem acs(P U V Q:List Int)(hn:10001<n)(hU:0<U.length)(hV:0<V.length)(hl:(P++U++V).length≤10000):
  wE K n (P++U++V++Q) ((P.length:Nat):Int) ((P.length+U.length:Nat):Int) ((P.length+U.length+V.length:Nat):Int) f=some (P++V++U++Q):=by
 unfold wE;simp only[List.length_append]at hl;rw[wn (k:=U.length) (by omega) (by omega),wn (k:=V.length) (by omega) (by omega)];exact US hn _ n P U V Q (by omega) rfl hU hV (by simp;omega)
end Go.Proofs.YtolhpahjgddjkaaGreat.QSort
namespace Go.Proofs.YtolhpahjgddjkaaGreat.QSort
set_option linter.all false
open Go.RowKit
variable{K:Kn}{n:Nat}{f:Fv}{D:Int→Prop}{key:Int→Int}
def at_(L:List Int)(k:Nat):Int:=L.getD k default
theorem A4{P A Q:List Int}{k:Nat}(h:k<A.length){i:Nat}(hi:i=P.length+k):(P++A++Q).getD i default=at_ A k:=by
 subst hi;simp[at_,List.getD_eq_getElem?_getD,List.getElem?_append,h,show ¬ (P.length+k<P.length) by omega]
theorem xZ{A:List Int}{k:Nat}(h:k<A.length):at_ A k∈A:=by unfold at_;rw[cd h];exact List.getElem_mem _
theorem Dg{A:List Int}{x:Int}(h:x∈A):∃k,k<A.length∧at_ A k=x:=by
 obtain⟨k,hk,e⟩:=List.getElem_of_mem h;exact⟨k,hk,by unfold at_;rw[cd hk,e]⟩
theorem dN{r:Int→Int→Prop}{A:List Int}(h:A.Pairwise r){i j:Nat}(hij:i<j)(hj:j<A.length):r (at_ A i) (at_ A j):=by
 unfold at_;rw[cd (by omega:i<A.length),cd hj];exact List.pairwise_iff_getElem.1 h i j (by omega) hj hij
theorem Nh{A:List Int}{t k:Nat}(h:k<t):at_ (A.take t) k=at_ A k:=by simp[at_,List.getD_eq_getElem?_getD,List.getElem?_take,h]
theorem act{A:List Int}{t k:Nat}:at_ (A.drop t) k=at_ A (t+k):=by simp[at_,List.getD_eq_getElem?_getD]
theorem xv{A:List Int}{t:Nat}{x:Int}(h:x∈A.take t):∃k,k<t∧k<A.length∧at_ A k=x:=by
 obtain⟨k,hk,e⟩:=Dg h;simp at hk;exact⟨k,by omega,by omega,by rw[←e,Nh (by omega)]⟩
theorem sM{A:List Int}{t:Nat}{x:Int}(h:x∈A.drop t):∃k,t≤k∧k<A.length∧at_ A k=x:=by
 obtain⟨k,hk,e⟩:=Dg h;simp at hk;exact⟨t+k,by omega,by omega,by rw[←e,act]⟩
theorem HN{x:Int}{B:List Int}{t:Nat}(hB:B.Pairwise (R key))(h1:∀k,k<t→k<B.length→R key (at_ B k) x)(h2:∀k,t≤k→k<B.length→R key x (at_ B k)):(B.take t++x::B.drop t).Pairwise (R key):=by
 rw[List.pairwise_append,List.pairwise_cons];refine⟨hB.take,⟨fun y hy=>?_,hB.drop⟩,fun u hu v hv=>?_⟩
 ·obtain⟨k,k1,k2,rfl⟩:=sM hy;exact h2 k k1 k2
 ·obtain⟨i,i1,i2,rfl⟩:=xv hu;rcases List.mem_cons.1 hv with rfl|hv
  ·exact h1 i i1 i2
  ·obtain⟨k,k1,k2,rfl⟩:=sM hv;exact dN hB (by omega) k2
theorem abr(v:Int):∀(m:Nat) (P X Q:List Int) (x:Int),X.length<m→(P++X).length≤10000→v=((P.length+X.length+1:Nat):Int) →
  nC K n v m ((P.length:Nat):Int) (P++x::X++Q)=some (P++X++x::Q):=by
 intro m
 induction m with
 | zero=>intro P X Q x h;omega
 | succ m ih =>
  intro P X Q x hm hl hv;subst hv;simp only[List.length_append]at hl;simp only[nC,vK];rw[wn (n:=((P.length+X.length+1:Nat):Int)-1) (k:=P.length+X.length) (by omega) (by omega)];cases X with
  | nil=>rw[bo (by simp)];simp
  | cons y X =>
   simp only[List.length_cons]at *;rw[bp (by omega),wn (n:=((P.length:Nat):Int)+1) (k:=P.length+1) (by omega) (by omega)];simp only[List.length_set,List.length_append,List.length_cons];rw[aH (by omega),aH (by omega),aH (by omega),aH (by omega)];simp only[Int.toNat_natCast];rw[show P++x::y::X++Q=P++x::y::(X++Q) by simp,zL rfl,gd rfl,sw' rfl rfl];have:=ih (P++[y]) X Q x (by omega) (by simp;omega) (by simp;omega);simp only[List.length_append,List.length_cons,List.length_nil,Nat.zero_add]at this;rw[show P++y::x::(X++Q)=P++[y]++x::X++Q by simp,this];simp
theorem S8(v:Int):∀(m:Nat) (P X Q:List Int) (x:Int),X.length<m→(P++X).length≤10000→v=((P.length:Nat):Int) →
  nE K n v m ((P.length+X.length:Nat):Int) (P++X++x::Q)=some (P++x::X++Q):=by
 intro m
 induction m with
 | zero=>intro P X Q x h;omega
 | succ m ih =>
  intro P X Q x hm hl hv;subst hv;simp only[List.length_append]at hl;simp only[nE,wP];rcases List.eq_nil_or_concat X with rfl|⟨X,y,rfl⟩
  ·rw[bo (by simp)];simp
  ·simp only[List.concat_eq_append]at *;simp only[List.length_append,List.length_cons,List.length_nil]at *;rw[bp (by omega),wn (n:=((P.length+(X.length+(0+1)):Nat):Int)-1) (k:=P.length+X.length) (by omega) (by omega)];simp only[List.length_set,List.length_append,List.length_cons,List.length_nil];rw[aH (by omega),aH (by omega),aH (by omega),aH (by omega)];simp only[Int.toNat_natCast];rw[show P++(X++[y])++x::Q=(P++X)++y::x::Q by simp,zL (i:=P.length+(X.length+(0+1))) (by simp;omega),gd (i:=P.length+X.length) (by simp),sw (by simp) (by simp;omega)];have:=ih P X (y::Q) x (by omega) (by omega) rfl;rw[this];simp
theorem Wg(hC:jn K f D key)(P B Q:List Int)(x:Int)(hB:B.Pairwise (R key))(hx:D x)(hD:∀y∈B,D y∧x<y)(hl:P.length+1+B.length≤10000):∀(m i j:Nat),j-i<m→i≤j→j≤B.length→(∀k,k<i→R key (at_ B k) x)→(∀k,j≤k→k<B.length→R key x (at_ B k)) →
  ∃t,t≤B.length∧(∀k,k<t→R key (at_ B k) x)∧(∀k,t≤k→k<B.length→R key x (at_ B k))∧rz K n (P++[x]++B++Q) ((P.length:Nat):Int) f m ((P.length+1+i:Nat):Int) ((P.length+1+j:Nat):Int)=nC K n ((P.length+1+t:Nat):Int) n ((P.length:Nat):Int) (P++[x]++B++Q):=by
 intro m
 induction m with
 | zero=>intro i j h;omega
 | succ m ih =>
  intro i j hm hij hj h1 h2;simp only[rz,xT];by_cases he:i<j
  ·rw[bp (by omega),half (by omega),sb];obtain⟨h,hh,e⟩:∃h,(i≤h∧h<j)∧(P.length+1+i+(P.length+1+j)) / 2=P.length+1+h:=⟨(P.length+1+i+(P.length+1+j)) / 2-(P.length+1),by omega,by omega⟩;rw[e];have hlen:(P++[x]++B++Q).length=P.length+1+B.length+Q.length:=by simp;omega
   rw[aH (by omega),aH (by omega)];simp only[Int.toNat_natCast];rw[A4 (P:=P++[x]) (k:=h) (by omega) (by simp),show(P++[x]++B++Q).getD P.length default=x by rw[show P++[x]++B++Q=P++x::(B++Q) by simp];exact gd rfl];have hb:=hD _ (xZ (A:=B) (k:=h) (by omega));obtain⟨c,hc,hlt⟩:=hC.ok (at_ B h) x hb.1 hx;rw[hc,sb];simp only[uc];have hR:c<0↔R key (at_ B h) x:=hlt.trans (R.yh hb.2);by_cases hr:c<0
   ·rw[bp hr,wn (n:=((P.length+1+h:Nat):Int)+1) (k:=P.length+1+(h+1)) (by omega) (by omega)];refine ih (h+1) j (by omega) (by omega) hj (fun k hk=>?_) h2;rcases Nat.lt_or_ge k h with hk2|hk2
    ·exact(dN hB hk2 (by omega)).trans (hR.1 hr)
    ·obtain rfl:k=h:=by omega
     exact hR.1 hr
   ·rw[bo hr];refine ih i h (by omega) (by omega) (by omega) h1 (fun k hk hk2=>?_);have hxh:R key x (at_ B h):=R.not (by omega) (fun hh=>hr (hR.2 hh));rcases Nat.lt_or_ge h k with hk3|hk3
    ·exact hxh.trans (dN hB hk3 hk2)
    ·obtain rfl:k=h:=by omega
     exact hxh
  ·obtain rfl:i=j:=by omega
   exact⟨i,hj,h1,h2,by rw[bo (by omega)]⟩
theorem Vw(hC:jn K f D key)(P A Q:List Int)(x:Int)(hA:A.Pairwise (R key))(hx:D x)(hD:∀y∈A,D y∧y<x)(hl:P.length+1+A.length≤10000):∀(m i j:Nat),j-i<m→i≤j→j≤A.length→(∀k,k<i→R key (at_ A k) x)→(∀k,j≤k→k<A.length→R key x (at_ A k)) →
  ∃t,t≤A.length∧(∀k,k<t→R key (at_ A k) x)∧(∀k,t≤k→k<A.length→R key x (at_ A k))∧rG K n (P++A++x::Q) ((P.length+A.length:Nat):Int) f m ((P.length+i:Nat):Int) ((P.length+j:Nat):Int)=nE K n ((P.length+t:Nat):Int) n ((P.length+A.length:Nat):Int) (P++A++x::Q):=by
 intro m
 induction m with
 | zero=>intro i j h;omega
 | succ m ih =>
  intro i j hm hij hj h1 h2;simp only[rG,w8];by_cases he:i<j
  ·rw[bp (by omega),half (by omega),sb];obtain⟨h,hh,e⟩:∃h,(i≤h∧h<j)∧(P.length+i+(P.length+j)) / 2=P.length+h:=⟨(P.length+i+(P.length+j)) / 2-P.length,by omega,by omega⟩;rw[e];have hlen:(P++A++x::Q).length=P.length+A.length+Q.length+1:=by simp;omega
   rw[aH (by omega),aH (by omega)];simp only[Int.toNat_natCast];rw[A4 (P:=P) (A:=A) (k:=h) (by omega) rfl,gd (A:=P++A) (by simp)];have hb:=hD _ (xZ (A:=A) (k:=h) (by omega));obtain⟨c,hc,hlt⟩:=hC.ok x (at_ A h) hx hb.1;rw[hc,sb];simp only[uw];have hR:c<0↔R key x (at_ A h):=hlt.trans (R.yh hb.2);by_cases hr:c<0
   ·rw[Hv hr];refine ih i h (by omega) (by omega) (by omega) h1 (fun k hk hk2=>?_);rcases Nat.lt_or_ge h k with hk3|hk3
    ·exact(hR.1 hr).trans (dN hA hk3 hk2)
    ·obtain rfl:k=h:=by omega
     exact hR.1 hr
   ·rw[NF hr,wn (n:=((P.length+h:Nat):Int)+1) (k:=P.length+(h+1)) (by omega) (by omega)];refine ih (h+1) j (by omega) (by omega) hj (fun k hk=>?_) h2;have hxh:R key (at_ A h) x:=R.not (by omega) (fun hh=>hr (hR.2 hh));rcases Nat.lt_or_ge k h with hk2|hk2
    ·exact(dN hA hk2 (by omega)).trans hxh
    ·obtain rfl:k=h:=by omega
     exact hxh
  ·obtain rfl:i=j:=by omega
   exact⟨i,hj,h1,h2,by rw[bo (by omega)]⟩
end Go.Proofs.YtolhpahjgddjkaaGreat.QSort
namespace Go.Proofs.YtolhpahjgddjkaaGreat.QSort
set_option linter.all false
open Go.RowKit
variable{K:Kn}{n:Nat}{f:Fv}{D:Int→Prop}{key:Int→Int}
structure Mg(key:Int→Int)(D:Int→Prop)(A B:List Int):Prop where
 l:A.Pairwise (R key)
 r:B.Pairwise (R key)
 lt:∀x∈A,∀y∈B,x<y
 d:∀x∈A++B,D x
def oh(key:Int→Int)(D:Int→Prop)(N:Nat)(g:List Int→Int→Int→Int→Option (List Int)):Prop :=
 ∀P A B Q:List Int,0<A.length→0<B.length→A.length+B.length<N→(P++A++B).length≤10000→Mg key D A B →
  ∃C,C.Perm (A++B)∧C.Pairwise (R key)∧g (P++A++B++Q) ((P.length:Nat):Int) ((P.length+A.length:Nat):Int) ((P.length+A.length+B.length:Nat):Int)=some (P++C++Q)
theorem part(g:List Int→Int→Int→Int→Option (List Int)){N:Nat}(hg:oh key D N g)(P A B Q:List Int)(hN:A.length+B.length<N)(hl:(P++A++B).length≤10000)(h:Mg key D A B):
  ∃C,C.Perm (A++B)∧C.Pairwise (R key)∧∀(k:List Int→Option (List Int)),(if 0<A.length∧0<B.length then (g (P++A++B++Q) ((P.length:Nat):Int) ((P.length+A.length:Nat):Int) ((P.length+A.length+B.length:Nat):Int)).bind k else k (P++A++B++Q))=k (P++C++Q):=by
 by_cases hc:0<A.length∧0<B.length
 ·obtain⟨C,h1,h2,h3⟩:=hg P A B Q hc.1 hc.2 hN hl h;exact⟨C,h1,h2,fun k=>by rw[if_pos hc,h3];rfl⟩
 ·refine⟨A++B,.refl _,?_,fun k=>by rw[if_neg hc];simp⟩;rcases A with _|⟨x,A⟩
  ·simpa using h.r
  ·rcases B with _|⟨y,B⟩
   ·simpa using h.l
   ·simp at hc
theorem D9 {N:Nat} (hn:10001<n) (P A1 A2 B1 B2 Q:List Int) (hg:oh key D N (fun L a m b=>K.ke L a m b f)) (h:Mg key D (A1++A2) (B1++B2)) (hl:(P++A1++A2++B1++B2).length≤10000)
    (hN1:A1.length+B1.length<N) (hN2:A2.length+B2.length<N) (c1:∀x∈A1,∀y∈B2,R key x y) (c2:∀x∈B1,∀y∈A2,R key x y) {v2 v3 v4 v30 v31 v39:Int} (e2:v2=((P.length:Nat):Int)) (e3:v3=((P.length+A1.length+A2.length:Nat):Int)) (e4:v4=((P.length+A1.length+A2.length+B1.length+B2.length:Nat):Int))
    (e30:v30=((P.length+A1.length+B1.length:Nat):Int)) (e31:v31=((P.length+A1.length+B1.length+(P.length+A1.length+A2.length):Nat):Int)) (e39:v39=((P.length+A1.length:Nat):Int)) :
    ∃C,C.Perm (A1++A2++(B1++B2))∧C.Pairwise (R key)∧(if (decide (v39<v3))=true then
      jf K n (P++A1++A2++B1++B2++Q) v2 v3 v4 f v30 v31 v39 (decide (v3<(aa (v31-v39))))
    else
      jf K n (P++A1++A2++B1++B2++Q) v2 v3 v4 f v30 v31 v39 false)=some (P++C++Q):=by
  simp only[List.length_append]at hl;have e5:aa (v31-v39)=((P.length+A1.length+A2.length+B1.length:Nat):Int):=by rw[e31,e39];exact wn (by omega) (by omega)
  have hpl:=List.pairwise_append.1 h.l;have hpr:=List.pairwise_append.1 h.r
  -- the parts change places
  have rot:(if (decide (v39<v3))=true then
      jf K n (P++A1++A2++B1++B2++Q) v2 v3 v4 f v30 v31 v39 (decide (v3<(aa (v31-v39))))
    else
      jf K n (P++A1++A2++B1++B2++Q) v2 v3 v4 f v30 v31 v39 false)=oD K n v2 v4 f v30 v31 v39 (P++A1++B1++A2++B2++Q):=by
    rw[e5];have both:∀b:Bool,(b=true↔0<A2.length∧0<B1.length)→jf K n (P++A1++A2++B1++B2++Q) v2 v3 v4 f v30 v31 v39 b=oD K n v2 v4 f v30 v31 v39 (P++A1++B1++A2++B2++Q):=by
      intro b hb;unfold jf;by_cases hc:b=true
      · rw[if_pos hc,e5];have hc2:=hb.1 hc;have:=acs (K:=K) (n:=n) (f:=f) (P++A1) A2 B1 (B2++Q) hn hc2.1 hc2.2 (by simp;omega);rw[show P++A1++A2++B1++B2++Q=P++A1++A2++B1++(B2++Q) by simp,e39,e3];rw[show((P++A1).length:Nat)=P.length+A1.length by simp]at this;rw[this,sb];congr 1;simp
      · rw[if_neg hc];have hc2:¬ (0<A2.length∧0<B1.length):=fun hh=>hc (hb.2 hh);congr 1;rcases A2 with _|⟨x,A2⟩
        · simp
        · rcases B1 with _|⟨y,B1⟩
          · simp
          · simp at hc2
    by_cases hc:v39<v3
    · rw[bp hc];exact both _ (by rw[decide_eq_true_eq];omega)
    · rw[bo hc];exact both _ (by simp;omega)
  rw[rot]
  -- the first half
  have m1:Mg key D A1 B1:=⟨hpl.1,hpr.1,fun x hx y hy=>h.lt x (by simp[hx]) y (by simp[hy]),fun x hx=>h.d x (by rcases List.mem_append.1 hx with q|q<;>simp[q])⟩;have m2:Mg key D A2 B2:=⟨hpl.2.1,hpr.2.1,fun x hx y hy=>h.lt x (by simp[hx]) y (by simp[hy]),fun x hx=>h.d x (by rcases List.mem_append.1 hx with q|q<;>simp[q])⟩;obtain⟨C1,p1,s1,r1⟩:=part _ hg P A1 B1 (A2++B2++Q) hN1 (by simp;omega) m1;have l1:C1.length=A1.length+B1.length:=by rw[p1.length_eq];simp
  obtain⟨C2,p2,s2,r2⟩:=part _ hg (P++C1) A2 B2 Q hN2 (by simp;omega) m2;refine⟨C1++C2,?_,?_,?_⟩
  · refine (p1.append p2).trans ?_;simp only[List.append_assoc];refine List.Perm.append_left A1 ?_;rw[←List.append_assoc,← List.append_assoc];exact List.perm_append_comm.append_right B2
  · rw[List.pairwise_append];refine⟨s1,s2,fun x hx y hy=>?_⟩;have hx:=(p1.mem_iff).1 hx;have hy:=(p2.mem_iff).1 hy;rcases List.mem_append.1 hx with hx|hx
    · rcases List.mem_append.1 hy with hy|hy
      · exact hpl.2.2 x hx y hy
      · exact c1 x hx y hy
    · rcases List.mem_append.1 hy with hy|hy
      · exact c2 x hx y hy
      · exact hpr.2.2 x hx y hy
  · -- the calls
    have j13:kO K n v4 f v30 v31 v39 (P++C1++A2++B2++Q)=some (P++C1++C2++Q):=by
      have:=r2 (fun L=>some L);rw[←this];unfold kO;rw[e5,e30,e4];have k1:(P++C1).length=P.length+A1.length+B1.length:=by simp[l1];omega
      rw [k1];have both:∀ b:Bool,(b=true↔0<A2.length∧0<B2.length)→pV K n ((P.length+A1.length+A2.length+B1.length+B2.length:Nat):Int) f ((P.length+A1.length+B1.length:Nat):Int) v31 v39 (P++C1++A2++B2++Q) b=if 0<A2.length∧0<B2.length then
          (K.ke (P++C1++A2++B2++Q) ((P.length+A1.length+B1.length:Nat):Int) ((P.length+A1.length+B1.length+A2.length:Nat):Int) ((P.length+A1.length+B1.length+A2.length+B2.length:Nat):Int) f).bind (fun L=>some L) else some (P++C1++A2++B2++Q):=by
        intro b hb;unfold pV;by_cases hc:b=true
        · rw[if_pos hc,if_pos (hb.1 hc),e5];simp only[xI];rw[show P.length+A1.length+B1.length+A2.length=P.length+A1.length+A2.length+B1.length by omega]
        · rw[if_neg hc,if_neg (fun hh=>hc (hb.2 hh))];rfl
      by_cases hc:((P.length+A1.length+B1.length:Nat):Int)<((P.length+A1.length+A2.length+B1.length:Nat):Int)
      · rw[bp hc];exact both _ (by rw[decide_eq_true_eq];omega)
      · rw[bo hc];exact both _ (by simp;omega)
    have:=r1 (fun L=>kO K n v4 f v30 v31 v39 L);rw [show P++C1++(A2++B2++Q)=P++C1++A2++B2++Q by simp,j13] at this;rw [show P++(C1++C2)++Q=P++C1++C2++Q by simp,← this];unfold oD;rw [e2,e39,e30];rw [show P++A1++B1++(A2++B2++Q)=P++A1++B1++A2++B2++Q by simp];have both : ∀ b : Bool, (b = true ↔ 0 < A1.length ∧ 0 < B1.length) → qp K n ((P.length : Nat) : Int) v4 f ((P.length + A1.length + B1.length : Nat) : Int) v31 ((P.length + A1.length : Nat) : Int) (P ++ A1 ++ B1 ++ A2 ++ B2 ++ Q) b = if 0 < A1.length ∧ 0 < B1.length then
          (K.ke (P++A1++B1++A2++B2++Q) ((P.length:Nat):Int) ((P.length+A1.length:Nat):Int) ((P.length+A1.length+B1.length:Nat):Int) f).bind (fun L=>kO K n v4 f ((P.length+A1.length+B1.length:Nat):Int) v31 ((P.length+A1.length:Nat):Int) L) else kO K n v4 f ((P.length+A1.length+B1.length:Nat):Int) v31 ((P.length+A1.length:Nat):Int) (P++A1++B1++A2++B2++Q):=by
      intro b hb;unfold qp;by_cases hc:b=true
      · rw[if_pos hc,if_pos (hb.1 hc)]
      · rw[if_neg hc,if_neg (fun hh=>hc (hb.2 hh))]
    by_cases hc:((P.length:Nat):Int)<((P.length+A1.length:Nat):Int)
    · rw[bp hc];exact both _ (by rw[decide_eq_true_eq];omega)
    · rw[bo hc];exact both _ (by simp;omega)
theorem Tz(hC:jn K f D key)(P A B Q:List Int)(h:Nat)(hM:Mg key D A B)(hl:(P++A++B).length≤10000){v2 v4 v30:Int}(hh:h<A.length+B.length)(lo hi:Nat)(hlo:h≤B.length+lo)(hhi:hi≤A.length)(hhi2:hi≤h):∀(m i j:Nat),j-i<m→lo≤i→i≤j→j≤hi →
  (∀k,lo≤k→k<i→R key (at_ A k) (at_ B (h-1-k)))→(∀k,j≤k→k<hi→R key (at_ B (h-1-k)) (at_ A k)) →
  ∃s,lo≤s∧s≤hi∧(∀k,lo≤k→k<s→R key (at_ A k) (at_ B (h-1-k)))∧(∀k,s≤k→k<hi→R key (at_ B (h-1-k)) (at_ A k)) ∧
   o8 K n (P++A++B++Q) v2 ((P.length+A.length:Nat):Int) v4 f v30 ((P.length+h+(P.length+A.length):Nat):Int) m ((P.length+i:Nat):Int) ((P.length+j:Nat):Int) =
   (if (decide (((P.length+s:Nat):Int)<((P.length+A.length:Nat):Int)))=true then
    jf K n (P++A++B++Q) v2 ((P.length+A.length:Nat):Int) v4 f v30 ((P.length+h+(P.length+A.length):Nat):Int) ((P.length+s:Nat):Int) (decide (((P.length+A.length:Nat):Int)<(aa (((P.length+h+(P.length+A.length):Nat):Int)-((P.length+s:Nat):Int)))))
   else
    jf K n (P++A++B++Q) v2 ((P.length+A.length:Nat):Int) v4 f v30 ((P.length+h+(P.length+A.length):Nat):Int) ((P.length+s:Nat):Int) false):=by
 simp only[List.length_append]at hl;intro m
 induction m with
 | zero=>intro i j h;omega
 | succ m ih =>
  intro i j hm hli hij hj h1 h2;simp only[o8,uA];by_cases he:i<j
  ·rw[bp (by omega),half (by omega),sb];obtain⟨c,hc,e⟩:∃c,(i≤c∧c<j)∧(P.length+i+(P.length+j)) / 2=P.length+c:=⟨(P.length+i+(P.length+j)) / 2-P.length,by omega,by omega⟩;rw[e,wn (n:=((P.length+h+(P.length+A.length):Nat):Int)-1) (k:=P.length+h+(P.length+A.length)-1) (by omega) (by omega),
    wn (n:=((P.length+h+(P.length+A.length)-1:Nat):Int)-((P.length+c:Nat):Int)) (k:=P.length+A.length+(h-1-c)) (by omega) (by omega)]
   have hlen:(P++A++B++Q).length=P.length+A.length+B.length+Q.length:=by simp;omega
   rw[aH (by omega),aH (by omega)];simp only[Int.toNat_natCast];rw[A4 (P:=P++A) (A:=B) (k:=h-1-c) (by omega) (by simp),show P++A++B++Q=P++A++(B++Q) by simp,A4 (P:=P) (A:=A) (k:=c) (by omega) rfl,show P++A++(B++Q)=P++A++B++Q by simp];have ma:=xZ (A:=A) (k:=c) (by omega);have mb:=xZ (A:=B) (k:=h-1-c) (by omega);have hlt2:=hM.lt _ ma _ mb;obtain⟨r,hr,hlt⟩:=hC.ok (at_ B (h-1-c)) (at_ A c) (hM.d _ (by simp[mb])) (hM.d _ (by simp[ma]));rw[hr,sb];simp only[ux];have hR:r<0↔R key (at_ B (h-1-c)) (at_ A c):=hlt.trans (R.yh hlt2);by_cases hr0:r<0
   ·rw[Hv hr0];refine ih i c (by omega) hli (by omega) (by omega) h1 (fun k hk hk2=>?_);rcases Nat.lt_or_ge c k with hk3|hk3
    ·exact((dN hM.r (i:=h-1-k) (j:=h-1-c) (by omega) (by omega)).trans (hR.1 hr0)).trans (dN hM.l hk3 (by omega))
    ·obtain rfl:k=c:=by omega
     exact hR.1 hr0
   ·rw[NF hr0,wn (n:=((P.length+c:Nat):Int)+1) (k:=P.length+(c+1)) (by omega) (by omega)];refine ih (c+1) j (by omega) (by omega) (by omega) hj (fun k hk0 hk=>?_) h2;have hxh:R key (at_ A c) (at_ B (h-1-c)):=R.not (by omega) (fun hh=>hr0 (hR.2 hh));rcases Nat.lt_or_ge k c with hk2|hk2
    ·exact((dN hM.l hk2 (by omega)).trans hxh).trans (dN hM.r (i:=h-1-c) (j:=h-1-k) (by omega) (by omega))
    ·obtain rfl:k=c:=by omega
     exact hxh
  ·obtain rfl:i=j:=by omega
   exact⟨i,hli,hj,h1,h2,by rw[bo (by omega)]⟩
theorem TW(hC:jn K f D key){N:Nat}(hn:10001<n)(hg:oh key D N (fun L a m b=>K.ke L a m b f)):oh key D (N+1) (fun L a m b=>jQ K n L a m b f):=by
 intro P A B Q hA hB hN hl hM;have hl2:=hl;simp only[List.length_append]at hl2;simp only[jQ];rw[wn (n:=((P.length+A.length:Nat):Int)-((P.length:Nat):Int)) (k:=A.length) (by omega) (by omega)];by_cases h1:A.length=1
 ·rw[if_pos (by simp;omega)];obtain⟨x,rfl⟩:∃x,A=[x]:=by
   rcases A with _|⟨x,_|⟨y,A⟩⟩
   ·simp at h1
   ·exact⟨x,rfl⟩
   ·simp at h1
  simp only[List.length_cons,List.length_nil,Nat.zero_add]at *;obtain⟨t,t1,t2,t3,t4⟩:=Wg (n:=n) hC P B Q x hM.r (hM.d x (by simp)) (fun y hy=>⟨hM.d y (by simp[hy]),hM.lt x (by simp) y hy⟩) (by omega) n 0 B.length (by omega) (by omega) (Nat.le_refl _) (fun k hk=>by omega) (fun k hk hk2=>by omega);rw[show P.length+1+0=P.length+1 from rfl]at t4;rw[t4];have:=abr (K:=K) (n:=n) ((P.length+1+t:Nat):Int) n P (B.take t) (B.drop t++Q) x (by simp;omega) (by simp;omega) (by simp;omega);rw[show P++x::B.take t++(B.drop t++Q)=P++[x]++(B.take t++B.drop t)++Q by simp only[List.append_assoc,List.cons_append,List.nil_append],List.take_append_drop]at this;refine⟨B.take t++x::B.drop t,?_,HN hM.r (fun k hk _=>t2 k hk) t3,by rw[this];simp⟩;refine List.perm_middle.trans (by simp)
 ·rw[if_neg (by simp;omega)];rw[wn (n:=((P.length+A.length+B.length:Nat):Int)-((P.length+A.length:Nat):Int)) (k:=B.length) (by omega) (by omega)];by_cases h2:B.length=1
  ·rw[if_pos (by simp;omega)];obtain⟨x,rfl⟩:∃x,B=[x]:=by
    rcases B with _|⟨x,_|⟨y,B⟩⟩
    ·simp at h2
    ·exact⟨x,rfl⟩
    ·simp at h2
   obtain⟨t,t1,t2,t3,t4⟩:=Vw (n:=n) hC P A Q x hM.l (hM.d x (by simp)) (fun y hy=>⟨hM.d y (by simp[hy]),hM.lt y hy x (by simp)⟩) (by simp at hl2;omega) n 0 A.length (by simp at hl2;omega) (by omega) (Nat.le_refl _) (fun k hk=>by omega) (fun k hk hk2=>by omega);rw[Nat.add_zero]at t4;rw[show P++A++[x]++Q=P++A++x::Q by simp,t4];have:=S8 (K:=K) (n:=n) ((P.length+t:Nat):Int) n (P++A.take t) (A.drop t) Q x (by simp at hl2⊢;omega) (by simp at hl2⊢;omega) (by simp;omega);rw[show P++A.take t++A.drop t++x::Q=P++(A.take t++A.drop t)++x::Q by simp only[List.append_assoc],List.take_append_drop,show(P++A.take t).length+(A.drop t).length=P.length+A.length by simp;omega]at this;refine⟨A.take t++x::A.drop t,?_,HN hM.l (fun k hk _=>t2 k hk) t3,by rw[this];simp⟩;refine List.perm_middle.trans ?_;rw[List.take_append_drop];exact(List.perm_append_singleton x A).symm
  ·rw[if_neg (by simp;omega),half (by omega),sb];obtain⟨h,hh,e⟩:∃h,(2*h≤A.length+B.length∧A.length+B.length≤2*h+1)∧(P.length+(P.length+A.length+B.length)) / 2=P.length+h:=⟨(P.length+(P.length+A.length+B.length)) / 2-P.length,by omega,by omega⟩;rw[e,wn (n:=((P.length+h:Nat):Int)+((P.length+A.length:Nat):Int)) (k:=P.length+h+(P.length+A.length)) (by omega) (by omega),sb,sb];have key_:∀lo hi:Nat,h≤B.length+lo→hi≤A.length→hi≤h→lo≤hi→(lo=0∨h=B.length+lo)→(hi=A.length∨hi=h) →
     ∃C,C.Perm (A++B)∧C.Pairwise (R key)∧o8 K n (P++A++B++Q) ((P.length:Nat):Int) ((P.length+A.length:Nat):Int) ((P.length+A.length+B.length:Nat):Int) f ((P.length+h:Nat):Int) ((P.length+h+(P.length+A.length):Nat):Int) n ((P.length+lo:Nat):Int) ((P.length+hi:Nat):Int)=some (P++C++Q):=by
    intro lo hi k1 k2 k3 k4 k5 k6;obtain⟨s,s1,s2,s3,s4,s5⟩:=Tz (n:=n) hC P A B Q h hM hl (v2:=((P.length:Nat):Int)) (v4:=((P.length+A.length+B.length:Nat):Int)) (v30:=((P.length+h:Nat):Int)) (by omega) lo hi k1 k2 k3 n lo hi (by omega) (Nat.le_refl _) k4 (Nat.le_refl _) (fun k _ _=>by omega) (fun k _ _=>by omega);rw[s5];have eA:A.take s++A.drop s=A:=List.take_append_drop s A;have eB:B.take (h-s)++B.drop (h-s)=B:=List.take_append_drop (h-s) B;have la:(A.take s).length=s:=by simp;omega
    have lb:(B.take (h-s)).length=h-s:=by simp;omega
    have la2:(A.drop s).length=A.length-s:=by simp
    have lb2:(B.drop (h-s)).length=B.length-(h-s):=by simp
    have eL:P++A++B++Q=P++A.take s++A.drop s++B.take (h-s)++B.drop (h-s)++Q:=by
     conv=>lhs;rw[←eA,← eB]
     simp only[List.append_assoc]
    have:=D9 (K:=K) (n:=n) (f:=f) (N:=N) hn P (A.take s) (A.drop s) (B.take (h-s)) (B.drop (h-s)) Q hg (by rw[eA,eB];exact hM) (by simp only[List.length_append,la,lb,la2,lb2];omega) (by omega) (by omega)
     (fun x hx y hy=>by
      obtain⟨i,i1,i2,rfl⟩:=xv hx;obtain⟨k,q1,q2,rfl⟩:=sM hy;have m1:=s3 (s-1) (by omega) (by omega);rw[show h-1-(s-1)=h-s by omega]at m1;have m2:R key (at_ A i) (at_ B (h-s)):=by
       rcases Nat.lt_or_ge i (s-1)with q|q
       ·exact(dN hM.l q (by omega)).trans m1
       ·obtain rfl:i=s-1:=by omega
        exact m1
      rcases Nat.lt_or_ge (h-s) k with q|q
      ·exact m2.trans (dN hM.r q q2)
      ·obtain rfl:k=h-s:=by omega
       exact m2)
     (fun x hx y hy=>by
      obtain⟨k,q1,q2,rfl⟩:=xv hx;obtain⟨i,i1,i2,rfl⟩:=sM hy;have m1:=s4 s (Nat.le_refl _) (by omega);have m2:R key (at_ B k) (at_ A s):=by
       rcases Nat.lt_or_ge k (h-1-s)with q|q
       ·exact(dN hM.r q (by omega)).trans m1
       ·obtain rfl:k=h-1-s:=by omega
        exact m1
      rcases Nat.lt_or_ge s i with q|q
      ·exact m2.trans (dN hM.l q i2)
      ·obtain rfl:i=s:=by omega
       exact m2)
     (v2:=((P.length:Nat):Int)) (v3:=((P.length+A.length:Nat):Int)) (v4:=((P.length+A.length+B.length:Nat):Int)) (v30:=((P.length+h:Nat):Int)) (v31:=((P.length+h+(P.length+A.length):Nat):Int)) (v39:=((P.length+s:Nat):Int)) rfl (by omega) (by omega) (by omega) (by omega) (by omega)
    rw[eA,eB]at this;rw[eL];exact this
   by_cases hc:h<A.length
   ·rw[if_pos (by simp;omega)];simp only[rr];rw[wn (n:=((P.length+h+(P.length+A.length):Nat):Int)-((P.length+A.length+B.length:Nat):Int)) (k:=P.length+(h-B.length)) (by omega) (by omega)];exact key_ (h-B.length) h (by omega) (by omega) (by omega) (by omega) (by omega) (by omega)
   ·rw[if_neg (by simp;omega)];simp only[rr];exact key_ 0 A.length (by omega) (by omega) (by omega) (by omega) (by omega) (by omega)
end Go.Proofs.YtolhpahjgddjkaaGreat.QSort
namespace Go.Proofs.YtolhpahjgddjkaaGreat.QSort
set_option linter.all false
open Go.RowKit
variable{K:Kn}{n:Nat}{f:Fv}{D:Int→Prop}{key:Int→Int}
theorem HF{c0:Nat}(hC:∀m,c0≤m→jn (KN m) f D key):∀(N lvl n:Nat),10001<n→c0+N+10002≤lvl→oh key D N (fun L a m b=>jQ (KN lvl) n L a m b f):=by
 intro N
 induction N with
 | zero=>intro lvl n h1 h2 P A B Q hA hB hN;omega
 | succ N ih =>
  intro lvl n h1 h2;obtain⟨l,rfl⟩:∃l,lvl=l+1:=⟨lvl-1,by omega⟩;exact TW (hC _ (by omega)) h1 (ih l l (by omega) (by omega))
inductive Bl (key:Int→Int) (bs:Nat):List Int→List Int→Prop
 | last (o d:List Int) (h:o.length≤bs) (p:d.Perm o) (s:d.Pairwise (R key)):Bl key bs o d
 | nh (o1 d1 o2 d2:List Int) (h:o1.length=bs) (p:d1.Perm o1) (s:d1.Pairwise (R key)) (t:Bl key bs o2 d2):Bl key bs (o1++o2) (d1++d2)
theorem Bl.len{bs:Nat}{o d:List Int}(h:Bl key bs o d):d.length=o.length:=by
 induction h with
 | last o d h p s=>exact p.length_eq
 | nh o1 d1 o2 d2 h p s t ih=>simp[p.length_eq,ih]
theorem blocks(hC:jn K f D key)(hn:10001<n):∀(m:Nat) (P S:List Int),S.length<m→S.Pairwise (· < ·)→(∀x∈S,D x)→P.length+S.length≤10000 →
  ∃S',Bl key 20 S S'∧rc K n ((P.length+S.length:Nat):Int) f m ((P.length:Nat):Int) ((P.length+20:Nat):Int) (P++S)=l4 K n ((P.length+S.length:Nat):Int) f n 20 (P++S'):=by
 intro m
 induction m with
 | zero=>intro P S h;omega
 | succ m ih =>
  intro P S hm hS hD hl;simp only[rc,yg];by_cases hc:20≤S.length
  ·rw[bp (by omega)];obtain⟨S1,S2,rfl,h1⟩:∃S1 S2,S=S1++S2∧S1.length=20:=⟨S.take 20,S.drop 20,by simp,by simp;omega⟩;rw[List.pairwise_append]at hS;simp only[List.length_append]at hm hl hc⊢;obtain⟨S',p1,p2,p3⟩:=On (n:=n) hC P S1 S2 hn hS.1 (fun x hx=>hD x (by simp[hx])) (by omega);have l1:S'.length=20:=by rw[p1.length_eq,h1]
   rw[h1]at p3;rw[show P++(S1++S2)=P++S1++S2 by simp,p3,sb,wn (k:=P.length+20+20) (by omega) (by omega)];obtain⟨S'',q1,q2⟩:=ih (P++S') S2 (by omega) hS.2.1 (fun x hx=>hD x (by simp[hx])) (by simp;omega);simp only[List.length_append,l1]at q2;refine⟨S'++S'',.nh _ _ _ _ h1 p1 p2 q1,?_⟩;rw[h1,show P.length+(20+S2.length)=P.length+20+S2.length by omega,q2];simp
  ·rw[bo (by omega)];obtain⟨S',p1,p2,p3⟩:=On (n:=n) hC P S [] hn hS hD (by omega);simp only[List.append_nil]at p3;exact⟨S',.last _ _ (by omega) p1 p2,by rw[p3,sb]⟩
theorem pass{N:Nat}(hn:10001<n)(hg:oh key D N (fun L a m b=>jQ K n L a m b f))(bs:Nat)(hb:0<bs)(hb2:bs≤10000)(L2:Int→List Int→Option (List Int)):∀(m:Nat) (P S d:List Int),S.length<m→Bl key bs S d→S.Pairwise (· < ·)→(∀x∈S,D x)→P.length+S.length≤10000→S.length<N →
  ∃d',Bl key (2*bs) S d'∧qm K n ((P.length+S.length:Nat):Int) f ((bs:Nat):Int) L2 m ((P.length:Nat):Int) ((P.length+2*bs:Nat):Int) (P++d)=L2 ((2*bs:Nat):Int) (P++d'):=by
 intro m
 induction m with
 | zero=>intro P S d h;omega
 | succ m ih =>
  intro P S d hm hB hS hD hl hN;have ed:=hB.len;simp only[qm,xC,xO];have e2:aa (((bs:Nat):Int)*2)=((2*bs:Nat):Int):=wn (by omega) (by omega);have e3:aa (2*((bs:Nat):Int))=((2*bs:Nat):Int):=wn (by omega) (by omega);rw[wn (n:=((P.length:Nat):Int)+((bs:Nat):Int)) (k:=P.length+bs) (by omega) (by omega),e2,e3]
  -- two blocks are merged
  have two:∀o1 d1 o2 d2 r:List Int,o1.length=bs→d1.Perm o1→d1.Pairwise (R key)→d2.Perm o2→d2.Pairwise (R key)→0<o2.length→(∀x∈o1,∀y∈o2,x<y)→(∀x∈o1++o2,D x)→P.length+(o1.length+o2.length)≤10000→o1.length+o2.length<N →
    ∃C,C.Perm (o1++o2)∧C.Pairwise (R key)∧jQ K n (P++(d1++d2)++r) ((P.length:Nat):Int) ((P.length+bs:Nat):Int) ((P.length+(bs+o2.length):Nat):Int) f=some (P++C++r):=by
   intro o1 d1 o2 d2 r k1 k2 k3 k4 k5 k6 k7 k8 k9 k10;have n1:d1.length=bs:=by rw[k2.length_eq,k1]
   have n2:=k4.length_eq;obtain⟨C,q1,q2,q3⟩:=hg P d1 d2 r (by omega) (by omega) (by omega) (by simp;omega) ⟨k3,k5,fun x hx y hy=>k7 x (k2.mem_iff.1 hx) y (k4.mem_iff.1 hy),fun x hx=>k8 x ((k2.append k4).mem_iff.1 hx)⟩;refine⟨C,q1.trans (k2.append k4),q2,?_⟩;rw[n1,n2,show P.length+bs+o2.length=P.length+(bs+o2.length) by omega,show P++d1++d2++r=P++(d1++d2)++r by simp]at q3;exact q3
  cases hB with
  | last _ _ h p s =>
   refine⟨d,.last _ _ (by omega) p s,?_⟩;rw[bo (by omega),bo (by omega)]
  | nh o1 d1 o2 d2 h p s t =>
   rw[List.pairwise_append]at hS;simp only[List.length_append]at hm hl hN⊢;cases t with
   | last _ _ h' p' s' =>
    by_cases hc:o2.length=bs
    ·rw[bp (by omega)];obtain⟨C,q1,q2,q3⟩:=two o1 d1 o2 d2 [] h p s p' s' (by omega) hS.2.2 hD (by omega) (by omega);simp only[List.append_nil]at q3;rw[hc]at q3;rw[show((P.length+2*bs:Nat):Int)=((P.length+(bs+bs):Nat):Int) by omega,q3,sb,wn (n:=((P.length+(bs+bs):Nat):Int)+((2*bs:Nat):Int)) (k:=P.length+(bs+bs)+2*bs) (by omega) (by omega)];have lC:C.length=bs+bs:=by rw[q1.length_eq];simp;omega
     obtain⟨d',r1,r2⟩:=ih (P++C) [] [] (by simp;omega) (.last _ _ (by simp) (.refl _) (by simp)) (by simp) (by simp) (by simp;omega) (by simp;omega);simp only[List.length_append,lC,List.length_nil,Nat.add_zero,List.append_nil]at r2;refine⟨C++d',?_,?_⟩
     ·have:=Bl.nh (key:=key) (bs:=2*bs) (o1++o2) C [] d' (by simp;omega) q1 q2 r1;simpa using this
     ·rw[show P.length+(o1.length+o2.length)=P.length+(bs+bs) by omega,r2];simp
    ·rw[bo (by omega)];by_cases hz:o2.length=0
     ·rw[bo (by omega)];have:o2=[]:=List.eq_nil_of_length_eq_zero hz;subst this;have:d2=[]:=p'.eq_nil;subst this;exact⟨d1++[],.last _ _ (by simp;omega) (by simpa using p) (by simpa using s),rfl⟩
     ·rw[bp (by omega)];obtain⟨C,q1,q2,q3⟩:=two o1 d1 o2 d2 [] h p s p' s' (by omega) hS.2.2 hD (by omega) (by omega);simp only[List.append_nil]at q3;rw[h,q3,sb];exact⟨C,.last _ _ (by simp;omega) q1 q2,rfl⟩
   | nh o21 d21 o22 d22 h' p' s' t' =>
    have hS2:=hS.2.1;rw[List.pairwise_append]at hS2;simp only[List.length_append]at hm hl hN⊢;rw[bp (by omega)];obtain⟨C,q1,q2,q3⟩:=two o1 d1 o21 d21 d22 h p s p' s' (by omega) (fun x hx y hy=>hS.2.2 x hx y (by simp[hy])) (fun x hx=>hD x (by rcases List.mem_append.1 hx with q|q<;>simp[q])) (by omega) (by omega);rw[h']at q3;have lC:C.length=bs+bs:=by rw[q1.length_eq];simp;omega
    rw[show P++(d1++(d21++d22))=P++(d1++d21)++d22 by simp,show((P.length+2*bs:Nat):Int)=((P.length+(bs+bs):Nat):Int) by omega,q3,sb,wn (n:=((P.length+(bs+bs):Nat):Int)+((2*bs:Nat):Int)) (k:=P.length+(bs+bs)+2*bs) (by omega) (by omega)];obtain⟨d',r1,r2⟩:=ih (P++C) o22 d22 (by omega) t' hS2.2.1 (fun x hx=>hD x (by simp[hx])) (by simp;omega) (by omega);simp only[List.length_append,lC]at r2;refine⟨C++d',?_,?_⟩
    ·have:=Bl.nh (key:=key) (bs:=2*bs) (o1++o21) C o22 d' (by simp;omega) q1 q2 r1;simpa using this
    ·rw[show P.length+(o1.length+(o21.length+o22.length))=P.length+(bs+bs)+o22.length by omega,r2];simp
theorem rounds{N:Nat}(hn:10001<n)(hg:oh key D N (fun L a m b=>jQ K n L a m b f))(S:List Int)(hS:S.Pairwise (· < ·))(hD:∀x∈S,D x)(hl:S.length≤10000)(hN:S.length<N):∀(m bs:Nat) (d:List Int),0<bs→S.length-bs<m→Bl key bs S d →
  ∃d',d'.Perm S∧d'.Pairwise (R key)∧l4 K n ((S.length:Nat):Int) f m ((bs:Nat):Int) d=some d':=by
 intro m
 induction m with
 | zero=>intro bs d hb h;omega
 | succ m ih =>
  intro bs d hb hm hB;simp only[l4,wM];by_cases hc:bs<S.length
  ·rw[bp (by omega),wn (n:=2*((bs:Nat):Int)) (k:=2*bs) (by omega) (by omega)];obtain⟨d',r1,r2⟩:=pass (n:=n) hn hg bs hb (by omega) (l4 K n ((S.length:Nat):Int) f m) n [] S d (by omega) hB hS hD (by simp;omega) hN;simp only[List.length_nil,List.nil_append,Nat.zero_add]at r2;rw[show((0:Nat):Int)=0 from rfl]at r2;rw[r2];exact ih (2*bs) d' (by omega) (by omega) r1
  ·rw[bo (by omega)];cases hB with
   | last _ _ h p s=>exact⟨d,p,s,rfl⟩
   | nh o1 d1 o2 d2 h p s t =>
    simp only[List.length_append]at hc;have:o2=[]:=List.eq_nil_of_length_eq_zero (by omega);subst this;have:d2=[]:=List.eq_nil_of_length_eq_zero (by rw[t.len];rfl);subst this;exact⟨_,by simpa using p,by simpa using s,rfl⟩
theorem HY{c0:Nat}(hC:∀m,c0≤m→jn (KN m) f D key){lvl n:Nat}(S:List Int)(hn:10001<n)(hlv:c0+(S.length+1)+10002≤lvl)(hS:S.Pairwise (· < ·))(hD:∀x∈S,D x)(hl:S.length≤10000):
  ∃d,d.Perm S∧d.Pairwise (R key)∧kC (KN lvl) n S f=some d:=by
 unfold kC zR;have hle:c0≤lvl:=by omega
 have h0:S.length<n:=by omega
 obtain⟨S',b1,b2⟩:=blocks (K:=KN lvl) (n:=n) (hC lvl hle) hn n [] S h0 hS hD (by rw[List.length_nil,Nat.zero_add];exact hl);simp only[List.length_nil,List.nil_append,Nat.zero_add]at b2;rw[show((0:Nat):Int)=0 from rfl,show((20:Nat):Int)=20 from rfl]at b2;have h1:=hlv;have h2:S.length-20<n:=by omega
 have hm:=HF hC (S.length+1) lvl n hn h1;generalize KN lvl=K at *;obtain⟨d,d1,d2,d3⟩:=rounds (K:=K) (n:=n) (N:=S.length+1) hn hm S hS hD hl (Nat.lt_succ_self _) n 20 S' (by decide) h2 b1;rw[show((20:Nat):Int)=20 from rfl]at d3;exact⟨d,d1,d2,by rw[b2,d3,sb]⟩
end Go.Proofs.YtolhpahjgddjkaaGreat.QSort
namespace Go.Proofs.YtolhpahjgddjkaaGreat
set_option linter.all false
open Go.RowKit
namespace Sh
def idx(n:Nat):List Int:=(List.range n).map fun (k:Nat)=>(k:Int)
instance(key:Int→Int)(a b:Int):Decidable (QSort.R key a b):=by unfold QSort.R;infer_instance
theorem gS(n:Nat):(idx n).length=n:=by simp[idx]
theorem jh{n:Nat}{x:Int}:x∈idx n↔∃k:Nat,k<n∧x=k:=by
 simp only[idx,List.mem_map,List.mem_range];exact⟨fun⟨k,h,e⟩=>⟨k,h,e.symm⟩,fun⟨k,h,e⟩=>⟨k,h,e.symm⟩⟩
theorem le(n:Nat):(idx n).Pairwise (· < ·):=by
 unfold idx;rw[List.pairwise_map];refine List.Pairwise.imp (fun h=>?_) List.pairwise_lt_range;omega
theorem kh(n:Nat):idx (n+1)=idx n++[(n:Int)]:=by simp[idx,List.range_succ]
def cO(n most:Int):Int:=min (max n 0) most
def mx:Int:=2147483647
theorem pH{n m:Int}(h:0≤m):0≤cO n m∧cO n m≤m:=by unfold cO;omega
def q(T S w:Int):Int:=T*w / S
def r(T S w:Int):Int:=T*w % S
def left(T:Int)(W:List Int):Int:=T-sm (W.map (q T (sm W)))
def bz(T:Int)(W:List Int)(k:Nat):Prop :=
 0<r T (sm W) (W.getD k default)∧(((W.take k).countP (fun w=>decide (r T (sm W) (W.getD k default)≤r T (sm W) w))+(W.drop (k+1)).countP (fun w=>decide (r T (sm W) (W.getD k default)<r T (sm W) w)):Nat):Int)<left T W
instance(T:Int)(W:List Int)(k:Nat):Decidable (bz T W k):=by unfold bz;infer_instance
def part(T:Int)(W:List Int)(k:Nat):Int:=q T (sm W) (W.getD k default)+if bz T W k then 1 else 0
def share(T:Int)(W:List Int):List Int:=if sm W=0 then List.replicate W.length 0 else (List.range W.length).map (part T W)
theorem fN(T:Int)(W:List Int):(share T W).length=W.length:=by unfold share;split<;>simp
def inc:List Int→List Int→List Int
 | p,[]=>p
 | p,i::l=>inc (p.set i.toNat (p.getD i.toNat default+1)) l
theorem Du:∀(l p:List Int),(inc p l).length=p.length
 | [],p=>rfl
 | i::l,p=>by simp[inc,Du l]
theorem Po:∀(l m p:List Int),inc p (l++m)=inc (inc p l) m
 | [],m,p=>rfl
 | i::l,m,p=>by simp[inc,Po l]
theorem Ou:∀(p:List Int) (k:Nat) (x:Int),k<p.length→sm (p.set k x)=sm p-p.getD k default+x
 | [],k,x,h=>by simp at h
 | y::p,0,x,h=>by simp[sm];omega
 | y::p,k+1,x,h=>by
  have:=Ou p k x (by simpa using h);simp only[List.set_cons_succ,sm,this,List.getD_cons_succ];omega
theorem JU:∀(l p:List Int),(∀i∈l,0≤i∧i.toNat<p.length)→sm (inc p l)=sm p+l.length
 | [],p,h=>by simp[inc]
 | i::l,p,h=>by
  simp only[inc];rw[JU l _ (fun j hj=>by have:=h j (by simp[hj]);simpa using this),Ou _ _ _ (h i (by simp)).2];simp only[List.length_cons];omega
theorem B8{p:List Int}{i j:Nat}{x:Int}(h:i≠j):(p.set i x).getD j default=p.getD j default:=by simp[List.getD_eq_getElem?_getD,List.getElem?_set,h]
theorem E2{p:List Int}{i:Nat}{x:Int}(h:i<p.length):(p.set i x).getD i default=x:=by simp[List.getD_eq_getElem?_getD,List.getElem?_set,h]
theorem FZ:∀(l p:List Int) (k:Nat),l.Nodup→(∀i∈l,0≤i)→k<p.length→(inc p l).getD k default=p.getD k default+if (k:Int)∈l then 1 else 0
 | [],p,k,_,_,_=>by simp[inc]
 | i::l,p,k,hn,h0,hk=>by
  simp only[inc];rw[List.nodup_cons]at hn;rw[FZ l _ k hn.2 (fun j hj=>h0 j (by simp[hj])) (by simpa using hk)];have hi:=h0 i (by simp);by_cases e:i.toNat=k
  ·have e2:i=(k:Int):=by omega
   subst e2;rw[Int.toNat_natCast,E2 hk,if_neg hn.1,if_pos (by simp)];omega
  ·rw[B8 e];have:((k:Int)∈i::l)↔(k:Int)∈l:=by
    rw[List.mem_cons];constructor
    ·rintro (h|h)
     ·omega
     ·exact h
    ·exact .inr
   simp only[this]
theorem acF{a b:List Int}(h:a.Perm b):sm a=sm b:=by
 induction h with
 | nil=>rfl
 | cons x _ ih=>simp[sm,ih]
 | swap x y l=>simp only[sm];omega
 | trans _ _ h1 h2=>rw[h1,h2]
theorem NT(T S:Int)(hS:0<S):∀W:List Int,S*sm (W.map (q T S))+sm (W.map (r T S))=T*sm W
 | []=>by simp[sm]
 | w::W=>by
  have:=NT T S hS W;have h:=Int.mul_ediv_add_emod (T*w) S;simp only[List.map_cons,sm,Int.mul_add];unfold q r at *;omega
theorem gu{c:Int}:∀L:List Int,(∀x∈L,x≤c)→sm L≤L.length*c
 | [],_=>by simp[sm]
 | x::L,h=>by
  have:=gu L (fun y hy=>h y (by simp[hy]));have:=h x (by simp);simp only[sm,List.length_cons];rw[show((L.length+1:Nat):Int)*c=L.length*c+c by simp[Int.add_mul]];omega
theorem eg:∀L:List Int,(∀x∈L,0≤x)→0≤sm L
 | [],_=>by simp[sm]
 | x::L,h=>by
  have:=eg L (fun y hy=>h y (by simp[hy]));have:=h x (by simp);simp only[sm];omega
theorem lT:∀(L:List Int),(∀x∈L,0≤x)→∀x∈L,x≤sm L
 | [],_,_,hx=>by simp at hx
 | y::L,h,x,hx=>by
  have h1:=eg L (fun y hy=>h y (by simp[hy]));have h2:=h y (by simp);simp only[sm];rcases List.mem_cons.1 hx with rfl|hx
  ·omega
  ·have:=lT L (fun y hy=>h y (by simp[hy])) x hx;omega
theorem yW{T S w:Int}(hS:0<S):0≤r T S w∧r T S w<S:=⟨Int.emod_nonneg _ (by omega),Int.emod_lt_of_pos _ hS⟩
theorem qL{T S w:Int}(hS:0<S)(hT:0≤T)(hw:0≤w)(hw2:w≤S):0≤q T S w∧q T S w≤T:=by
 refine⟨Int.ediv_nonneg (Int.mul_nonneg hT hw) (by omega),?_⟩;unfold q;have h:T*w≤T*S:=Int.mul_le_mul_of_nonneg_left hw2 hT
 calc T*w / S≤T*S / S:=Int.ediv_le_ediv hS h
  _=T:=Int.mul_ediv_cancel _ (by omega)
theorem Lx(T:Int)(W:List Int)(hS:0<sm W):sm W*left T W=sm (W.map (r T (sm W))):=by
 have:=NT T (sm W) hS W;unfold left;rw[Int.mul_sub,Int.mul_comm (sm W) T];omega
theorem xx(T:Int)(W:List Int)(hS:0<sm W):0≤left T W∧left T W≤W.length:=by
 have h:=Lx T W hS;have h0:0≤sm (W.map (r T (sm W))):=eg _ (fun x hx=>by
  obtain⟨w,_,rfl⟩:=List.mem_map.1 hx;exact(yW hS).1)
 have h1:sm (W.map (r T (sm W)))≤(W.map (r T (sm W))).length*sm W:=gu _ (fun x hx=>by
  obtain⟨w,_,rfl⟩:=List.mem_map.1 hx;have:=(yW (T:=T) (w:=w) hS).2;omega)
 rw[List.length_map,← h,Int.mul_comm]at h1;refine⟨?_,Int.le_of_mul_le_mul_right h1 hS⟩;rw[←h]at h0;rcases Int.lt_or_le (left T W) 0 with h|h
 ·have:=Int.mul_neg_of_pos_of_neg hS h;omega
 ·exact h
def key(rs:List Int)(a:Int):Int := - rs.getD a.toNat default
structure Ord(rs d:List Int):Prop where
 p:d.Perm (idx rs.length)
 s:d.Pairwise (QSort.R (key rs))
theorem Ord.nodup{rs d:List Int}(h:Ord rs d):d.Nodup:=by
 refine List.Pairwise.imp (fun hh e=>?_) h.s;subst e;exact hh.qK
theorem Ord.mem{rs d:List Int}(h:Ord rs d){x:Int}:x∈d↔∃k:Nat,k<rs.length∧x=k:=by rw[h.p.mem_iff,jh]
theorem Ord.len{rs d:List Int}(h:Ord rs d):d.length=rs.length:=by rw[h.p.length_eq,gS]
theorem Ac(rs:List Int)(p:Int→Bool):∀n,n≤rs.length→(idx n).countP (fun a=>p (rs.getD a.toNat default))=(rs.take n).countP p
 | 0,_=>by simp[idx]
 | n+1,h=>by
  rw[kh,List.countP_append,Ac rs p n (by omega),List.take_succ_eq_append_getElem (by omega),List.countP_append];simp[List.getD_eq_getElem?_getD,List.getElem?_eq_getElem (show n<rs.length by omega)]
theorem Rh{rs d:List Int}(h:Ord rs d){t k:Nat}(ht:t<d.length)(hk:d.getD t default=(k:Int)):(rs.take k).countP (fun w=>decide (rs.getD k default≤w))+(rs.drop (k+1)).countP (fun w=>decide (rs.getD k default<w))=t:=by
 have ek:k<rs.length:=by
  have:d.getD t default∈d:=by rw[cd ht];exact List.getElem_mem _
  rw[hk]at this;obtain⟨j,h1,h2⟩:=h.mem.1 this;omega
 -- in the sorted order there are t ahead of k
 have c1:d.countP (fun a=>decide (QSort.R (key rs) a k))=t:=by
  have e:d=d.take t++d.drop t:=(List.take_append_drop t d).symm;have e2:d.drop t=(k:Int)::d.drop (t+1):=by rw[List.drop_eq_getElem_cons ht,← cd ht,hk]
  rw[e2]at e;have hs:=h.s;rw[e,List.pairwise_append,List.pairwise_cons]at hs;rw[e,List.countP_append,List.countP_cons];have z1:(d.take t).countP (fun a=>decide (QSort.R (key rs) a k))=t:=by
   rw[List.countP_eq_length.2 (fun a ha=>by simpa using hs.2.2 a ha k (by simp))];simp;omega
  have z2:(d.drop (t+1)).countP (fun a=>decide (QSort.R (key rs) a k))=0:=by
   rw[List.countP_eq_zero];intro a ha hh;exact(hs.2.1.1 a ha).asymm (by simpa using hh)
  have z3:(if decide (QSort.R (key rs) (k:Int) k)=true then 1 else 0)=0:=by
   rw[if_neg];intro hh;exact(by simpa using hh:QSort.R (key rs) (k:Int) k).qK
  rw[z1,z2,z3];omega
 rw[h.p.countP_eq]at c1
 -- the indices below k,k,those above
 have e:idx rs.length=idx k++(k:Int)::(idx rs.length).drop (k+1):=by
  have h1:(idx rs.length).take k=idx k:=by unfold idx;rw[←List.map_take,List.take_range,Nat.min_eq_left (Nat.le_of_lt ek)]
  have h2:k<(idx rs.length).length:=by rw[gS];exact ek
  conv=>lhs;rw[←List.take_append_drop k (idx rs.length),h1,List.drop_eq_getElem_cons h2]
  congr 2;simp[idx]
 have a1:(idx k).countP (fun a=>decide (QSort.R (key rs) a k))=(rs.take k).countP (fun w=>decide (rs.getD k default≤w)):=by
  rw[←Ac rs (fun w=>decide (rs.getD k default≤w)) k (by omega)];refine List.countP_congr (fun a ha=>?_);obtain⟨j,hj,rfl⟩:=jh.1 ha;simp only[decide_eq_true_eq];simp only[QSort.R,key,Int.toNat_natCast];omega
 have a2:((idx rs.length).drop (k+1)).countP (fun a=>decide (QSort.R (key rs) a k))=(rs.drop (k+1)).countP (fun w=>decide (rs.getD k default<w)):=by
  have b1:=Ac rs (fun w=>decide (rs.getD k default<w)) rs.length (Nat.le_refl _);have b2:=Ac rs (fun w=>decide (rs.getD k default<w)) (k+1) (by omega);rw[List.take_length]at b1;have b3:rs.countP (fun w=>decide (rs.getD k default<w))=(rs.take (k+1)).countP (fun w=>decide (rs.getD k default<w))+(rs.drop (k+1)).countP (fun w=>decide (rs.getD k default<w)):=by
   rw[←List.countP_append,List.take_append_drop]
  have b4:idx rs.length=idx (k+1)++(idx rs.length).drop (k+1):=by
   rw[kh];conv=>lhs;rw[e]
   simp
  rw[b4,List.countP_append,b2]at b1;have b5:((idx rs.length).drop (k+1)).countP (fun a=>decide (QSort.R (key rs) a k))=((idx rs.length).drop (k+1)).countP (fun a=>(fun w=>decide (rs.getD k default<w)) (rs.getD a.toNat default)):=by
   refine List.countP_congr (fun a ha=>?_);have:(k:Int)<a:=by
    have hp:=le rs.length;rw[e,List.pairwise_append,List.pairwise_cons]at hp;exact hp.2.1.1 a ha
   have h0:0≤a:=by omega
   obtain⟨j,rfl⟩:∃j:Nat,a=j:=⟨a.toNat,by omega⟩;simp only[decide_eq_true_eq];simp only[QSort.R,key,Int.toNat_natCast];omega
  rw[b5];dsimp only at b1 b2 b3⊢;omega
 have a3:(if decide (QSort.R (key rs) (k:Int) k)=true then 1 else 0)=0:=by
  rw[if_neg];intro hh;exact(by simpa using hh:QSort.R (key rs) (k:Int) k).qK
 rw[e,List.countP_append,List.countP_cons,a1,a2,a3]at c1;omega
theorem wJ(T S:Int)(W:List Int){k:Nat}(h:k<W.length):(W.map (r T S)).getD k default=r T S (W.getD k default):=by simp[List.getD_eq_getElem?_getD,h]
theorem FL(T:Int)(W d:List Int)(hW:∀w∈W,0≤w)(hS:sm W≠0)(h:Ord (W.map (r T (sm W))) d):share T W=inc (W.map (q T (sm W))) (d.take (left T W).toNat):=by
 have hS0:0<sm W:=by have:=eg W hW;omega
 have hlb:=xx T W hS0;have hlm:=Lx T W hS0;have hdl:d.length=W.length:=by rw[h.len,List.length_map]
 unfold share;rw[if_neg hS];refine List.ext_getElem (by rw[Du];simp) (fun k h1 h2=>?_);have hk:k<W.length:=by simpa using h1
 rw[←cd h2,FZ _ _ _ (h.nodup.sublist (List.take_sublist _ _)) (fun i hi=>by
  obtain⟨j,_,rfl⟩:=h.mem.1 (List.mem_of_mem_take hi);omega) (by simpa using hk)]
 simp only[List.getElem_map,List.getElem_range,part];have e1:(W.map (q T (sm W))).getD k default=q T (sm W) (W.getD k default):=by simp[List.getD_eq_getElem?_getD,hk]
 rw[e1];congr 1
 -- where is k in the order?
 obtain⟨t,ht,et⟩:=QSort.Dg (A:=d) (x:=(k:Int)) (h.mem.2 ⟨k,by simpa using hk,rfl⟩);have hr:=Rh h ht et;rw[wJ _ _ _ hk,← List.map_take,← List.map_drop,List.countP_map,List.countP_map]at hr;have hmem:((k:Int)∈d.take (left T W).toNat)↔t<(left T W).toNat:=by
  constructor
  ·intro hm;obtain⟨t',k1,k2,k3⟩:=QSort.xv hm;have:t'=t:=by
    rcases Nat.lt_trichotomy t t' with hh|hh|hh
    ·have:=QSort.dN h.s hh k2;rw[et,k3]at this;exact absurd this (fun x=>x.qK)
    ·exact hh.symm
    ·have:=QSort.dN h.s hh ht;rw[et,k3]at this;exact absurd this (fun x=>x.qK)
   omega
  ·intro hm;have:d.take (left T W).toNat=d.take (left T W).toNat:=rfl;have h3:t<(d.take (left T W).toNat).length:=by simp;omega
   have:=QSort.xZ h3;rwa[QSort.Nh hm,et]at this
 have hwin:bz T W k↔t<(left T W).toNat:=by
  unfold bz;simp only[Function.comp_def]at hr;rw[hr];constructor
  ·intro hh;omega
  ·intro hh;refine⟨?_,by omega⟩
   -- a rest of 0 does not bz: all behind it are 0,too
   rcases Int.lt_or_le 0 (r T (sm W) (W.getD k default))with hp|hp
   ·exact hp
   ·exfalso;have eperm:sm (d.map fun a=>(W.map (r T (sm W))).getD a.toNat default)=sm (W.map (r T (sm W))):=by
     rw[acF (h.p.map _)];congr 1;refine List.ext_getElem (by simp[idx]) (fun i i1 i2=>?_);simp only[List.getElem_map,idx,List.getElem_range,Int.toNat_natCast,wJ T (sm W) W (show i<W.length by simpa using i2)];rw[cd (show i<W.length by simpa using i2)]
    have esp:d=d.take t++d.drop t:=(List.take_append_drop t d).symm;have smsp:sm (d.map fun a=>(W.map (r T (sm W))).getD a.toNat default)=sm ((d.take t).map fun a=>(W.map (r T (sm W))).getD a.toNat default)+sm ((d.drop t).map fun a=>(W.map (r T (sm W))).getD a.toNat default):=by
     conv=>lhs;rw[esp]
     rw[List.map_append,j7]
    have val:∀a∈d,0≤(W.map (r T (sm W))).getD a.toNat default∧(W.map (r T (sm W))).getD a.toNat default≤sm W-1:=by
     intro a ha;obtain⟨j,hj,rfl⟩:=h.mem.1 ha;rw[List.length_map]at hj;rw[Int.toNat_natCast,wJ T (sm W) W hj];have:=yW (T:=T) (w:=W.getD j default) hS0;omega
    have s1:sm ((d.take t).map fun a=>(W.map (r T (sm W))).getD a.toNat default)≤t*(sm W-1):=by
     have:=gu (c:=sm W-1) ((d.take t).map fun a=>(W.map (r T (sm W))).getD a.toNat default) (fun x hx=>by
      obtain⟨a,ha,rfl⟩:=List.mem_map.1 hx;exact(val a (List.mem_of_mem_take ha)).2)
     rw[List.length_map,List.length_take,Nat.min_eq_left (by omega)]at this;exact this
    have s2:sm ((d.drop t).map fun a=>(W.map (r T (sm W))).getD a.toNat default)≤(((d.drop t).map fun a=>(W.map (r T (sm W))).getD a.toNat default).length:Int)*0:=by
     refine gu _ (fun x hx=>?_);obtain⟨a,ha,rfl⟩:=List.mem_map.1 hx;obtain⟨i,i1,i2,rfl⟩:=QSort.sM ha;have ek:(W.map (r T (sm W))).getD k default≤0:=by rw[wJ T (sm W) W hk];exact hp
     rcases Nat.lt_or_ge t i with q|q
     ·have:=QSort.dN h.s q i2;rw[et]at this;unfold QSort.R key at this;rw[Int.toNat_natCast]at this;omega
     ·obtain rfl:i=t:=by omega
      rw[et,Int.toNat_natCast];exact ek
    rw[Int.mul_zero]at s2;have:sm W*left T W≤t*(sm W-1):=by rw[hlm,← eperm,smsp];omega
    have h4:sm W*((t:Int)+1)≤sm W*left T W:=Int.mul_le_mul_of_nonneg_left (by omega) (by omega);rw[Int.mul_add,Int.mul_one,Int.mul_comm (sm W) t]at h4;rw[Int.mul_sub,Int.mul_one]at this;omega
 by_cases hw:bz T W k
 ·rw[if_pos hw,if_pos (hmem.2 (hwin.1 hw))]
 ·rw[if_neg hw,if_neg (fun hh=>hw (hwin.2 (hmem.1 hh)))]
end Sh
end Go.Proofs.YtolhpahjgddjkaaGreat
namespace Go.Proofs.YtolhpahjgddjkaaGreat
set_option linter.all false
open Go.RowKit
namespace Sh
open QSort (wn aH bp bo sb)
variable{K:Kn}{n:Nat}
def aO(L:List Int):List Int:=L.map fun w=>cO w mx
theorem dt(L:List Int):(aO L).length=L.length:=by simp[aO]
theorem gg(L:List Int):∀w∈aO L,0≤w∧w≤2147483647:=by
 intro w hw;obtain⟨x,_,rfl⟩:=List.mem_map.1 hw;exact pH (m:=mx) (by decide)
theorem nz{L:List Int}{k:Nat}(h:k<L.length):(aO L).getD k default=cO (L.getD k default) mx:=by simp[aO,List.getD_eq_getElem?_getD,h]
theorem z9{L:List Int}(h:L.length≤10000):0≤sm (aO L)∧sm (aO L)≤21474836470000:=by
 refine⟨eg _ (fun w hw=>(gg L w hw).1),?_⟩;have:=gu (c:=2147483647) (aO L) (fun w hw=>(gg L w hw).2);rw[dt]at this;omega
theorem Gg{W:List Int}(h:∀w∈W,0≤w)(i:Nat):0≤sm (W.take i)∧sm (W.take i)≤sm W:=by
 have h1:=eg (W.take i) (fun w hw=>h w (List.mem_of_mem_take hw));have h2:=eg (W.drop i) (fun w hw=>h w (List.mem_of_mem_drop hw));have:sm W=sm (W.take i)+sm (W.drop i):=by rw[←j7,List.take_append_drop]
 omega
theorem lL{W:List Int}{i:Nat}(h:i<W.length):sm (W.take (i+1))=sm (W.take i)+W.getD i default:=by
 rw[List.take_succ_eq_append_getElem h,j7,cd h];simp[sm]
theorem vg{A:List Int}{k i:Nat}{y z:Int}(h:i=A.length):List.set (A++List.replicate (k+1) z) i y=(A++[y])++List.replicate k z:=by
 subst h;simp[List.replicate_succ]
theorem Oq{A:List Int}{k i:Nat}{y z:Int}(h:i=A.length):List.getD ((A++[y])++List.replicate k z) i default=y:=by
 subst h;simp[List.getD_eq_getElem?_getD]
theorem NU{a b:Int}(h0:0≤a)(h1:a≤2147483647)(h2:0≤b)(h3:b≤2147483647):0≤a*b∧a*b≤4611686014132420609:=by
 refine⟨Int.mul_nonneg h0 h2,?_⟩;have:=Int.mul_le_mul h1 h3 h2 (by omega:(0:Int)≤2147483647);omega
theorem rP(g:Int→Int){W:List Int}{i:Nat}(h:i<W.length):(W.take (i+1)).map g=(W.take i).map g++[g (W.getD i default)]:=by
 rw[List.take_succ_eq_append_getElem h,List.map_append,cd h];rfl
theorem ND{T:Int}{W:List Int}(hT:0≤T)(hW:∀w∈W,0≤w)(hS:0<sm W)(i:Nat):0≤sm ((W.take i).map (q T (sm W)))∧sm ((W.take i).map (q T (sm W)))≤T:=by
 have hq:∀x∈W.map (q T (sm W)),0≤x:=fun x hx=>by
  obtain⟨w,hw,rfl⟩:=List.mem_map.1 hx;exact(qL hS hT (hW w hw) (lT W hW w hw)).1
 have:=Gg hq i;rw[←List.map_take]at this;have h2:=(xx T W hS).1;unfold left at h2;omega
theorem W7(L:List Int)(T:Int)(z1 z2 z3:List Int)(hL:L.length≤10000):∀(m i:Nat),i≤L.length→L.length<m+i →
  rn K n L T z1 z2 z3 m (sm ((aO L).take i)) (i:Int)=if (sm (aO L) == 0)=true then some z1 else ny K n L T (sm (aO L)) n T 0 z1 z2 z3:=by
 intro m
 induction m with
 | zero=>intro i h1 h2;omega
 | succ m ih =>
  intro i h1 h2;simp only[rn,uo];by_cases hi:i<L.length
  ·have hb:=z9 hL;have hs:=Gg (W:=aO L) (fun w hw=>(gg L w hw).1) (i+1);have e:=lL (W:=aO L) (i:=i) (by rw[dt];exact hi);have el:=nz hi;rw[bp (by omega),aH (by omega),ci];simp only[mG,sb];rw[wn (n:=(i:Int)+1) (k:=i+1) (by omega) (by omega)];rw[show aa (sm ((aO L).take i)+min (max (L.getD i default) 0) 2147483647)=sm ((aO L).take (i+1)) by
    rw[e,el];exact cj (by rw[e,el]at hs;unfold cO mx at hs;omega) (by rw[e,el]at hs;unfold cO mx at hs;omega)]
   exact ih (i+1) (by omega) (by omega)
  ·rw[bo (by omega),List.take_of_length_le (by rw[dt];omega)]
theorem Uu(L:List Int)(T:Int)(hT:0≤T∧T≤2147483647)(hL:L.length≤10000)(hS:0<sm (aO L)):∀(m i:Nat),i≤L.length→L.length<m+i →
  ny K n L T (sm (aO L)) m (T-sm (((aO L).take i).map (q T (sm (aO L))))) (i:Int) (((aO L).take i).map (q T (sm (aO L)))++List.replicate (L.length-i) 0) (((aO L).take i).map (r T (sm (aO L)))++List.replicate (L.length-i) 0) (idx i++List.replicate (L.length-i) 0) =
  (kC K n (idx L.length) (Fv.c70 ((aO L).map (r T (sm (aO L)))))).bind fun v22 =>
  au (gG (0:Int) (left T (aO L)) v22.length) (
  o5 K n n (List.drop ((0:Int)).toNat (List.take (left T (aO L)).toNat v22)) ((List.drop ((0:Int)).toNat (List.take (left T (aO L)).toNat v22)).length:Int) 0 ((aO L).map (q T (sm (aO L))))):=by
 intro m
 induction m with
 | zero=>intro i h1 h2;omega
 | succ m ih =>
  intro i h1 h2;simp only[ny,vi];by_cases hi:i<L.length
  ·have hW:=fun w hw=>(gg L w hw).1;have hlp:=ND hT.1 hW hS;have el:=nz hi;obtain⟨k,ek⟩:∃k,L.length-i=k+1:=⟨L.length-i-1,by omega⟩;have hw:=gg L ((aO L).getD i default) (by rw[cd (by rw[dt];exact hi)];exact List.getElem_mem _);have hm:=NU hT.1 hT.2 hw.1 hw.2;rw[bp (by omega),aH (by omega),ci];simp only[mG,sb];have ew:min (max (L.getD i default) 0) 2147483647=(aO L).getD i default:=by rw[el];rfl
   rw[ew,cj (n:=T*(aO L).getD i default) (by omega) (by omega)];have hz:(sm (aO L) != 0)=true:=by simp;omega
   rw[hz,bS,bS];have la:(((aO L).take i).map (q T (sm (aO L)))++List.replicate (L.length-i) 0).length=L.length:=by simp[dt];omega
   have lb:(((aO L).take i).map (r T (sm (aO L)))++List.replicate (L.length-i) 0).length=L.length:=by simp[dt];omega
   have lc:(idx i++List.replicate (L.length-i) 0).length=L.length:=by simp[gS];omega
   rw[la,lb,lc,aH (by omega),aH (by omega),aH (by omega)];simp only[List.length_set];rw[la,aH (by omega),ek];have l1:i=(((aO L).take i).map (q T (sm (aO L)))).length:=by simp[dt];omega
   have l2:i=(((aO L).take i).map (r T (sm (aO L)))).length:=by simp[dt];omega
   rw[vg l1,vg l2,vg (gS i).symm,Oq l1];have hq:=qL hS hT.1 hw.1 (lT _ hW _ (by rw[cd (by rw[dt];exact hi)];exact List.getElem_mem _));have ed:aa (Int.tdiv (T*(aO L).getD i default) (sm (aO L)))=q T (sm (aO L)) ((aO L).getD i default):=by
    rw[Int.tdiv_eq_ediv_of_nonneg hm.1];exact cj (by show _≤q _ _ _;omega) (by show q _ _ _≤_;omega)
   have er:Int.tmod (T*(aO L).getD i default) (sm (aO L))=r T (sm (aO L)) ((aO L).getD i default):=by
    rw[Int.tmod_eq_emod_of_nonneg hm.1];rfl
   rw[ed,er,← rP _ (by rw[dt];exact hi),← rP _ (by rw[dt];exact hi),← kh];have e1:aa (T-sm (((aO L).take i).map (q T (sm (aO L))))-q T (sm (aO L)) ((aO L).getD i default))=T-sm (((aO L).take (i+1)).map (q T (sm (aO L)))):=by
    rw[rP _ (by rw[dt];exact hi),j7];simp only[sm];have a1:=hlp i;rw[cj (by omega) (by omega)];omega
   rw[e1,wn (n:=(i:Int)+1) (k:=i+1) (by omega) (by omega)];have:=ih (i+1) (by omega) (by omega);rw[show L.length-(i+1)=k by omega]at this;exact this
  ·have:i=L.length:=by omega
   subst this;rw[bo (by omega)];have ew:(aO L).take L.length=aO L:=List.take_of_length_le (by rw[dt];omega);rw[ew];simp only[Nat.sub_self,List.replicate_zero,List.append_nil];rfl
theorem abJ(l:List Int)(hl:l.length≤10000):∀(m i:Nat) (p:List Int),i≤l.length→l.length<m+i→(∀x∈l,0≤x∧x.toNat<p.length)→(∀x∈p,0≤x∧x+l.length≤4611686018427387904+i) →
  o5 K n m l (l.length:Int) (i:Int) p=some (inc p (l.drop i)):=by
 intro m
 induction m with
 | zero=>intro i p h1 h2;omega
 | succ m ih =>
  intro i p h1 h2 hx hp;simp only[o5,tN];by_cases hi:i<l.length
  ·have hm:=hx (l.getD i default) (by rw[cd hi];exact List.getElem_mem _);have hpx:=hp (p.getD (l.getD i default).toNat default) (by rw[cd hm.2];exact List.getElem_mem _);rw[bp (by omega),aH (by omega),ci,aH (by omega),aH (by omega),wn (n:=(i:Int)+1) (k:=i+1) (by omega) (by omega),cj (by omega) (by omega)];rw[ih (i+1) _ (by omega) (by omega) (by simpa using hx) (fun x hx2=>by
    rcases List.mem_or_eq_of_mem_set hx2 with h|h
    ·have:=hp x h;omega
    ·subst h;omega)]
   rw[List.drop_eq_getElem_cons hi,← cd hi];rfl
  ·rw[bo (by omega),List.drop_eq_nil_of_le (by omega)];rfl
theorem S9(rs:List Int)(m:Nat):QSort.jn (KN (m+1)) (Fv.c70 rs) (fun a=>0≤a∧a<rs.length) (key rs):=by
 refine⟨fun a b ha hb=>?_⟩;show ∃c,yd (KN m) m a b rs=some c∧_;unfold yd;rw[aH hb,aH ha];simp only[pB,tk,sb,bne_self_eq_false,Bool.false_eq_true,if_false,key];by_cases h1:rs.getD b.toNat default<rs.getD a.toNat default
 ·rw[bp h1];exact⟨-1,rfl,by omega⟩
 ·rw[bo h1];by_cases h2:rs.getD b.toNat default>rs.getD a.toNat default
  ·rw[bp h2];exact⟨1,rfl,by omega⟩
  ·rw[bo h2];exact⟨0,rfl,by omega⟩
theorem sorted(rs:List Int){lvl n:Nat}(hn:10001<n)(hl:rs.length≤10000)(hlv:20010≤lvl):∃d,Ord rs d∧kC (KN lvl) n (idx rs.length) (Fv.c70 rs)=some d:=by
 obtain⟨d,h1,h2,h3⟩:=QSort.HY (c0:=1) (f:=Fv.c70 rs) (D:=fun a=>0≤a∧a<rs.length) (key:=key rs) (fun m hm=>by
  obtain⟨k,rfl⟩:∃k,m=k+1:=⟨m-1,by omega⟩;exact S9 rs k) (lvl:=lvl) (n:=n) (idx rs.length) hn (by rw[gS];omega) (le _) (fun x hx=>by
   obtain⟨k,hk,rfl⟩:=jh.1 hx;omega) (by rw[gS];exact hl)
 exact⟨d,⟨h1,h2⟩,h3⟩
theorem mf{a b:Int}{n:Nat}(h0:0≤a)(h1:a≤b)(h2:b≤n):gG a b n=true:=by simp[gG,h0,h1,h2]
theorem lV{n b:Nat}(h:n*b≤140737488355328)(h2:n≤4611686018427387904):eC (n:Int) b=true:=by
 simp only[eC,Bool.and_eq_true,decide_eq_true_eq,Int.toNat_natCast];omega
theorem DT{lvl n:Nat}(T:Int)(L:List Int)(hL:L.length≤10000)(hn:10001<n)(hlv:20010≤lvl):rf (KN lvl) n T L=some (share (cO T mx) (aO L)):=by
 unfold rf;have hT:0≤cO T mx∧cO T mx≤2147483647:=pH (m:=mx) (by decide);simp only[mG,sb,lV (show L.length*8≤140737488355328 by omega) (by omega),bS,ci];have h1:=W7 (K:=KN lvl) (n:=n) L (cO T mx) (List.replicate L.length 0) (List.replicate L.length 0) (List.replicate L.length 0) hL n 0 (by omega) (by omega);rw[show sm ((aO L).take 0)=0 from rfl,show((0:Nat):Int)=0 from rfl]at h1;rw[show min (max T 0) 2147483647=cO T mx from rfl,h1];have sh:=z9 hL;by_cases hz:sm (aO L)=0
 ·rw[if_pos (by simp[hz])];unfold share;rw[if_pos hz,dt]
 ·rw[if_neg (by simp[hz])];have hS:0<sm (aO L):=by omega
  have h2:=Uu (K:=KN lvl) (n:=n) L (cO T mx) hT hL hS n 0 (by omega) (by omega);simp only[List.take_zero,List.map_nil,List.nil_append,Nat.sub_zero,sm,Int.sub_zero,show idx 0=[] from rfl]at h2;rw[show((0:Nat):Int)=0 from rfl]at h2;rw[h2];obtain⟨d,o1,o2⟩:=sorted ((aO L).map (r (cO T mx) (sm (aO L)))) (lvl:=lvl) (n:=n) hn (by simp[dt,hL]) hlv;rw[List.length_map,dt]at o2;rw[o2,sb];have hd:d.length=L.length:=by rw[o1.len,List.length_map,dt]
  have hlb:=xx (cO T mx) (aO L) hS;rw[dt]at hlb;rw[mf (by omega) hlb.1 (by rw[hd];exact hlb.2),bS];rw[show(0:Int).toNat=0 from rfl,List.drop_zero];rw[FL (cO T mx) (aO L) d (fun w hw=>(gg L w hw).1) (by omega) o1];have:=abJ (K:=KN lvl) (n:=n) (d.take (left (cO T mx) (aO L)).toNat) (by simp;omega) n 0 ((aO L).map (q (cO T mx) (sm (aO L)))) (by omega) (by simp;omega) (fun x hx=>by
   obtain⟨k,hk,rfl⟩:=o1.mem.1 (List.mem_of_mem_take hx);simp at hk;simp;omega) (fun x hx=>by
   obtain⟨w,hw,rfl⟩:=List.mem_map.1 hx;have:=qL hS hT.1 (gg L w hw).1 (lT _ (fun w hw=>(gg L w hw).1) w hw);have h3:(d.take (left (cO T mx) (aO L)).toNat).length≤10000:=by simp;omega
   omega)
  rw[show((0:Nat):Int)=0 from rfl,List.drop_zero]at this;exact this
theorem VF(L:List Int)(T:Int)(hL:L.length≤10000):∀(m i:Nat),i≤L.length→L.length<m+i →
  qe K n L T m (sm ((aO L).take i)) (i:Int)=if (sm (aO L) == 0)=true then some (List.replicate L.length 0) else pc K n L T (sm (aO L)) n T 0 (List.replicate L.length 0) (List.replicate L.length 0):=by
 intro m
 induction m with
 | zero=>intro i h1 h2;omega
 | succ m ih =>
  intro i h1 h2;simp only[qe,vf];by_cases hi:i<L.length
  ·have hb:=z9 hL;have hs:=Gg (W:=aO L) (fun w hw=>(gg L w hw).1) (i+1);have e:=lL (W:=aO L) (i:=i) (by rw[dt];exact hi);have el:=nz hi;rw[bp (by omega),aH (by omega),ci];simp only[mg,sb];rw[wn (n:=(i:Int)+1) (k:=i+1) (by omega) (by omega)];rw[show aa (sm ((aO L).take i)+min (max (L.getD i default) 0) 2147483647)=sm ((aO L).take (i+1)) by
    rw[e,el];exact cj (by rw[e,el]at hs;unfold cO mx at hs;omega) (by rw[e,el]at hs;unfold cO mx at hs;omega)]
   exact ih (i+1) (by omega) (by omega)
  ·rw[bo (by omega),List.take_of_length_le (by rw[dt];omega)];simp only[lV (show L.length*8≤140737488355328 by omega) (by omega),bS,ci,sb]
theorem WV(L:List Int)(T:Int)(hT:0≤T∧T≤2147483647)(hL:L.length≤10000)(hS:0<sm (aO L)):∀(m i:Nat),i≤L.length→L.length<m+i →
  pc K n L T (sm (aO L)) m (T-sm (((aO L).take i).map (q T (sm (aO L))))) (i:Int) (((aO L).take i).map (q T (sm (aO L)))++List.replicate (L.length-i) 0) (((aO L).take i).map (r T (sm (aO L)))++List.replicate (L.length-i) 0) =
  ni K n n (left T (aO L)) ((aO L).map (q T (sm (aO L)))) ((aO L).map (r T (sm (aO L)))):=by
 intro m
 induction m with
 | zero=>intro i h1 h2;omega
 | succ m ih =>
  intro i h1 h2;simp only[pc,t8];by_cases hi:i<L.length
  ·have hW:=fun w hw=>(gg L w hw).1;have hlp:=ND hT.1 hW hS;have el:=nz hi;obtain⟨k,ek⟩:∃k,L.length-i=k+1:=⟨L.length-i-1,by omega⟩;have hw:=gg L ((aO L).getD i default) (by rw[cd (by rw[dt];exact hi)];exact List.getElem_mem _);have hm:=NU hT.1 hT.2 hw.1 hw.2;rw[bp (by omega),aH (by omega),ci];simp only[mg,sb];have ew:min (max (L.getD i default) 0) 2147483647=(aO L).getD i default:=by rw[el];rfl
   rw[ew,cj (n:=T*(aO L).getD i default) (by omega) (by omega)];have hz:(sm (aO L) != 0)=true:=by simp;omega
   rw[hz,bS,bS];have la:(((aO L).take i).map (q T (sm (aO L)))++List.replicate (L.length-i) 0).length=L.length:=by simp[dt];omega
   have lb:(((aO L).take i).map (r T (sm (aO L)))++List.replicate (L.length-i) 0).length=L.length:=by simp[dt];omega
   simp only[List.length_set];rw[la,lb,aH (by omega),aH (by omega),aH (by omega),ek];have l1:i=(((aO L).take i).map (q T (sm (aO L)))).length:=by simp[dt];omega
   have l2:i=(((aO L).take i).map (r T (sm (aO L)))).length:=by simp[dt];omega
   rw[vg l1,vg l2,Oq l1];have hq:=qL hS hT.1 hw.1 (lT _ hW _ (by rw[cd (by rw[dt];exact hi)];exact List.getElem_mem _));have ed:aa (Int.tdiv (T*(aO L).getD i default) (sm (aO L)))=q T (sm (aO L)) ((aO L).getD i default):=by
    rw[Int.tdiv_eq_ediv_of_nonneg hm.1];exact cj (by show _≤q _ _ _;omega) (by show q _ _ _≤_;omega)
   have er:Int.tmod (T*(aO L).getD i default) (sm (aO L))=r T (sm (aO L)) ((aO L).getD i default):=by
    rw[Int.tmod_eq_emod_of_nonneg hm.1];rfl
   rw[ed,er,← rP _ (by rw[dt];exact hi),← rP _ (by rw[dt];exact hi)];have e1:aa (T-sm (((aO L).take i).map (q T (sm (aO L))))-q T (sm (aO L)) ((aO L).getD i default))=T-sm (((aO L).take (i+1)).map (q T (sm (aO L)))):=by
    rw[rP _ (by rw[dt];exact hi),j7];simp only[sm];have a1:=hlp i;rw[cj (by omega) (by omega)];omega
   rw[e1,wn (n:=(i:Int)+1) (k:=i+1) (by omega) (by omega)];have:=ih (i+1) (by omega) (by omega);rw[show L.length-(i+1)=k by omega]at this;exact this
  ·have:i=L.length:=by omega
   subst this;rw[bo (by omega)];have ew:(aO L).take L.length=aO L:=List.take_of_length_le (by rw[dt];omega);rw[ew];simp only[Nat.sub_self,List.replicate_zero,List.append_nil];rfl
structure yM(rs:List Int)(i b:Nat):Prop where
 lt:b<i
 before:∀k,k<b→rs.getD k default<rs.getD b default
 all:∀k,k<i→rs.getD k default≤rs.getD b default
theorem Z7(rs:List Int):yM rs 1 0:=⟨by omega,fun k hk=>by omega,fun k hk=>by
 have:k=0:=by omega
 subst this;exact Int.le_refl _⟩
theorem R9(v27:Int)(p rs:List Int)(L3:Int→List Int→List Int→Option (List Int))(hl:rs.length≤10000):∀(m i b:Nat),i≤rs.length→rs.length<m+i→yM rs i b →
  ∃b',yM rs rs.length b'∧qw K n v27 p rs L3 m (b:Int) (i:Int)=(au (aB (b':Int) p.length) (
  au (aB (b':Int) p.length) (
  (some (List.set p b' (aa ((List.getD p b' default)+1)))).bind fun v36 =>
  au (aB (b':Int) rs.length) (
  L3 (aa (v27-1)) v36 (List.set rs b' (-1)))))):=by
 intro m
 induction m with
 | zero=>intro i b h1 h2;omega
 | succ m ih =>
  intro i b h1 h2 hb;have hlt:=hb.lt;simp only[qw,wb];by_cases hi:i<rs.length
  ·rw[bp (by omega),aH (by omega),aH (by omega),ci,ci];simp only[sb,ud];rw[wn (n:=(i:Int)+1) (k:=i+1) (by omega) (by omega)];by_cases hc:rs.getD i default>rs.getD b default
   ·rw[bp hc];refine ih (i+1) i (by omega) (by omega) ⟨by omega,fun k hk=>?_,fun k hk=>?_⟩
    ·have:=hb.all k hk;omega
    ·rcases Nat.lt_or_ge k i with q|q
     ·have:=hb.all k q;omega
     ·obtain rfl:k=i:=by omega
      exact Int.le_refl _
   ·rw[bo hc];refine ih (i+1) b (by omega) (by omega) ⟨by omega,hb.before,fun k hk=>?_⟩;rcases Nat.lt_or_ge k i with q|q
    ·exact hb.all k q
    ·obtain rfl:k=i:=by omega
     omega
  ·rw[bo (by omega)];have:i=rs.length:=by omega
   subst this;exact⟨b,hb,by simp only[ci]⟩
def mark(rs l:List Int):List Int:=l.foldl (fun a i=>a.set i.toNat (-1)) rs
theorem Xi(l:List Int):∀rs:List Int,(mark rs l).length=rs.length:=by
 induction l with
 | nil=>intro rs;rfl
 | cons i l ih=>intro rs;show(mark (rs.set i.toNat (-1)) l).length=_;rw[ih];simp
theorem Ep(l:List Int):∀(rs:List Int) (k:Nat),(∀i∈l,0≤i)→(k:Int) ∉ l→(mark rs l).getD k default=rs.getD k default:=by
 induction l with
 | nil=>intro rs k _ _;rfl
 | cons i l ih =>
  intro rs k h0 hk;show(mark (rs.set i.toNat (-1)) l).getD k default=_;have:=h0 i (by simp);rw[ih _ k (fun j hj=>h0 j (by simp[hj])) (fun h=>hk (by simp[h])),B8 (fun e=>hk (by simp;omega))]
theorem ac0(l:List Int):∀(rs:List Int) (k:Nat),(∀i∈l,0≤i)→(k:Int)∈l→k<rs.length→(mark rs l).getD k default = -1:=by
 induction l with
 | nil=>intro rs k _ h;simp at h
 | cons i l ih =>
  intro rs k h0 hk hl;show(mark (rs.set i.toNat (-1)) l).getD k default=_;by_cases hm:(k:Int)∈l
  ·exact ih _ k (fun j hj=>h0 j (by simp[hj])) hm (by simpa using hl)
  ·rw[Ep l _ k (fun j hj=>h0 j (by simp[hj])) hm];have:i=(k:Int):=by rcases List.mem_cons.1 hk with h|h;exact h.symm;exact absurd h hm
   subst this;rw[Int.toNat_natCast,E2 hl]
theorem U5(rs l m:List Int):mark rs (l++m)=mark (mark rs l) m:=by simp[mark]
theorem aaf{rs d:List Int}(h:Ord rs d)(h0:∀k,k<rs.length→0≤rs.getD k default){t b:Nat}(ht:t<d.length)(hb:yM (mark rs (d.take t)) rs.length b):d.getD t default=(b:Int):=by
 have hnn:∀i∈d.take t,0≤i:=fun i hi=>by obtain⟨j,_,rfl⟩:=h.mem.1 (List.mem_of_mem_take hi);omega
 have hm:d.getD t default∈d:=by rw[cd ht];exact List.getElem_mem _
 obtain⟨e,he,ee⟩:=h.mem.1 hm;have nd:=h.nodup;have enot:(e:Int) ∉ d.take t:=by
  intro hh;obtain⟨i,i1,i2,i3⟩:=QSort.xv hh;have:=QSort.dN h.s i1 ht;unfold QSort.at_ at this i3;rw[i3,ee]at this;exact this.qK
 have ve:(mark rs (d.take t)).getD e default=rs.getD e default:=Ep _ _ _ hnn enot;have hle:=hb.all e he;rw[ve]at hle;by_cases hbt:(b:Int)∈d.take t
 ·have:=ac0 (d.take t) rs b hnn hbt hb.lt;have:=h0 e he;omega
 ·have vb:(mark rs (d.take t)).getD b default=rs.getD b default:=Ep _ _ _ hnn hbt;rw[vb]at hle;by_cases hbe:b=e
  ·rw[ee,hbe]
  ·exfalso;have hbd:(b:Int)∈d:=h.mem.2 ⟨b,hb.lt,rfl⟩;have hbd2:(b:Int)∈d.drop (t+1):=by
    have e1:d=d.take t++d.drop t:=(List.take_append_drop t d).symm;have e2:d.drop t=d.getD t default::d.drop (t+1):=by rw[List.drop_eq_getElem_cons ht,← cd ht]
    rw[e2]at e1;rw[e1]at hbd;rcases List.mem_append.1 hbd with q|q
    ·exact absurd q hbt
    ·rcases List.mem_cons.1 q with q|q
     ·exfalso;rw[ee]at q;omega
     ·exact q
   obtain⟨i,i1,i2,i3⟩:=QSort.sM hbd2;have hR:=QSort.dN h.s (i:=t) (j:=i) (by omega) i2;unfold QSort.at_ at hR i3;rw[i3,ee]at hR;unfold QSort.R key at hR;rw[Int.toNat_natCast,Int.toNat_natCast]at hR;have hbf:=hb.before;rcases Nat.lt_or_ge e b with q|q
   ·have:=hbf e q;rw[ve,vb]at this;omega
   ·omega
theorem UF{rs d p:List Int}(h:Ord rs d)(h0:∀k,k<rs.length→0≤rs.getD k default)(hl:rs.length≤10000)(hp:p.length=rs.length)(hn:10001<n)(l:Nat)(hld:l≤d.length)(hpb:∀x∈p,0≤x∧x≤4611686018427387904):∀(m t:Nat),t≤l→l<m+t →
  ni K n m ((l-t:Nat):Int) (inc p (d.take t)) (mark rs (d.take t))=some (inc p (d.take l)):=by
 intro m
 induction m with
 | zero=>intro t h1 h2;omega
 | succ m ih =>
  intro t h1 h2;simp only[ni,yl];have hdl:=h.len;by_cases ht:t<l
  ·rw[bp (by omega)];have hr0:0<rs.length:=by omega
   have ml:=Xi (d.take t) rs;obtain⟨b,hb,e⟩:=R9 (K:=K) (n:=n) ((l-t:Nat):Int) (inc p (d.take t)) (mark rs (d.take t)) (ni K n m) (by rw[ml];exact hl) n 1 0 (by omega) (by omega) (Z7 _);rw[show((0:Nat):Int)=0 from rfl,show((1:Nat):Int)=1 from rfl]at e;rw[e];rw[ml]at hb;have hbi:=aaf h h0 (by omega) hb;have hblt:=hb.lt;rw[Du,hp,ml,aH (by omega),aH (by omega),sb,aH (by omega)];rw[wn (n:=((l-t:Nat):Int)-1) (k:=l-(t+1)) (by omega) (by omega)];have hnd:(d.take t).Nodup:=h.nodup.sublist (List.take_sublist _ _);have hnn:∀i∈d.take t,0≤i:=fun i hi=>by obtain⟨j,_,rfl⟩:=h.mem.1 (List.mem_of_mem_take hi);omega
   have hv:=FZ (d.take t) p b hnd hnn (by omega);have hpv:=hpb (p.getD b default) (by rw[cd (by omega)];exact List.getElem_mem _);have hw:aa ((inc p (d.take t)).getD b default+1)=(inc p (d.take t)).getD b default+1:=by
    refine cj ?_ ?_<;>(rw[hv];split<;>omega)
   have es:d.take (t+1)=d.take t++[(b:Int)]:=by
    rw[List.take_succ_eq_append_getElem (by omega),← cd (by omega),hbi]
   have e1:List.set (inc p (d.take t)) b ((inc p (d.take t)).getD b default+1)=inc p (d.take (t+1)):=by
    rw[es,Po];rfl
   have e2:List.set (mark rs (d.take t)) b (-1)=mark rs (d.take (t+1)):=by
    rw[es,U5];rfl
   rw[hw,e1,e2];exact ih (t+1) (by omega) (by omega)
  ·have:t=l:=by omega
   subst this;rw[bo (by omega)]
theorem Q7{K:Kn}{n:Nat}(T:Int)(L:List Int)(hL:L.length≤10000)(hn:10001<n):xP K n T L=some (share (cO T mx) (aO L)):=by
 unfold xP;have hT:0≤cO T mx∧cO T mx≤2147483647:=pH (m:=mx) (by decide);simp only[mg,sb];have h1:=VF (K:=K) (n:=n) L (cO T mx) hL n 0 (by omega) (by omega);rw[show sm ((aO L).take 0)=0 from rfl,show((0:Nat):Int)=0 from rfl]at h1;rw[show min (max T 0) 2147483647=cO T mx from rfl,h1];have sh:=z9 hL;by_cases hz:sm (aO L)=0
 ·rw[if_pos (by simp[hz])];unfold share;rw[if_pos hz,dt]
 ·rw[if_neg (by simp[hz])];have hS:0<sm (aO L):=by omega
  have h2:=WV (K:=K) (n:=n) L (cO T mx) hT hL hS n 0 (by omega) (by omega);simp only[List.take_zero,List.map_nil,List.nil_append,Nat.sub_zero,sm,Int.sub_zero]at h2;rw[show((0:Nat):Int)=0 from rfl]at h2;rw[h2];obtain⟨d,o1,o2⟩:=sorted ((aO L).map (r (cO T mx) (sm (aO L)))) (lvl:=20010) (n:=10002) (by omega) (by simp[dt,hL]) (Nat.le_refl _);have hd:d.length=L.length:=by rw[o1.len,List.length_map,dt]
  have hlb:=xx (cO T mx) (aO L) hS;rw[dt]at hlb;rw[FL (cO T mx) (aO L) d (fun w hw=>(gg L w hw).1) (by omega) o1];have:=UF (K:=K) (n:=n) (p:=(aO L).map (q (cO T mx) (sm (aO L)))) o1 (fun k hk=>by
   rw[List.length_map]at hk;rw[wJ _ _ _ hk];exact(yW hS).1) (by simp[dt,hL]) (by simp) hn (left (cO T mx) (aO L)).toNat (by omega) (fun x hx=>by
   obtain⟨w,hw,rfl⟩:=List.mem_map.1 hx;have:=qL hS hT.1 (gg L w hw).1 (lT _ (fun w hw=>(gg L w hw).1) w hw);omega) n 0 (by omega) (by omega)
  rw[show(((left (cO T mx) (aO L)).toNat-0:Nat):Int)=left (cO T mx) (aO L) by omega]at this;exact this
end Sh
end Go.Proofs.YtolhpahjgddjkaaGreat
namespace Go.Proofs.YtolhpahjgddjkaaGreat
set_option linter.all false
open Go.RowKit
namespace Sh
theorem Uc{T:Int}{W:List Int}(hS:sm W≠0){k:Nat}(hk:k<W.length):(share T W).getD k default=part T W k:=by
 rw[cd (by rw[fN];exact hk)];unfold share;simp[hS]
theorem yA{T:Int}{W:List Int}(hS:sm W=0):share T W=List.replicate W.length 0:=by unfold share;rw[if_pos hS]
theorem ss:∀n:Nat,sm (List.replicate n 0)=0
 | 0=>rfl
 | n+1=>by simp[List.replicate_succ,sm,ss n]
theorem m8{T:Int}{W:List Int}(hW:∀w∈W,0≤w)(hS:sm W≠0)(hl:W.length≤10000):sm (share T W)=T:=by
 have hS0:0<sm W:=by have:=eg W hW;omega
 obtain⟨d,o1,o2⟩:=sorted (W.map (r T (sm W))) (lvl:=20010) (n:=10002) (by omega) (by simpa using hl) (Nat.le_refl _);have hlb:=xx T W hS0;have hd:d.length=W.length:=by rw[o1.len,List.length_map]
 rw[FL T W d hW hS o1,JU _ _ (fun i hi=>by
  obtain⟨j,hj,rfl⟩:=o1.mem.1 (List.mem_of_mem_take hi);simp at hj⊢;omega)]
 have:(d.take (left T W).toNat).length=(left T W).toNat:=by simp;omega
 rw[this];unfold left at *;omega
theorem ac2{T:Int}{W:List Int}(hW:∀w∈W,0≤w)(hT:0≤T)(hS:0<sm W){k:Nat}(hk:k<W.length):0≤part T W k∧part T W k≤T+1:=by
 have hm:W.getD k default∈W:=by rw[cd hk];exact List.getElem_mem _
 have:=qL hS hT (hW _ hm) (lT W hW _ hm);unfold part;split<;>omega
end Sh
end Go.Proofs.YtolhpahjgddjkaaGreat
namespace Go.Proofs.YtolhpahjgddjkaaGreat.Tb
set_option linter.all false
open Go.RowKit
open Sh (share aO cO mx eg gu dt nz gg fN ss)
open QSort (wn aH bp bo sb)
set_option maxRecDepth 20000
def sz(x:Int):Int:=min (max x 0) 1048576
theorem fO(x:Int):0≤sz x∧sz x≤1048576:=by unfold sz;omega
variable{K:Kn}{n:Nat}
theorem nF(x:Int):jM K n x=some (sz x):=rfl
theorem Bs(x:Int):nJ K n x=some (sz x):=rfl
def pos(L:List Int):Bool:=L.any fun w=>decide (w>0)
theorem T5{lvl n:Nat}(L:List Int)(hl:L.length≤10000):∀(m i:Nat),i≤L.length→L.length<m+i →
  ∃x,qr (KN (lvl+1)) n L (Fv.fn 73) m (i:Int)=some x∧decide (x≥0)=pos (L.drop i):=by
 intro m
 induction m with
 | zero=>intro i h1 h2;omega
 | succ m ih =>
  intro i h1 h2;simp only[qr,um];by_cases hi:i<L.length
  ·rw[bp (by omega),aH (by omega),ci];have e:(KN (lvl+1)).vo (Fv.fn 73) (L.getD i default)=some (decide (L.getD i default>0)):=rfl;rw[e,sb,List.drop_eq_getElem_cons hi];have e2:pos (L[i]::L.drop (i+1))=(decide (L.getD i default>0)||pos (L.drop (i+1))):=by rw[cd hi];rfl
   by_cases hp:L.getD i default>0
   ·rw[bp hp,e2];exact⟨_,rfl,by simp only[hp,decide_true,Bool.true_or,decide_eq_true_eq];omega⟩
   ·rw[bo hp,e2,wn (n:=(i:Int)+1) (k:=i+1) (by omega) (by omega)];obtain⟨x,e3,e4⟩:=ih (i+1) (by omega) (by omega);exact⟨x,e3,by rw[e4];simp only[hp,decide_false,Bool.false_or]⟩
  ·rw[bo (by omega),List.drop_eq_nil_of_le (by omega)];exact⟨_,rfl,rfl⟩
theorem Yt{lvl n:Nat}(L:List Int)(hl:L.length≤10000)(hn:10000<n)(hlv:0<lvl):tF (KN lvl) n L (Fv.fn 73)=some (pos L):=by
 obtain⟨k,rfl⟩:∃k,lvl=k+1:=⟨lvl-1,by omega⟩;unfold tF yS;obtain⟨x,e,e2⟩:=T5 (lvl:=k) (n:=n) L hl n 0 (by omega) (by omega);rw[show((0:Nat):Int)=0 from rfl]at e;rw[e,sb,e2];rfl
theorem FP{x:Nat}(h:x≤10000):hI .u64 (x:Int) 4294967295=(x:Int):=by
 unfold hI;have e1:BitVec.ofInt (IntKind.bits .u64) (x:Int)=BitVec.ofNat 64 x:=BitVec.ofInt_natCast 64 x;have e2:BitVec.ofInt (IntKind.bits .u64) (4294967295:Int)=BitVec.ofNat 64 4294967295:=rfl;have e3:(BitVec.ofNat 64 x &&& BitVec.ofNat 64 4294967295).toNat=x:=by
  rw[BitVec.toNat_and,BitVec.toNat_ofNat,BitVec.toNat_ofNat,Nat.mod_eq_of_lt (by omega),Nat.mod_eq_of_lt (by omega),show(4294967295:Nat)=2 ^ 32-1 from rfl,Nat.and_two_pow_sub_one_eq_mod];omega
 have e4:(BitVec.ofInt (IntKind.bits .u64) (x:Int) &&& BitVec.ofInt (IntKind.bits .u64) (4294967295:Int)).toNat=x:=by rw[e1,e2];exact e3
 rw[e4,IntKind.wrap_u64];omega
theorem aaw{c:Nat}(h:c≤10000):tz K n 1 (c:Int)=some ((0:Int),(c:Int)):=by
 unfold tz Br;have a1:hI .u64 (1:Int) 4294967295=1:=FP (x:=1) (by omega);have a0:hI .u64 (0:Int) 4294967295=0:=FP (x:=0) (by omega);have w0:IntKind.wrap .u64 0=0:=by rw[IntKind.wrap_u64];rfl
 have wc:IntKind.wrap .u64 (c:Int)=c:=by rw[IntKind.wrap_u64];omega
 have d1:(1:Int) / 4294967296=0:=by decide
 have dc:(c:Int) / 4294967296=0:=by omega
 simp only[Option.bind_some,FP h,a1,d1,dc,Int.zero_mul,Int.mul_zero,Int.one_mul,w0,wc,Int.add_zero,a0,Int.zero_add,Int.zero_ediv]
theorem Um(c:Nat)(hc:c≤10000):∀(m a:Nat),0<a→a≤c→c<m+a →
  sJ K n m (a:Int) (List.replicate a 1++List.replicate (c-a) 0)=some (List.replicate c 1):=by
 intro m
 induction m with
 | zero=>intro i h1 h2;omega
 | succ m ih =>
  intro a h0 h1 h2;have hl:(List.replicate a (1:Int)++List.replicate (c-a) 0).length=c:=by simp;omega
  simp only[sJ,uC,hl];by_cases hi:a<c
  ·rw[bp (by omega),Sh.mf (by omega) (by omega) (by omega),bS,Sh.mf (by omega) (by omega) (by omega),bS];have e1:kL ((a:Int)).toNat (((c:Int)).toNat-((a:Int)).toNat) c ((0:Int).toNat) (((a:Int)).toNat-(0:Int).toNat) c=true:=by
    simp only[kL,Bool.and_eq_true,decide_eq_true_eq];omega
   rw[e1,bS];have e2:fq (List.replicate a (1:Int)++List.replicate (c-a) 0) ((a:Int)).toNat (((c:Int)).toNat-((a:Int)).toNat) (List.replicate a (1:Int)++List.replicate (c-a) 0) ((0:Int).toNat) (((a:Int)).toNat-(0:Int).toNat)=List.replicate (a+min a (c-a)) (1:Int)++List.replicate (c-(a+min a (c-a))) 0:=by
    simp only[ci,Int.toNat_zero,Nat.sub_zero];unfold fq;rw[List.drop_zero,List.take_append_of_le_length (by simp),List.take_append_of_le_length (by simp;omega),List.take_replicate,List.take_replicate,Nat.min_self,show List.drop (a+min a (c-a)) (List.replicate a (1:Int)++List.replicate (c-a) 0)=List.replicate (c-(a+min a (c-a))) 0 by
     rw[List.drop_append,List.drop_eq_nil_of_le (by simp),List.nil_append,List.drop_replicate];congr 1;simp;omega,← List.append_assoc,List.replicate_append_replicate]
    congr 2;omega
   rw[e2];have e3:aa ((a:Int)+((min (((a:Int)).toNat-(0:Int).toNat) (((c:Int)).toNat-((a:Int)).toNat):Nat):Int))=((a+min a (c-a):Nat):Int):=by
    simp only[ci,Int.toNat_zero,Nat.sub_zero];exact wn (by omega) (by omega)
   rw[e3];exact ih (a+min a (c-a)) (by omega) (by omega) (by omega)
  ·obtain rfl:a=c:=by omega
   rw[bo (by omega),Nat.sub_self,List.replicate_zero,List.append_nil]
theorem XQ{n:Nat}(c:Nat)(hc:c≤10000)(hn:10000<n):xJ K n [1] (c:Int)=some (List.replicate c 1):=by
 unfold xJ;have w1:IntKind.wrap .u64 (((([1]:List Int).length:Nat)):Int)=1:=by rw[IntKind.wrap_u64];rfl
 have wc:IntKind.wrap .u64 (c:Int)=c:=by rw[IntKind.wrap_u64];omega
 rw[bo (by omega),w1,wc,aaw hc,sb,bo (by simp)];unfold yc;have hw:aa (c:Int)=c:=cj (by omega) (by omega);simp only[hw,ci,Option.bind_some,List.length_replicate,show decide ((c:Int)>9223372036854775807)=false by simp;omega,Bool.false_eq_true,if_false];rw[Sh.lV (by omega) (by omega),bS,show kL 0 c c 0 ([1]:List Int).length ([1]:List Int).length=true by simp[kL],bS];by_cases h0:c=0
 ·subst h0;obtain⟨k,rfl⟩:∃k,n=k+1:=⟨n-1,by omega⟩;rfl
 ·have e:fq (List.replicate c (0:Int)) 0 c [1] 0 ([1]:List Int).length=List.replicate 1 (1:Int)++List.replicate (c-1) 0:=by
   obtain⟨k,rfl⟩:∃k,c=k+1:=⟨c-1,by omega⟩;simp[fq,List.replicate_succ]
  rw[e,show((min ([1]:List Int).length c:Nat):Int)=((1:Nat):Int) by simp;omega];exact Um c hc n 1 (by omega) (by omega) (by omega)
def de(W:List Int):List Int:=if pos W=true then W else List.replicate W.length 1
theorem iQ(W:List Int):(de W).length=W.length:=by unfold de;split<;>simp
theorem Iv{lvl n:Nat}(T:Int)(W:List Int)(hl:W.length≤10000)(hn:10001<n)(hlv:20010≤lvl):mZ (KN lvl) n T W=some (share (cO T mx) (aO (de W))):=by
 unfold mZ xW;rw[Yt W hl (by omega) (by omega),sb];unfold de;cases hp:pos W
 ·simp only[Bool.not_false,if_true,Bool.false_eq_true,if_false];rw[XQ W.length hl (by omega),sb,Sh.DT T (List.replicate W.length 1) (by simpa using hl) (by omega) (by omega)];rfl
 ·simp only[Bool.not_true,Bool.false_eq_true,if_false,if_true];rw[Sh.DT T W hl (by omega) (by omega)];rfl
end Go.Proofs.YtolhpahjgddjkaaGreat.Tb
namespace Go.Proofs.YtolhpahjgddjkaaGreat.Tb
set_option linter.all false
open Go.RowKit
open Sh (share aO cO mx eg gu dt nz gg fN ss)
open QSort (wn aH bp bo sb)
set_option maxRecDepth 20000
variable{K:Kn}{n:Nat}
def cA(c:aq):Int:=sz c.Least
def cB(c:aq):Int:=max (sz c.Most) (sz c.Least)
def cR(c:aq):Int:=cB c-cA c
theorem pJ(c:aq):0≤cA c∧cA c≤cB c∧cB c≤1048576:=by
 have h1:=fO c.Least;have h2:=fO c.Most;unfold cA cB;omega
def Z(L:List aq):List Int:=List.replicate L.length 0
def cK(A P:List Int):List Int:=bR A.length fun k=>A.getD k default+P.getD k default
theorem fG(A P:List Int):(cK A P).length=A.length:=eI _ _
theorem jm{A P:List Int}{k:Nat}(h:k<A.length):(cK A P).getD k default=A.getD k default+P.getD k default:=hH h
theorem eU{f:aq→Int}{L:List aq}{k:Nat}(h:k<L.length):(L.map f).getD k default=f (L.getD k default):=by simp[List.getD_eq_getElem?_getD,h]
theorem FF{f:aq→Int}{L:List aq}{i:Nat}(h:i<L.length):sm ((L.map f).take (i+1))=sm ((L.map f).take i)+f (L.getD i default):=by
 rw[Sh.lL (by simpa using h),eU h]
theorem GF{f:aq→Int}(hf:∀c,0≤f c∧f c≤1048576)(L:List aq)(hl:L.length≤10000)(i:Nat):0≤sm ((L.map f).take i)∧sm ((L.map f).take i)≤10485760000:=by
 refine⟨eg _ (fun x hx=>?_),?_⟩
 ·obtain⟨c,_,rfl⟩:=List.mem_map.1 (List.mem_of_mem_take hx);exact(hf c).1
 ·have h1:=gu (c:=1048576) ((L.map f).take i) (fun x hx=>by obtain⟨c,_,rfl⟩:=List.mem_map.1 (List.mem_of_mem_take hx);exact(hf c).2);have h2:(((L.map f).take i).length:Int)≤10000:=by simp;omega
  have:=Int.mul_le_mul_of_nonneg_right h2 (show(0:Int)≤1048576 by omega);omega
theorem fA(c:aq):0≤cA c∧cA c≤1048576:=by have:=pJ c;omega
theorem fB(c:aq):0≤cB c∧cB c≤1048576:=by have:=pJ c;omega
theorem fR(c:aq):0≤cR c∧cR c≤1048576:=by have:=pJ c;unfold cR;omega
theorem sm_bd'{f:aq→Int}(hf:∀c,0≤f c∧f c≤1048576)(L:List aq)(hl:L.length≤10000):0≤sm (L.map f)∧sm (L.map f)≤10485760000:=by
 have:=GF hf L hl (L.map f).length;rwa[List.take_length]at this
def fJ(L:List aq)(w:Int):List Int :=
 if w≤sm (L.map cA) then L.map cA
 else if w<sm (L.map cB) then cK (L.map cA) (share (sz (w-sm (L.map cA))) (L.map cR))
 else cK (L.map cB) (share (sz (w-sm (L.map cB))) (de (L.map cB)))
theorem A9{W:List Int}(h:∀w∈W,0≤w∧w≤2147483647):aO W=W:=by
 unfold aO
 conv=>rhs;rw[←List.map_id W]
 refine List.map_congr_left (fun w hw=>?_);have:=h w hw;unfold cO mx;simp;omega
theorem O6(x:Int):cO (sz x) mx=sz x:=by have:=fO x;unfold cO mx;omega
theorem kx{W:List Int}(h:∀w∈W,0≤w∧w≤2147483647):∀w∈de W,0≤w∧w≤2147483647:=by
 unfold de;split
 ·exact h
 ·intro w hw;have:=(List.mem_replicate.1 hw).2;omega
theorem mY{f:aq→Int}(hf:∀c,0≤f c∧f c≤1048576)(L:List aq):∀w∈L.map f,0≤w∧w≤2147483647:=by
 intro w hw;obtain⟨c,_,rfl⟩:=List.mem_map.1 hw;have:=hf c;omega
theorem HQ(f:aq→Int){L:List aq}:(L.map f).take L.length=L.map f:=List.take_of_length_le (by simp)
theorem D2(f:aq→Int){L:List aq}:mix L.length (L.map f) (Z L)=L.map f:=by
 have h:(L.map f).length=(Z L).length:=by simp[Z]
 have:=kJ h;rwa[show(Z L).length=L.length by simp[Z]]at this
theorem RB(A P:List Int)(hAP:A.length=P.length)(hl:A.length≤10000)(hb:∀k,k<A.length → -4611686018427387904≤A.getD k default+P.getD k default∧A.getD k default+P.getD k default≤4611686018427387904):∀(m i:Nat),i≤A.length→A.length<m+i →
  s7 K n P m (i:Int) (mix i (cK A P) A)=some (cK A P):=by
 intro m
 induction m with
 | zero=>intro i h1 h2;omega
 | succ m ih =>
  intro i h1 h2;simp only[s7,u9];have hm:=gm (i:=i) (fG A P);by_cases hi:i<A.length
  ·rw[bp (by omega),aH (by omega),hm,aH (by omega),aH (by omega)];simp only[ci];have:=hb i hi;rw[n8 (fG A P) hi,show aa (A.getD i default+P.getD i default)=(cK A P).getD i default by rw[jm hi];exact cj (by omega) (by omega),i7 (fG A P) hi,wn (n:=(i:Int)+1) (k:=i+1) (by omega) (by omega)];exact ih (i+1) (by omega) (by omega)
  ·obtain rfl:i=A.length:=by omega
   rw[bo (by omega),kJ (fG A P)]
theorem G2(A P:List Int)(hAP:A.length=P.length)(hl:A.length≤10000)(hn:10001<n)(hb:∀k,k<A.length → -4611686018427387904≤A.getD k default+P.getD k default∧A.getD k default+P.getD k default≤4611686018427387904):tY K n A P=some (cK A P):=by
 have:=RB (K:=K) (n:=n) A P hAP hl hb n 0 (by omega) (by omega);rwa[kP]at this
theorem l5{T:Int}{W:List Int}(hT:0≤T∧T≤1048576)(hW:∀w∈W,0≤w)(k:Nat)(hk:k<W.length):0≤(share T W).getD k default∧(share T W).getD k default≤1048577:=by
 by_cases hS:sm W=0
 ·rw[Sh.yA hS];simp[List.getD_eq_getElem?_getD,hk]
 ·rw[Sh.Uc hS hk];have:=Sh.ac2 hW hT.1 (by have:=eg W hW;omega) hk;omega
theorem Ql{lvl n:Nat}(L:List aq)(w:Int)(hw:w≤9223372036854775807)(hl:L.length≤10000)(hn:10001<n)(hlv:20010≤lvl):∀(m i:Nat),i≤L.length→L.length<m+i →
  qU (KN lvl) n L w m (sm ((L.map cA).take i)) (sm ((L.map cB).take i)) (i:Int) (mix i (L.map cA) (Z L)) (mix i (L.map cB) (Z L)) (mix i (L.map cR) (Z L))=some (fJ L w):=by
 have zl:(Z L).length=L.length:=by simp[Z]
 have lA:(L.map cA).length=(Z L).length:=by simp[Z]
 have lB:(L.map cB).length=(Z L).length:=by simp[Z]
 have lR:(L.map cR).length=(Z L).length:=by simp[Z]
 intro m
 induction m with
 | zero=>intro i h1 h2;omega
 | succ m ih =>
  intro i h1 h2;simp only[qU,vw];have mA:=gm (i:=i) lA;have mB:=gm (i:=i) lB;have mR:=gm (i:=i) lR;have mA':=gm (i:=i+1) lA;have mB':=gm (i:=i+1) lB;have mR':=gm (i:=i+1) lR;rw[zl]at mA mB mR mA' mB' mR';by_cases hi:i<L.length
  ·have hi':i<(Z L).length:=by omega
   have eA:List.set (mix i (L.map cA) (Z L)) i (sz (L.getD i default).Least)=mix (i+1) (L.map cA) (Z L):=by
    rw[←i7 lA hi',eU hi];rfl
   have gA:(mix (i+1) (L.map cA) (Z L)).getD i default=cA (L.getD i default):=by rw[M1 lA hi',eU hi]
   have eB:List.set (mix i (L.map cB) (Z L)) i (max (sz (L.getD i default).Most) (cA (L.getD i default)))=mix (i+1) (L.map cB) (Z L):=by
    rw[←i7 lB hi',eU hi];rfl
   have gB:(mix (i+1) (L.map cB) (Z L)).getD i default=cB (L.getD i default):=by rw[M1 lB hi',eU hi]
   have bc:=pJ (L.getD i default);have eR:List.set (mix i (L.map cR) (Z L)) i (aa (cB (L.getD i default)-cA (L.getD i default)))=mix (i+1) (L.map cR) (Z L):=by
    rw[←i7 lR hi',eU hi,cj (by omega) (by omega)];rfl
   have bA:=GF fA L hl i;have bB:=GF fB L hl i;rw[bp (by omega),aH (by omega)];simp only[ci,nF,sb];rw[mA,aH (by omega),eA,gA,mA',aH (by omega),mB,aH (by omega),eB,gB,mB',aH (by omega),aH (by omega),mR,aH (by omega),eR,aH (by omega),aH (by omega)];rw[cj (n:=sm ((L.map cA).take i)+cA (L.getD i default)) (by omega) (by omega),cj (n:=sm ((L.map cB).take i)+cB (L.getD i default)) (by omega) (by omega),← FF hi,← FF hi,wn (n:=(i:Int)+1) (k:=i+1) (by omega) (by omega)];exact ih (i+1) (by omega) (by omega)
  ·obtain rfl:i=L.length:=by omega
   rw[bo (by omega)];rw[HQ cA,HQ cB,D2 cA,D2 cB,D2 cR];have bA:=sm_bd' fA L hl;have bB:=sm_bd' fB L hl;unfold fJ;by_cases h1:w≤sm (L.map cA)
   ·rw[bp h1,if_pos h1]
   ·rw[bo h1,if_neg h1];by_cases h2:w<sm (L.map cB)
    ·rw[bp h2,if_pos h2,cj (by omega) (by omega),nF,sb,Sh.DT _ _ (by simpa using hl) (by omega) (by omega),sb,O6,A9 (mY fR L)];refine G2 _ _ (by rw[fN];simp) (by simpa using hl) hn (fun k hk=>?_);have hk':k<L.length:=by simpa using hk
     have b1:=l5 (fO (w-sm (L.map cA))) (fun x hx=>(mY fR L x hx).1) k (by simpa using hk');have b2:=fA (L.getD k default);rw[eU hk'];omega
    ·rw[bo h2,if_neg h2,cj (by omega) (by omega),nF,sb,Iv _ _ (by simpa using hl) (by omega) (by omega),sb,O6,A9 (kx (mY fB L))];refine G2 _ _ (by rw[fN,iQ]) (by simpa using hl) hn (fun k hk=>?_);have hk':k<L.length:=by simpa using hk
     have b1:=l5 (fO (w-sm (L.map cB))) (fun x hx=>(kx (mY fB L) x hx).1) k (by rw[iQ];simpa using hk');have b2:=fB (L.getD k default);rw[eU hk'];omega
theorem B0{lvl n:Nat}(L:List aq)(w:Int)(hw:w≤9223372036854775807)(hl:L.length≤10000)(hn:10001<n)(hlv:20010≤lvl):ri (KN lvl) n L w=some (fJ L w):=by
 unfold ri;simp only[Sh.lV (n:=L.length) (b:=8) (by omega) (by omega),bS,sb,ci];have:=Ql (lvl:=lvl) (n:=n) L w hw hl hn hlv n 0 (by omega) (by omega);simp only[kP,List.take_zero]at this;exact this
def jN(L:List Int):Bool:=L.all fun b=>b == 0
theorem XK{L:List Int}(h:∀w∈L,0≤w):jN L=!pos L:=by
 unfold jN pos
 induction L with
 | nil=>rfl
 | cons x r ih =>
  have:=h x (by simp);simp only[List.all_cons,List.any_cons,Bool.not_or,ih (fun y hy=>h y (by simp[hy]))];congr 1;by_cases hx:x=0
  ·subst hx;rfl
  ·rw[beq_false_of_ne hx,show decide (x>0)=true by simp;omega];rfl
theorem pC(L:List aq)(w:Int):(fJ L w).length=L.length:=by
 unfold fJ;split
 ·simp
 ·split<;>simp[fG]
end Go.Proofs.YtolhpahjgddjkaaGreat.Tb
namespace Go.Proofs.YtolhpahjgddjkaaGreat.Tb
set_option linter.all false
open Go.RowKit
open Sh (idx gS jh le kh)
open QSort (wn aH bp bo sb R)
set_option maxRecDepth 20000
variable{K:Kn}{n:Nat}
def fW(key:Int→Int)(V:List Int):Nat→List Int
 | 0=>[]
 | N+1=>fW key V N++V.filter fun i=>key i == ((N+1:Nat):Int)
theorem l6{key:Int→Int}{V:List Int}{x:Int}:∀{N:Nat},x∈fW key V N→x∈V∧key x≤N
 | 0,h=>by simp[fW]at h
 | N+1,h=>by
  simp only[fW,List.mem_append,List.mem_filter,beq_iff_eq]at h;rcases h with h|h
  ·have:=l6 h;exact⟨this.1,by omega⟩
  ·exact⟨h.1,by omega⟩
theorem Dn{key:Int→Int}{V:List Int}(hk:∀v∈V,1≤key v):∀N:Nat,(fW key V N).Perm (V.filter fun i=>decide (key i≤N))
 | 0=>by
  have:V.filter (fun i=>decide (key i≤((0:Nat):Int)))=[]:=by
   rw[List.filter_eq_nil_iff];intro a ha;have:=hk a ha;simp;omega
  rw[this];exact List.Perm.refl _
 | N+1=>by
  have h1:=(Dn hk N).append_right (V.filter fun i=>key i == ((N+1:Nat):Int));refine h1.trans ?_;have h2:=List.filter_append_perm (fun i=>decide (key i≤(N:Int))) (V.filter fun i=>decide (key i≤((N+1:Nat):Int)));rw[List.filter_filter,List.filter_filter]at h2;have e1:V.filter (fun a=>decide (key a≤(N:Int))&&decide (key a≤((N+1:Nat):Int)))=V.filter fun i=>decide (key i≤(N:Int)) :=
   List.filter_congr fun x _=>by
    by_cases h:key x≤(N:Int)
    ·have:key x≤((N+1:Nat):Int):=by omega
     simp only[h,this,decide_true,Bool.and_true]
    ·simp only[h,decide_false,Bool.false_and]
  have e2:V.filter (fun a=>(!decide (key a≤(N:Int)))&&decide (key a≤((N+1:Nat):Int)))=V.filter fun i=>key i == ((N+1:Nat):Int) :=
   List.filter_congr fun x _=>by
    by_cases h:key x=((N+1:Nat):Int)
    ·have h3:¬ key x≤(N:Int):=by omega
     have h4:key x≤((N+1:Nat):Int):=by omega
     rw[beq_iff_eq.2 h];simp only[h3,h4,decide_false,decide_true,Bool.not_false,Bool.and_true]
    ·rw[beq_false_of_ne h];by_cases h3:key x≤(N:Int)
     ·simp only[h3,decide_true,Bool.not_true,Bool.false_and]
     ·have h4:¬ key x≤((N+1:Nat):Int):=by omega
      simp only[h4,decide_false,Bool.and_false]
  rw[e1,e2]at h2;exact h2
theorem Ow{key:Int→Int}{V:List Int}(hV:V.Pairwise (· < ·)):∀N:Nat,(fW key V N).Pairwise (R key)
 | 0=>List.Pairwise.nil
 | N+1=>by
  refine List.pairwise_append.2 ⟨Ow hV N,?_,fun a ha b hb=>?_⟩
  ·refine List.Pairwise.imp_of_mem ?_ (hV.filter _);intro a b ha hb hab;have h1:=(List.mem_filter.1 ha).2;have h2:=(List.mem_filter.1 hb).2;simp only[beq_iff_eq]at h1 h2;right;exact⟨by omega,hab⟩
  ·have h1:=(l6 ha).2;have h2:=(List.mem_filter.1 hb).2;simp only[beq_iff_eq]at h2;left;omega
theorem ab3{key:Int→Int}{V d:List Int}{N:Nat}(hp:d.Perm V)(hs:d.Pairwise (R key))(hV:V.Pairwise (· < ·))(hk:∀v∈V,1≤key v∧key v≤N):d=fW key V N:=by
 have h:=Dn (fun v hv=>(hk v hv).1) N;have e:V.filter (fun i=>decide (key i≤(N:Int)))=V:=List.filter_eq_self.2 fun a ha=>by have:=(hk a ha).2;simpa using this
 rw[e]at h;exact List.Perm.eq_of_pairwise (fun a b _ _ h1 h2=>(h1.asymm h2).elim) hs (Ow hV N) (hp.trans h.symm)
def eb(p:ah):Bool:=decide (p.Row≥0)&&(decide (p.Col≥0)&&(decide (p.Rows≥1)&&decide (p.Cols≥1)))
def aG(L:List ah)(i:Int):ah:=L.getD i.toNat default
def val(L:List ah)(q:ah→Bool)(c:Nat):List Int:=(idx (min L.length c)).filter fun i=>eb (aG L i)&&q (aG L i)
theorem zJ{L:List ah}{q:ah→Bool}{c:Nat}{x:Int}(h:x∈val L q c):0≤x∧x.toNat<L.length∧x.toNat<c∧eb (aG L x)=true∧q (aG L x)=true:=by
 obtain⟨h1,h2⟩:=List.mem_filter.1 h;obtain⟨k,hk,rfl⟩:=jh.1 h1;simp only[Bool.and_eq_true]at h2;exact⟨by omega,by omega,by omega,h2.1,h2.2⟩
theorem LM(L:List ah)(q:ah→Bool)(c:Nat):(val L q c).Pairwise (· < ·):=(le _).filter _
theorem pA(L:List ah)(q:ah→Bool)(c:Nat):(val L q c).length≤L.length:=by
 have:=List.length_filter_le (fun i=>eb (aG L i)&&q (aG L i)) (idx (min L.length c));rw[gS]at this;unfold val;omega
theorem Qu{lvl n:Nat}{f s:Fv}{q:ah→Bool}{sp:ah→Int}(hq:∀p,K.tm f p=some (q p))(L:List ah)(c:Nat)(hl:L.length≤10000):∀(m i:Nat),i≤L.length→L.length<m+i →
  pt K n L (c:Int) f s m (i:Int) (val (L.take i) q c)=(kC K n (val L q c) (Fv.c86 s L)).bind fun v=>some v:=by
 have hv:∀i:Nat,i<L.length→val (L.take (i+1)) q c=val (L.take i) q c++(if i<c∧eb (L.getD i default)=true∧q (L.getD i default)=true then [(i:Int)] else []):=by
  intro i hi;have pe:∀(a:Nat) (k:Nat),k<a→a≤L.length→aG (L.take a) (k:Int)=L.getD k default:=by
   intro a k hk ha;unfold aG;rw[ci,List.getD_eq_getElem?_getD,List.getElem?_take_of_lt hk,List.getD_eq_getElem?_getD]
  have fe:∀a b:Nat,b≤a→a≤L.length→(idx b).filter (fun i=>eb (aG (L.take a) i)&&q (aG (L.take a) i))=(idx b).filter (fun i=>eb (aG L i)&&q (aG L i)):=by
   intro a b hb ha;refine List.filter_congr fun x hx=>?_;obtain⟨k,hk,rfl⟩:=jh.1 hx;rw[pe a k (by omega) ha];unfold aG;rw[ci]
  unfold val;rw[List.length_take,List.length_take,fe (i+1) _ (by omega) (by omega),fe i _ (by omega) (by omega)];by_cases hc:i<c
  ·rw[show min (min (i+1) L.length) c=i+1 by omega,show min (min i L.length) c=i by omega,kh,List.filter_append];congr 1;have:aG L (i:Int)=L.getD i default:=by unfold aG;rw[ci]
   generalize L.getD i default=p at this;cases h1:eb p<;>cases h2:q p<;>simp[List.filter,this,h1,h2,hc]
  ·rw[show min (min (i+1) L.length) c=c by omega,show min (min i L.length) c=c by omega,if_neg (by omega),List.append_nil]
 intro m
 induction m with
 | zero=>intro i h1 h2;omega
 | succ m ih =>
  intro i h1 h2;simp only[pt,xi];by_cases hi:i<L.length
  ·rw[bp (by omega),aH (by omega)];simp only[ci];have hs:=hv i hi;have hnext:=ih (i+1) (by omega) (by omega);have hF:¬ (i<c∧eb (L.getD i default)=true∧q (L.getD i default)=true)→jI K n L (c:Int) f s (i:Int) (val (L.take i) q c) (pt K n L (c:Int) f s m) false=(kC K n (val L q c) (Fv.c86 s L)).bind fun v=>some v:=by
    intro h;rw[if_neg h,List.append_nil]at hs;rw[hs]at hnext;simp only[jI,qH,Bool.false_eq_true,if_false];rw[wn (n:=(i:Int)+1) (k:=i+1) (by omega) (by omega)];exact hnext
   have ho:∀p:ah,eb p=true↔p.Row≥0∧p.Col≥0∧p.Rows≥1∧p.Cols≥1:=fun p=>by simp[eb]
   by_cases k1:(i:Int)<(c:Int)
   ·rw[bp k1];by_cases k2:(L.getD i default).Row≥0
    ·rw[bp k2];by_cases k3:(L.getD i default).Col≥0
     ·rw[bp k3];by_cases k4:(L.getD i default).Rows≥1
      ·rw[bp k4];by_cases k5:(L.getD i default).Cols≥1
       ·rw[bp k5,hq,sb];cases h6:q (L.getD i default)
        ·exact hF (fun h=>by rw[h6]at h;exact absurd h.2.2 (by decide))
        ·rw[if_pos ⟨by omega,(ho _).2 ⟨k2,k3,k4,k5⟩,h6⟩]at hs;simp only[jI,qH,if_true];have hb:=pA (L.take i) q c;rw[List.length_take]at hb;rw[dE (by simp;omega) (by omega),bS,← hs,wn (n:=(i:Int)+1) (k:=i+1) (by omega) (by omega)];exact hnext
       ·rw[bo k5];exact hF (fun h=>k5 ((ho _).1 h.2.1).2.2.2)
      ·rw[bo k4];exact hF (fun h=>k4 ((ho _).1 h.2.1).2.2.1)
     ·rw[bo k3];exact hF (fun h=>k3 ((ho _).1 h.2.1).2.1)
    ·rw[bo k2];exact hF (fun h=>k2 ((ho _).1 h.2.1).1)
   ·rw[bo k1];exact hF (fun h=>k1 (by omega))
  ·obtain rfl:i=L.length:=by omega
   rw[bo (by omega),List.take_length]
theorem ac1{s:Fv}{sp:ah→Int}(L:List ah)(m:Nat)(hs:∀p,(KN m).kE s p=some (sp p)):QSort.jn (KN (m+1)) (Fv.c86 s L) (fun a=>0≤a∧a<L.length) (fun i=>sp (aG L i)):=by
 refine⟨fun a b ha hb=>?_⟩;show ∃c,xz (KN m) m a b s L=some c∧_;unfold xz;rw[aH ha,hs,sb,aH hb,hs,sb];simp only[pB,tk,sb,bne_self_eq_false,Bool.false_eq_true,if_false];show ∃c,_∧(c<0↔sp (aG L a)<sp (aG L b))
 change ∃c,Option.bind (if decide (sp (aG L a)<sp (aG L b))=true then some (-1) else if decide (sp (aG L a)>sp (aG L b))=true then some 1 else some 0) _=some c∧_
 by_cases h1:sp (aG L a)<sp (aG L b)
 ·rw[bp h1];exact⟨-1,rfl,by omega⟩
 ·rw[bo h1];by_cases h2:sp (aG L a)>sp (aG L b)
  ·rw[bp h2];exact⟨1,rfl,by omega⟩
  ·rw[bo h2];exact⟨0,rfl,by omega⟩
theorem Hi{lvl n:Nat}{f s:Fv}{q:ah→Bool}{sp:ah→Int}(hq:∀p,(KN lvl).tm f p=some (q p))(hs:∀m p,(KN (m+1)).kE s p=some (sp p))(L:List ah)(c N:Nat)(hl:L.length≤10000)(hn:10001<n)(hlv:20020≤lvl)
  (hk:∀p,eb p=true→q p=true→1≤sp p∧sp p≤N):qR (KN lvl) n L (c:Int) f s=some (fW (fun i=>sp (aG L i)) (val L q c) N):=by
 unfold qR;have h:=Qu (K:=KN lvl) (lvl:=lvl) (n:=n) (s:=s) (sp:=sp) hq L c hl n 0 (by omega) (by omega);rw[show val (L.take 0) q c=[] by simp[val,idx],show((0:Nat):Int)=0 from rfl]at h;rw[h];have hv:=pA L q c;obtain⟨d,h1,h2,h3⟩:=QSort.HY (c0:=2) (f:=Fv.c86 s L) (D:=fun a=>0≤a∧a<L.length) (key:=fun i=>sp (aG L i)) (fun m hm=>by
  obtain⟨k,rfl⟩:∃k,m=k+2:=⟨m-2,by omega⟩;exact ac1 L (k+1) (hs k)) (lvl:=lvl) (n:=n) (val L q c) hn (by omega) (LM L q c) (fun x hx=>by have:=zJ hx;omega) (by omega)
 rw[h3,sb,ab3 (N:=N) h1 h2 (LM L q c) (fun v hv=>by have:=zJ hv;exact hk _ this.2.2.2.1 this.2.2.2.2)]
end Go.Proofs.YtolhpahjgddjkaaGreat.Tb
namespace Go.Proofs.YtolhpahjgddjkaaGreat.Tb
set_option linter.all false
open Go.RowKit
open Sh (idx gS jh le kh eg gu)
open QSort (wn aH bp bo sb R)
set_option maxRecDepth 20000
variable{K:Kn}{n:Nat}
theorem GC{p:List Int}{i j:Nat}{x:Int}(h:i≠j):(p.set i x).getD j default=p.getD j default:=Sh.B8 h
theorem geq{p:List Int}{i:Nat}{x:Int}(h:i<p.length):(p.set i x).getD i default=x:=Sh.E2 h
def cJ(out:List Int)(a:Nat):Nat→Int
 | 0=>0
 | b+1=>cJ out a b+out.getD (a+b) default
def Ok(c:Int)(rows:Nat)(out:List Int):Prop:=out.length=rows∧∀x∈out,0≤x∧x≤c
theorem Ok.at{c:Int}{rows:Nat}{out:List Int}(h:Ok c rows out){k:Nat}(hk:k<rows):0≤out.getD k default∧out.getD k default≤c:=by
 have hk':k<out.length:=by rw[h.1];exact hk
 rw[cd hk'];exact h.2 _ (List.getElem_mem _)
theorem Ok.set{c:Int}{rows:Nat}{out:List Int}(h:Ok c rows out){k:Nat}{x:Int}(hx:0≤x∧x≤c):Ok c rows (List.set out k x):=by
 refine⟨by simp[h.1],fun y hy=>?_⟩;rcases List.mem_or_eq_of_mem_set hy with h1|h1
 ·exact h.2 y h1
 ·subst h1;exact hx
theorem sg{c:Int}{rows:Nat}{out:List Int}(h:Ok c rows out){a:Nat}:∀b,a+b≤rows→0≤cJ out a b∧cJ out a b≤b*c
 | 0,_=>by simp[cJ]
 | b+1,hb=>by
  have h1:=sg h (a:=a) b (by omega);have h2:=h.at (k:=a+b) (by omega);have e:((b+1:Nat):Int)*c=b*c+c:=by rw[Int.natCast_succ,Int.add_mul,Int.one_mul]
  simp only[cJ];omega
theorem I2{c:Int}{rows:Nat}{out:List Int}(h:Ok c rows out){a k:Nat}:∀b,a+b≤rows→a≤k→k<a+b→out.getD k default≤cJ out a b
 | 0,_,h1,h2=>by omega
 | b+1,hb,h1,h2=>by
  have h3:=sg h (a:=a) b (by omega);have h4:=h.at (k:=a+b) (by omega);by_cases e:k=a+b
  ·subst e;simp only[cJ];omega
  ·have:=I2 h b (by omega) h1 (by omega);simp only[cJ];omega
theorem y0{x y:List Int}(h:∀k,x.getD k default≤y.getD k default)(a:Nat):∀b,cJ x a b≤cJ y a b
 | 0=>by simp[cJ]
 | b+1=>by have:=y0 h a b;have:=h (a+b);simp only[cJ];omega
theorem HC{x:List Int}{k a:Nat}{v:Int}:∀b,(k<a∨a+b≤k)→cJ (List.set x k v) a b=cJ x a b
 | 0,_=>rfl
 | b+1,h=>by simp only[cJ];rw[HC b (by omega),GC (by omega)]
theorem Hr{x:List Int}{k a:Nat}{v:Int}(hk:k<x.length):∀b,a≤k→k<a+b→cJ (List.set x k v) a b=cJ x a b-x.getD k default+v
 | 0,h1,h2=>by omega
 | b+1,h1,h2=>by
  by_cases e:k=a+b
  ·subst e;simp only[cJ];rw[HC b (by omega),geq hk];omega
  ·simp only[cJ];rw[Hr hk b h1 (by omega),GC e];omega
theorem Jp(x:List Int)(a:Nat):∀b,a+b≤x.length→sm ((x.drop a).take b)=cJ x a b
 | 0,_=>by simp[cJ,sm]
 | b+1,h=>by
  have hb:b<(x.drop a).length:=by simp;omega
  rw[Sh.lL hb,Jp x a b (by omega)];simp only[cJ];congr 1;simp[List.getD_eq_getElem?_getD,List.getElem?_drop]
theorem yB{c:Int}(hc:0≤c∧c≤4294967296)(l:List Int)(hl:l.length≤10000)(h:∀x∈l,0≤x∧x≤c)(hn:10001<n):kp K n l=some (sm l):=by
 have loop:∀(m i:Nat),i≤l.length→l.length<m+i→pS K n l m (sm (l.take i)) (i:Int)=some (sm l):=by
  intro m
  induction m with
  | zero=>intro i h1 h2;omega
  | succ m ih =>
   intro i h1 h2;simp only[pS,w4];by_cases hi:i<l.length
   ·have b1:=Lf (B:=c) hc.1 (l.take (i+1)) (fun x hx=>by have:=h x (List.mem_of_mem_take hx);omega);have b2:((l.take (i+1)).length:Int)≤10000:=by rw[List.length_take];omega
    have b3:=Int.mul_le_mul_of_nonneg_right b2 hc.1;rw[bp (by omega),aH (by omega),ci,← Sh.lL hi,wn (n:=(i:Int)+1) (k:=i+1) (by omega) (by omega),cj (by omega) (by omega)];exact ih (i+1) (by omega) (by omega)
   ·obtain rfl:i=l.length:=by omega
    rw[bo (by omega),List.take_length]
 have:=loop n 0 (by omega) (by omega);simpa[kp,sm]using this
def iY(L:List ah)(H out:List Int)(i:Int):List Int :=
 List.set out ((aG L i).Row.toNat+(aG L i).Rows.toNat-1) (out.getD ((aG L i).Row.toNat+(aG L i).Rows.toNat-1) default+max (sz (H.getD i.toNat default)-cJ out (aG L i).Row.toNat (aG L i).Rows.toNat) 0)
def qh(rows:Int)(p:ah):Bool:=decide (p.Row<rows)&&decide (p.Rows≤aa (rows-p.Row))
theorem R2(v:Int)(p:ah):uO K n p v=some (qh v p):=by
 unfold uO xF qh;by_cases h:p.Row<v
 ·rw[bp h];simp only[h,decide_true,Bool.true_and]
 ·rw[bo h];simp only[h,decide_false,Bool.false_and]
structure Vh(rows:Nat)(L:List ah)(H:List Int)(i:Int):Prop where
 i0:0≤i
 iL:i.toNat<L.length
 iH:i.toNat<H.length
 r0:0≤(aG L i).Row
 r1:1≤(aG L i).Rows
 r2:(aG L i).Row+(aG L i).Rows≤rows
theorem nY{p:ah}(h:eb p=true):p.Row≥0∧p.Col≥0∧p.Rows≥1∧p.Cols≥1:=by simpa[eb]using h
theorem PA{rows:Nat}{p:ah}(hr:rows≤10000)(h1:eb p=true)(h2:qh rows p=true):p.Row+p.Rows≤rows:=by
 have:=nY h1;unfold qh at h2;simp only[Bool.and_eq_true,decide_eq_true_eq]at h2;rw[cj (by omega) (by omega)]at h2;omega
theorem Vh.of{rows:Nat}{L:List ah}{H:List Int}(hr:rows≤10000){i:Int}(h:i∈val L (qh rows) H.length):Vh rows L H i:=by
 obtain⟨h1,h2,h3,h4,h5⟩:=zJ h;have:=nY h4;exact⟨h1,h2,h3,by omega,by omega,PA hr h4 h5⟩
theorem Oz{rows:Nat}{L:List ah}{H:List Int}{i:Int}(hr:rows≤10000)(h:Vh rows L H i){out:List Int}(ho:Ok 1048576 rows out):
  Ok 1048576 rows (iY L H out i)∧(∀k,out.getD k default≤(iY L H out i).getD k default)∧sz (H.getD i.toNat default)≤cJ (iY L H out i) (aG L i).Row.toNat (aG L i).Rows.toNat:=by
 have r0:=h.r0;have r1:=h.r1;have r2:=h.r2;have he:(aG L i).Row.toNat+(aG L i).Rows.toNat-1<out.length:=by rw[ho.1];omega
 have hw:=I2 ho (a:=(aG L i).Row.toNat) (k:=(aG L i).Row.toNat+(aG L i).Rows.toNat-1) (aG L i).Rows.toNat (by omega) (by omega) (by omega);have ha:=ho.at (k:=(aG L i).Row.toNat+(aG L i).Rows.toNat-1) (by omega);have hz:=fO (H.getD i.toNat default);unfold iY;refine⟨ho.set (by omega),fun k=>?_,?_⟩
 ·by_cases e:k=(aG L i).Row.toNat+(aG L i).Rows.toNat-1
  ·subst e;rw[geq he];omega
  ·rw[GC (Ne.symm e)];omega
 ·rw[Hr he _ (by omega) (by omega)];omega
theorem JC{rows:Nat}{L:List ah}{H:List Int}(hr:rows≤10000):∀(d out:List Int),(∀i∈d,Vh rows L H i)→Ok 1048576 rows out →
  Ok 1048576 rows (d.foldl (iY L H) out)∧(∀k,out.getD k default≤(d.foldl (iY L H) out).getD k default)∧∀i∈d,sz (H.getD i.toNat default)≤cJ (d.foldl (iY L H) out) (aG L i).Row.toNat (aG L i).Rows.toNat
 | [],out,_,ho=>⟨ho,fun k=>Int.le_refl _,fun i hi=>by cases hi⟩
 | i::d,out,hd,ho=>by
  obtain⟨h1,h2,h3⟩:=Oz hr (hd i (by simp)) ho;obtain⟨k1,k2,k3⟩:=JC hr d _ (fun j hj=>hd j (by simp[hj])) h1;refine⟨k1,fun k=>Int.le_trans (h2 k) (k2 k),fun j hj=>?_⟩;rcases List.mem_cons.1 hj with e|hj
  ·subst e;exact Int.le_trans h3 (y0 k2 _ _)
  ·exact k3 j hj
theorem Xh{rows:Nat}{L:List ah}{H d:List Int}(hr:rows≤10000)(hn:10001<n)(hd:∀i∈d,Vh rows L H i)(hl:d.length≤10000):∀(m t:Nat) (out:List Int),t≤d.length→d.length<m+t→Ok 1048576 rows out →
  qA K n L H d m (t:Int) out=some ((d.drop t).foldl (iY L H) out):=by
 intro m
 induction m with
 | zero=>intro t out h1 h2;omega
 | succ m ih =>
  intro t out h1 h2 ho;simp only[qA,tU];by_cases ht:t<d.length
  ·have hi:d.getD t default∈d:=by rw[cd ht];exact List.getElem_mem _
   have hv:=hd _ hi;have ed:d.drop t=d.getD t default::d.drop (t+1):=by rw[List.drop_eq_getElem_cons ht,cd ht]
   rw[bp (by omega),aH (by omega)];simp only[ci];rw[ed,List.foldl_cons];generalize d.getD t default=i at *;have i0:=hv.i0;have iL:=hv.iL;have iH:=hv.iH;have r0:=hv.r0;have r1:=hv.r1;have r2:=hv.r2;have hs:=Oz hr hv ho;have hb:=ho.at (k:=(aG L i).Row.toNat+(aG L i).Rows.toNat-1) (by omega);have hw:=sg ho (a:=(aG L i).Row.toNat) (aG L i).Rows.toNat (by omega);have hz:=fO (H.getD i.toNat default);have hnext:=ih (t+1) (iY L H out i) (by omega) (by omega) hs.1;rw[aH (by omega),aH (by omega),nF,sb,sb,show List.getD L i.toNat default=aG L i from rfl];unfold iY at hnext hs;obtain⟨r,er⟩:∃r:Nat,(aG L i).Row=r:=⟨(aG L i).Row.toNat,by omega⟩;obtain⟨s,es⟩:∃s:Nat,(aG L i).Rows=s:=⟨(aG L i).Rows.toNat,by omega⟩;unfold iY;rw[er,es]at r2 hb hw hnext⊢;rw[es]at r1;simp only[ci]at hb hw hnext⊢;rw[wn (n:=(r:Int)+(s:Int)) (k:=r+s) (by omega) (by omega),Sh.mf (by omega) (by omega) (by rw[ho.1];omega),bS]
   simp only[ci,Int.toNat_zero,Nat.add_zero,Nat.add_sub_cancel_left];by_cases h1s:s=1
   ·subst h1s;rw[show(((1:Nat):Int) == 1)=true from rfl,if_pos rfl,aH (by omega),show decide (r<out.length)=true from decide_eq_true (by rw[ho.1];omega),bS,aH (by omega)];unfold rC;rw[show r+1-1=r by omega]at hnext hb⊢;simp only[cJ,Nat.add_zero,Int.zero_add]at hnext⊢;rw[show max (out.getD r default) (sz (H.getD i.toNat default))=out.getD r default+max (sz (H.getD i.toNat default)-out.getD r default) 0 by omega,wn (n:=(t:Int)+1) (k:=t+1) (by omega) (by omega)];exact hnext
   ·have:((s:Int) == 1)=false:=by rw[beq_eq_false_iff_ne];omega
    rw[this,if_neg (by decide),wn (n:=(s:Int)-1) (k:=s-1) (by omega) (by omega),aH (by omega),ci,show decide (r+(s-1)<out.length)=true from decide_eq_true (by rw[ho.1];omega),bS];rw[yB (c:=1048576) (by omega) _ (by rw[List.length_take];omega) (fun x hx=>ho.2 x (List.mem_of_mem_drop (List.mem_of_mem_take hx))) hn,sb,Jp out r s (by rw[ho.1];omega)];rw[show decide (r+s≤out.length)=true from decide_eq_true (by rw[ho.1];omega),bS,aH (by omega)];unfold rC;have hbb:(s:Int)*1048576≤10000*1048576:=Int.mul_le_mul_of_nonneg_right (by omega) (by omega);rw[show r+(s-1)=r+s-1 by omega,wn (n:=(t:Int)+1) (k:=t+1) (by omega) (by omega),cj (n:=sz (H.getD i.toNat default)-cJ out r s) (by omega) (by omega),cj (by omega) (by omega)];exact hnext
  ·obtain rfl:t=d.length:=by omega
   rw[bo (by omega),List.drop_length];rfl
def kD(L:List ah)(H out:List Int):List Int:=(fW (fun i=>(aG L i).Rows) (val L (qh out.length) H.length) out.length).foldl (iY L H) out
theorem Ok.rep(c:Int)(hc:0≤c)(rows:Nat):Ok c rows (List.replicate rows 0):=⟨by simp,fun x hx=>by have:=(List.mem_replicate.1 hx).2;omega⟩
theorem Mj{key:Int→Int}{V:List Int}(hk:∀v∈V,1≤key v)(N:Nat):(fW key V N).length≤V.length:=by
 rw[(Dn hk N).length_eq];exact List.length_filter_le _ _
theorem H4{lvl n:Nat}(L:List ah)(H:List Int)(rows:Int)(hr:rows≤10000)(hL:L.length≤10000)(hn:10001<n)(hlv:20020≤lvl):vy (KN lvl) n L H rows=some (kD L H (List.replicate (max rows 0).toNat 0)):=by
 unfold vy;obtain⟨r,er⟩:∃r:Nat,max rows 0=r:=⟨(max rows 0).toNat,by omega⟩;rw[er,Sh.lV (by omega) (by omega),bS,sb,ci];obtain⟨k,rfl⟩:∃k,lvl=k+1:=⟨lvl-1,by omega⟩;rw[Hi (lvl:=k+1) (f:=Fv.c65 (r:Int)) (s:=Fv.fn 67) (q:=qh r) (sp:=fun p=>p.Rows) (fun p=>R2 (K:=KN k) (n:=k) (r:Int) p) (fun m p=>rfl) L H.length r hL hn hlv (fun p h1 h2=>by
  have:=nY h1;have:=PA (by omega) h1 h2;omega),sb]
 have hd:∀i∈fW (fun i=>(aG L i).Rows) (val L (qh r) H.length) r,Vh r L H i:=fun i hi=>Vh.of (by omega) (l6 hi).1;have hlen:=Mj (key:=fun i=>(aG L i).Rows) (V:=val L (qh r) H.length) (fun v hv=>(Vh.of (by omega) hv).r1) r;have:=Xh (K:=KN (k+1)) (n:=n) (rows:=r) (by omega) hn hd (by have:=pA L (qh r) H.length;omega) n 0 _ (by omega) (by have:=pA L (qh r) H.length;omega) (Ok.rep 1048576 (by omega) r);unfold kD;rw[List.length_replicate];exact this
end Go.Proofs.YtolhpahjgddjkaaGreat.Tb
namespace Go.Proofs.YtolhpahjgddjkaaGreat.Tb
set_option linter.all false
open Go.RowKit
open Sh (idx gS jh le kh eg gu)
open QSort (wn aH bp bo sb R)
set_option maxRecDepth 20000
variable{K:Kn}{n:Nat}
theorem Qh{M i:Nat}(h:i<M):(idx M).drop i=(i:Int)::(idx M).drop (i+1):=by
 rw[List.drop_eq_getElem_cons (by rw[gS];exact h)];congr 1;simp[idx]
theorem acK(a b c:Int):xc K n a b c=some (decide (a≥0)&&(decide (b≥1)&&(decide (a<c)&&decide (b≤aa (c-a))))):=by
 unfold xc nM;by_cases h1:a≥0<;>by_cases h2:b≥1<;>by_cases h3:a<c<;>simp[h1,h2,h3]
end Go.Proofs.YtolhpahjgddjkaaGreat.Tb
namespace Go.Proofs.YtolhpahjgddjkaaGreat.Tb
set_option linter.all false
open Go.RowKit
open QSort (wn aH bp bo sb)
set_option maxRecDepth 20000
variable{K:Kn}{n:Nat}
abbrev Span:=V2 Int
def jK(r c:Int)(p:ah):Bool:=decide (p.Row≤r)&&(decide (r<p.Row+p.Rows)&&(decide (p.Col≤c)&&decide (c<p.Col+p.Cols)))
def dr(A:List ah)(r c:Int):Bool:=A.any (jK r c)
theorem V0(A B:List ah)(r c:Int):dr (A++B) r c=(dr A r c||dr B r c):=List.any_append
def nf(f:Int→Bool):Nat→Int→Int
 | 0,c=>c
 | k+1,c=>if f c=true then nf f k (c+1) else c
def fuel(c:Int):Nat:=(100000-c).toNat
theorem zu(f:Int→Bool):∀(k:Nat) (c:Int),c≤nf f k c
 | 0,c=>Int.le_refl _
 | k+1,c=>by
  simp only[nf];split
  ·have:=zu f k (c+1);omega
  ·omega
theorem A6{f:Int→Bool}{E:Int}(hE:∀x,E≤x→f x=false):∀(k:Nat) (c:Int),nf f k c≤max c E
 | 0,c=>by simp only[nf];omega
 | k+1,c=>by
  simp only[nf];split
  ·rename_i h;have:¬ E≤c:=fun h2=>by rw[hE c h2]at h;cases h
   have:=A6 hE k (c+1);omega
  ·omega
def jj(R r:Int)(c:Int)(s:Span):ah:=⟨r,c,min (max s.a0 1) (R-r),min (max s.a1 1) 100⟩
def cells(R r:Int)(f:Int→Bool):List Span→Int→List ah
 | [],_=>[]
 | s::t,aS=>jj R r (nf f (fuel aS) aS) s::cells R r f t (nf f (fuel aS) aS+min (max s.a1 1) 100)
def fa(C:Int)(l:List ah):Int:=l.foldl (fun a p=>max a (p.Col+p.Cols)) C
theorem RS(C:Int)(a b:List ah):fa C (a++b)=fa (fa C a) b:=List.foldl_append
theorem MV:∀(l:List ah) (C:Int),C≤fa C l∧∀p∈l,p.Col+p.Cols≤fa C l
 | [],C=>⟨Int.le_refl _,fun p hp=>(by cases hp)⟩
 | q::l,C=>by
  have h:=MV l (max C (q.Col+q.Cols));refine⟨by simp only[fa,List.foldl_cons];have:=h.1;unfold fa at this;omega,fun p hp=>?_⟩;rcases List.mem_cons.1 hp with e|hp
  ·subst e;simp only[fa,List.foldl_cons];have:=h.1;unfold fa at this;omega
  ·exact h.2 p hp
structure Pl(R r:Int)(C:Int)(p:ah):Prop where
 row:p.Row=r
 rows:1≤p.Rows
 down:p.Row+p.Rows≤R
 aS:0≤p.Col
 cols:1≤p.Cols∧p.Cols≤100
 right:p.Col+p.Cols≤C
theorem As(R r:Int)(f:Int→Bool):∀(l:List Span) (aS:Int),(cells R r f l aS).length=l.length
 | [],_=>rfl
 | s::t,aS=>by simp only[cells,List.length_cons,As R r f t]
theorem Dx{R r:Int}{f:Int→Bool}(hr:r<R):∀(l:List Span) (aS C:Int),(∀x,C≤x→f x=false)→0≤aS→aS≤C →
  (∀p∈cells R r f l aS,Pl R r (C+100*l.length) p∧aS≤p.Col)∧fa C (cells R r f l aS)≤C+100*l.length
 | [],aS,C,hf,h0,h1=>⟨fun p hp=>(by cases hp),(by simp[fa,cells])⟩
 | s::t,aS,C,hf,h0,h1=>by
  have g1:=zu f (fuel aS) aS;have g2:=A6 hf (fuel aS) aS;have hlen:(((s::t).length:Nat):Int)=t.length+1:=by simp
  have ih:=Dx hr t (nf f (fuel aS) aS+min (max s.a1 1) 100) (C+100) (fun x hx=>hf x (by omega)) (by omega) (by omega);refine⟨fun p hp=>?_,?_⟩
  ·simp only[cells]at hp;rcases List.mem_cons.1 hp with e|hp
   ·subst e;refine⟨⟨rfl,?_,?_,?_,⟨?_,?_⟩,?_⟩,g1⟩<;>simp only[jj]<;>omega
   ·have:=(ih.1 p hp);refine⟨⟨this.1.row,this.1.rows,this.1.down,this.1.aS,this.1.cols,by have:=this.1.right;omega⟩,by have:=this.2;omega⟩
  ·have e:∀(l:List ah) (a b:Int),a≤b→fa a l≤fa b l:=by
    intro l
    induction l with
    | nil=>intro a b h;exact h
    | cons q l ih=>intro a b h;exact ih (max a (q.Col+q.Cols)) (max b (q.Col+q.Cols)) (by omega)
   have h3:=e (cells R r f t (nf f (fuel aS) aS+min (max s.a1 1) 100)) (max C ((jj R r (nf f (fuel aS) aS) s).Col+(jj R r (nf f (fuel aS) aS) s).Cols)) (C+100) (by show max C (nf f (fuel aS) aS+min (max s.a1 1) 100)≤C+100;omega);have h4:=ih.2;have h5:fa C (cells R r f (s::t) aS)=fa (max C ((jj R r (nf f (fuel aS) aS) s).Col+(jj R r (nf f (fuel aS) aS) s).Cols)) (cells R r f t (nf f (fuel aS) aS+min (max s.a1 1) 100)):=rfl;omega
def rw(S:List (List Span)):Nat→List (List ah)
 | 0=>[]
 | k+1=>rw S k++[cells S.length k (dr (rw S k).flatten k) (S.getD k default) 0]
def cr(S:List (List Span))(k:Nat):List ah:=(rw S k).flatten
def aS(S:List (List Span))(k:Nat):Int:=fa 0 (cr S k)
def fv(S:List (List Span))(k:Nat):List ah:=cells S.length k (dr (cr S k) k) (S.getD k default) 0
theorem xQ(S:List (List Span))(k:Nat):rw S (k+1)=rw S k++[fv S k]:=rfl
theorem gr(S:List (List Span)):∀k,(rw S k).length=k
 | 0=>rfl
 | k+1=>by rw[xQ,List.length_append,gr S k];rfl
theorem j2(S:List (List Span))(k:Nat):cr S (k+1)=cr S k++fv S k:=by unfold cr;rw[xQ];simp
theorem wh(S:List (List Span))(k:Nat):aS S (k+1)=fa (aS S k) (fv S k):=by unfold aS;rw[j2,RS]
theorem qx(S:List (List Span)){k:Nat}:∀{m:Nat},k<m→(rw S m).getD k default=fv S k
 | 0,h=>by omega
 | m+1,h=>by
  rw[xQ,List.getD_eq_getElem?_getD];by_cases e:k=m
  ·subst e;rw[List.getElem?_append_right (by rw[gr];exact Nat.le_refl _),gr,Nat.sub_self];rfl
  ·rw[List.getElem?_append_left (by rw[gr];omega),← List.getD_eq_getElem?_getD];exact qx S (by omega)
structure Sp(S:List (List Span)):Prop where
 r:S.length≤20
 c:∀row∈S,row.length≤20
theorem Sp.at{S:List (List Span)}(h:Sp S){k:Nat}(hk:k<S.length):(S.getD k default).length≤20:=h.c _ (by rw[cd hk];exact List.getElem_mem _)
structure Up(S:List (List Span))(k:Nat):Prop where
 p:∀p∈cr S k,0≤p.Row∧p.Row<k∧1≤p.Rows∧p.Row+p.Rows≤S.length∧0≤p.Col∧1≤p.Cols∧p.Cols≤100∧p.Col+p.Cols≤aS S k
 c:0≤aS S k∧aS S k≤2000*k
 l:(cr S k).length≤20*k
theorem Up.free{S:List (List Span)}{k:Nat}(h:Up S k)(r:Int):∀x,aS S k≤x→dr (cr S k) r x=false:=by
 intro x hx;unfold dr;rw[List.any_eq_false];intro p hp;have:=h.p p hp;unfold jK;rw[show decide (x<p.Col+p.Cols)=false from decide_eq_false (by omega)];simp
theorem yL{S:List (List Span)}(hS:Sp S){k:Nat}(hk:k<S.length)(h:Up S k):(∀p∈fv S k,Pl S.length k (aS S k+2000) p)∧aS S (k+1)≤aS S k+2000:=by
 have hl:=hS.at hk;have:=Dx (R:=S.length) (r:=k) (f:=dr (cr S k) k) (by omega) (S.getD k default) 0 (aS S k) (h.free k) (by omega) h.c.1;refine⟨fun p hp=>?_,?_⟩
 ·obtain⟨h1,h2⟩:=this.1 p hp;exact⟨h1.row,h1.rows,h1.down,h1.aS,h1.cols,by have:=h1.right;omega⟩
 ·rw[wh];have:=this.2;unfold fv;omega
theorem up{S:List (List Span)}(hS:Sp S):∀k,k≤S.length→Up S k
 | 0,_=>⟨fun p hp=>(by simp[cr,rw]at hp),by simp[aS,cr,rw,fa],by simp[cr,rw]⟩
 | k+1,hk=>by
  have h:=up hS k (by omega);have hl:=hS.at (show k<S.length by omega);obtain⟨r1,r2⟩:=yL hS (show k<S.length by omega) h;have g:=MV (fv S k) (aS S k);rw[←wh]at g;refine⟨fun p hp=>?_,by have:=h.c;omega,?_⟩
  ·rw[j2]at hp;rcases List.mem_append.1 hp with hp|hp
   ·have:=h.p p hp;omega
   ·have h1:=r1 p hp;have h2:=g.2 p hp;have:=h1.row;have:=h1.rows;have:=h1.down;have:=h1.aS;have:=h1.cols;omega
  ·rw[j2,List.length_append];have:=h.l;have:(fv S k).length=(S.getD k default).length:=As _ _ _ _ _;omega
end Go.Proofs.YtolhpahjgddjkaaGreat.Tb
namespace Go.Proofs.YtolhpahjgddjkaaGreat.Tb
set_option linter.all false
open Go.RowKit
open QSort (wn aH bp bo sb)
set_option maxRecDepth 20000
variable{K:Kn}{n:Nat}
theorem OS(k x:Int):∀l:List (Int×Bool),g8 x (jp k true l)=if x=k then some true else g8 x l
 | []=>by
  simp only[jp,g8];by_cases h:k=x
  ·rw[decide_eq_true h,if_pos h.symm]
  ·rw[decide_eq_false h,if_neg (Ne.symm h)]
 | p::l=>by
  simp only[jp];by_cases h:p.1=k
  ·rw[decide_eq_true h];simp only[g8];by_cases h2:k=x
   ·rw[decide_eq_true h2,if_pos h2.symm]
   ·rw[decide_eq_false h2,if_neg (Ne.symm h2),decide_eq_false (by omega)]
  ·rw[decide_eq_false h];simp only[g8];by_cases h2:p.1=x
   ·rw[decide_eq_true h2,if_neg (by omega)]
   ·rw[decide_eq_false h2];exact OS k x l
theorem W8{m:bH}(h:m.isSome=true)(k x:Int):iU (nX m k true) x=(iU m x||decide (x=k)):=by
 cases m with
 | none=>cases h
 | some l =>
  simp only[nX,iU,OS];by_cases e:x=k
  ·rw[if_pos e,decide_eq_true e,Bool.or_true]
  ·rw[if_neg e,decide_eq_false e,Bool.or_false]
def cg(cv:List bH)(k:Nat)(x:Int):Bool:=iU (cv.getD k none) x
theorem H0{cv:List bH}{k k':Nat}{m:bH}(hk:k'<cv.length)(x:Int):cg (cv.set k m) k' x=if k'=k then iU m x else cg cv k' x:=by
 unfold cg;by_cases h:k'=k
 ·subst h;rw[if_pos rfl];simp[List.getD_eq_getElem?_getD,hk]
 ·rw[if_neg h];simp[List.getD_eq_getElem?_getD,List.getElem?_set,Ne.symm h]
theorem aap{S:List (List Span)}(hS:Sp S){r:Nat}(hr:r<S.length)(out:List (List ah))(cv:List bH)(hcv:cv.length=S.length)(C L idx:Int)(list:List ah)(hl:list.length≤1000)(s:Span)(hidx:aa (idx+1)=idx+1)(hC:0≤C∧C≤200000)
  (L1:Int→Int→List (List ah)→List bH→Option ((List (List ah))×Int)) (L2:Int→Int→Int→Int→List ah→Option ((List (List ah))×Int))
  (hf:∀x,100000≤x→cg cv r x=false):∀(k:Nat) (c:Int) (m:Nat),fuel c=k→k<m→0≤c→c≤100000 →
  mN K n S (r:Int) out cv C L idx list L1 L2 m c s=L2 (max C (nf (cg cv r) (fuel c) c+min (max s.a1 1) 100)) (nf (cg cv r) (fuel c) c+min (max s.a1 1) 100) L (idx+1) (list++[jj S.length r (nf (cg cv r) (fuel c) c) s]):=by
 have hR:=hS.r;have fin:∀(c:Int) (m:Nat),0≤c→c≤100000→0<m→cg cv r c=false→mN K n S (r:Int) out cv C L idx list L1 L2 m c s=L2 (max C (c+min (max s.a1 1) 100)) (c+min (max s.a1 1) 100) L (idx+1) (list++[jj S.length r c s]):=by
  intro c m h0 h1 hm hc;obtain⟨m,rfl⟩:∃j,m=j+1:=⟨m-1,by omega⟩;simp only[mN,pR,ci];unfold cg at hc;rw[aH (by omega),hc,sb,if_neg (by decide),sb,dE (by simp;omega) (by omega),bS,cj (n:=(S.length:Int)-(r:Int)) (by omega) (by omega),cj (by omega) (by omega),hidx];rfl
 intro k
 induction k with
 | zero =>
  intro c m hk hm h0 h1;have hc:100000≤c:=by unfold fuel at hk;omega
  rw[hk];simp only[nf];exact fin c m h0 h1 hm (hf c hc)
 | succ k ih =>
  intro c m hk hm h0 h1;rw[hk];simp only[nf];cases hc:cg cv r c
  ·rw[if_neg (by decide)];exact fin c m h0 h1 (by omega) hc
  ·rw[if_pos rfl];obtain⟨m,rfl⟩:∃j,m=j+1:=⟨m-1,by omega⟩;have hlt:c<100000:=by unfold fuel at hk;omega
   simp only[mN,pR,ci];have hc':=hc;unfold cg at hc';rw[aH (by omega),hc',sb,if_pos rfl,cj (by omega) (by omega)];have:=ih (c+1) m (by unfold fuel at hk⊢;omega) (by omega) (by omega) (by omega);rw[show fuel (c+1)=k by unfold fuel at hk⊢;omega]at this;exact this
theorem aco{S:List (List Span)}(hS:Sp S){r:Nat}(hr:r<S.length)(hn:200000<n)(out:List (List ah))(cv:List bH)(hcv:cv.length=S.length){E:Int}(hE:0≤E∧E≤50000)(hf:∀x,E≤x→cg cv r x=false)
  (L1:Int→Int→List (List ah)→List bH→Option ((List (List ah))×Int)):∀(m i:Nat) (C aS:Int) (list:List ah),i≤(S.getD r default).length→(S.getD r default).length<m+i→0≤aS→max aS E+100*(((S.getD r default).length-i:Nat):Int)≤90000→0≤C∧C+100*(((S.getD r default).length-i:Nat):Int)≤100000→aS≤90000→list.length≤i →
  pk K n S (r:Int) out cv L1 m C aS ((S.getD r default).length:Int) (i:Int) list=mM K n S (r:Int) out (fa C (cells S.length r (cg cv r) ((S.getD r default).drop i) aS)) (list++cells S.length r (cg cv r) ((S.getD r default).drop i) aS) L1 n 0 cv:=by
 have hR:=hS.r;have hrow:=hS.at hr;intro m
 induction m with
 | zero=>intro i C aS list h1 h2;omega
 | succ m ih =>
  intro i C aS list h1 h2 h3 h4 h5 h6 h7;simp only[pk,vS,ci];by_cases hi:i<(S.getD r default).length
  ·rw[bp (by omega),aH (by omega)];have e:=aap (K:=K) (n:=n) hS hr out cv hcv C ((S.getD r default).length:Int) (i:Int) list (by omega) ((S.getD r default).getD i default) (cj (by omega) (by omega)) (by omega) L1 (pk K n S (r:Int) out cv L1 m) (fun x hx=>hf x (by omega)) (fuel aS) aS n rfl (by unfold fuel;omega) h3 (by omega);have g1:=zu (cg cv r) (fuel aS) aS;have g2:=A6 hf (fuel aS) aS;rw[e,List.drop_eq_getElem_cons hi,← cd hi];generalize hs:(S.getD r default).getD i default=s at *;have hst:(((S.getD r default).length-i:Nat):Int)=(((S.getD r default).length-(i+1):Nat):Int)+1:=by omega
   have:=ih (i+1) (max C (nf (cg cv r) (fuel aS) aS+min (max s.a1 1) 100)) (nf (cg cv r) (fuel aS) aS+min (max s.a1 1) 100) (list++[jj S.length r (nf (cg cv r) (fuel aS) aS) s]) (by omega) (by omega) (by omega) (by omega) (by omega) (by omega) (by simp;omega);rw[show(i:Int)+1=((i+1:Nat):Int) by omega,this];simp only[cells,List.append_assoc,List.singleton_append];rfl
  ·obtain rfl:i=(S.getD r default).length:=by omega
   rw[bo (by omega),List.drop_length];simp[cells,fa]
section
variable{S:List (List Span)}{r:Nat}(out:List (List ah))(C:Int)(l:List ah)
theorem U8{j:Int}{p:ah}(hp:l.getD j.toNat default=p)(hc:0≤p.Col∧1≤p.Cols∧p.Cols≤100∧p.Col≤200000){k:Nat}(hk20:k≤1000)
  (L1:Int→Int→List (List ah)→List bH→Option ((List (List ah))×Int)) (L4 L5:Int→List bH→Option ((List (List ah))×Int)):∀(m t:Nat) (cv:List bH),t≤p.Cols.toNat→p.Cols.toNat<m+t→k<cv.length→(cv.getD k none).isSome=true →
  ∃cv',pF K n S (r:Int) out C l j (k:Int) L1 L4 L5 m (p.Col+t) cv=L5 ((k+1:Nat):Int) cv'∧cv'.length=cv.length∧∀k' x,k'<cv.length→cg cv' k' x=(cg cv k' x||(decide (k'=k)&&(decide (p.Col+t≤x)&&decide (x<p.Col+p.Cols)))):=by
 intro m
 induction m with
 | zero=>intro t cv h1 h2;omega
 | succ m ih =>
  intro t cv h1 h2 hk hs;simp only[pF,tO,hp,ci];rw[cj (n:=p.Col+p.Cols) (by omega) (by omega)];by_cases ht:t<p.Cols.toNat
  ·rw[show decide (p.Col+(t:Int)<p.Col+p.Cols)=true from decide_eq_true (by omega),sb,if_pos rfl,aH (by omega),hs,bS,cj (n:=p.Col+(t:Int)+1) (by omega) (by omega)];obtain⟨cv',e1,e2,e3⟩:=ih (t+1) (List.set cv k (nX (cv.getD k none) (p.Col+t) true)) (by omega) (by omega) (by simpa using hk) (by
    rw[show(List.set cv k (nX (cv.getD k none) (p.Col+t) true)).getD k none=nX (cv.getD k none) (p.Col+t) true by simp[List.getD_eq_getElem?_getD,hk]];cases h:cv.getD k none with
    | none=>rw[h]at hs;cases hs
    | some l=>rfl)
   refine⟨cv',?_,by simpa using e2,fun k' x hk'=>?_⟩
   ·rw[show p.Col+(t:Int)+1=p.Col+((t+1:Nat):Int) by omega];exact e1
   ·rw[e3 k' x (by simpa using hk'),H0 hk'];by_cases h:k'=k
    ·subst h;rw[if_pos rfl,W8 hs,decide_eq_true rfl,Bool.true_and,Bool.true_and];unfold cg;cases iU (cv.getD k' none) x
     ·rw[Bool.false_or,Bool.false_or];by_cases h3:x=p.Col+t
      ·rw[decide_eq_true h3,Bool.true_or,decide_eq_true (show p.Col+(t:Int)≤x by omega),decide_eq_true (show x<p.Col+p.Cols by omega)];rfl
      ·rw[decide_eq_false h3,Bool.false_or];congr 1;by_cases h4:p.Col+(t:Int)≤x
       ·rw[decide_eq_true h4,decide_eq_true (by omega)]
       ·rw[decide_eq_false h4,decide_eq_false (by omega)]
     ·rfl
    ·rw[if_neg h,decide_eq_false h,Bool.false_and,Bool.false_and]
  ·obtain rfl:t=p.Cols.toNat:=by omega
   rw[show decide (p.Col+((p.Cols.toNat:Nat):Int)<p.Col+p.Cols)=false from decide_eq_false (by omega),sb,if_neg (by decide),wn (n:=(k:Int)+1) (k:=k+1) (by omega) (by omega)];refine⟨cv,rfl,rfl,fun k' x hk'=>?_⟩;have:(decide (p.Col+((p.Cols.toNat:Nat):Int)≤x)&&decide (x<p.Col+p.Cols))=false:=by
    by_cases h:x<p.Col+p.Cols
    ·rw[decide_eq_false (show ¬ p.Col+((p.Cols.toNat:Nat):Int)≤x by omega),Bool.false_and]
    ·rw[decide_eq_false h,Bool.and_false]
   rw[this,Bool.and_false,Bool.or_false]
theorem R0{j:Int}{p:ah}{Cm:Int}(hCm:Cm≤200000)(hp:l.getD j.toNat default=p)(hpl:Pl S.length r Cm p)(hR:S.length≤20)(hn:200000<n)(hj:aa (j+1)=j+1)
  (L1:Int→Int→List (List ah)→List bH→Option ((List (List ah))×Int)) (L4:Int→List bH→Option ((List (List ah))×Int)):∀(m k:Nat) (cv:List bH),r<k→k≤r+p.Rows.toNat→r+p.Rows.toNat<m+k→cv.length=S.length →
  ∃cv',mP K n S (r:Int) out C l j L1 L4 m (k:Int) cv=L4 (j+1) cv'∧cv'.length=cv.length∧∀k' x,k'<cv.length→r<k'→cg cv' k' x=(cg cv k' x||(decide (k≤k')&&jK k' x p)):=by
 have p1:=hpl.row;have p2:=hpl.rows;have p3:=hpl.down;have p4:=hpl.aS;have p5:=hpl.cols;have p6:=hpl.right;intro m
 induction m with
 | zero=>intro k cv h1 h2;omega
 | succ m ih =>
  intro k cv h1 h2 h3 hl;simp only[mP,tr,hp,ci];rw[cj (n:=(r:Int)+p.Rows) (by omega) (by omega)];by_cases hk:k<r+p.Rows.toNat
  ·rw[show decide ((k:Int)<(r:Int)+p.Rows)=true from decide_eq_true (by omega),sb,if_pos rfl,aH (by omega),sb];have step:∀cv1:List bH,cv1.length=cv.length→(cv1.getD k none).isSome=true→(∀k' x,k'<cv.length→cg cv1 k' x=cg cv k' x) →
     ∃cv',qP K n S (r:Int) out C l j (k:Int) L1 L4 (mP K n S (r:Int) out C l j L1 L4 m) cv1=L4 (j+1) cv'∧cv'.length=cv.length∧∀k' x,k'<cv.length→r<k'→cg cv' k' x=(cg cv k' x||(decide (k≤k')&&jK k' x p)):=by
    intro cv1 l1 s1 g1;obtain⟨cv2,a1,a2,a3⟩:=U8 (K:=K) (n:=n) (S:=S) (r:=r) out C l hp (by omega) (k:=k) (by omega) L1 L4 (mP K n S (r:Int) out C l j L1 L4 m) n 0 cv1 (by omega) (by omega) (by omega) s1;obtain⟨cv3,b1,b2,b3⟩:=ih (k+1) cv2 (by omega) (by omega) (by omega) (by omega);refine⟨cv3,?_,by omega,fun k' x hk' hr'=>?_⟩
    ·unfold qP;rw[hp];rw[show p.Col+((0:Nat):Int)=p.Col by omega]at a1;rw[a1,b1]
    ·rw[b3 k' x (by omega) hr',a3 k' x (by omega),g1 k' x hk',Bool.or_assoc];congr 1;unfold jK;rw[p1,decide_eq_true (show(r:Int)≤(k':Int) by omega),Bool.true_and,show p.Col+((0:Nat):Int)=p.Col by omega];by_cases h5:k'=k
     ·subst h5;rw[decide_eq_true rfl,decide_eq_false (show ¬ k'+1≤k' by omega),decide_eq_true (Nat.le_refl _),decide_eq_true (show(k':Int)<(r:Int)+p.Rows by omega)];simp only[Bool.true_and,Bool.false_and,Bool.or_false]
     ·rw[decide_eq_false h5,Bool.false_and,Bool.false_or];congr 1;by_cases h6:k≤k'
      ·rw[decide_eq_true h6,decide_eq_true (by omega)]
      ·rw[decide_eq_false h6,decide_eq_false (by omega)]
   cases hs:cv.getD k none with
   | none =>
    rw[show Option.isNone (none:bH)=true from rfl,if_pos rfl,aH (by omega)];refine step _ (by simp) (by simp[List.getD_eq_getElem?_getD,show k<cv.length by omega]) (fun k' x hk'=>?_);rw[H0 hk'];split
    ·rename_i e;subst e;unfold cg;rw[hs];rfl
    ·rfl
   | some q =>
    rw[show Option.isNone (some q:bH)=false from rfl,if_neg (by decide)];exact step cv rfl (by rw[hs];rfl) (fun k' x hk'=>rfl)
  ·obtain rfl:k=r+p.Rows.toNat:=by omega
   rw[show decide (((r+p.Rows.toNat:Nat):Int)<(r:Int)+p.Rows)=false from decide_eq_false (by omega),sb,if_neg (by decide),hj];refine⟨cv,rfl,rfl,fun k' x hk' hr'=>?_⟩;have:(decide (r+p.Rows.toNat≤k')&&jK k' x p)=false:=by
    by_cases h:r+p.Rows.toNat≤k'
    ·unfold jK;rw[p1,decide_eq_false (show ¬ (k':Int)<(r:Int)+p.Rows by omega)];simp
    ·rw[decide_eq_false h,Bool.false_and]
   rw[this,Bool.or_false]
theorem acE{Cm:Int}(hCm:Cm≤200000)(hpl:∀p∈l,Pl S.length r Cm p)(hR:S.length≤20)(hl:l.length≤1000)(ho:out.length≤1000)(hr:r≤1000)(hn:200000<n)
  (L1:Int→Int→List (List ah)→List bH→Option ((List (List ah))×Int)):∀(m j:Nat) (cv:List bH),j≤l.length→l.length<m+j→cv.length=S.length →
  ∃cv',mM K n S (r:Int) out C l L1 m (j:Int) cv=L1 C ((r+1:Nat):Int) (out++[l]) cv'∧cv'.length=cv.length∧∀k' x,k'<cv.length→r<k'→cg cv' k' x=(cg cv k' x||dr (l.drop j) k' x):=by
 intro m
 induction m with
 | zero=>intro j cv h1 h2;omega
 | succ m ih =>
  intro j cv h1 h2 hc;simp only[mM,xH];by_cases hj:j<l.length
  ·have hp:=hpl (l.getD j default) (by rw[cd hj];exact List.getElem_mem _);have p2:=hp.rows;have p3:=hp.down;have p1:=hp.row;obtain⟨cv1,a1,a2,a3⟩:=R0 (K:=K) (n:=n) (S:=S) (r:=r) out C l (j:=(j:Int)) (p:=l.getD j default) hCm (by rw[ci]) hp hR hn (cj (by omega) (by omega)) L1 (mM K n S (r:Int) out C l L1 m) n (r+1) cv (by omega) (by omega) (by omega) hc;obtain⟨cv2,b1,b2,b3⟩:=ih (j+1) cv1 (by omega) (by omega) (by omega);refine⟨cv2,?_,by omega,fun k' x hk' hr'=>?_⟩
   ·rw[bp (by omega),aH (by omega),wn (n:=(r:Int)+1) (k:=r+1) (by omega) (by omega),a1,show(j:Int)+1=((j+1:Nat):Int) by omega,b1]
   ·rw[b3 k' x (by omega) hr',a3 k' x hk' hr',List.drop_eq_getElem_cons hj,← cd hj,Bool.or_assoc];congr 1;unfold dr;rw[List.any_cons,decide_eq_true (show r+1≤k' by omega),Bool.true_and]
  ·obtain rfl:j=l.length:=by omega
   rw[bo (by omega),dE (by simp;omega) (by omega),bS,wn (n:=(r:Int)+1) (k:=r+1) (by omega) (by omega)];refine⟨cv,rfl,rfl,fun k' x hk' hr'=>?_⟩;rw[List.drop_length];simp[dr]
end
theorem WQ{R r:Int}{f g:Int→Bool}(h:∀x,f x=g x)(l:List Span)(aS:Int):cells R r f l aS=cells R r g l aS:=by
 have:f=g:=funext h;rw[this]
theorem Ke{S:List (List Span)}(hS:Sp S)(hn:200000<n):nr K n S=some (rw S S.length,aS S S.length):=by
 have hR:=hS.r;have loop:∀(m r:Nat) (cv:List bH),r≤S.length→S.length<m+r→cv.length=S.length→(∀k x,k<S.length→r≤k→cg cv k x=dr (cr S r) k x)→mi K n S m (aS S r) (r:Int) (rw S r) cv=some (rw S S.length,aS S S.length):=by
  intro m
  induction m with
  | zero=>intro r cv h1 h2;omega
  | succ m ih =>
   intro r cv h1 h2 hl hc;simp only[mi,uQ];by_cases hr:r<S.length
   ·have hu:=up hS r (by omega);have hcr:∀x,cg cv r x=dr (cr S r) r x:=fun x=>hc r x hr (Nat.le_refl _);have hro:=hS.at hr;obtain⟨q1,q2⟩:=yL hS hr hu;have c0:=hu.c;have e:=aco (K:=K) (n:=n) hS hr hn (rw S r) cv hl (E:=aS S r) (by omega) (fun x hx=>by rw[hcr];exact hu.free r x hx) (mi K n S m) n 0 (aS S r) 0 [] (by omega) (by omega) (by omega) (by omega) (by omega) (by omega) (by simp);rw[List.drop_zero,List.nil_append,WQ hcr,show cells S.length r (dr (cr S r) r) (S.getD r default) 0=fv S r from rfl,← wh]at e;have rl:(fv S r).length=(S.getD r default).length:=As _ _ _ _ _;obtain⟨cv1,a1,a2,a3⟩:=acE (K:=K) (n:=n) (S:=S) (r:=r) (rw S r) (aS S (r+1)) (fv S r) (Cm:=aS S r+2000) (by omega) q1 hR (by omega) (by rw[gr];omega) (by omega) hn (mi K n S m) n 0 cv (by omega) (by omega) hl;rw[bp (by omega),aH (by omega),ci];rw[show((0:Nat):Int)=0 from rfl]at e a1;rw[e,a1,← xQ];refine ih (r+1) cv1 (by omega) (by omega) (by omega) (fun k x hk hk2=>?_)
    rw[a3 k x (by omega) (by omega),hc k x hk (by omega),List.drop_zero,j2,V0]
   ·obtain rfl:r=S.length:=by omega
    rw[bo (by omega)]
 unfold nr;rw[Sh.lV (by omega) (by omega),bS,sb,ci];exact loop n 0 _ (by omega) (by omega) (by simp) (fun k x hk _=>by simp[cg,cr,rw,dr,List.getD_eq_getElem?_getD,hk,iU])
end Go.Proofs.YtolhpahjgddjkaaGreat.Tb
namespace Go.Proofs.YtolhpahjgddjkaaGreat.Tb
set_option linter.all false
open Go.RowKit
open Sh (idx gS jh le kh eg gu share aO cO mx fN)
open QSort (wn aH bp bo sb R)
set_option maxRecDepth 20000
variable{K:Kn}{n:Nat}
def bz{α:Type}[Inhabited α](l:List α)(c s:Nat):List α:=bR s fun k=>l.getD (c+k) default
theorem dk{α:Type}[Inhabited α](l:List α)(c s:Nat):(bz l c s).length=s:=eI _ _
theorem iZ{α:Type}[Inhabited α]{l:List α}{c s k:Nat}(h:k<s):(bz l c s).getD k default=l.getD (c+k) default:=hH h
theorem vP(l:List Int)(c:Nat):∀s,sm (bz l c s)=cJ l c s
 | 0=>rfl
 | s+1=>by unfold bz at *;rw[ov,j7];have:=vP l c s;unfold bz at this;rw[this];simp[sm,cJ]
def pw{α:Type}[Inhabited α](l:List α)(c:Nat)(N:List α):List α:=bR l.length fun k=>if c≤k∧k<c+N.length then N.getD (k-c) default else l.getD k default
section
variable{α:Type}[Inhabited α]
theorem fd(l:List α)(c:Nat)(N:List α):(pw l c N).length=l.length:=eI _ _
theorem dN{l:List α}{c k:Nat}{N:List α}(hk:k<l.length):(pw l c N).getD k default=if c≤k∧k<c+N.length then N.getD (k-c) default else l.getD k default:=hH hk
theorem Jo(l:List α)(c:Nat)(N:List α):pw l c (N.take 0)=l:=by
 refine gP (fd _ _ _) (fun k hk=>?_);rw[dN hk,if_neg (by rw[List.length_take];omega)]
theorem KV{l:List α}{e k:Nat}{x:α}(hk:k<l.length):(l.set e x).getD k default=if k=e then x else l.getD k default:=by
 by_cases h:k=e
 ·subst h;rw[if_pos rfl];simp[List.getD_eq_getElem?_getD,hk]
 ·rw[if_neg h];simp[List.getD_eq_getElem?_getD,List.getElem?_set,Ne.symm h]
theorem Gn{N:List α}{t k:Nat}(h:k<t):(N.take t).getD k default=N.getD k default:=by
 rw[List.getD_eq_getElem?_getD,List.getElem?_take_of_lt h,List.getD_eq_getElem?_getD]
theorem KR{l:List α}{c t:Nat}{N:List α}(ht:t<N.length)(hc:c+N.length≤l.length):List.set (pw l c (N.take t)) (c+t) (N.getD t default)=pw l c (N.take (t+1)):=by
 refine gP (by simp[fd]) (fun k hk=>?_);rw[fd]at hk;rw[KV (by rw[fd];exact hk),dN hk,dN hk,List.length_take,List.length_take];by_cases h:k=c+t
 ·subst h;rw[if_pos rfl,if_pos (by omega),Nat.add_sub_cancel_left,Gn (by omega)]
 ·rw[if_neg h];by_cases h2:c≤k∧k<c+t
  ·rw[if_pos (by omega),if_pos (by omega),Gn (by omega),Gn (by omega)]
  ·rw[if_neg (by omega),if_neg (by omega)]
theorem Rd{l:List α}{c t k:Nat}{N:List α}(h:c+t≤k)(hk:k<l.length):(pw l c (N.take t)).getD k default=l.getD k default:=by
 rw[dN hk,if_neg (by rw[List.length_take];omega)]
end
def dg(l w:List Int)(d:Int):List Int:=if d-sm l>0 then cK l (share (d-sm l) (de w)) else l
def Bd(l:List Int):Prop:=∀x∈l,0≤x∧x≤1048576
theorem Bd.at{l:List Int}(h:Bd l){k:Nat}(hk:k<l.length):0≤l.getD k default∧l.getD k default≤1048576:=by rw[cd hk];exact h _ (List.getElem_mem _)
theorem Bd.aO{l:List Int}(h:Bd l):∀w∈l,0≤w∧w≤2147483647:=fun w hw=>by have:=h w hw;omega
theorem Bd.mk{l:List Int}(h:∀k,k<l.length→0≤l.getD k default∧l.getD k default≤1048576):Bd l:=by
 intro x hx;obtain⟨k,hk,rfl⟩:=List.mem_iff_getElem.1 hx;have:=h k hk;rwa[cd hk]at this
theorem Bp(l w:List Int)(d:Int):(dg l w d).length=l.length:=by unfold dg;split;exact fG _ _;rfl
theorem Cj(A P:List Int):∀i,i≤A.length→i≤P.length→sm (bR i fun k=>A.getD k default+P.getD k default)=sm (A.take i)+sm (P.take i):=by
 intro i
 induction i with
 | zero=>intro _ _;rfl
 | succ i ih =>
  intro h1 h2;rw[ov,j7,ih (by omega) (by omega),Sh.lL (by omega),Sh.lL (by omega)];simp[sm];omega
theorem yy{A P:List Int}(h:A.length=P.length):sm (cK A P)=sm A+sm P:=by
 unfold cK;rw[Cj A P A.length (by omega) (by omega),List.take_length,h,List.take_length]
theorem tR:∀k:Nat,sm (List.replicate k 1)=k
 | 0=>rfl
 | k+1=>by simp only[List.replicate_succ,sm,tR k];omega
theorem JJ{W:List Int}(hW:∀w∈W,0≤w)(h:W≠[]):sm (de W)≠0:=by
 unfold de;split
 ·rename_i hp;obtain⟨x,hx,h2⟩:=List.any_eq_true.1 hp;have h3:=Sh.lT W hW x hx;have:x>0:=by simpa using h2
  omega
 ·rw[tR];have:=List.length_pos_iff.2 h;omega
theorem FO{l w:List Int}{d:Int}(hl:Bd l)(hw:Bd w)(he:l.length=w.length)(h0:0<l.length)(h1:l.length≤10000)(hd:d≤1048576):
  (∀k,k<l.length→l.getD k default≤(dg l w d).getD k default)∧d≤sm (dg l w d)∧Bd (dg l w d):=by
 unfold dg;have s0:=eg l (fun x hx=>(hl x hx).1);by_cases h:d-sm l>0
 ·rw[if_pos h];have hp:∀k,k<l.length→0≤(share (d-sm l) (de w)).getD k default:=fun k hk=>(l5 (T:=d-sm l) ⟨by omega,by omega⟩ (fun x hx=>(kx hw.aO x hx).1) k (by rw[iQ];omega)).1;have hs:sm (cK l (share (d-sm l) (de w)))=d:=by
   rw[yy (by rw[fN,iQ];exact he),Sh.m8 (fun x hx=>(kx hw.aO x hx).1) (JJ (fun x hx=>(hw x hx).1) (fun e=>by rw[e]at he;simp at he;rw[he]at h0;simp at h0)) (by rw[iQ];omega)];omega
  have hg:∀k,k<l.length→l.getD k default≤(cK l (share (d-sm l) (de w))).getD k default:=fun k hk=>by rw[jm hk];have:=hp k hk;omega
  have hn:∀x∈cK l (share (d-sm l) (de w)),0≤x:=by
   intro x hx;obtain⟨k,hk,rfl⟩:=List.mem_iff_getElem.1 hx;rw[←cd];rw[fG]at hk;have:=hg k hk;have:=hl.at hk;omega
  refine⟨hg,by omega,fun x hx=>⟨hn x hx,?_⟩⟩;have:=Sh.lT _ hn x hx;omega
 ·rw[if_neg h];exact⟨fun k _=>Int.le_refl _,by omega,hl⟩
theorem N9{l:List Int}(h:l.length=1):l=[l.getD 0 default]:=by
 match l,h with
 | [x],_=>rfl
theorem PG{x y d:Int}(hx:0≤x∧x≤1048576)(hy:0≤y∧y≤1048576)(hd:d≤1048576):dg [x] [y] d=[max x d]:=by
 have e:=N9 (l:=dg [x] [y] d) (by rw[Bp];rfl);rw[e];unfold dg;rw[show sm [x]=x by simp[sm]];by_cases h:d-x>0
 ·rw[if_pos h,jm (by simp)];have hw:Bd [y]:=fun z hz=>by simp at hz;subst hz;exact hy
  have hs:=Sh.m8 (T:=d-x) (W:=de [y]) (fun z hz=>(kx hw.aO z hz).1) (JJ (fun z hz=>(hw z hz).1) (by simp)) (by rw[iQ];simp);have hl:=N9 (l:=share (d-x) (de [y])) (by rw[fN,iQ];rfl);rw[hl]at hs;simp only[sm]at hs;have hs':(share (d-x) (de [y])).getD 0 default=d-x:=by omega
  rw[hs'];show [x+(d-x)]=_;congr 1;omega
 ·rw[if_neg h];show [x]=_;congr 1;omega
def bg(C:List aq):List Int:=C.map (·.Least)
def bv(C:List aq):List Int:=C.map (·.Most)
theorem gX(C:List aq):(bg C).length=C.length:=by simp[bg]
theorem g7(C:List aq):(bv C).length=C.length:=by simp[bv]
theorem oa{C:List aq}{k:Nat}(h:k<C.length):(bg C).getD k default=(C.getD k default).Least:=eU h
theorem ow{C:List aq}{k:Nat}(h:k<C.length):(bv C).getD k default=(C.getD k default).Most:=eU h
def gY(a b:List Int):List aq:=bR a.length fun k=>⟨a.getD k default,b.getD k default⟩
theorem ot(a b:List Int):(gY a b).length=a.length:=eI _ _
theorem Gj{a b:List Int}{k:Nat}(h:k<a.length):(gY a b).getD k default=⟨a.getD k default,b.getD k default⟩:=hH h
def dA(L:List ah)(W C:List aq)(i:Int):List Int:=dg (bz (bg C) (aG L i).Col.toNat (aG L i).Cols.toNat) (bz (bv C) (aG L i).Col.toNat (aG L i).Cols.toNat) (sz (W.getD i.toNat default).Least)
def dB(L:List ah)(W C:List aq)(i:Int):List Int:=dg (bz (bv C) (aG L i).Col.toNat (aG L i).Cols.toNat) (dA L W C i) (sz (W.getD i.toNat default).Most)
def dM(L:List ah)(W C:List aq)(i:Int):List aq:=pw C (aG L i).Col.toNat (gY (dA L W C i) (dB L W C i))
def qd(cols:Int)(p:ah):Bool:=decide (p.Col<cols)&&decide (p.Cols≤aa (cols-p.Col))
theorem abY(v:Int)(p:ah):yf K n p v=some (qd v p):=by
 unfold yf uT qd;by_cases h:p.Col<v
 ·rw[bp h];simp only[h,decide_true,Bool.true_and]
 ·rw[bo h];simp only[h,decide_false,Bool.false_and]
structure Vd(cols:Nat)(L:List ah)(W:List aq)(i:Int):Prop where
 i0:0≤i
 iL:i.toNat<L.length
 iW:i.toNat<W.length
 r0:0≤(aG L i).Col
 r1:1≤(aG L i).Cols
 r2:(aG L i).Col+(aG L i).Cols≤cols
theorem Kq{cols:Nat}{p:ah}(hr:cols≤10000)(h1:eb p=true)(h2:qd cols p=true):p.Col+p.Cols≤cols:=by
 have:=nY h1;unfold qd at h2;simp only[Bool.and_eq_true,decide_eq_true_eq]at h2;rw[cj (by omega) (by omega)]at h2;omega
theorem Vd.of{cols:Nat}{L:List ah}{W:List aq}(hr:cols≤10000){i:Int}(h:i∈val L (qd cols) W.length):Vd cols L W i:=by
 obtain⟨h1,h2,h3,h4,h5⟩:=zJ h;have:=nY h4;exact⟨h1,h2,h3,by omega,by omega,Kq hr h4 h5⟩
structure fC(cols:Nat)(C:List aq):Prop where
 len:C.length=cols
 l:Bd (bg C)
 m:Bd (bv C)
theorem mw{l:List Int}(h:Bd l){c s:Nat}(hc:c+s≤l.length):Bd (bz l c s):=Bd.mk fun k hk=>by
 rw[dk]at hk;rw[iZ hk];exact h.at (by omega)
theorem Sg(C:List aq)(c:Nat)(N:List aq):bg (pw C c N)=pw (bg C) c (bg N):=by
 refine gP (by rw[gX,fd,fd,gX]) (fun k hk=>?_);rw[fd,gX]at hk;rw[oa (by rw[fd];exact hk),dN hk,dN (by rw[gX];exact hk),gX];split
 ·rename_i h;rw[oa (by omega)]
 ·rw[oa hk]
theorem aa5(C:List aq)(c:Nat)(N:List aq):bv (pw C c N)=pw (bv C) c (bv N):=by
 refine gP (by rw[g7,fd,fd,g7]) (fun k hk=>?_);rw[fd,g7]at hk;rw[ow (by rw[fd];exact hk),dN hk,dN (by rw[g7];exact hk),g7];split
 ·rename_i h;rw[ow (by omega)]
 ·rw[ow hk]
theorem acl(a b:List Int):bg (gY a b)=a:=gP (by rw[gX,ot]) (fun k hk=>by rw[oa (by rw[ot];exact hk),Gj hk])
theorem Sr{a b:List Int}(h:a.length=b.length):bv (gY a b)=b:=gP (by rw[g7,ot,h]) (fun k hk=>by rw[ow (by rw[ot,h];exact hk),Gj (by omega)])
theorem zf(L:List ah)(W C:List aq)(i:Int):(dA L W C i).length=(aG L i).Cols.toNat:=by unfold dA;rw[Bp,dk]
theorem I9(L:List ah)(W C:List aq)(i:Int):(dB L W C i).length=(aG L i).Cols.toNat:=by unfold dB;rw[Bp,dk]
theorem vM(L:List ah)(W C:List aq)(i:Int):bg (dM L W C i)=pw (bg C) (aG L i).Col.toNat (dA L W C i):=by unfold dM;rw[Sg,acl]
theorem yo(L:List ah)(W C:List aq)(i:Int):bv (dM L W C i)=pw (bv C) (aG L i).Col.toNat (dB L W C i):=by unfold dM;rw[aa5,Sr (by rw[zf,I9])]
theorem Zg(L:List ah)(W C:List aq)(i:Int):(dM L W C i).length=C.length:=fd _ _ _
theorem Eu{cols:Nat}{L:List ah}{W C:List aq}{i:Int}(hr:cols≤10000)(h:Vd cols L W i)(hC:fC cols C):
  (∀k,k<(aG L i).Cols.toNat→(bg C).getD ((aG L i).Col.toNat+k) default≤(dA L W C i).getD k default)∧sz (W.getD i.toNat default).Least≤sm (dA L W C i)∧Bd (dA L W C i):=by
 have r0:=h.r0;have r1:=h.r1;have r2:=h.r2;have b1:=mw hC.l (c:=(aG L i).Col.toNat) (s:=(aG L i).Cols.toNat) (by rw[gX,hC.len];omega);have b2:=mw hC.m (c:=(aG L i).Col.toNat) (s:=(aG L i).Cols.toNat) (by rw[g7,hC.len];omega);obtain⟨h1,h2,h3⟩:=FO (d:=sz (W.getD i.toNat default).Least) b1 b2 (by rw[dk,dk]) (by rw[dk];omega) (by rw[dk];omega) (fO _).2;refine⟨fun k hk=>?_,h2,h3⟩;have:=h1 k (by rw[dk];exact hk);rwa[iZ hk]at this
theorem Z0{cols:Nat}{L:List ah}{W C:List aq}{i:Int}(hr:cols≤10000)(h:Vd cols L W i)(hC:fC cols C):
  (∀k,k<(aG L i).Cols.toNat→(bv C).getD ((aG L i).Col.toNat+k) default≤(dB L W C i).getD k default)∧sz (W.getD i.toNat default).Most≤sm (dB L W C i)∧Bd (dB L W C i):=by
 have r0:=h.r0;have r1:=h.r1;have r2:=h.r2;have b2:=mw hC.m (c:=(aG L i).Col.toNat) (s:=(aG L i).Cols.toNat) (by rw[g7,hC.len];omega);obtain⟨h1,h2,h3⟩:=FO (d:=sz (W.getD i.toNat default).Most) b2 (Eu hr h hC).2.2 (by rw[dk,zf]) (by rw[dk];omega) (by rw[dk];omega) (fO _).2;refine⟨fun k hk=>?_,h2,h3⟩;have:=h1 k (by rw[dk];exact hk);rwa[iZ hk]at this
theorem Et{l N:List Int}{c:Nat}(hl:Bd l)(hN:Bd N):Bd (pw l c N):=Bd.mk fun k hk=>by
 rw[fd]at hk;rw[dN hk];split
 ·exact hN.at (by omega)
 ·exact hl.at hk
theorem Og{l N:List Int}{c:Nat}(hc:c+N.length≤l.length)(h:∀k,k<N.length→l.getD (c+k) default≤N.getD k default)(k:Nat):l.getD k default≤(pw l c N).getD k default:=by
 by_cases hk:k<l.length
 ·rw[dN hk];split
  ·have:=h (k-c) (by omega);rwa[show c+(k-c)=k by omega]at this
  ·exact Int.le_refl _
 ·have e1:l.getD k default=default:=by rw[List.getD_eq_getElem?_getD,List.getElem?_eq_none (by omega)];rfl
  have e2:(pw l c N).getD k default=default:=by rw[List.getD_eq_getElem?_getD,List.getElem?_eq_none (by rw[fd];omega)];rfl
  rw[e1,e2];exact Int.le_refl _
theorem Pq{l N:List Int}{c:Nat}(hc:c+N.length≤l.length):cJ (pw l c N) c N.length=sm N:=by
 rw[←vP];congr 1;refine gP (dk _ _ _) (fun k hk=>?_);rw[iZ hk,dN (by omega),if_pos (by omega),Nat.add_sub_cancel_left]
theorem yR{cols:Nat}{L:List ah}{W C:List aq}{i:Int}(hr:cols≤10000)(h:Vd cols L W i)(hC:fC cols C):
  fC cols (dM L W C i)∧(∀k,(bg C).getD k default≤(bg (dM L W C i)).getD k default)∧(∀k,(bv C).getD k default≤(bv (dM L W C i)).getD k default) ∧
  sz (W.getD i.toNat default).Least≤cJ (bg (dM L W C i)) (aG L i).Col.toNat (aG L i).Cols.toNat∧sz (W.getD i.toNat default).Most≤cJ (bv (dM L W C i)) (aG L i).Col.toNat (aG L i).Cols.toNat:=by
 have r0:=h.r0;have r1:=h.r1;have r2:=h.r2;obtain⟨a1,a2,a3⟩:=Eu hr h hC;obtain⟨b1,b2,b3⟩:=Z0 hr h hC;have hla:=zf L W C i;have hlb:=I9 L W C i;have ca:(aG L i).Col.toNat+(dA L W C i).length≤(bg C).length:=by rw[hla,gX,hC.len];omega
 have cb:(aG L i).Col.toNat+(dB L W C i).length≤(bv C).length:=by rw[hlb,g7,hC.len];omega
 rw[vM,yo];refine⟨⟨by rw[Zg,hC.len],?_,?_⟩,Og ca (fun k hk=>a1 k (by omega)),Og cb (fun k hk=>b1 k (by omega)),?_,?_⟩
 ·rw[vM];exact Et hC.l a3
 ·rw[yo];exact Et hC.m b3
 ·rw[←hla,Pq ca];exact a2
 ·rw[←hlb,Pq cb];exact b2
theorem En{cols:Nat}{L:List ah}{W:List aq}(hr:cols≤10000):∀(d:List Int) (C:List aq),(∀i∈d,Vd cols L W i)→fC cols C →
  fC cols (d.foldl (dM L W) C)∧(∀k,(bg C).getD k default≤(bg (d.foldl (dM L W) C)).getD k default)∧(∀k,(bv C).getD k default≤(bv (d.foldl (dM L W) C)).getD k default) ∧
  ∀i∈d,sz (W.getD i.toNat default).Least≤cJ (bg (d.foldl (dM L W) C)) (aG L i).Col.toNat (aG L i).Cols.toNat∧sz (W.getD i.toNat default).Most≤cJ (bv (d.foldl (dM L W) C)) (aG L i).Col.toNat (aG L i).Cols.toNat
 | [],C,_,hC=>⟨hC,fun k=>Int.le_refl _,fun k=>Int.le_refl _,fun i hi=>by cases hi⟩
 | i::d,C,hd,hC=>by
  obtain⟨h1,h2,h3,h4,h5⟩:=yR hr (hd i (by simp)) hC;obtain⟨k1,k2,k3,k4⟩:=En hr d _ (fun j hj=>hd j (by simp[hj])) h1;refine⟨k1,fun k=>Int.le_trans (h2 k) (k2 k),fun k=>Int.le_trans (h3 k) (k3 k),fun j hj=>?_⟩;rcases List.mem_cons.1 hj with e|hj
  ·subst e;exact⟨Int.le_trans h4 (y0 k2 _ _),Int.le_trans h5 (y0 k3 _ _)⟩
  ·exact k4 j hj
end Go.Proofs.YtolhpahjgddjkaaGreat.Tb
namespace Go.Proofs.YtolhpahjgddjkaaGreat.Tb
set_option linter.all false
open Go.RowKit
open Sh (idx gS jh le kh eg gu share aO cO mx fN)
open QSort (wn aH bp bo sb R)
set_option maxRecDepth 20000
variable{K:Kn}{n:Nat}
theorem Hx{lvl n:Nat}{T:Int}{w:List Int}(hT:0<T∧T≤1048576)(hw:Bd w)(hl:w.length≤10000)(hn:10001<n)(hlv:20010≤lvl):mZ (KN lvl) n T w=some (share T (de w)):=by
 rw[Iv T w hl hn hlv,A9 (kx hw.aO)];congr 2;unfold cO mx;omega
theorem Df{l w:List Int}{T:Int}(hl:Bd l)(hw:Bd w)(he:l.length=w.length)(hT:0<T∧T≤1048576):∀k,k<l.length → -4611686018427387904≤l.getD k default+(share T (de w)).getD k default∧l.getD k default+(share T (de w)).getD k default≤4611686018427387904:=fun k hk=>by
 have h1:=hl.at hk;have h2:=l5 (T:=T) ⟨by omega,hT.2⟩ (fun x hx=>(kx hw.aO x hx).1) k (by rw[iQ];omega);omega
section
variable(L:List ah)(W:List aq)(d:List Int)(v33:Int)(C:List aq)(L1:Int→List aq→Option (List aq))
theorem abd(p:ah)(a b:List Int)(c s:Nat)(hc:p.Col=c)(hs:p.Cols=s)(ha:a.length=s)(hb:b.length=s)(hC:c+s≤C.length)(hr:C.length≤10000):∀(m t:Nat),t≤s→s<m+t →
  rL K n L W d v33 p a b L1 m (s:Int) (t:Int) (pw C c ((gY a b).take t))=L1 (aa (v33+1)) (pw C c (gY a b)):=by
 intro m
 induction m with
 | zero=>intro t h1 h2;omega
 | succ m ih =>
  intro t h1 h2;simp only[rL,vj,hc,hs,ci];rw[wn (n:=(c:Int)+(s:Int)) (k:=c+s) (by omega) (by omega),ci,Nat.add_sub_cancel_left];by_cases ht:t<s
  ·rw[bp (by omega),aH (by omega),aH (by omega),aH (by omega),show decide (c+t<(pw C c ((gY a b).take t)).length)=true from decide_eq_true (by rw[fd];omega),bS];rw[show(⟨a.getD t default,b.getD t default⟩:aq)=(gY a b).getD t default by rw[Gj (by omega)],KR (by rw[ot];omega) (by rw[ot];omega),wn (n:=(t:Int)+1) (k:=t+1) (by omega) (by omega)];exact ih (t+1) (by omega) (by omega)
  ·obtain rfl:t=s:=by omega
   rw[bo (by omega),List.take_of_length_le (by rw[ot];omega)];rfl
theorem Pc(p:ah)(a b:List Int)(c s:Nat)(hc:p.Col=c)(hs:p.Cols=s)(ha:a.length=s)(hb:b.length=s)(hC:c+s≤C.length)(hr:C.length≤10000)(hn:10001<n):ph K n L W d v33 C p a L1 b=L1 (aa (v33+1)) (pw C c (gY a b)):=by
 unfold ph;simp only[hc,hs,ci];rw[wn (n:=(c:Int)+(s:Int)) (k:=c+s) (by omega) (by omega),ci,Nat.add_sub_cancel_left];have:=abd (K:=K) (n:=n) L W d v33 C L1 p a b c s hc hs ha hb hC hr n 0 (by omega) (by omega);rw[Jo]at this;exact this
theorem acx(p:ah)(a P b:List Int)(hP:b.length=P.length)(hl:b.length≤10000)(hb:∀k,k<b.length → -4611686018427387904≤b.getD k default+P.getD k default∧b.getD k default+P.getD k default≤4611686018427387904):∀(m i:Nat),i≤b.length→b.length<m+i →
  pG K n L W d v33 C p a P L1 m (i:Int) (mix i (cK b P) b)=ph K n L W d v33 C p a L1 (cK b P):=by
 intro m
 induction m with
 | zero=>intro i h1 h2;omega
 | succ m ih =>
  intro i h1 h2;simp only[pG,xy];have hm:=gm (i:=i) (fG b P);by_cases hi:i<b.length
  ·rw[bp (by omega),aH (by omega),hm,aH (by omega),aH (by omega)];simp only[ci];have:=hb i hi;rw[n8 (fG b P) hi,show aa (b.getD i default+P.getD i default)=(cK b P).getD i default by rw[jm hi];exact cj (by omega) (by omega),i7 (fG b P) hi,wn (n:=(i:Int)+1) (k:=i+1) (by omega) (by omega)];exact ih (i+1) (by omega) (by omega)
  ·obtain rfl:i=b.length:=by omega
   rw[bo (by omega),kJ (fG b P)]
theorem aaV(p:ah)(v43 v44:Int)(v46 P b:List Int)(hP:b.length=P.length)(hl:b.length≤10000)(hb:∀k,k<b.length → -4611686018427387904≤b.getD k default+P.getD k default∧b.getD k default+P.getD k default≤4611686018427387904):∀(m i:Nat),i≤b.length→b.length<m+i →
  qk K n L W d v33 C p v43 v44 v46 P L1 m (i:Int) (mix i (cK b P) b)=ng K n L W d v33 C p v43 v44 v46 L1 (cK b P):=by
 intro m
 induction m with
 | zero=>intro i h1 h2;omega
 | succ m ih =>
  intro i h1 h2;simp only[qk,vx];have hm:=gm (i:=i) (fG b P);by_cases hi:i<b.length
  ·rw[bp (by omega),aH (by omega),hm,aH (by omega),aH (by omega)];simp only[ci];have:=hb i hi;rw[n8 (fG b P) hi,show aa (b.getD i default+P.getD i default)=(cK b P).getD i default by rw[jm hi];exact cj (by omega) (by omega),i7 (fG b P) hi,wn (n:=(i:Int)+1) (k:=i+1) (by omega) (by omega)];exact ih (i+1) (by omega) (by omega)
  ·obtain rfl:i=b.length:=by omega
   rw[bo (by omega),kJ (fG b P)]
theorem TP{lvl n:Nat}(p:ah)(v43 dm:Int)(a b:List Int)(c s:Nat)(hc:p.Col=c)(hs:p.Cols=s)(s1:1≤s)(ha:a.length=s)(hb:b.length=s)(ba:Bd a)(bb:Bd b)(hdm:dm≤1048576)(hC:c+s≤C.length)(hr:C.length≤10000)(hn:10001<n)(hlv:20010≤lvl):
  ng (KN lvl) n L W d v33 C p v43 (dm-sm b) b L1 a=L1 (aa (v33+1)) (pw C c (gY a (dg b a dm))):=by
 unfold ng dg;have s0:=eg b (fun x hx=>(bb x hx).1);by_cases h:dm-sm b>0
 ·rw[bp h,if_pos h,Hx ⟨by omega,by omega⟩ ba (by omega) hn hlv,sb];have hp:b.length=(share (dm-sm b) (de a)).length:=by rw[fN,iQ];omega
  have:=acx (K:=KN lvl) (n:=n) L W d v33 C L1 p a (share (dm-sm b) (de a)) b hp (by omega) (Df bb ba (by omega) ⟨by omega,by omega⟩) n 0 (by omega) (by omega);rw[kP,show((0:Nat):Int)=0 from rfl]at this;rw[this];exact Pc L W d v33 C L1 p a _ c s hc hs ha (by rw[fG];omega) hC hr hn
 ·rw[bo h,if_neg h];exact Pc L W d v33 C L1 p a _ c s hc hs ha hb hC hr hn
theorem Qo{lvl n:Nat}(p:ah)(dl dm:Int)(c s:Nat)(hc:p.Col=c)(hs:p.Cols=s)(s1:1≤s)(bl:Bd (bg C))(bm:Bd (bv C))(hdl:dl≤1048576)(hdm:dm≤1048576)(hd0:0≤dl)(hd1:0≤dm)(hC:c+s≤C.length)(hr:C.length≤10000)(hn:10001<n)(hlv:20010≤lvl)(L2:Int→List aq→Option (List aq)):∀(m t:Nat),t≤s→s<m+t →
  pQ (KN lvl) n L W d v33 C p L1 m (s:Int) (t:Int) (dl-cJ (bg C) c t) (dm-cJ (bv C) c t) (mix t (bz (bg C) c s) (List.replicate s 0)) (mix t (bz (bv C) c s) (List.replicate s 0)) =
   L1 (aa (v33+1)) (pw C c (gY (dg (bz (bg C) c s) (bz (bv C) c s) dl) (dg (bz (bv C) c s) (dg (bz (bg C) c s) (bz (bv C) c s) dl) dm))):=by
 have zl:(List.replicate s (0:Int)).length=s:=by simp
 have e1:(bz (bg C) c s).length=(List.replicate s (0:Int)).length:=by rw[dk,zl]
 have e2:(bz (bv C) c s).length=(List.replicate s (0:Int)).length:=by rw[dk,zl]
 have ol:Ok 1048576 C.length (bg C):=⟨gX C,bl⟩;have om:Ok 1048576 C.length (bv C):=⟨g7 C,bm⟩;have wl:=mw bl (c:=c) (s:=s) (by rw[gX];exact hC);have wm:=mw bm (c:=c) (s:=s) (by rw[g7];exact hC);intro m
 induction m with
 | zero=>intro t h1 h2;omega
 | succ m ih =>
  intro t h1 h2;simp only[pQ,xK,hc,hs,ci];rw[wn (n:=(c:Int)+(s:Int)) (k:=c+s) (by omega) (by omega),ci,Nat.add_sub_cancel_left];have m1:=gm (i:=t) e1;have m2:=gm (i:=t) e2;rw[zl]at m1 m2;by_cases ht:t<s
  ·have ht':t<(List.replicate s (0:Int)).length:=by omega
   have b1:=sg ol (a:=c) t (by omega);have b2:=sg om (a:=c) t (by omega);have b3:=ol.at (k:=c+t) (by omega);have b4:=om.at (k:=c+t) (by omega);have hbb:(t:Int)*1048576≤10000*1048576:=Int.mul_le_mul_of_nonneg_right (by omega) (by omega);rw[bp (by omega),aH (by omega),show decide (c+t<C.length)=true from decide_eq_true (by omega),bS,sb,m1,aH (by omega),m2,aH (by omega)];rw[←oa (show c+t<C.length by omega),← ow (show c+t<C.length by omega)];rw[←iZ (l:=bg C) (c:=c) ht,← iZ (l:=bv C) (c:=c) ht,i7 e1 ht',i7 e2 ht',iZ ht,iZ ht];rw[cj (n:=dl-cJ (bg C) c t-(bg C).getD (c+t) default) (by omega) (by omega),cj (n:=dm-cJ (bv C) c t-(bv C).getD (c+t) default) (by omega) (by omega)];rw[show dl-cJ (bg C) c t-(bg C).getD (c+t) default=dl-cJ (bg C) c (t+1) by simp only[cJ];omega,show dm-cJ (bv C) c t-(bv C).getD (c+t) default=dm-cJ (bv C) c (t+1) by simp only[cJ];omega,wn (n:=(t:Int)+1) (k:=t+1) (by omega) (by omega)]
   exact ih (t+1) (by omega) (by omega)
  ·obtain rfl:t=s:=by omega
   have f1:=kJ e1;have f2:=kJ e2;rw[zl]at f1 f2;rw[bo (by omega),f1,f2,← vP,← vP];have s0:=eg _ (fun x hx=>(wl x hx).1);have hj:∀a:List Int,a.length=t→Bd a→ng (KN lvl) n L W d v33 C p (dl-sm (bz (bg C) c t)) (dm-sm (bz (bv C) c t)) (bz (bv C) c t) L1 a=L1 (aa (v33+1)) (pw C c (gY a (dg (bz (bv C) c t) a dm))):=fun a ha ba =>
    TP L W d v33 C L1 p _ dm a _ c t hc hs s1 ha (dk _ _ _) ba wm hdm hC hr hn hlv
   have hnw:=FO (l:=bz (bg C) c t) (w:=bz (bv C) c t) (d:=dl) wl wm (by rw[dk,dk]) (by rw[dk];omega) (by rw[dk];omega) hdl;have hnl:=Bp (bz (bg C) c t) (bz (bv C) c t) dl;by_cases h:dl-sm (bz (bg C) c t)>0
   ·have en:dg (bz (bg C) c t) (bz (bv C) c t) dl=cK (bz (bg C) c t) (share (dl-sm (bz (bg C) c t)) (de (bz (bv C) c t))):=by unfold dg;rw[if_pos h]
    rw[bp h,Hx ⟨by omega,by omega⟩ wm (by rw[dk];omega) hn hlv,sb];have hp:(bz (bg C) c t).length=(share (dl-sm (bz (bg C) c t)) (de (bz (bv C) c t))).length:=by rw[fN,iQ,dk,dk]
    have:=aaV (K:=KN lvl) (n:=n) L W d v33 C L1 p (dl-sm (bz (bg C) c t)) (dm-sm (bz (bv C) c t)) (bz (bv C) c t) _ (bz (bg C) c t) hp (by rw[dk];omega) (Df wl wm (by rw[dk,dk]) ⟨by omega,by omega⟩) n 0 (by omega) (by rw[dk];omega);rw[kP,show((0:Nat):Int)=0 from rfl,← en]at this;rw[this];exact hj _ (by rw[hnl,dk]) hnw.2.2
   ·have en:dg (bz (bg C) c t) (bz (bv C) c t) dl=bz (bg C) c t:=by unfold dg;rw[if_neg h]
    rw[bo h,en];exact hj _ (dk _ _ _) wl
end
theorem FY{α:Type}[Inhabited α]{l N:List α}{c:Nat}{x:α}(hN:N=[x])(hc:c<l.length):pw l c N=List.set l c x:=by
 subst hN;refine gP (by rw[fd,List.length_set]) (fun k hk=>?_);rw[List.length_set]at hk;rw[dN hk,KV hk];by_cases h:k=c
 ·subst h;rw[if_pos rfl,if_pos (by simp),Nat.sub_self];rfl
 ·rw[if_neg h,if_neg (by simp;omega)]
theorem M6{cols:Nat}{L:List ah}{W C:List aq}{i:Int}(h:Vd cols L W i)(hC:fC cols C)(h1:(aG L i).Cols=1):dA L W C i=[max ((bg C).getD (aG L i).Col.toNat default) (sz (W.getD i.toNat default).Least)]∧dB L W C i=[max ((bv C).getD (aG L i).Col.toNat default) (sz (W.getD i.toNat default).Most)]:=by
 have r0:=h.r0;have r2:=h.r2;have b1:=hC.l.at (k:=(aG L i).Col.toNat) (by rw[gX,hC.len];omega);have b2:=hC.m.at (k:=(aG L i).Col.toNat) (by rw[g7,hC.len];omega);have z1:=fO (W.getD i.toNat default).Least;have z2:=fO (W.getD i.toNat default).Most;have ea:dA L W C i=[max ((bg C).getD (aG L i).Col.toNat default) (sz (W.getD i.toNat default).Least)]:=by
  unfold dA;rw[h1];show dg [_] [_] _=_;exact PG (by simpa using b1) (by simpa using b2) z1.2
 refine⟨ea,?_⟩;unfold dB;rw[ea,h1];show dg [_] [_] _=_;exact PG (by simpa using b2) (by omega) z2.2
theorem Sk{cols:Nat}{L:List ah}{W C:List aq}{i:Int}(h:Vd cols L W i)(hC:fC cols C)(h1:(aG L i).Cols=1):
  dM L W C i=List.set C (aG L i).Col.toNat ⟨max (C.getD (aG L i).Col.toNat default).Least (sz (W.getD i.toNat default).Least),max (C.getD (aG L i).Col.toNat default).Most (sz (W.getD i.toNat default).Most)⟩:=by
 obtain⟨e1,e2⟩:=M6 h hC h1;have r0:=h.r0;have r2:=h.r2;have hk:(aG L i).Col.toNat<C.length:=by rw[hC.len];omega
 unfold dM;rw[oa hk]at e1;rw[ow hk]at e2;rw[e1,e2];exact FY rfl hk
def fin(c:aq):aq:=⟨c.Least,max c.Most c.Least⟩
theorem Rl(C:List aq)(hl:C.length≤10000):∀(m i:Nat),i≤C.length→C.length<m+i→sV K n C m (i:Int) (mix i (C.map fin) C)=some (C.map fin):=by
 have e:(C.map fin).length=C.length:=by simp
 intro m
 induction m with
 | zero=>intro i h1 h2;omega
 | succ m ih =>
  intro i h1 h2;simp only[sV,wF];by_cases hi:i<C.length
  ·rw[bp (by omega),gm e,aH (by omega),aH (by omega),aH (by omega)];simp only[ci];rw[n8 e hi];have:=i7 e hi;rw[show(C.map fin).getD i default=fin (C.getD i default) by simp[List.getD_eq_getElem?_getD,hi]]at this;rw[show({ C.getD i default with Most:=max (C.getD i default).Most (C.getD i default).Least }:aq)=fin (C.getD i default) from rfl,this,wn (n:=(i:Int)+1) (k:=i+1) (by omega) (by omega)];exact ih (i+1) (by omega) (by omega)
  ·obtain rfl:i=C.length:=by omega
   rw[bo (by omega),kJ e]
theorem V3{lvl n:Nat}{cols:Nat}{L:List ah}{W:List aq}{d:List Int}(hr:cols≤10000)(hn:10001<n)(hlv:20010≤lvl)(hd:∀i∈d,Vd cols L W i)(hl:d.length≤10000):∀(m t:Nat) (C:List aq),t≤d.length→d.length<m+t→fC cols C →
  nT (KN lvl) n L W d m (t:Int) C=some (((d.drop t).foldl (dM L W) C).map fin):=by
 intro m
 induction m with
 | zero=>intro t C h1 h2;omega
 | succ m ih =>
  intro t C h1 h2 hC;simp only[nT,vc];by_cases ht:t<d.length
  ·have hi:d.getD t default∈d:=by rw[cd ht];exact List.getElem_mem _
   have hv:=hd _ hi;have ed:d.drop t=d.getD t default::d.drop (t+1):=by rw[List.drop_eq_getElem_cons ht,cd ht]
   rw[bp (by omega),aH (by omega)];simp only[ci];rw[ed,List.foldl_cons];generalize d.getD t default=i at *;have i0:=hv.i0;have iL:=hv.iL;have iW:=hv.iW;have r0:=hv.r0;have r1:=hv.r1;have r2:=hv.r2;have hs:=(yR hr hv hC).1;have hnext:=ih (t+1) (dM L W C i) (by omega) (by omega) hs;have hlen:=hC.len;rw[aH (by omega),aH (by omega),nF,sb,aH (by omega),nF,sb,sb,show List.getD L i.toNat default=aG L i from rfl];rw[wn (n:=(aG L i).Col+(aG L i).Cols) (k:=(aG L i).Col.toNat+(aG L i).Cols.toNat) (by omega) (by omega),Sh.mf (by omega) (by omega) (by omega),bS];simp only[ci,Int.toNat_zero,Nat.add_zero,Nat.add_sub_cancel_left];by_cases h1s:(aG L i).Cols=1
   ·rw[show((aG L i).Cols == 1)=true by rw[h1s];rfl,if_pos rfl];have:(aG L i).Cols.toNat=1:=by omega
    rw[this,aH (by omega),show decide ((aG L i).Col.toNat<C.length)=true from decide_eq_true (by omega),bS,aH (by omega),aH (by omega)];unfold vZ;rw[←Sk hv hC h1s,wn (n:=(t:Int)+1) (k:=t+1) (by omega) (by omega)];exact hnext
   ·have:((aG L i).Cols == 1)=false:=by rw[beq_eq_false_iff_ne];exact h1s
    rw[this,if_neg (by decide)];obtain⟨c,ec⟩:∃c:Nat,(aG L i).Col=c:=⟨(aG L i).Col.toNat,by omega⟩;obtain⟨s,es⟩:∃s:Nat,(aG L i).Cols=s:=⟨(aG L i).Cols.toNat,by omega⟩;have z1:=fO (W.getD i.toNat default).Least;have z2:=fO (W.getD i.toNat default).Most;have h1:=Qo (lvl:=lvl) (n:=n) L W d (t:Int) C (nT (KN lvl) n L W d m) (aG L i) (sz (W.getD i.toNat default).Least) (sz (W.getD i.toNat default).Most) c s ec es (by omega) hC.l hC.m z1.2 z2.2 z1.1 z2.1 (by omega) (by omega) hn hlv (fun _ _=>none) n 0 (by omega) (by omega);simp only[cJ,Int.sub_zero,kP]at h1;have ts:(aG L i).Cols.toNat=s:=by omega
    have tc:(aG L i).Col.toNat=c:=by omega
    have eD:dM L W C i=pw C c (gY (dg (bz (bg C) c s) (bz (bv C) c s) (sz (W.getD i.toNat default).Least)) (dg (bz (bv C) c s) (dg (bz (bg C) c s) (bz (bv C) c s) (sz (W.getD i.toNat default).Least)) (sz (W.getD i.toNat default).Most))):=by
     unfold dM dB dA;rw[ts,tc]
    rw[ts,es,Sh.lV (by omega) (by omega),bS,bS];rw[show((0:Nat):Int)=0 from rfl]at h1;rw[h1,wn (n:=(t:Int)+1) (k:=t+1) (by omega) (by omega),← eD];exact hnext
  ·obtain rfl:t=d.length:=by omega
   rw[bo (by omega),List.drop_length];have:=Rl (K:=KN lvl) (n:=n) C (by rw[hC.len];omega) n 0 (by omega) (by have:=hC.len;omega);rw[kP]at this;exact this
def jV(L:List ah)(W:List aq)(cols:Nat):List aq:=(fW (fun i=>(aG L i).Cols) (val L (qd cols) W.length) cols).foldl (dM L W) (List.replicate cols iM)
theorem Kl{x:Int}(hx:0≤x∧x≤1048576)(k:Nat):Bd (List.replicate k x):=fun y hy=>by have:=(List.mem_replicate.1 hy).2;omega
theorem fC.rep(cols:Nat):fC cols (List.replicate cols iM):=⟨by simp,by unfold bg;rw[List.map_replicate];exact Kl (by decide) _,by unfold bv;rw[List.map_replicate];exact Kl (by decide) _⟩
theorem Iz{lvl n:Nat}(L:List ah)(W:List aq)(cols:Int)(hr:cols≤10000)(hL:L.length≤10000)(hn:10001<n)(hlv:20020≤lvl):qj (KN lvl) n L W cols=some ((jV L W (max cols 0).toNat).map fin):=by
 unfold qj;obtain⟨r,er⟩:∃r:Nat,max cols 0=r:=⟨(max cols 0).toNat,by omega⟩;rw[er,Sh.lV (by omega) (by omega),bS,sb,ci];obtain⟨k,rfl⟩:∃k,lvl=k+1:=⟨lvl-1,by omega⟩;rw[Hi (lvl:=k+1) (f:=Fv.c77 (r:Int)) (s:=Fv.fn 78) (q:=qd r) (sp:=fun p=>p.Cols) (fun p=>abY (K:=KN k) (n:=k) (r:Int) p) (fun m p=>rfl) L W.length r hL hn hlv (fun p h1 h2=>by
  have:=nY h1;have:=Kq (by omega) h1 h2;omega),sb]
 have hd:∀i∈fW (fun i=>(aG L i).Cols) (val L (qd r) W.length) r,Vd r L W i:=fun i hi=>Vd.of (by omega) (l6 hi).1;have hlen:=Mj (key:=fun i=>(aG L i).Cols) (V:=val L (qd r) W.length) (fun v hv=>(Vd.of (by omega) hv).r1) r;exact V3 (lvl:=k+1) (n:=n) (cols:=r) (by omega) hn (by omega) hd (by have:=pA L (qd r) W.length;omega) n 0 _ (by omega) (by have:=pA L (qd r) W.length;omega) (fC.rep r)
end Go.Proofs.YtolhpahjgddjkaaGreat.Tb
namespace Go.Proofs.YtolhpahjgddjkaaGreat
set_option linter.all false
open Go.RowKit
def aV(l:ch):ch:=if l.Kind=2 then bJ else l
def cI(s:aE):aE:={ s with Width:=aV s.Width,MinWidth:=aV s.MinWidth,MaxWidth:=aV s.MaxWidth,Margin:=⟨aV s.Margin.a0,aV s.Margin.a1,aV s.Margin.a2,aV s.Margin.a3⟩,Padding:=⟨aV s.Padding.a0,aV s.Padding.a1,aV s.Padding.a2,aV s.Padding.a3⟩ }
section
variable(K:Kn)(n:Nat)
theorem fj{α:Type}(l:ch)(f:ch→α)(y:α)(hy:y=f l):(if (l.Kind == 2)=true then f bJ else y)=f (aV l):=by
 unfold aV;by_cases h:l.Kind=2
 ·simp[h]
 ·simp[h,hy]
theorem Pj(s:aE):sD K n s=some (cI s):=by
 unfold sD;refine (fj s.Width (fun l=>qZ K n { s with Width:=l }) _ rfl).trans ?_;unfold qZ;refine (fj s.MinWidth (fun l=>rZ K n { s with Width:=aV s.Width,MinWidth:=l }) _ rfl).trans ?_;unfold rZ;refine (fj s.MaxWidth (fun l=>sv K n { s with Width:=aV s.Width,MinWidth:=aV s.MinWidth,MaxWidth:=l }) _ rfl).trans ?_;unfold sv;refine (fj s.Margin.a0 (fun l=>s8 K n { s with Width:=aV s.Width,MinWidth:=aV s.MinWidth,MaxWidth:=aV s.MaxWidth,Margin:=⟨l,s.Margin.a1,s.Margin.a2,s.Margin.a3⟩ }) _ rfl).trans ?_;unfold s8;refine (fj s.Padding.a0 (fun l=>td K n { s with Width:=aV s.Width,MinWidth:=aV s.MinWidth,MaxWidth:=aV s.MaxWidth,Margin:=⟨aV s.Margin.a0,s.Margin.a1,s.Margin.a2,s.Margin.a3⟩,Padding:=⟨l,s.Padding.a1,s.Padding.a2,s.Padding.a3⟩ }) _ rfl).trans ?_;unfold td;refine (fj s.Margin.a1 (fun l=>tp K n { s with Width:=aV s.Width,MinWidth:=aV s.MinWidth,MaxWidth:=aV s.MaxWidth,Margin:=⟨aV s.Margin.a0,l,s.Margin.a2,s.Margin.a3⟩,Padding:=⟨aV s.Padding.a0,s.Padding.a1,s.Padding.a2,s.Padding.a3⟩ }) _ rfl).trans ?_
 unfold tp;refine (fj s.Padding.a1 (fun l=>rq K n { s with Width:=aV s.Width,MinWidth:=aV s.MinWidth,MaxWidth:=aV s.MaxWidth,Margin:=⟨aV s.Margin.a0,aV s.Margin.a1,s.Margin.a2,s.Margin.a3⟩,Padding:=⟨aV s.Padding.a0,l,s.Padding.a2,s.Padding.a3⟩ }) _ rfl).trans ?_;unfold rq;refine (fj s.Margin.a2 (fun l=>sU K n { s with Width:=aV s.Width,MinWidth:=aV s.MinWidth,MaxWidth:=aV s.MaxWidth,Margin:=⟨aV s.Margin.a0,aV s.Margin.a1,l,s.Margin.a3⟩,Padding:=⟨aV s.Padding.a0,aV s.Padding.a1,s.Padding.a2,s.Padding.a3⟩ }) _ rfl).trans ?_;unfold sU;refine (fj s.Padding.a2 (fun l=>qS K n { s with Width:=aV s.Width,MinWidth:=aV s.MinWidth,MaxWidth:=aV s.MaxWidth,Margin:=⟨aV s.Margin.a0,aV s.Margin.a1,aV s.Margin.a2,s.Margin.a3⟩,Padding:=⟨aV s.Padding.a0,aV s.Padding.a1,l,s.Padding.a3⟩ }) _ rfl).trans ?_;unfold qS;refine (fj s.Margin.a3 (fun l=>qC K n { s with Width:=aV s.Width,MinWidth:=aV s.MinWidth,MaxWidth:=aV s.MaxWidth,Margin:=⟨aV s.Margin.a0,aV s.Margin.a1,aV s.Margin.a2,l⟩,Padding:=⟨aV s.Padding.a0,aV s.Padding.a1,aV s.Padding.a2,s.Padding.a3⟩ }) _ rfl).trans ?_
 unfold qC;refine (fj s.Padding.a3 (fun l=>wX K n { s with Width:=aV s.Width,MinWidth:=aV s.MinWidth,MaxWidth:=aV s.MaxWidth,Margin:=⟨aV s.Margin.a0,aV s.Margin.a1,aV s.Margin.a2,aV s.Margin.a3⟩,Padding:=⟨aV s.Padding.a0,aV s.Padding.a1,aV s.Padding.a2,l⟩ }) _ rfl).trans ?_;rfl
def li:List ac→Int→Int→Int×Int
 | [],a,b=>(a,b)
 | k::r,a,b=>li r (max a (aa (8*(k.Text.size:Int)))) (aa (b+aa (8*(k.Text.size:Int))))
theorem adc(L:List ac)(hL:L.length≤20):∀(m i:Nat) (a b:Int),i≤L.length→L.length<m+i→sH K n L m a b i=some (li (L.drop i) a b):=by
 intro m
 induction m with
 | zero=>intro i a b h1 h2;omega
 | succ m ih =>
  intro i a b h1 h2;simp only[sH,tX];by_cases hi:i<L.length
  ·rw[drop_at' hi];simp only[nN hi,if_true,lr hi,bS,Int.toNat_natCast,dQ (show i<1000000 by omega),li];exact ih (i+1) _ _ (by omega) (by omega)
  ·have e:i=L.length:=by omega
   subst e;simp only[oS (Nat.le_refl _),Bool.false_eq_true,if_false,List.drop_length,li]
theorem Pf(L:List ac)(s:aE)(hL:L.length≤20)(hn:20<n):uN K n L s=some (li L 0 0) :=
 (adc K n L hL n 0 0 0 (by omega) (by omega)).trans (by simp only[List.drop_zero])
end
def jb(s:aE)(c:Int):Int:=eW (eh (cI s) 0 (dU (cI s) 0 c))
def E1:c8:=⟨(Fv.fn 23),(Fv.fn 24),(Fv.fn 25),(Fv.fn 26)⟩
structure jo(c:ac):Prop where
 k:∃t,c.Kids=[t]∧t.Kind=3
theorem Vp{N:Nat}(hN:20<N)(b:ac)(z:bO){k:ac}(hk:b.Kids=[k])(h3:k.Kind=3):
  ∃f,xl (KN (N+1)) (N+1) b z E1=some f∧f.Node=b.Node∧f.Kids.length≤1∧∀x∈f.Kids,x.Kids=[]:=by
 have hO:∀x,(KN (N+1)).kT (Fv.fn 97) x=some (ga x):=fun x=>Gx (KN N) N x;have hfl:gM b=[k]:=by unfold gM;rw[hk];simp[gZ,h3]
 have hany:(gM b).any ga=false:=by rw[hfl];simp[ga,h3]
 unfold xl uq;rw[Na (KN (N+1)) (N+1) hO b (by rw[hk];simp) (by omega),hany,hfl];simp only[Option.bind_some,Bool.false_eq_true,if_false];have hLn:(KN (N+1)).wH E1.Lines [k] b.Style z.Content=some (iq b.Style z.Content [k] 0 []):=YB (KN N) N [k] b.Style z.Content (by simp) hN;obtain⟨l1,l2⟩:=CI b.Style z.Content [k] 0 [] (by simp);simp only[List.length_nil,Nat.zero_add,List.length_cons]at l1;rw[hLn,Option.bind_some,ady _ _ _ (by omega),Option.bind_some];generalize (iq b.Style z.Content [k] 0 []).1=L at *;generalize (iq b.Style z.Content [k] 0 []).2=y;have j6:∀(d h:Int) (bf af:bj) (em:Bool),jU (KN (N+1)) (N+1) b z ([k],false) L d h bf af em=some (Ah b z false L d bf af em (zZ b.Style h)):=fun d h bf af em =>
  bj6 (KN (N+1)) (N+1) (by omega) b z L (by omega) ([k],false) (fun h=>by cases h) d h bf af em
 simp only[uK,nl,Option.bind_some,Bool.false_eq_true,if_false,xj,rV,qz,qV,Bool.not_false,if_true,ite_self,j6];split
 all_goals (refine⟨_,rfl,rfl,by simpa[Ah]using l1,fun x hx=>?_⟩;obtain⟨w,hw,rfl⟩:=List.mem_map.1 hx;rw[WH];exact l2 w hw)
def ix(l:ch):Int×Bool:=if l.Kind=1 then (max (b8 l 0).1 0,true) else (0,false)
theorem zk(K:Kn)(n:Nat)(l:ch):kH K n l=some (ix l):=by
 unfold kH ix;by_cases h:l.Kind=1
 ·simp[h,lq]
 ·simp[h]
theorem UG{N:Nat}(hN:20<N){c:ac}(hc:jo c)(content w:Int):∃f h,oY (KN (N+1)) (N+1) c content w E1=some (f,h)∧f.Node=c.Node∧f.W=w∧f.Style=c.Style∧f.Kids.length≤1∧∀x∈f.Kids,x.Kids=[]:=by
 obtain⟨k,hk,h3⟩:=hc.k;unfold oY;simp only[qg,Option.bind_some,xE,pM,zk,qv,vp];obtain⟨f,h1,h2,h4,h5⟩:=Vp hN ({ c with Style:={ c.Style with Margin:=⟨bJ,bJ,bJ,bJ⟩,Height:=bJ } }:ac) { eh { c.Style with Margin:=⟨bJ,bJ,bJ,bJ⟩,Height:=bJ } content 0 with Content:=max (aa (w-eW (eh { c.Style with Margin:=⟨bJ,bJ,bJ,bJ⟩,Height:=bJ } content 0))) 0 } (k:=k) hk h3;rw[h1,Option.bind_some];split
 ·exact⟨_,_,rfl,h2,rfl,rfl,h4,h5⟩
 ·exact⟨_,_,rfl,h2,rfl,rfl,h4,h5⟩
def mW(c:ac):Int×Int:=if (b8 (cI c.Style).Width 0).2=true then (di (b8 (cI c.Style).Width 0).1,di (b8 (cI c.Style).Width 0).1) else (di (li c.Kids 0 0).1,di (li c.Kids 0 0).2)
def mh(c:ac):Int×Int:=(jb c.Style (mW c).1,jb c.Style (mW c).2)
theorem Vr{N:Nat}(hN:20<N){b:ac}(hb:jo b):ql (KN (N+1)) (N+1) b E1=some (mh b):=by
 obtain⟨k,hk,h3⟩:=hb.k;have hO:∀x,(KN (N+1)).kT (Fv.fn 97) x=some (ga x):=fun x=>Gx (KN N) N x;have hfl:gM b=[k]:=by unfold gM;rw[hk];simp[gZ,h3]
 have hany:(gM b).any ga=false:=by rw[hfl];simp[ga,h3]
 have hin:wL (KN (N+1)) (N+1) b E1=some (mW b):=by
  unfold wL mW;simp only[Pj,Option.bind_some,lq,CR];by_cases hw:(b8 (cI b.Style).Width 0).2=true
  ·simp only[hw,if_true]
  ·simp only[hw,if_false];rw[Na (KN (N+1)) (N+1) hO b (by rw[hk];simp) (by omega),hany,hfl];simp only[Option.bind_some,Bool.not_false,if_true];have hS:(KN (N+1)).yn E1.Spread [k] b.Style=some (li [k] 0 0):=Pf (KN N) N [k] b.Style (by simp) hN;rw[hS,hk];simp only[Option.bind_some];simp
 unfold ql;rw[hin];simp only[Option.bind_some,Pj,zh,xE,pM];rfl
end Go.Proofs.YtolhpahjgddjkaaGreat
namespace Go.Proofs.YtolhpahjgddjkaaGreat.Tbl
set_option linter.all false
open Go.RowKit
open Tb (rw aS cr fv gr qx j2 Up up Sp Pl yL Ke jV Iz sz)
open QSort (wn aH bp bo sb)
set_option maxRecDepth 20000
def dG(b:ac)(k:Int):List ac:=b.Kids.filter fun x=>x.Kind == k
theorem Ng(b:ac)(k:Int):(dG b k).length≤b.Kids.length:=List.length_filter_le _ _
def pX(c:ac):V2 Int:=⟨c.Rows,c.Cols⟩
def nn(r:ac):List (V2 Int):=(dG r 9).map pX
def ms(c:ac):ac:={ c with Style:={ c.Style with Margin:=⟨bJ,bJ,bJ,bJ⟩ } }
def wc(c:ac):aq:=⟨(mh (ms c)).1,(mh (ms c)).2⟩
theorem LJ{c:ac}(h:jo c):jo (ms c):=⟨h.k⟩
section
variable(K:Kn)(n:Nat)
theorem Yf(b:ac)(kd:Int)(hb:b.Kids.length≤1000):∀(m i:Nat) (acc:List ac),i≤b.Kids.length→b.Kids.length<m+i→acc.length≤i →
  rd K n b kd m (i:Int) acc=some (acc++(b.Kids.drop i).filter fun x=>x.Kind == kd):=by
 intro m
 induction m with
 | zero=>intro i acc h1 h2;omega
 | succ m ih =>
  intro i acc h1 h2 h3;simp only[rd,wj];by_cases hi:i<b.Kids.length
  ·rw[drop_at' hi,bp (by omega),aH (by omega),sb,Int.toNat_natCast,List.filter_cons];cases hq:(b.Kids.getD i default).Kind == kd
   ·simp only[Bool.false_eq_true,if_false,sP,dQ (show i<1000000 by omega)];exact ih (i+1) acc (by omega) (by omega) (by omega)
   ·simp only[if_true,sP,dQ (show i<1000000 by omega)];rw[dE (by simp;omega) (by omega),bS,ih (i+1) _ (by omega) (by omega) (by simp;omega)];simp only[List.append_assoc,List.singleton_append]
  ·have e:i=b.Kids.length:=by omega
   subst e;rw[bo (by omega)];simp
theorem MZ(b:ac)(kd:Int)(hb:b.Kids.length≤1000)(hn:1000<n):vB K n b kd=some (dG b kd):=by
 have:=Yf K n b kd hb n 0 [] (by omega) (by omega) (by simp);simp only[List.nil_append,List.drop_zero]at this;exact this
variable(env:c8)(rows:List ac)
theorem UL(v16:Int)(v18:List (List (V2 Int)))(v19:List ac)(L1:Int→List ac→List (List (V2 Int))→Option cT)(h19:v19.length≤1000)(h18:v18.length≤1000):∀(m j:Nat) (a:List (V2 Int)) (c:List ac),j≤v19.length→v19.length<m+j→a.length≤j→c.length≤1000000+j →
  nS K n env rows v16 v18 v19 L1 m (j:Int) a c=L1 (aa (v16+1)) (c++v19.drop j) (v18++[a++(v19.drop j).map pX]):=by
 intro m
 induction m with
 | zero=>intro j a c h1 h2;omega
 | succ m ih =>
  intro j a c h1 h2 h3 h4;simp only[nS,vm];by_cases hj:j<v19.length
  ·rw[drop_at' hj,bp (by omega),aH (by omega),dE (by simp;omega) (by omega),bS,sb,dE (by simp;omega) (by omega),bS,dQ (show j<1000000 by omega),ih (j+1) _ _ (by omega) (by omega) (by simp;omega) (by simp;omega),Int.toNat_natCast];simp only[List.append_assoc,List.singleton_append,List.map_cons,pX]
  ·have e:j=v19.length:=by omega
   subst e;rw[bo (by omega),dE (by simp;omega) (by omega),bS];simp
theorem aaY(hr:rows.length≤1000)(hk:∀r∈rows,r.Kids.length≤1000)(hn:1000<n):∀(m i:Nat) (c:List ac) (a:List (List (V2 Int))),i≤rows.length→rows.length<m+i→c.length≤1000*i→a.length≤i →
  kM K n env rows m (i:Int) c a=(nr K n (a++(rows.drop i).map nn)).bind fun v25=>mD K n env rows (c++(rows.drop i).flatMap fun r=>dG r 9) v25 n 0 []:=by
 intro m
 induction m with
 | zero=>intro i c a h1 h2;omega
 | succ m ih =>
  intro i c a h1 h2 h3 h4;simp only[kM,uJ];by_cases hi:i<rows.length
  ·have hm:=hk _ (i8 hi);have hl:=Ng (rows.getD i default) 9;rw[drop_at' hi,bp (by omega),aH (by omega),Int.toNat_natCast,MZ K n _ 9 hm hn,sb];have e:=UL K n env rows (i:Int) a (dG (rows.getD i default) 9) (kM K n env rows m) (by omega) (by omega) n 0 [] c (by omega) (by omega) (by simp) (by omega);rw[show nS K n env rows (i:Int) a (dG (rows.getD i default) 9) (kM K n env rows m) n 0 [] c=_ from e,dQ (show i<1000000 by omega),List.drop_zero,List.nil_append,ih (i+1) _ _ (by omega) (by omega) (by rw[List.length_append];omega) (by rw[List.length_append,List.length_singleton];omega)];simp only[List.append_assoc,List.singleton_append,List.map_cons,List.flatMap_cons,nn]
  ·have e:i=rows.length:=by omega
   subst e;rw[bo (by omega)];simp
theorem Y0(cells:List ac)(v25:(List (List ah))×Int)(h1:v25.1.length≤1000)(hc:∀l∈v25.1,l.length≤1000):∀(m i:Nat) (a:List ah),i≤v25.1.length→v25.1.length<m+i→a.length≤1000*i →
  mD K n env rows cells v25 m (i:Int) a=mH K n env rows cells v25 (a++(v25.1.drop i).flatten) n 0 []:=by
 intro m
 induction m with
 | zero=>intro i a h1 h2;omega
 | succ m ih =>
  intro i a h1 h2 h3;simp only[mD,wA];by_cases hi:i<v25.1.length
  ·have hm:=hc _ (i8 hi);rw[drop_at' hi,bp (by omega),aH (by omega),Int.toNat_natCast,dE (by omega) (by omega),bS,dQ (show i<1000000 by omega),ih (i+1) _ (by omega) (by omega) (by rw[List.length_append];omega)];simp only[List.append_assoc,List.flatten_cons]
  ·have e:i=v25.1.length:=by omega
   subst e;rw[bo (by omega)];simp
end
theorem Vn{N:Nat}(n:Nat)(hN:20<N)(rows cells:List ac)(v25:(List (List ah))×Int)(v27:List ah)(h1:cells.length≤100000)(hc:∀c∈cells,jo c):∀(m i:Nat) (a:List aq),i≤cells.length→cells.length<m+i→a.length≤i →
  mH (KN (N+1)) (N+1) E1 rows cells v25 v27 m (i:Int) a=(qj (KN (N+1)) (N+1) v27 (a++(cells.drop i).map wc) v25.2).bind fun v36=>some (⟨rows,cells,v27,v36⟩:cT):=by
 intro m
 induction m with
 | zero=>intro i a h1 h2;omega
 | succ m ih =>
  intro i a h1 h2 h3;simp only[mH,vu];by_cases hi:i<cells.length
  ·have hm:=hc _ (i8 hi);have hp:qg (KN (N+1)) (N+1) (cells.getD i default)=some (ms (cells.getD i default)):=rfl;rw[drop_at' hi,bp (by omega),aH (by omega),Int.toNat_natCast,hp,sb,Vr hN (LJ hm),sb,dE (by simp;omega) (by omega),bS,dQ (show i<1000000 by omega),ih (i+1) _ (by omega) (by omega) (by simp;omega)];simp only[List.append_assoc,List.singleton_append,List.map_cons,wc]
  ·have e:i=cells.length:=by omega
   subst e;rw[bo (by omega)];simp
structure fz(b:ac):Prop where
 n:b.Kids.length≤1000
 r:(dG b 8).length≤20
 k:∀r∈dG b 8,r.Kids.length≤1000∧(dG r 9).length≤20∧∀c∈dG r 9,jo c
 t:((dG b 8).flatMap fun r=>dG r 9).length≤90
def gf(b:ac):List ac:=dG b 8
def cz(b:ac):List ac:=(gf b).flatMap fun r=>dG r 9
def aP(b:ac):List (List (V2 Int)):=(gf b).map nn
def bN(b:ac):List aq:=(jV (cr (aP b) (aP b).length) ((cz b).map wc) (aS (aP b) (aP b).length).toNat).map Tb.fin
theorem fz.sp{b:ac}(h:fz b):Sp (aP b):=⟨by simpa[aP,gf]using h.r,fun row hr=>by
 obtain⟨r,h1,rfl⟩:=List.mem_map.1 hr;simpa[nn]using (h.k r h1).2.1⟩
theorem fz.lZ{b:ac}(h:fz b):∀c∈cz b,jo c:=fun c hc=>by
 obtain⟨r,h1,h2⟩:=List.mem_flatMap.1 hc;exact(h.k r h1).2.2 c h2
theorem fz.mO{b:ac}(h:fz b):(cz b).length≤90:=h.t
theorem yX(S:List (List (V2 Int)))(k:Nat):(fv S k).length=(S.getD k default).length:=Tb.As _ _ _ _ _
theorem OQ(S:List (List (V2 Int))):∀k,k≤S.length→(cr S k).length=(S.take k).flatten.length
 | 0,_=>by simp[cr,rw]
 | k+1,hk=>by
  rw[j2,List.length_append,OQ S k (by omega),yX,List.take_succ_eq_append_getElem (by omega),List.flatten_append,List.length_append,cd (by omega)];simp
theorem lp{S:List (List (V2 Int))}(hS:Sp S):∀k,k≤S.length→aS S k≤100*((cr S k).length:Int)
 | 0,_=>by simp[cr,aS,rw,Tb.fa]
 | k+1,hk=>by
  have h:=up hS k (by omega);have:=(Tb.Dx (R:=S.length) (r:=k) (f:=Tb.dr (cr S k) k) (by omega) (S.getD k default) 0 (aS S k) (h.free k) (by omega) h.c.1).2;have ih:=lp hS k (by omega);rw[Tb.wh,j2,List.length_append,yX];unfold fv;omega
theorem Vf(b:ac):(aP b).flatten=(cz b).map pX:=by
 unfold aP cz;rw[List.map_flatMap,← List.flatMap_def];rfl
theorem md(b:ac):(cr (aP b) (aP b).length).length=(cz b).length:=by
 rw[OQ _ _ (Nat.le_refl _),List.take_length,Vf,List.length_map]
theorem Pv{N:Nat}(hN:300000≤N){b:ac}(h:fz b):ry (KN (N+1)) (N+1) b E1=some ⟨gf b,cz b,cr (aP b) (aP b).length,bN b⟩:=by
 unfold ry;rw[MZ _ _ b 8 h.n (by omega),sb];have hS:=h.sp;have hl2:=aaY (KN (N+1)) (N+1) E1 (dG b 8) (by have:=h.r;omega) (fun r hr=>(h.k r hr).1) (by omega) (N+1) 0 [] [] (by omega) (by have:=h.r;omega) (by simp) (by simp);rw[show kM (KN (N+1)) (N+1) E1 (dG b 8) (N+1) 0 [] []=_ from hl2];simp only[List.drop_zero,List.nil_append];rw[show(dG b 8).map nn=aP b from rfl,Ke hS (by omega),sb];have hu:=up hS (aP b).length (Nat.le_refl _);have hSr:=hS.r;have hcl:∀l∈rw (aP b) (aP b).length,l.length≤1000:=fun l hl=>by
  obtain⟨i,hi,rfl⟩:=List.mem_iff_getElem.1 hl;rw[gr]at hi;have:=qx (aP b) hi;rw[cd (by rw[gr];exact hi)]at this;rw[this,yX];have:=hS.at hi;omega
 have hl3:=Y0 (KN (N+1)) (N+1) E1 (dG b 8) ((dG b 8).flatMap fun r=>dG r 9) (rw (aP b) (aP b).length,aS (aP b) (aP b).length) (by rw[gr];omega) hcl (N+1) 0 [] (by omega) (by rw[gr];omega) (by simp);rw[show mD (KN (N+1)) (N+1) E1 (dG b 8) ((dG b 8).flatMap fun r=>dG r 9) (rw (aP b) (aP b).length,aS (aP b) (aP b).length) (N+1) 0 []=_ from hl3];simp only[List.drop_zero,List.nil_append];have hcn:=h.mO;have hl4:=Vn (N:=N) (N+1) (by omega) (dG b 8) (cz b) (rw (aP b) (aP b).length,aS (aP b) (aP b).length) (rw (aP b) (aP b).length).flatten (by omega) h.lZ (N+1) 0 [] (by omega) (by omega) (by simp);rw[show mH (KN (N+1)) (N+1) E1 (dG b 8) ((dG b 8).flatMap fun r=>dG r 9) (rw (aP b) (aP b).length,aS (aP b) (aP b).length) (rw (aP b) (aP b).length).flatten (N+1) 0 []=_ from hl4];simp only[List.drop_zero,List.nil_append];have hc:=hu.c;have hl:=hu.l;have hcb:=lp hS (aP b).length (Nat.le_refl _)
 rw[md]at hcb;rw[Iz _ _ _ (by omega) (show(rw (aP b) (aP b).length).flatten.length≤10000 from by have:(cr (aP b) (aP b).length).length≤20*(aP b).length:=hl;unfold cr at this;omega) (by omega) (by omega),sb,show max (aS (aP b) (aP b).length) 0=aS (aP b) (aP b).length by omega];rfl
end Go.Proofs.YtolhpahjgddjkaaGreat.Tbl
namespace Go.Proofs.YtolhpahjgddjkaaGreat.Tbl
set_option linter.all false
open Go.RowKit
open QSort (wn aH bp bo sb)
set_option maxRecDepth 20000
theorem LS{α:Type}{x y:Option α}(h:x=y):both true x y=y:=by unfold both;simp[h]
def Cl(c:ac):Prop:=c.Kind=9∧∃t,c.Kids=[t]∧t.Kind=3∧(t.Text.size:Int)≤60
def Rp(p:ac×Option (List ac)):Prop:=p.1.Kind=8∧∃ks,p.2=some ks∧∀c∈ks,Cl c
def fF:List (ac×Option (List ac))→Nat
 | []=>0
 | p::r=>(p.2.getD []).length+1+fF r
theorem zU:∀a b,fF (a++b)=fF a+fF b
 | [],b=>by simp[fF]
 | p::r,b=>by simp only[List.cons_append,fF,zU r b];omega
theorem Gc:∀a:List (ac×Option (List ac)),a.length≤fF a
 | []=>by simp[fF]
 | p::r=>by have:=Gc r;simp only[fF,List.length_cons];omega
variable{K:Kn}{n:Nat}
theorem YF{L:List dF}(hL:L.length≤20)(ht:∀x∈L,(x.Text.size:Int)≤60):∀(m i:Nat) (v:List (ac×Option (List ac))),1≤i→i≤L.length→L.length<m+i→(∀p∈v,Rp p)→fF v<i →
  ∃w,(∀p∈w,Rp p)∧fF w<L.length∧kU K n L m (i:Int) v=some (⟨7,10,(L.getD (0:Int).toNat default).Style,⟨#[]⟩,0,0,w.map kG⟩:ac):=by
 intro m
 induction m with
 | zero=>intro i v h0 h1 h2;omega
 | succ m ih =>
  intro i v h0 h1 h2 hv hc;simp only[kU,xA];have hvl:=Gc v;by_cases hi:i<L.length
  ·rw[bp (by omega),aH (by omega),Int.toNat_natCast];have htx:=ht _ (i8 hi);have row:mE K n L (i:Int) v (kU K n L m) true=kU K n L m ((i+1:Nat):Int) (v++[(({ dj with Kind:=8,Node:=(aa (10+(i:Int))),Style:=(List.getD L ((i:Int)).toNat default).Style }:ac),some [])]):=by
    unfold mE oN;rw[if_pos rfl,dE (by omega) (by omega),bS,dQ (show i<1000000 by omega)]
   have fv:∃w,(∀p∈w,Rp p)∧fF w<L.length∧mE K n L (i:Int) v (kU K n L m) true=some (⟨7,10,(L.getD (0:Int).toNat default).Style,⟨#[]⟩,0,0,w.map kG⟩:ac):=by
    rw[row];refine ih (i+1) _ (by omega) (by omega) (by omega) (fun p hp=>?_) ?_
    ·rcases List.mem_append.1 hp with hp|hp
     ·exact hv p hp
     ·obtain rfl:=List.mem_singleton.1 hp;exact⟨rfl,[],rfl,fun c hc=>by cases hc⟩
    ·rw[zU];simp only[fF,Option.getD_some,List.length_nil];omega
   by_cases hk:((Int.tmod ((List.getD L i default).Kind) 4) == 0)=true
   ·rw[if_pos hk];exact fv
   ·rw[if_neg hk];by_cases h0v:v=[]
    ·subst h0v;exact fv
    ·obtain⟨A,q,rfl⟩:∃A q,v=A++[q]:=⟨v.dropLast,v.getLast h0v,(List.dropLast_concat_getLast h0v).symm⟩;obtain⟨hq1,ks,hq2,hq3⟩:=hv q (by simp);have hcq:fF [q]=ks.length+1:=by simp[fF,hq2]
     rw[zU,hcq]at hc;have hA:=Gc A;have e0:(((A++[q]).length:Int) == 0)=false:=by simp;omega
     have e1:aa (((A++[q]).length:Int)-1)=(A.length:Int):=wn (k:=A.length) (by simp) (by omega);have e2:(A++[q]).getD A.length default=q:=by simp[List.getD_eq_getElem?_getD]
     have e3:∀x,List.set (A++[q]) A.length x=A++[x]:=fun x=>by rw[List.set_append_right _ _ (Nat.le_refl _)];simp
     rw[e0];unfold mE oN;rw[if_neg (by decide),dE (by simp) (by omega),bS];simp only[e1,Int.toNat_natCast,e2,e3,hq2,sb];have i1:aB (A.length:Int) (A++[q]).length=true:=oP (by omega) (by simp;omega);have i2:∀z:ac,aB (ks.length:Int) (ks++[z]).length=true:=fun z=>oP (by omega) (by simp;omega);have f1:∀z:ac,fits (ks.length+[z].length) 520=true:=fun z=>dE (by simp;omega) (by omega);have e4:∀x z:ac,List.set (ks++[z]) ks.length x=ks++[x]:=fun x z=>by rw[List.set_append_right _ _ (Nat.le_refl _)];simp
     simp only[i1,i2,f1,bS,e4];rw[LS rfl,dQ (show i<1000000 by omega)];refine ih (i+1) _ (by omega) (by omega) (by omega) (fun p hp=>?_) ?_
     ·rcases List.mem_append.1 hp with hp|hp
      ·exact hv p (by simp[hp])
      ·obtain rfl:=List.mem_singleton.1 hp;refine⟨hq1,_,rfl,fun c hc=>?_⟩;rcases List.mem_append.1 hc with hc|hc
       ·exact hq3 c hc
       ·obtain rfl:=List.mem_singleton.1 hc;exact⟨rfl,_,rfl,rfl,htx⟩
     ·rw[zU];simp only[fF,Option.getD_some,List.length_append,List.length_singleton];omega
  ·have e:i=L.length:=by omega
   subst e;rw[bo (by omega)];refine⟨v,hv,hc,?_⟩;have:v.all (fun p=>p.2.isSome)=true:=List.all_eq_true.2 (fun p hp=>by obtain⟨_,ks,e,_⟩:=hv p hp;rw[e];rfl);rw[this,bS]
structure TT(b:ac):Prop where
 k:∀r∈b.Kids,r.Kind=8∧∀c∈r.Kids,Cl c
 n:b.Kids.length+(b.Kids.flatMap fun r=>r.Kids).length≤20
theorem HD:∀w:List (ac×Option (List ac)),(w.map kG).length+((w.map kG).flatMap fun r=>r.Kids).length=fF w
 | []=>by simp[fF]
 | p::r=>by
  have:=HD r;simp only[List.map_cons,List.length_cons,List.flatMap_cons,List.length_append,fF,kG]at this⊢;omega
theorem XO{L:List dF}(hL:L.length≤20)(h0:0<L.length)(ht:∀x∈L,(x.Text.size:Int)≤60)(hn:20<n):∃b,pY K n L=some b∧TT b:=by
 unfold pY;rw[aH (by omega)];obtain⟨w,h1,h2,h3⟩:=YF (K:=K) (n:=n) hL ht n 1 [] (by omega) (by omega) (by omega) (by simp) (by simp[fF]);refine⟨_,h3,fun r hr=>?_,?_⟩
 ·obtain⟨p,hp,rfl⟩:=List.mem_map.1 hr;obtain⟨q1,ks,q2,q3⟩:=h1 p hp;refine⟨q1,fun c hc=>q3 c ?_⟩;simpa[kG,q2]using hc
 ·have:=HD w;show(w.map kG).length+((w.map kG).flatMap fun r=>r.Kids).length≤20;omega
theorem NB{b r:ac}:∀{l:List ac},r∈l→r.Kids.length≤(l.flatMap fun r=>r.Kids).length
 | a::l,h=>by
  rw[List.flatMap_cons,List.length_append];rcases List.mem_cons.1 h with rfl|h
  ·omega
  ·have:=NB (b:=b) h;omega
theorem Oc{α:Type}{p:α→Bool}{l:List α}(h:∀x∈l,p x=true):l.filter p=l:=List.filter_eq_self.2 h
theorem TT.rows{b:ac}(h:TT b):dG b 8=b.Kids:=Oc (fun r hr=>by rw[(h.k r hr).1];rfl)
theorem TT.cells{b:ac}(h:TT b){r:ac}(hr:r∈b.Kids):dG r 9=r.Kids:=Oc (fun c hc=>by rw[((h.k r hr).2 c hc).1];rfl)
theorem BK{α β:Type}{f g:α→List β}:∀{l:List α},(∀x∈l,f x=g x)→l.flatMap f=l.flatMap g
 | [],_=>rfl
 | a::l,h=>by rw[List.flatMap_cons,List.flatMap_cons,h a (by simp),BK (fun x hx=>h x (by simp[hx]))]
theorem Cl.lZ{c:ac}(h:Cl c):jo c:=by
 obtain⟨_,t,h1,h2,_⟩:=h;exact⟨t,h1,h2⟩
theorem TT.bR{b:ac}(h:TT b):fz b:=by
 have hn:=h.n;refine⟨by omega,by rw[h.rows];omega,fun r hr=>?_,?_⟩
 ·rw[h.rows]at hr;have:=NB (b:=b) hr;rw[h.cells hr];exact⟨by omega,by omega,fun c hc=>((h.k r hr).2 c hc).lZ⟩
 ·rw[h.rows,BK (g:=fun r=>r.Kids) (fun r hr=>h.cells hr)];omega
end Go.Proofs.YtolhpahjgddjkaaGreat.Tbl
namespace Go.Proofs.YtolhpahjgddjkaaGreat.Tbl
set_option linter.all false
open Go.RowKit
open Tb
open Sh (share aO cO mx eg gu dt nz gg fN ss m8 yA)
open QSort (wn aH bp bo sb)
set_option maxRecDepth 20000
theorem Cj(A P:List Int):∀i,i≤A.length→i≤P.length→sm (bR i fun k=>A.getD k default+P.getD k default)=sm (A.take i)+sm (P.take i):=by
 intro i
 induction i with
 | zero=>intro _ _;rfl
 | succ i ih =>
  intro h1 h2;rw[ov,j7,ih (by omega) (by omega),Sh.lL (by omega),Sh.lL (by omega)];simp[sm];omega
theorem yy{A P:List Int}(h:A.length=P.length):sm (cK A P)=sm A+sm P:=by
 unfold cK;rw[Cj A P A.length (by omega) (by omega),List.take_length,h,List.take_length]
theorem ZU(L:List aq)(w:Int){k:Nat}(hk:k<L.length):cA (L.getD k default)≤(fJ L w).getD k default:=by
 have bc:=pJ (L.getD k default);unfold fJ;split
 ·rw[eU hk];omega
 ·split
  ·rw[jm (by simpa using hk),eU hk];have:=l5 (fO (w-sm (L.map cA))) (fun x hx=>(mY fR L x hx).1) k (by simpa using hk);omega
  ·rw[jm (by simpa using hk),eU hk];have:=l5 (fO (w-sm (L.map cB))) (fun x hx=>(kx (mY fB L) x hx).1) k (by rw[iQ];simpa using hk);omega
theorem tR:∀k:Nat,sm (List.replicate k 1)=k
 | 0=>rfl
 | k+1=>by simp only[List.replicate_succ,sm,tR k];omega
theorem SI(L:List aq)(w:Int):∀x∈fJ L w,0≤x∧x≤2097153:=by
 intro x hx;obtain⟨k,hk,rfl⟩:=List.mem_iff_getElem.1 hx;rw[pC]at hk;rw[←cd];have h1:=ZU L w hk;have bc:=pJ (L.getD k default);refine⟨by omega,?_⟩;unfold fJ;split
 ·rw[eU hk];omega
 ·split
  ·rw[jm (by simpa using hk),eU hk];have:=l5 (fO (w-sm (L.map cA))) (fun x hx=>(mY fR L x hx).1) k (by simpa using hk);omega
  ·rw[jm (by simpa using hk),eU hk];have:=l5 (fO (w-sm (L.map cB))) (fun x hx=>(kx (mY fB L) x hx).1) k (by rw[iQ];simpa using hk);omega
theorem E0{b:ac}(h:fz b):fC (aS (aP b) (aP b).length).toNat (jV (cr (aP b) (aP b).length) ((cz b).map wc) (aS (aP b) (aP b).length).toNat):=by
 have hcb:=lp h.sp (aP b).length (Nat.le_refl _);rw[md]at hcb;have:=h.mO;refine (En (by omega) _ _ (fun i hi=>Vd.of (by omega) (l6 hi).1) (fC.rep _)).1
theorem AL{b:ac}(h:fz b):(bN b).length=(aS (aP b) (aP b).length).toNat:=by
 unfold bN;rw[List.length_map];exact(E0 h).len
theorem Pz(C:List aq):Tb.bg (C.map fin)=Tb.bg C:=by unfold Tb.bg;rw[List.map_map];rfl
theorem pZ{b:ac}(h:fz b):Bd (Tb.bg (bN b)):=by unfold bN;rw[Pz];exact(E0 h).l
theorem z0{b:ac}(h:fz b):Bd (bv (bN b)):=by
 have g:=E0 h;intro x hx;unfold bN bv at hx;rw[List.map_map]at hx;obtain⟨c,hc,rfl⟩:=List.mem_map.1 hx;have h1:=g.l c.Least (List.mem_map.2 ⟨c,hc,rfl⟩);have h2:=g.m c.Most (List.mem_map.2 ⟨c,hc,rfl⟩);simp only[Function.comp,fin];omega
theorem m9{l:List Int}(h:Bd l)(hl:l.length≤10000):0≤sm l∧sm l≤10485760000:=by
 have h1:=eg l (fun x hx=>(h x hx).1);have h2:=gu (c:=1048576) l (fun x hx=>(h x hx).2);have:(l.length:Int)*1048576≤10000*1048576:=Int.mul_le_mul_of_nonneg_right (by omega) (by omega);omega
theorem tC(f:aq→Int){L:List aq}{i:Nat}(h:i<L.length):sm ((L.map f).take (i+1))=sm ((L.map f).take i)+f (L.getD i default):=Tb.FF h
theorem xn{l:List Int}(h:Bd l)(i:Nat):Bd (l.take i):=fun x hx=>h x (List.mem_of_mem_take hx)
theorem QU(K:Kn)(n:Nat)(g:cT)(h1:Bd (Tb.bg g.columns))(h2:Bd (bv g.columns))(hl:g.columns.length≤10000):∀(m i:Nat),i≤g.columns.length→g.columns.length<m+i →
  sR K n g m (sm ((Tb.bg g.columns).take i)) (sm ((bv g.columns).take i)) (i:Int)=some (sm (Tb.bg g.columns),sm (bv g.columns)):=by
 have l1:(Tb.bg g.columns).length=g.columns.length:=by simp[Tb.bg]
 have l2:(bv g.columns).length=g.columns.length:=by simp[bv]
 intro m
 induction m with
 | zero=>intro i h1 h2;omega
 | succ m ih =>
  intro i h3 h4;simp only[sR,tW];by_cases hi:i<g.columns.length
  ·have a1:=m9 (xn h1 i) (by rw[List.length_take];omega);have a2:=m9 (xn h2 i) (by rw[List.length_take];omega);have c1:=h1.at (k:=i) (by omega);have c2:=h2.at (k:=i) (by omega);have e1:(Tb.bg g.columns).getD i default=(g.columns.getD i default).Least:=Tb.eU hi;have e2:(bv g.columns).getD i default=(g.columns.getD i default).Most:=Tb.eU hi;rw[bp (by omega),aH (by omega),Int.toNat_natCast,dQ (show i<1000000 by omega),← e1,← e2,cj (n:=sm ((Tb.bg g.columns).take i)+(Tb.bg g.columns).getD i default) (by omega) (by omega),cj (by omega) (by omega),e1,e2];have s1:=tC (·.Least) hi;have s2:=tC (·.Most) hi;rw[show g.columns.map (·.Least)=Tb.bg g.columns from rfl]at s1;rw[show g.columns.map (·.Most)=bv g.columns from rfl]at s2;rw[←s1,← s2];exact ih (i+1) (by omega) (by omega)
  ·have e:i=g.columns.length:=by omega
   subst e;rw[bo (by omega),List.take_of_length_le (by omega),List.take_of_length_le (by omega)]
theorem NL(K:Kn)(n:Nat)(g:cT)(h1:Bd (Tb.bg g.columns))(h2:Bd (bv g.columns))(hl:g.columns.length≤10000)(hn:10000<n):uk K n g=some (sm (Tb.bg g.columns),sm (bv g.columns)):=by
 have:=QU K n g h1 h2 hl n 0 (by omega) (by omega);simp only[List.take_zero]at this;exact this
end Go.Proofs.YtolhpahjgddjkaaGreat.Tbl
