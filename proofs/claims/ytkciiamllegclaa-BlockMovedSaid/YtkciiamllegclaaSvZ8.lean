/- Plain laws about the plain functions: words for all of them. No program in sight. -/
import Derived.Test.YtkciiamllegclaaSvGf
import Derived.Test.YtkciiamllegclaaSvGop
namespace Go.Proofs.Ytkciiamllegclaa
set_option linter.all false
open Go.RowKit
def zM:=@Int.toNat_natCast
def zV:=@decide_false
def Ab:=@List.singleton_append
def Ao:=@List.append_assoc
def As:=@List.drop_length
def At:=@beq_self_eq_true
def AQ:=@List.not_mem_nil
def A4:=@Bool.not_false
def A7:=@ByteArray.toList_eq
def Bb:=@decide_true
theorem ng{n:Int}(a : -9223372036854775808≤n)(b:n≤9223372036854775807):ab n=n:=by
 unfold ab;rw[Ag];omega
theorem bL{α:Type}(x:Option α):bn true x=x:=rfl
theorem n9{i:Int}{n:Nat}(a:0≤i)(b:i<n):br i n=true:=by simp[br,a,b]
theorem l8{α:Type}[Inhabited α]{L:List α}{k:Nat}(h:k<L.length):L.getD k default=L[k]:=by simp[u4,ez h]
theorem eX{n b:Nat}(h:n*b≤140737488355328)(c:0<b):fits n b=true:=by
 have d:n≤n*b:=Nat.le_mul_of_pos_right n c;have a:n≤9223372036854775807:=by omega
 simp only[fits,fz,zY];exact⟨a,h⟩
theorem y8(K:Kn)(n:Nat):lB K (n+5)=some true:=by kernel_rfl
theorem gV s:ge s s=true:=by simp[ge,cF]
theorem gw s:ff s s=true:=by simp[ff]
def bE(l:bx)(b:Int):Int×Bool :=
 if l.Kind=1 then (min (max l.Value (-1048576)) 1048576,true)
 else if l.Kind=2 then (min (max (ab (Int.tdiv (ab ((min (max b 0) 1048576)*(min (max l.Value (-1000000)) 1000000))) 10000)) (-1048576)) 1048576,true)
 else (0,false)
def fC(x:Int):Int:=min (max x 0) 1048576
section
variable(K:Kn)(n:Nat)
theorem pW(x:Int):ef K n x=some (fC x):=rfl
theorem wO(l:bx)(b:Int):cp K n l b=some (bE l b):=by
 unfold cp bE;by_cases a:l.Kind=1
 ·simp[a,gP]
 ·by_cases c:l.Kind=2
  ·simp[c,gP,ex]
  ·simp[a,c]
theorem jx(l:bx)(b:Int):cn K n l b=some (bE l b):=by
 unfold cn bE;by_cases a:l.Kind=1
 ·simp[a,fv]
 ·by_cases c:l.Kind=2
  ·simp[c,fv,ef]
  ·simp[a,c]
def li(s:aR)(w c:Int):Int :=
 let m:=if (bE s.MaxWidth w).2=true then min (max c 0) (max (bE s.MaxWidth w).1 0) else max c 0
 if (bE s.MinWidth w).2=true then max m (bE s.MinWidth w).1 else m
theorem wc(s:aR)(w c:Int):kh K n s w c=some (li s w c):=by
 unfold kh li;simp only[jx,hQ,iz,jK]
 repeat (first|rfl|split)
def nf(s:aR)(w c:Int):az :=
 ⟨⟨(bE s.Margin.a0 w).1,(bE s.Margin.a1 w).1,(bE s.Margin.a2 w).1,(bE s.Margin.a3 w).1⟩,⟨fC s.Border.a0,fC s.Border.a1,fC s.Border.a2,fC s.Border.a3⟩,
  ⟨max (bE s.Padding.a0 w).1 0,max (bE s.Padding.a1 w).1 0,max (bE s.Padding.a2 w).1 0,max (bE s.Padding.a3 w).1 0⟩,c⟩
theorem xY(s:aR)(w c:Int):im K n s w c=some (nf s w c):=by
 simp only[im,jx,pW,hQ,nf]
def ol(z:az):Int:=ab ((ab ((ab ((ab ((ab ((ab (z.Content+z.Margin.a1))+z.Margin.a3))+z.Border.a1))+z.Border.a3))+z.Padding.a1))+z.Padding.a3)
theorem o2(z:az):kf K n z=some (ol z):=rfl
def om(s:aR)(a:Int)(e:az)(c:Int):az :=
 let r:=ab (a-ol { e with Content:=c })
 if r≤0 then { e with Content:=c }
 else if (bE s.Margin.a3 a).2=false∧(bE s.Margin.a1 a).2=false then { e with Content:=c,Margin:=⟨e.Margin.a0,ab (r-ab (Int.tdiv r 2)),e.Margin.a2,ab (Int.tdiv r 2)⟩ }
 else if (bE s.Margin.a3 a).2=false then { e with Content:=c,Margin:=⟨e.Margin.a0,e.Margin.a1,e.Margin.a2,r⟩ }
 else if (bE s.Margin.a1 a).2=false then { e with Content:=c,Margin:=⟨e.Margin.a0,r,e.Margin.a2,e.Margin.a3⟩ }
 else { e with Content:=c }
def lY(s:aR)(w:Int):az :=
 let a:=fC w
 let e:=nf s a 0
 let x:=if (bE s.Width a).2=true then (bE s.Width a).1 else ab (a-ol e)
 om s a e (li s a x)
theorem sZ(s:aR)(a:Int)(e:az)(x:Int):gB K n s a e x=some (om s a e (li s a x)):=by
 simp only[gB,wc,o2,hQ,jx,om];cases c:(bE s.Margin.a3 a).2<;>cases b:(bE s.Margin.a1 a).2<;>simp[j2,fM,c,b]<;>split<;>rfl
theorem yo(s:aR)(w:Int):iK K n s w=some (lY s w):=by
 simp only[iK,pW,xY,jx,o2,hQ,sZ,lY];cases h:(bE s.Width (fC w)).2<;>simp[h]
def cG(l:bx):Prop := -16777216≤l.Value∧l.Value≤16777216
theorem cV(l:bx):∃b,cm K n l=some b∧(b=true→cG l):=by
 unfold cm jZ;by_cases h:l.Value ≥ -16777216
 ·simp only[h,Bb,wl];exact⟨_,rfl,fun e=>⟨h,AL e⟩⟩
 ·simp only[h,zV,fl,n5];exact⟨_,rfl,fun e=>by cases e⟩
structure nN(x:bo):Prop where
 text:(x.Text.size:Int)≤60
 left:cG x.Style.Left
 top:cG x.Style.Top
 width:cG x.Style.Width
 height:cG x.Style.Height
 minw:cG x.Style.MinWidth
 maxw:cG x.Style.MaxWidth
 basis:cG x.Style.Basis
 lh:0≤x.Style.LineHeight∧x.Style.LineHeight≤65536
 fs:0≤x.Style.FontSize∧x.Style.FontSize≤65536
 grow:0≤x.Style.Grow∧x.Style.Grow≤1048576
 shrink:0≤x.Style.Shrink∧x.Style.Shrink≤1048576
 m0:cG x.Style.Margin.a0
 m1:cG x.Style.Margin.a1
 m2:cG x.Style.Margin.a2
 m3:cG x.Style.Margin.a3
 p0:cG x.Style.Padding.a0
 p1:cG x.Style.Padding.a1
 p2:cG x.Style.Padding.a2
 p3:cG x.Style.Padding.a3
theorem s9(L:d3)(m:Int)(a:Int→Option Bool)(i:Int)(h0:0≤i)(o:i<L.length):fd K n L m a i=some false∨(nN (L.getD i.toNat default)∧fd K n L m a i=a (ab (i+1))):=by
 unfold fd;simp only[o,Bb,wl,n9 h0 o,bL];generalize hx:L.getD i.toNat default=x;have j5:∀b,gm K n L m i a b=if b=true then some false else a (ab (i+1)):=fun b=>rfl;obtain⟨E,N,U⟩:=cV K n x.Style.Left;obtain⟨F,O,V⟩:=cV K n x.Style.Top;obtain⟨G,P,W⟩:=cV K n x.Style.Width;obtain⟨H,Q,X⟩:=cV K n x.Style.Height;obtain⟨I,R,Y⟩:=cV K n x.Style.MinWidth;obtain⟨J,S,Z⟩:=cV K n x.Style.MaxWidth;obtain⟨M,T,f7⟩:=cV K n x.Style.Basis;obtain⟨c,g0,k0⟩:=cV K n x.Style.Margin.a0;obtain⟨d,g1,k1⟩:=cV K n x.Style.Margin.a1;obtain⟨e,g2,k2⟩:=cV K n x.Style.Margin.a2;obtain⟨f,g3,k3⟩:=cV K n x.Style.Margin.a3;obtain⟨g,q0,r0⟩:=cV K n x.Style.Padding.a0;obtain⟨j,q1,r1⟩:=cV K n x.Style.Padding.a1;obtain⟨k,q2,r2⟩:=cV K n x.Style.Padding.a2;obtain⟨l,q3,r3⟩:=cV K n x.Style.Padding.a3;have p:bU K n L m i a true=some false:=rfl;have j1:bU K n L m i a false=some false∨((c=true∧d=true∧e=true∧f=true∧g=true∧j=true∧k=true∧l=true)∧bU K n L m i a false=a (ab (i+1))):=by
  simp only[bU,jr,ji,iM,gm,hx,g0,g1,g2,g3,q0,q1,q2,q3,hQ];cases c<;>cases g<;>cases d<;>cases j<;>cases e<;>cases k<;>cases f<;>cases l<;>simp
 simp only[N,O,P,Q,R,S,T,hQ,p];by_cases q:(x.Text.size:Int)>60
 ·left;simp[q]
 simp only[q,zV,fl,n5];cases E
 ·left;simp
 simp only[rs,fl,n5];cases F
 ·left;simp
 simp only[rs,fl,n5];cases G
 ·left;simp
 simp only[rs,fl,n5];cases H
 ·left;simp
 simp only[rs,fl,n5];cases I
 ·left;simp
 simp only[rs,fl,n5];cases J
 ·left;simp
 simp only[rs,fl,n5];cases M
 ·left;simp
 simp only[rs,fl,n5];by_cases r:x.Style.LineHeight<0
 ·left;simp[r]
 simp only[r,zV,fl,n5];by_cases s:x.Style.LineHeight>65536
 ·left;simp[s]
 simp only[s,zV,fl,n5];by_cases t:x.Style.FontSize<0
 ·left;simp[t]
 simp only[t,zV,fl,n5];by_cases u:x.Style.FontSize>65536
 ·left;simp[u]
 simp only[u,zV,fl,n5];by_cases v:x.Style.Grow<0
 ·left;simp[v]
 simp only[v,zV,fl,n5];by_cases w:x.Style.Grow>1048576
 ·left;simp[w]
 simp only[w,zV,fl,n5];by_cases y:x.Style.Shrink<0
 ·left;simp[y]
 simp only[y,zV,fl,n5];by_cases z:x.Style.Shrink>1048576
 ·left;simp only[z,Bb];exact p
 simp only[z,zV];rcases j1 with h|⟨⟨A,B,C,D,p0,p1,p2,p3⟩,h⟩
 ·exact .inl h
 ·refine .inr ⟨⟨by omega,U rfl,V rfl,W rfl,X rfl,Y rfl,Z rfl,f7 rfl,⟨by omega,by omega⟩,⟨by omega,by omega⟩,⟨by omega,by omega⟩,⟨by omega,by omega⟩,k0 A,k1 B,k2 C,k3 D,r0 p0,r1 p1,r2 p2,r3 p3⟩,h⟩
theorem yY(L:d3)(a:Int)(u:(L.length:Int)≤9223372036854775807):∀(m:Nat) (i:Int),0≤i→i≤L.length→(L.length:Int)<m+i →
  ∃b,hJ K n L a m i=some b∧(b=true→(L.length:Int)≤a∧∀k,i.toNat≤k→k<L.length→nN (L.getD k default)):=by
 intro m
 induction m with
 | zero=>intro i c o p;omega
 | succ m t =>
  intro i c o p;show ∃b,fd K n L a (hJ K n L a m) i=some b∧_;by_cases f:i<(L.length:Int)
  ·rcases s9 K n L a (hJ K n L a m) i c f with h|⟨h,l⟩
   ·exact⟨false,h,fun e=>by cases e⟩
   ·obtain⟨b,r,g⟩:=t (i+1) (by omega) (by omega) (by omega);rw[l,ng (by omega) (by omega)];refine⟨b,r,fun e=>⟨(g e).1,fun k q d=>?_⟩⟩;by_cases j:k=i.toNat
    ·subst j;exact h
    ·exact(g e).2 k (by omega) d
  ·have s:decide (i<(L.length:Int))=false:=by simpa using f
   unfold fd;simp only[s,fl,n5];exact⟨_,rfl,fun e=>⟨AL e,fun k q d=>by omega⟩⟩
theorem tW(L:d3)(a:Int)(g:(L.length:Int)≤9223372036854775807)(i:L.length<n):∃b,lC K n L a=some b∧(b=true→(L.length:Int)≤a∧∀x∈L,nN x):=by
 obtain⟨b,f,c⟩:=yY K n L a g n 0 (by omega) (by omega) (by omega);refine⟨b,f,fun e=>⟨(c e).1,fun x h=>?_⟩⟩;obtain⟨k,d,rfl⟩:=zI.1 h;have:=(c e).2 k (by simp) d;rwa[l8 d]at this
end
theorem d4{i:Nat}(h:i<1000000):ab ((i:Int)+1)=((i+1:Nat):Int):=by rw[ng (by omega) (by omega)];omega
theorem d6{i n:Nat}(h:i<n):decide ((i:Int)<(n:Int))=true:=by simpa using h
theorem dX{i n:Nat}(h:n≤i):decide ((i:Int)<(n:Int))=false:=by simpa using h
theorem dg{i n:Nat}(h:i<n):br (i:Int) n=true:=n9 (by omega) (by omega)
theorem drop_at'{α:Type}[Inhabited α]{L:List α}{i:Nat}(h:i<L.length):L.drop i=L.getD i default::L.drop (i+1):=by
 rw[l8 h];exact AG h
theorem gN{α:Type}[Inhabited α]{L:List α}{i:Nat}(h:i<L.length):L.getD i default∈L:=by
 rw[l8 h];exact zF h
def eR(k:ai):Bool:=k.Kind == 3||k.Style.Position != 2
theorem vh(K:Kn)(n:Nat)(k:ai):iT K n k=some (eR k):=by
 unfold iT eR jw;cases h:k.Kind == 3<;>simp
theorem ye(K:Kn)(n:Nat)(k:ai):jB K n k=some (eR k):=by
 unfold jB eR jg;cases h:k.Kind == 3<;>simp
def c7(b:ai):b7:=b.Kids.filter eR
theorem ry{b:ai}:(c7 b).length≤b.Kids.length:=List.length_filter_le _ _
theorem xK(K:Kn)(n:Nat)(b:ai)(j:b.Kids.length≤20):∀(m i:Nat) (a:b7),i≤b.Kids.length→b.Kids.length<m+i→a.length≤i →
  jJ K n b m i a=some (a++(b.Kids.drop i).filter eR):=by
 intro m
 induction m with
 | zero=>intro i a f g;omega
 | succ m d =>
  intro i a f g h;simp only[jJ,lT];by_cases c:i<b.Kids.length
  ·rw[drop_at' c];simp only[d6 c,wl,dg c,bL,ye,hQ,ib,zM,th,ti,d4 (show i<1000000 by omega),List.filter_cons];cases k:eR (b.Kids.getD i default)
   ·simp only[fl,n5];exact d (i+1) a (by omega) (by omega) (by omega)
   ·simp only[wl];rw[eX (by omega) (by omega),bL,d (i+1) _ (by omega) (by omega) (by simp;omega)];simp only[Ao,Ab]
  ·have e:i=b.Kids.length:=by omega
   subst e;simp only[dX (io _),fl,n5,As,List.filter_nil,z9]
theorem qH(K:Kn)(n:Nat)(b:ai)(a:b.Kids.length≤20)(c:20<n):iy K n b=some (c7 b):=by
 have h:=xK K n b a n 0 [] (by omega) (by omega) (by simp);exact(show _=_ from h).trans (by simp only[Aw,z6];rfl)
theorem vP(K:Kn)(n:Nat)(L:b7)(f:L.length≤20):∀(m i:Nat),i≤L.length→L.length<m+i→jc K n L m i=some ((L.drop i).any fun k=>k.Kind == 1):=by
 intro m
 induction m with
 | zero=>intro i b c;omega
 | succ m d =>
  intro i b c;simp only[jc,lN];by_cases a:i<L.length
  ·rw[drop_at' a];simp only[d6 a,wl,dg a,bL,zM,List.any_cons,d4 (show i<1000000 by omega)];cases g:(L.getD i default).Kind == 1
   ·simp only[fl,n5,Au];exact d (i+1) (by omega) (by omega)
   ·simp
  ·have e:i=L.length:=by omega
   subst e;simp[dX (io _)]
theorem uI(K:Kn)(n:Nat)(b:ai)(a:b.Kids.length≤20)(c:20<n):j7 K n b=some ((c7 b).any fun k=>k.Kind == 1):=by
 unfold j7;rw[qH K n b a c,hQ];have:=@ry b;exact(vP K n (c7 b) (by omega) n 0 (by omega) (by omega)).trans (by simp only[z6])
def dd(s:aR)(w:Int):b7→Int→bY→bY×Int
 | [],y,a=>(a,y)
 | k::r,y,a=>if k.Text.toList == (⟨#[]⟩:ByteArray).toList then dd s w r y a else dd s w r (ab (y+s.LineHeight)) (a++[{ aS with Kind:=2,Y:=y,W:=w,H:=s.LineHeight,Text:=k.Text }])
theorem yW(K:Kn)(n:Nat)(L:b7)(s:aR)(w:Int)(h:L.length≤20):∀(m i:Nat) (y:Int) (a:bY),i≤L.length→L.length<m+i→a.length≤i →
  iE K n L s w m y i a=some (dd s w (L.drop i) y a):=by
 intro m
 induction m with
 | zero=>intro i y a d f;omega
 | succ m c =>
  intro i y a d f g;simp only[iE,la];by_cases b:i<L.length
  ·rw[drop_at' b];simp only[d6 b,wl,dg b,bL,hQ,iQ,zM,th,ti,d4 (show i<1000000 by omega),dd];cases j:(L.getD i default).Text.toList == (⟨#[]⟩:ByteArray).toList
   ·simp only[A4,fl,n5,wl];rw[eX (by omega) (by omega),bL,c (i+1) _ _ (by omega) (by omega) (by simp;omega)]
   ·simp only[rs,fl,n5,wl];exact c (i+1) _ a (by omega) (by omega) (by omega)
  ·have e:i=L.length:=by omega
   subst e;simp only[dX (io _),fl,n5,As,dd]
theorem vA(K:Kn)(n:Nat)(L:b7)(s:aR)(w:Int)(a:L.length≤20)(b:20<n):lQ K n L s w=some (dd s w L 0 []) :=
 (yW K n L s w a n 0 0 [] (by omega) (by omega) (by simp)).trans (by simp only[z6])
theorem mI(s:aR)(w:Int):∀(L:b7) (y:Int) (a:bY),(∀f∈a,f.Kids=[])→(dd s w L y a).1.length≤a.length+L.length∧∀f∈(dd s w L y a).1,f.Kids=[]
 | [],y,a,h=>⟨by simp[dd],h⟩
 | k::r,y,a,h=>by
  unfold dd;split
  ·have:=mI s w r y a h;exact⟨by simp only[th];omega,this.2⟩
  ·have:=mI s w r (ab (y+s.LineHeight)) (a++[{ aS with Kind:=2,Y:=y,W:=w,H:=s.LineHeight,Text:=k.Text }]) (fun f b=>by
    rcases jt.1 b with b|b
    ·exact h f b
    ·simp only[Ac,AQ,or_false]at b;subst b;rfl)
   refine⟨?_,this.2⟩;have c:=this.1;simp only[v3,th,ti]at c⊢;omega
def cf(f:aa)(w:Int):aa :=
 if f.Style.Position=1 then { f with X:=ab (f.X+(bE f.Style.Left w).1),Y:=if f.Style.Top.Kind=1 then ab (f.Y+(bE f.Style.Top 0).1) else f.Y } else f
theorem tq(K:Kn)(n:Nat)(f:aa)(w:Int):iq K n f w=some (cf f w):=by
 unfold iq cf;simp only[wO,hQ,ir];by_cases h:f.Style.Position=1
 ·by_cases a:f.Style.Top.Kind=1<;>simp[h,a]
 ·simp[h]
theorem qJ(K:Kn)(n:Nat)(f:aa)(w:Int):gY K n f w=some (cf f w):=by
 unfold gY cf;simp only[jx,hQ,jo];by_cases h:f.Style.Position=1
 ·by_cases a:f.Style.Top.Kind=1<;>simp[h,a]
 ·simp[h]
theorem oC(f:aa)(w:Int):(cf f w).Kids=f.Kids:=by unfold cf;split<;>rfl
def Fd:Nat→aa→Prop
 | 0,_=>False
 | d+1,f=>f.Kids.length≤20∧∀k∈f.Kids,Fd d k
theorem w9(N n:Nat)(f:aa)(h:f.Kids.length≤20)(d:∀k∈f.Kids,(KN N).i7 k k=some true):∀(m i:Nat),i≤f.Kids.length→f.Kids.length<m+i→il (KN N) n f f m i=some true:=by
 intro m
 induction m with
 | zero=>intro i b c;omega
 | succ m g =>
  intro i b c;simp only[il,lx];by_cases a:i<f.Kids.length
  ·simp only[d6 a,wl,dg a,bL,zM,d _ (gN a),hQ,rs,fl,n5,d4 (show i<1000000 by omega)];exact g (i+1) (by omega) (by omega)
  ·have e:i=f.Kids.length:=by omega
   subst e;simp[dX (io _)]
theorem oI:∀(d N n:Nat) (f:aa),Fd d f→d≤N+1→20<n→d+20≤N→fw (KN N) n f f=some true
 | 0,_,_,_,h,_,_,_=>h.elim
 | d+1,N,n,f,h,a,i,b=>by
  have g:=w9 N n f h.1 (fun k c=>by
   match N,a,b with
   | N+1,a,b =>
    show fw (KN N) N k k=some true;by_cases e:d=0
    ·subst e;exact(h.2 k c).elim
    ·exact oI d N N k (h.2 k c) (by omega) (by omega) (by omega)) n 0 (by omega) (by have:=h.1;omega)
  unfold fw;simp only[bne_self_eq_false,At,rs,fl,n5,gV,gw,cK];exact g
set_option linter.all false
variable[ZX]
open Go.RowKit
theorem pf{a b:Int}(h:a % 18446744073709551616=b % 18446744073709551616):ab a=ab b:=by
 unfold ab;rw[Ag,Ag];omega
theorem dN(a:Int):ab a % 18446744073709551616=a % 18446744073709551616:=by
 unfold ab;rw[Ag];omega
def eJ(b:Bool)(z:az)(a:Int)(f:aa):aa :=
 if b=true then cf { f with X:=ab (f.X+ab (z.Border.a3+z.Padding.a3)),Y:=ab (f.Y+ab (ab (z.Border.a0+z.Padding.a0)+a)) } z.Content
 else { f with X:=ab (f.X+ab (z.Border.a3+z.Padding.a3)),Y:=ab (f.Y+ab (ab (z.Border.a0+z.Padding.a0)+a)) }
theorem xN(b:Bool)(z:az)(a:Int)(f:aa):(eJ b z a f).Kids=f.Kids:=by
 unfold eJ;split
 ·rw[oC]
 ·rfl
def ka(b:ai)(z:az)(e:Bool)(L:bY)(d:Int)(c a:ag)(f:Bool)(h:Int):aa :=
 ⟨1,b.Node,z.Margin.a3,0,ab (z.Content+ab (ab (ab (z.Border.a3+z.Padding.a3)+z.Border.a1)+z.Padding.a1)),ab (ab (ab (ab (h+z.Border.a0)+z.Padding.a0)+z.Border.a2)+z.Padding.a2),0,⟨#[]⟩,b.Style,c,a,f,L.map (eJ e z d)⟩
theorem uG(K:Kn)(n:Nat)(b:ai)(z:az)(W:Int)(c:Bool)(g:Int)(h j:ag)(k:Bool)(L:bY)(d:Int)(o l:ag)(p:Bool)(H:Int)(u:L.length≤20):
  ∀(m i:Nat) (a:bY),i≤L.length→L.length<m+i→a.length≤i→j6 K n b z W c g h j k L d o l p m i H a =
   some ⟨1,b.Node,z.Margin.a3,0,W,H,0,⟨#[]⟩,b.Style,o,l,p,a++(L.drop i).map (eJ c z d)⟩:=by
 intro m
 induction m with
 | zero=>intro i a _ r;omega
 | succ m q =>
  intro i a s r t;simp only[j6,lf];by_cases f:i<L.length
  ·rw[drop_at' f];simp only[d6 f,wl,dg f,bL,qJ,hQ,iU,zM,th,ti,d4 (show i<1000000 by omega),u5];rw[eX (by omega) (by omega)];cases c with
   | false =>
    simp only[fl,n5,bL];rw[q (i+1) _ (by omega) (by omega) (by simp;omega)];simp only[Ao,Ab,eJ,fl,n5]
   | true =>
    simp only[wl,bL];rw[q (i+1) _ (by omega) (by omega) (by simp;omega)];simp only[Ao,Ab,eJ,wl]
  ·have e:i=L.length:=by omega
   subst e;simp only[dX (io _),fl,n5,As,yk,z9]
def dB(z:az):Int:=ab (ab (ab (ab (z.Content+z.Border.a1)+z.Border.a3)+z.Padding.a1)+z.Padding.a3)
section
variable(K:Kn)(n:Nat)(c:20<n)(b:ai)(z:az)(L:bY)(a:L.length≤20)
include c a
theorem uW(k:Bool)(c:Int)(e f:ag)(g:Bool)(d:Int)(j i:ag)(l:Bool)(h:Int):gF K n b z (dB z) k c e f g L d j i l h=some (ka b z k L d j i l h):=by
 unfold gF;refine (uG K n b z (dB z) k c e f g L d j i l _ a n 0 [] (by omega) (by omega) (by simp)).trans ?_;simp only[Aw,z6,ka,dB];have m:ab (ab (ab (ab (z.Content+z.Border.a1)+z.Border.a3)+z.Padding.a1)+z.Padding.a3)=ab (z.Content+ab (ab (ab (z.Border.a3+z.Padding.a3)+z.Border.a1)+z.Padding.a1)):=by
  apply pf;have:=dN (ab (ab (z.Content+z.Border.a1)+z.Border.a3)+z.Padding.a1);have:=dN (ab (z.Content+z.Border.a1)+z.Border.a3);have:=dN (z.Content+z.Border.a1);have:=dN (ab (ab (z.Border.a3+z.Padding.a3)+z.Border.a1)+z.Padding.a1);have:=dN (ab (z.Border.a3+z.Padding.a3)+z.Border.a1);have:=dN (z.Border.a3+z.Padding.a3);omega
 have o:ab (ab (ab (ab (h+z.Border.a0)+z.Border.a2)+z.Padding.a0)+z.Padding.a2)=ab (ab (ab (ab (h+z.Border.a0)+z.Padding.a0)+z.Border.a2)+z.Padding.a2):=by
  apply pf;have:=dN (ab (ab (h+z.Border.a0)+z.Border.a2)+z.Padding.a0);have:=dN (ab (h+z.Border.a0)+z.Border.a2);have:=dN (ab (ab (h+z.Border.a0)+z.Padding.a0)+z.Border.a2);have:=dN (ab (h+z.Border.a0)+z.Padding.a0);omega
 rw[m,o]
def sQ(s:aR)(h:Int):Int:=if s.Height.Kind=1 then max (min (max s.Height.Value (-1048576)) 1048576) 0 else max h 0
def fu(l:bx):Int×Bool:=if l.Kind=1 then (max (min (max l.Value (-1048576)) 1048576) 0,true) else (0,false)
omit c a in
theorem wy(l:bx):i8 K n l=some (fu l):=by
 unfold i8 fu;by_cases h:l.Kind=1<;>simp[h,fv]
theorem xf(l:Bool)(e:Int)(f g:ag)(i:Bool)(d h:Int)(k j:ag)(m:Bool):ed K n b z (dB z) l e f g i L (fu b.Style.Height) d h k j m=some (ka b z l L d k j m (sQ b.Style h)):=by
 unfold ed;simp only[uW K n c b z L a];by_cases o:b.Style.Height.Kind=1<;>simp[o,fu,sQ]
end
def dV:Nat→ai→Prop
 | 0,_=>False
 | d+1,b=>b.Kids.length≤20∧((∀k∈b.Kids,k.Kind=1∧dV d k)∨∀k∈b.Kids,k.Kind=3)
theorem mS:∀{d:Nat} {f g:aa},f.Kids=g.Kids→Fd d g→Fd d f
 | 0,_,_,_,h=>h.elim
 | d+1,f,g,e,h=>by unfold Fd at h⊢;rw[e];exact h
theorem uT{d:Nat}{f:aa}(h:f.Kids=[]):Fd (d+1) f:=by unfold Fd;rw[h];simp
section
variable(K:Kn)(n:Nat)
theorem xB(b:ai)(z:az)(f g:Bool)(L:b7)(F:ai→aa)(q:L.length≤20)(j:∀k∈L,K.de k z.Content=some (F k)):
  ∀(m i:Nat) (a:bY),i≤L.length→L.length<m+i→a.length≤i→go K n b z f (dB z) g L m i a =
   (jh K n (a++(L.drop i).map F)).bind fun c=>eN K n b z f (dB z) g c.Height c.Before c.After c.Through c.List:=by
 intro m
 induction m with
 | zero=>intro i a _ h;omega
 | succ m l =>
  intro i a o h p;simp only[go,k6];by_cases d:i<L.length
  ·rw[drop_at' d];simp only[d6 d,wl,dg d,bL,j _ (gN d),hQ,zM,th,ti,d4 (show i<1000000 by omega),u5];rw[eX (by omega) (by omega),bL,l (i+1) _ (by omega) (by omega) (by simp;omega)];simp only[Ao,Ab]
  ·have e:i=L.length:=by omega
   subst e;simp only[dX (io _),fl,n5,As,yk,z9]
end
def nI(b:ai)(z:az)(a:Bool):Bool:=a&&(b.Style.Overflow == 0&&ab (z.Border.a0+z.Padding.a0) == 0)
def nC(b:ai)(z:az)(a:Bool):Bool:=a&&(b.Style.Overflow == 0&&(ab (z.Border.a2+z.Padding.a2) == 0&&b.Style.Height.Kind != 1))
theorem vS(K:Kn)(n:Nat)(b:ai)(z:az)(a f:Bool)(h:Int)(d c:ag)(g:Bool)(L:bY):
  eN K n b z a (dB z) f h d c g L=eU K n b z (dB z) f h d c g L (fu b.Style.Height) (nI b z a) (nC b z a):=by
 unfold eN nI nC;simp only[wy,hQ,jW,ii];have e:(!(fu b.Style.Height).2)=(b.Style.Height.Kind != 1):=by
  unfold fu;by_cases i:b.Style.Height.Kind=1<;>simp[i]
 rw[e];cases a
 ·simp
 ·cases j:b.Style.Overflow == 0
  ·simp
  ·cases k:ab (z.Border.a2+z.Padding.a2) == 0<;>simp
end Go.Proofs.Ytkciiamllegclaa
namespace Go.Proofs.Ytkciiamllegclaa
set_option linter.all false
variable[ZX]
open Go.RowKit
theorem wW(N n:Nat)(L:d3)(A:L.length≤20)(a:Nat)(g:Bool)(d:Nat)(x:g=true→∀i,a<i→i<L.length→∃b f,(KN N).fD L (i:Int)=some (b,((f:Nat):Int))∧i<f∧f≤L.length∧dV d b∧b.Kind=1):
  ∀(m i:Nat) (c:b7),a<i→i≤L.length→L.length<m+i→c.length+a<i→(g=true→∀k∈c,k.Kind=1∧dV d k)→(g=false→∀k∈c,k.Kind=3) →
   ∃b f,dG (KN N) n L a g m i c=some (b,((f:Nat):Int))∧a<f∧f≤L.length∧dV (d+1) b∧b.Kind=1:=by
 intro m
 induction m with
 | zero=>intro i c _ r w;omega
 | succ m o =>
  intro i c q r w z j l;have stop:∃b f,d9 (KN N) n L a g i c (dG (KN N) n L a g m) false=some (b,((f:Nat):Int))∧a<f∧f≤L.length∧dV (d+1) b∧b.Kind=1:=by
   simp only[d9,fl,n5];refine⟨_,i,rfl,q,r,⟨by show c.length≤20;omega,?_⟩,rfl⟩;cases g with
   | true=>exact .inl (j rfl)
   | false=>exact .inr (l rfl)
  simp only[dG,jj];by_cases p:i<L.length
  ·simp only[d6 p,wl,dg p,bL];cases B:decide ((L.getD (i:Int).toNat default).Depth>(L.getD (a:Int).toNat default).Depth) with
   | false=>exact stop
   | true =>
    simp only[d9,wl];cases g with
    | true =>
     obtain⟨b,f,s,y,t,u,v⟩:=x rfl i q p;simp only[wl,s,hQ,th,ti];rw[eX (by omega) (by omega),bL];exact o f (c++[b]) (by omega) t (by omega) (by simp;omega) (fun _ k e=>by
      rcases jt.1 e with e|e
      ·exact j rfl k e
      ·simp only[Ac,AQ,or_false]at e;subst e;exact⟨v,u⟩) (fun h=>by cases h)
    | false =>
     simp only[fl,n5,dg p,bL,th,ti,d4 (show i<1000000 by omega)];rw[eX (by omega) (by omega),bL];exact o (i+1) _ (by omega) (by omega) (by omega) (by simp;omega) (fun h=>by cases h) (fun _ k e=>by
      rcases jt.1 e with e|e
      ·exact l rfl k e
      ·simp only[Ac,AQ,or_false]at e;subst e;rfl)
  ·simp only[dX (show L.length≤i by omega),fl,n5];exact stop
theorem qe:∀(d N:Nat) (L:d3) (a:Nat),a<L.length→L.length-a≤d→L.length≤20→d+25≤N→∃b c,dU (KN N) N L (a:Int)=some (b,((c:Nat):Int))∧a<c∧c≤L.length∧dV d b∧b.Kind=1
 | 0,_,_,_,_,_,_,_=>by omega
 | d+1,0,_,_,_,_,_,h=>by omega
 | d+1,N+1,L,a,m,o,j,q=>by
  have f:∀g:Bool,∃b c,dG (KN (N+1)) (N+1) L a g (N+1) ((a+1:Nat):Int) []=some (b,((c:Nat):Int))∧a<c∧c≤L.length∧dV (d+1) b∧b.Kind=1:=fun g =>
   wW (N+1) (N+1) L j a g d (fun _ i p n=>qe d N L i n (by omega) j (by omega)) (N+1) (a+1) [] (by omega) (by omega) (by omega) (by simp) (fun _ k e=>by cases e) (fun _ k e=>by cases e)
  unfold dU;simp only[dg m,bL,d4 (show a<1000000 by omega),fW];by_cases l:a+1<L.length
  ·simp only[d6 l,wl,dg l,bL];split
   ·exact f _
   ·exact f _
  ·simp only[dX (show L.length≤a+1 by omega),fl,n5];exact f _
end Go.Proofs.Ytkciiamllegclaa
namespace Go.Proofs.Ytkciiamllegclaa
set_option linter.all false
variable[ZX]
open Go.RowKit
theorem xF(K:Kn)(n:Nat)(L:bY)(C:L.length≤20):∀(m i:Nat) (h:Int) (b:ag) (t:Bool) (u:ag) (l:bY),i≤L.length→L.length<m+i→l.length≤i →
  (∀f∈l,∃g∈L,∃y,f={ g with Y:=y })→∃r,hI K n L m i h b t u l=some r∧r.List.length+i=l.length+L.length∧∀f∈r.List,∃g∈L,∃y,f={ g with Y:=y }:=by
 intro m
 induction m with
 | zero=>intro i _ _ _ _ _ v w x _;omega
 | succ m B =>
  intro i h b t u l v w x s;simp only[hI,k5];by_cases q:i<L.length
  ·have a:fits (l.length+1) 584=true:=eX (by omega) (by omega);have o:∀(k:Int) (p:Bool) (j c:ag) (y:Int),∃r,hI K n L m ((i+1:Nat):Int) k j p c (l++[{ L.getD (i:Int).toNat default with Y:=y }])=some r∧r.List.length+i=l.length+L.length∧∀f∈r.List,∃g∈L,∃y,f={ g with Y:=y }:=by
    intro k p j c y;obtain⟨r,A,d,z⟩:=B (i+1) k j p c (l++[{ L.getD (i:Int).toNat default with Y:=y }]) (by omega) (by omega) (by simp;omega) (fun f a=>by
     rcases jt.1 a with a|a
     ·exact s f a
     ·rw[zE.1 a];exact⟨_,gN (L:=L) (i:=(i:Int).toNat) (by omega),y,rfl⟩)
    refine⟨r,A,by simp at d;omega,z⟩
   simp only[d6 q,wl,dg q,bL,ew,fS,hQ,jP,jN,jz,th,ti,u3,a,d4 (show i<1000000 by omega)]
   repeat (first|exact o _ _ _ _ _|split)
  ·have e:i=L.length:=by omega
   subst e;simp only[dX (io _),fl,n5,iY];split<;>exact⟨_,rfl,rfl,s⟩
theorem yf(K:Kn)(n:Nat)(L:bY)(d:L.length≤20)(h:20<n):∃r,jh K n L=some r∧r.List.length=L.length∧∀f∈r.List,∃g∈L,∃y,f={ g with Y:=y }:=by
 obtain⟨r,a,b,c⟩:=xF K n L d n 0 0 b8 true b8 [] (by omega) (by omega) (by simp) (fun f e=>by cases e);exact⟨r,a,by simpa using b,c⟩
def eC(f:aa):Prop:=f.Text.size≤reachBytes∧f.Style.Color.size≤reachBytes
def fB(k:ai):Prop:=k.Text.size≤reachBytes∧k.Style.Color.size≤reachBytes
theorem vE{a:Bool}{z:az}{d:Int}{f:aa}(h:eC f):eC (eJ a z d f):=by
 unfold eJ cf eC at *
 repeat (first|exact h|split)
theorem ms(s:aR)(w:Int):∀(L:b7) (y:Int) (a:bY),(∀k∈L,fB k)→(∀f∈a,eC f)→∀f∈(dd s w L y a).1,eC f
 | [],y,a,_,h=>h
 | k::r,y,a,d,h=>by
  unfold dd;split
  ·exact ms s w r y a (fun k b=>d k (Ae _ b)) h
  ·refine ms s w r _ _ (fun k b=>d k (Ae _ b)) (fun f c=>?_);rcases jt.1 c with c|c
   ·exact h f c
   ·rw[zE.1 c];exact⟨(d k u2).1,zW _⟩
theorem yS(K:Kn)(n:Nat)(p:20<n)(b:ai)(z:az)(L:bY)(o:L.length≤20)(g:Bool)(h:Int)(k j:ag)(i a c:Bool):
  ∃d f e l m,eU K n b z (dB z) g h k j i L (fu b.Style.Height) a c=some (ka b z g L d f e l m):=by
 cases a<;>cases c<;>cases i <;>
  simp only[eU,iS,gX,j9,jm,ju,ew,fS,hQ,rs,A4,fl,wl,n5,xf K n p b z L o] <;>
  exact⟨_,_,_,_,_,rfl⟩
theorem xv(d N:Nat)(b:ai)(z:az)(a:Bool)(I:dV (d+1) b)(W:20<N)
  (Q:∀k,dV d k→∃f,(KN (N+1)).de k z.Content=some f∧Fd (d+1) f∧f.Text=⟨#[]⟩∧f.Style=k.Style) :
  ∃f,jY (KN (N+1)) (N+1) b z a=some f∧Fd (d+2) f∧f.Text=⟨#[]⟩∧f.Style=b.Style∧((∀k∈b.Kids,fB k)→∀k∈f.Kids,eC k):=by
 have j:b.Kids.length≤20:=I.1;have l:(c7 b).length≤20:=Ap ry j;have i:∀k∈c7 b,k∈b.Kids:=fun k c=>(Aj.1 c).1;unfold jY;rw[uI _ _ b j (by omega),qH _ _ b j (by omega)];simp only[hQ];rw[show ab (ab (ab (ab (z.Content+z.Border.a1)+z.Border.a3)+z.Padding.a1)+z.Padding.a3)=dB z from rfl];have p:∀(L:bY) (w:Bool) (h:Int) (F:Bool) (v u:ag),L.length≤20→(∀f∈L,Fd (d+1) f)→((∀k∈b.Kids,fB k)→∀f∈L,eC f) →
   ∃f,eN (KN (N+1)) (N+1) b z a (dB z) w h v u F L=some f∧Fd (d+2) f∧f.Text=⟨#[]⟩∧f.Style=b.Style∧((∀k∈b.Kids,fB k)→∀k∈f.Kids,eC k):=by
  intro L w h F v u H c D;obtain⟨T,K,J,U,V,e⟩:=yS (KN (N+1)) (N+1) (by omega) b z L H w h v u F (nI b z a) (nC b z a);refine⟨_,(vS _ _ _ _ _ _ _ _ _ _ _).trans e,⟨by simpa[ka]using H,?_⟩,rfl,rfl,fun B k n=>?_⟩
  ·intro k n;obtain⟨y,E,rfl⟩:=z3.1 n;exact mS (xN _ _ _ _) (c y E)
  ·obtain⟨y,E,rfl⟩:=z3.1 n;exact vE (D B y E)
 cases B:(c7 b).any (fun k=>k.Kind == 1) with
 | true =>
  have q:∀k∈b.Kids,dV d k:=by
   rcases I.2 with h|h
   ·exact fun k c=>(h k c).2
   ·obtain⟨k,c,e⟩:=zJ.1 B;have:=h k (i k c);simp[this]at e
  have A:∀k∈c7 b,(KN (N+1)).de k z.Content=some (((KN (N+1)).de k z.Content).getD default)∧Fd (d+1) (((KN (N+1)).de k z.Content).getD default)∧(((KN (N+1)).de k z.Content).getD default).Text=⟨#[]⟩∧(((KN (N+1)).de k z.Content).getD default).Style=k.Style:=fun k c=>by
   obtain⟨f,x,O⟩:=Q k (q k (i k c));rw[x];exact⟨rfl,O⟩
  simp only[wl];have G:=xB (KN (N+1)) (N+1) b z a true (c7 b) (fun k=>((KN (N+1)).de k z.Content).getD default) l (fun k c=>(A k c).1) (N+1) 0 [] (by omega) (by omega) (by simp);simp only[Aw,z6]at G;obtain⟨r,P,C,t⟩:=yf (KN (N+1)) (N+1) ((c7 b).map fun k=>((KN (N+1)).de k z.Content).getD default) (by simpa using l) (by omega);rw[show go (KN (N+1)) (N+1) b z a (dB z) true (c7 b) (N+1) 0 []=_ from G,P];simp only[hQ];rw[u6]at C;refine p r.List true r.Height r.Through r.Before r.After (by omega) (fun f s=>?_) (fun o f s=>?_)
  ·obtain⟨g,m,y,e⟩:=t f s;obtain⟨k,c,rfl⟩:=z3.1 m;exact mS (by rw[e]) (A k c).2.1
  ·obtain⟨g,m,y,e⟩:=t f s;obtain⟨k,c,rfl⟩:=z3.1 m;obtain⟨_,_,M,x⟩:=A k c;rw[e];exact⟨by show ByteArray.size (aa.Text _)≤_;rw[M];decide,by show ByteArray.size (aR.Color (aa.Style _))≤_;rw[x];exact(o k (i k c)).2⟩
 | false =>
  simp only[fl,n5];obtain⟨R,S⟩:=mI b.Style z.Content (c7 b) 0 [] (by simp);simp only[ti,u3]at R;rw[vA _ _ (c7 b) b.Style z.Content l (by omega)];simp only[hQ];exact p (dd b.Style z.Content (c7 b) 0 []).1 false _ _ b8 b8 (by omega) (fun f s=>uT (S f s)) (fun o=>ms _ _ _ _ _ (fun k c=>o k (i k c)) (by simp))
theorem sB:∀(d N:Nat) (b:ai) (w:Int),dV d b→d+25≤N→∃f,fR (KN N) N b w=some f∧Fd (d+1) f∧f.Text=⟨#[]⟩∧f.Style=b.Style∧((∀k∈b.Kids,fB k)→∀k∈f.Kids,eC k)
 | 0,_,_,_,h,_=>h.elim
 | d+1,0,_,_,_,h=>by omega
 | d+1,N+1,b,w,i,l=>by
  obtain⟨f,a,c⟩:=xv d N b (lY b.Style w) true i (by omega) (fun k j=>by
   obtain⟨f,a,c,e,g,_⟩:=sB d N k (lY b.Style w).Content j (by omega);exact⟨f,a,c,e,g⟩)
  refine⟨f,?_,c⟩;unfold fR;simp only[yo,hQ,a]
theorem rM(N n:Nat)(L:d3)(a:Int)(e:Bool)(P:ai→Prop)(o:∀i r,(KN N).fD L i=some r→P r.1)(p:∀i:Nat,i<L.length→P { cX with Kind:=3,Style:=(L.getD i default).Style,Text:=(L.getD i default).Text }):
  ∀(m:Nat) (i:Int) (c:b7) {r:ai×Int},(∀k∈c,P k)→dG (KN N) n L a e m i c=some r→r.1.Style=(L.getD a.toNat default).Style∧r.1.Text=⟨#[]⟩∧∀k∈r.1.Kids,P k:=by
 intro m
 induction m with
 | zero=>intro i c r _ h;cases h
 | succ m l =>
  intro i c r d h;have stop:d9 (KN N) n L a e i c (dG (KN N) n L a e m) false=some r→r.1.Style=(L.getD a.toNat default).Style∧r.1.Text=⟨#[]⟩∧∀k∈r.1.Kids,P k:=fun h=>by
   simp only[d9,fl,n5]at h;injection h with h;subst h
   exact⟨rfl,rfl,d⟩
  simp only[dG,jj]at h;split at h
  ·obtain⟨f,h⟩:=bg h;cases j:decide ((L.getD i.toNat default).Depth>(L.getD a.toNat default).Depth) with
   | false=>rw[j]at h;exact stop h
   | true =>
    rw[j]at h;simp only[d9,wl]at h;cases e with
    | true =>
     simp only[wl]at h;cases g:(KN N).fD L i with
     | none=>rw[g]at h;cases h
     | some q =>
      rw[g]at h;simp only[hQ]at h;obtain⟨_,h⟩:=bg h;refine l _ _ (fun k b=>?_) h;rcases jt.1 b with b|b
      ·exact d k b
      ·rw[zE.1 b];exact o i q g
    | false =>
     simp only[fl,n5]at h;obtain⟨_,h⟩:=bg h;obtain⟨_,h⟩:=bg h;obtain⟨_,h⟩:=bg h;refine l _ _ (fun k b=>?_) h;rcases jt.1 b with b|b
     ·exact d k b
     ·rw[zE.1 b];exact p i.toNat (by have:=cw f;omega)
  ·exact stop h
theorem oH{N n:Nat}{L:d3}{a:Int}{r:ai×Int}(h:dU (KN N) n L a=some r):∃b i,dG (KN N) n L a b n i []=some r:=by
 unfold dU at h;obtain⟨_,h⟩:=bg h;obtain⟨_,h⟩:=bg h;simp only[fW]at h;split at h
 ·obtain⟨_,h⟩:=bg h;split at h
  ·obtain⟨_,h⟩:=bg h;exact⟨_,_,h⟩
  ·exact⟨_,_,h⟩
 ·exact⟨_,_,h⟩
theorem tB{N n:Nat}{L:d3}{a:Int}{r:ai×Int}(g:∀x∈L,x.Text.size≤reachBytes∧x.Style.Color.size≤reachBytes)(h:dU (KN N) n L a=some r):∀k∈r.1.Kids,fB k:=by
 have c:∀i:Nat,(L.getD i default).Text.size≤reachBytes∧(L.getD i default).Style.Color.size≤reachBytes:=fun i=>by
  rw[u4];cases e:L[i]? with
  | none=>exact⟨by decide,by decide⟩
  | some x=>exact g x (h6 e)
 obtain⟨m,i,h⟩:=oH h;refine (rM N n L a m fB (fun i q b=>?_) (fun i _=>c i) n i [] (fun k j=>by cases j) h).2.2;cases N with
 | zero=>cases b
 | succ N =>
  have b:dU (KN N) N L i=some q:=b;obtain⟨o,l,b⟩:=oH b;obtain⟨d,f,_⟩:=rM N N L i o (fun _=>True) (fun _ _ _=>trivial) (fun _ _=>trivial) N l [] (fun _ _=>trivial) b;exact⟨by rw[f];decide,by rw[d];exact(c i.toNat).2⟩
def cE(a b:aa):Bool:=a.Kind == b.Kind&&(a.Node == b.Node&&(a.X == b.X&&(a.Y == b.Y&&(a.W == b.W&&(a.H == b.H&&(a.aC == b.aC&&(a.Text.toList == b.Text.toList&&(ge a.Style b.Style&&(ff a.Before b.Before&&(ff a.After b.After&&a.Empty == b.Empty))))))))))
theorem wL{α:Type}(x:Option α):(x.bind fun v=>some v)=x:=by cases x<;>rfl
theorem ite_and'{α:Type}(a b:Bool)(x y:α):(if (a&&b)=true then x else y)=if a=true then (if b=true then x else y) else y:=by cases a<;>simp
theorem gM(K:Kn)(n:Nat)(a b:aa):cu K n a b=if cE a b=true then f9 K n a.Kids b.Kids 40 else some false:=by
 unfold cu cE;simp only[cD,wL,ite_and']
def eA(r:Nat→Bool):Nat→Nat→Bool
 | _,0=>true
 | i,k+1=>r i&&eA r (i+1) k
theorem sa{r:Nat→Bool}:∀{k i:Nat},(∀j,i≤j→j<i+k→r j=true)→eA r i k=true
 | 0,_,_=>rfl
 | k+1,i,h=>by
  unfold eA;rw[h i (io _) (by omega),sa (fun j a b=>h j (by omega) (by omega))];rfl
theorem qS{r:Nat→Bool}:∀{k i j:Nat},i≤j→j<i+k→r j=false→eA r i k=false
 | 0,i,j,a,b,_=>by omega
 | k+1,i,j,a,b,h=>by
  unfold eA;by_cases e:i=j
  ·subst e;rw[h];rfl
  ·rw[qS (i:=i+1) (by omega) (by omega) h,Bool.and_false]
theorem vN(K:Kn)(n:Nat)(L M:bY)(f:L.length=M.length)(k:L.length≤20)(r:Nat→Bool)(h:∀i,i<L.length→K.gS 40 (L.getD i default) (M.getD i default)=some (r i)):
  ∀m i,i≤L.length→L.length<m+i→ix K n L M 40 m (i:Nat)=some (eA r i (L.length-i)):=by
 intro m
 induction m with
 | zero=>intro i c d;omega
 | succ m j =>
  intro i c d;simp only[ix,lE];by_cases a:i<L.length
  ·obtain⟨q,g⟩:∃q,L.length-i=q+1:=⟨L.length-i-1,by omega⟩;have b:i<M.length:=by omega
   simp only[d6 a,wl,dg a,dg b,bL,zM,h i a,hQ,d4 (show i<1000000 by omega)];rw[g];unfold eA;cases r i with
   | false=>simp
   | true =>
    simp only[rs,fl,n5,A8];rw[j (i+1) (by omega) (by omega),show L.length-(i+1)=q by omega]
  ·have e:i=L.length:=by omega
   subst e;simp only[dX (io _),fl,n5,A9,eA]
theorem sE(K:Kn)(n:Nat)(L M:bY)(a:L.length=M.length)(b:L.length≤20)(d:20<n)(r:Nat→Bool)(c:∀i,i<L.length→K.gS 40 (L.getD i default) (M.getD i default)=some (r i)):
  f9 K n L M 40=some (eA r 0 L.length):=by
 unfold f9;rw[o9 (by simp[a])];exact vN K n L M a b r c n 0 (by omega) (by omega)
theorem pA(f:aa):cE f f=true:=by simp[cE,gV,gw]
theorem ne:∀(d N:Nat) (f:aa),Fd d f→d+25≤N→cu (KN N) N f f=some true
 | 0,_,_,h,_=>h.elim
 | d+1,0,_,_,h=>by omega
 | d+1,N+1,f,h,b=>by
  rw[gM,l2 (pA f),sE (KN (N+1)) (N+1) f.Kids f.Kids rfl h.1 (by omega) (fun _=>true) (fun i a=>ne d N _ (h.2 _ (gN a)) (by omega)),sa (fun _ _ _=>rfl)]
theorem ze{d N:Nat}{f:aa}{k:Nat}{x:aa}(h:Fd (d+1) f)(m:d+26≤N+1)(c:k<f.Kids.length)(l:cu (KN N) N (f.Kids.getD k default) x=some false):
  cu (KN (N+1)) (N+1) f { f with Kids:=f.Kids.set k x }=some false:=by
 have g:cE f { f with Kids:=f.Kids.set k x }=true:=by simp[cE,gV,gw]
 rw[gM,l2 g];have a:∀i,(f.Kids.set k x).getD i default=if k=i∧i<f.Kids.length then x else f.Kids.getD i default:=fun i=>by
  rw[u4,AJ,u4];by_cases e:k=i
  ·subst e;simp[c]
  ·simp[e]
 rw[sE (KN (N+1)) (N+1) f.Kids (f.Kids.set k x) (by simp) h.1 (by omega) (fun i=>!decide (k=i)) (fun i b=>by
  show cu (KN N) N _ _=_;rw[a];by_cases e:k=i
  ·subst e;rw[l2 ⟨rfl,b⟩,l];simp
  ·rw[o9 (fun h=>e h.1),ne d N _ (h.2 _ (gN b)) (by omega)];simp[e])]
 rw[qS (j:=k) (zW _) (by omega) (by simp)]
theorem lO{K:Kn}{n:Nat}{a b:aa}(h:cE a b=false):cu K n a b=some false:=by rw[gM,h];rfl
end Go.Proofs.Ytkciiamllegclaa
namespace Go.Proofs.Ytkciiamllegclaa.QBlockMoved
set_option linter.all false
variable[ZX]
open Go.RowKit
theorem rO(a b:ByteArray)(c:b.data.toList≠[]):(a.toList == (a++b).toList)=false∧(a.toList == (b++a).toList)=false:=by
 have d:0<b.data.toList.length:=A6.2 c;constructor<;>rw[A7,A7,ByteArray.data_append,Array.toList_append]<;>apply AB.2<;>intro h<;>have:=congrArg List.length h<;>simp only[v3]at this<;>omega
theorem sn{a b:ByteArray}(c:a.size≤reachBytes)(d:b.size≤1):fE a b=true∧fE b a=true:=by
 have:=reachBytes_lt;constructor<;>exact decide_eq_true (by omega)
theorem y0(h:Int):(h == ab (h+1))=false:=by
 apply AB.2;intro e;have:=dN (h+1);omega
theorem vU(s:aR):ge s { s with Color:=(⟨#[35]⟩:ByteArray)++s.Color }=false:=by
 have h:=(rO s.Color (⟨#[35]⟩:ByteArray) (by simp)).2;simp[ge,h]
theorem blockMoved(L:d3)(w c:Int)(W:(L.length:Int)≤9223372036854775807)(H:∀x∈L,x.Text.size≤reachBytes∧x.Style.Color.size≤reachBytes)(B:0≤c)(a0:c≤255)(J:L≠[]→ZX.p=false):∃n,iP (KN n) n L w c=some true:=by
 refine⟨(L.length+95)+5,?_⟩;generalize hn:(L.length+95)=M at *;obtain⟨v,hv,I⟩:=tW (KN (M+5)) (M+5) L 20 W (by omega);unfold iP;simp only[y8,hQ,rs,fl,n5,hv,jI];cases v with
 | false=>simp
 | true =>
  have V:=(I rfl).1;simp only[rs,fl,n5];cases U:((L.length:Int) == 0) with
  | true=>simp
  | false =>
   have y:L.length≠0:=by simpa using U
   have hp:=J (fun e=>y (by rw[e];rfl));obtain⟨b,t,K,e2,e3,S,T⟩:=qe 20 (M+5) L 0 (by omega) (by omega) (by omega) (by omega);have G:=tB H K;obtain⟨f,O,s,f3,f4,u⟩:=sB 20 (M+5) b w S (by omega);have u:=u G;have Z:dU (KN (M+5)) (M+5) L 0=some (b,(t:Int)):=K;have Y:fw (KN (M+5)) (M+5) (cf f w) (cf f w)=some true:=oI 21 (M+5) (M+5) _ (mS (oC f w) s) (by omega) (by omega) (by omega);have z:cu (KN (M+5)) (M+5) f f=some true:=ne 21 (M+5) f s (by omega);have P:=z;rw[gM,l2 (pA f)]at P;have X:cu (KN (M+5)) (M+5) f (cf f w)=some (f.X == (cf f w).X&&f.Y == (cf f w).Y):=by
    have F:cE f (cf f w)=(f.X == (cf f w).X&&f.Y == (cf f w).Y):=by
     unfold cf;split
     ·simp[cE,gV,gw]
     ·simp[cE,gV,gw]
    rw[gM,F,oC,P];cases (f.X == (cf f w).X&&f.Y == (cf f w).Y)<;>rfl
   have A:∀v:Bool,jX (KN (M+5)) (M+5) v=some v:=fun v=>rfl;have r:∀l:bY,cu (KN (M+5)) (M+5) f { f with Kids:=l }=some ((l.length:Int) == 0)→gZ (KN (M+5)) (M+5) (b,(t:Int)) f f l=some true:=fun l h=>by
    unfold gZ;simp only[h,hQ,At,wl,vh,A];simp[eR,T]
   have q:eS (KN (M+5)) (M+5) w c (b,(t:Int)) f false=some true:=by
    simp only[eS,fl,n5,O,hQ];by_cases g:f.Kids.length=0
    ·have C:decide ((f.Kids.length:Int)>0)=false:=by rw[g];rfl
     rw[C];simp only[fl,n5];refine r _ ?_;rw[g];exact z
    ·have C:decide ((f.Kids.length:Int)>0)=true:=decide_eq_true (by omega);have E:((f.Kids.length:Int) != 0)=true:=by simpa using g
     have hw:ab c=c:=ng (by omega) (by omega);have o:0≤Int.tmod (ab c) (f.Kids.length:Int):=by rw[hw];exact Int.tmod_nonneg _ B
     have p:Int.tmod (ab c) (f.Kids.length:Int)<f.Kids.length:=Int.tmod_lt_of_pos _ (by omega);rw[C];generalize Int.tmod (ab c) (f.Kids.length:Int)=j at o p⊢;have D:br j f.Kids.length=true:=n9 o p;have Q:j.toNat<f.Kids.length:=by omega
     have k:=gN (L:=f.Kids) Q;generalize m:f.Kids.getD j.toNat default=a at k;have b0:a.Kids.length≤20:=(s.2 a k).1;obtain⟨t1,t2⟩:=u a k;have i:∀x,cu (KN (M+4)) (M+4) a x=some false→eB (KN (M+5)) (M+5) (b,(t:Int)) f f (f.Kids.set j.toNat x)=some true:=fun x R=>by
      unfold eB;refine r _ ?_;rw[ze (d:=20) (N:=M+4) s (by omega) Q (by rw[m];exact R),Av];simp[g]
     simp only[wl,E,bL,D,m];split
     ·exact i _ (lO (by simp[cE,y0]))
     ·split
      ·rw[(sn t1 (by decide)).1,bL];exact i _ (lO (by simp[cE,(rO a.Text (⟨#[120]⟩:ByteArray) (by simp)).1]))
      ·split
       ·rw[(sn t2 (by decide)).2,bL];exact i _ (lO (by simp[cE,vU]))
       ·split
        ·rw[hp,eX (n:=a.Kids.length+1) (b:=584) (by omega) (by omega)];simp only[A4,Bool.and_self,bL];refine i _ ?_;have hs:cE a { a with Kids:=a.Kids++[aS] }=true:=by simp[cE,gV,gw]
         rw[gM,l2 hs];unfold f9;rw[l2 (by simp;omega)]
        ·exact i _ (lO (by simp[cE]))
   simp only[fl,n5];simp only[Z,hQ,O,tq,qJ,Y,rs,fl,n5,z,X];cases R:f.X == (cf f w).X
   ·simp only[Bool.false_and,fl,n5,At,rs];exact q
   ·simp only[A8,wl,At,rs];exact q
theorem holds(a:d3)(i b:Int)(j:bc Try.prog 39 ((mH aJ) a))(k:bc Try.prog 5 ((ke .u8) b))(d:a≠[]→ZX.p=false):∃n,iP (KN n) n a i b=some true:=by
 obtain⟨l,c,o,_,m⟩:=j.sl_inv Try.underlying39;simp only[mH,Aa,AV.sl.injEq,and_true]at c;have e:l.length=a.length:=by rw[←c,u6]
 have p:l.length≤9223372036854775807:=o;obtain⟨n,f,q⟩:=k.int_inv Try.underlying5;simp only[ke,Aa,AV.int.injEq,true_and,and_true]at f;subst f;have g:0≤b∧b≤255:=by simpa[Lit.wf,IntKind.min,IntKind.max,IntKind.signed,IntKind.bits]using q
 refine blockMoved a i b (by omega) (fun x r=>?_) g.1 g.2 d;have h:=(m (aJ x) (by rw[←c];exact List.mem_map_of_mem r)).strs;exact⟨h x.Text (by simp[aJ]),h x.Style.Color (by simp[aJ])⟩
end Go.Proofs.Ytkciiamllegclaa.QBlockMoved
