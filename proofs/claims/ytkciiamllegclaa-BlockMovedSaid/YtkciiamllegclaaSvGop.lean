/- Arguments of the laws' types as typed values. Made by a program. -/
import Derived.Test.YtkciiamllegclaaSvGt
import Derived.Test.YtkciiamllegclaaProg
namespace Go.Proofs.Ytkciiamllegclaa
open Go.RowKit
set_option maxRecDepth 20000
set_option linter.all false
abbrev d3:=List bo
variable[ZX]
theorem jl{a:bl}(h:bc Try.prog 5 a):∃x:Int,a=(ke .u8) x:=by
 obtain⟨n,rfl,_⟩:=h.int_inv Try.underlying5;exact⟨n,rfl⟩
theorem lL{a:bl}(h:bc Try.prog 9 a):∃x:ByteArray,a=vo x:=by
 obtain⟨b,rfl,_⟩:=h.str_inv Try.underlying9;exact⟨b,rfl⟩
theorem cb{a:bl}(h:bc Try.prog 3 a):∃x:Int,a=(ke .i64) x:=by
 obtain⟨n,rfl,_⟩:=h.int_inv Try.underlying3;exact⟨n,rfl⟩
theorem dM{f:bl}(h:bc Try.prog 31 f):∃x:bx,f=dJ x:=by
 have g:=h.gen;rw[Try.underlying31]at g;obtain⟨a,rfl,c,i⟩:=g;have c:a.length=2:=c;obtain⟨l,p,j,d⟩:=bd c;subst j;obtain⟨m,q,k,e⟩:=bd d;subst k;have b:=iF e;subst b;obtain⟨n,rfl⟩:=cb (i 0 _ l rfl rfl);obtain⟨o,rfl⟩:=cb (i 1 _ m rfl rfl);exact⟨⟨n,o⟩,by kernel_rfl⟩
theorem rE{j:bl}(h:bc Try.prog 32 j):∃x:(V4 bx),j=(sN dJ) x:=by
 have k:=h.gen;rw[Try.underlying32]at k;obtain⟨a,rfl,d,c⟩:=k;have d:a.length=4:=d;obtain⟨p,y,l,e⟩:=bd d;subst l;obtain⟨q,z,m,f⟩:=bd e;subst m;obtain⟨r,A,n,g⟩:=bd f;subst n;obtain⟨s,B,o,i⟩:=bd g;subst o;have b:=iF i;subst b;obtain⟨t,rfl⟩:=dM (c p (by simp));obtain⟨u,rfl⟩:=dM (c q (by simp));obtain⟨v,rfl⟩:=dM (c r (by simp));obtain⟨w,rfl⟩:=dM (c s (by simp));exact⟨⟨t,u,v,w⟩,by kernel_rfl⟩
theorem yl{j:bl}(h:bc Try.prog 33 j):∃x:(V4 Int),j=(sN (ke .i64)) x:=by
 have k:=h.gen;rw[Try.underlying33]at k;obtain⟨a,rfl,d,c⟩:=k;have d:a.length=4:=d;obtain⟨p,y,l,e⟩:=bd d;subst l;obtain⟨q,z,m,f⟩:=bd e;subst m;obtain⟨r,A,n,g⟩:=bd f;subst n;obtain⟨s,B,o,i⟩:=bd g;subst o;have b:=iF i;subst b;obtain⟨t,rfl⟩:=cb (c p (by simp));obtain⟨u,rfl⟩:=cb (c q (by simp));obtain⟨v,rfl⟩:=cb (c r (by simp));obtain⟨w,rfl⟩:=cb (c s (by simp));exact⟨⟨t,u,v,w⟩,by kernel_rfl⟩
theorem rk{a:bl}(h:bc Try.prog 4 a):∃x:Bool,a=w3 x:=by
 obtain⟨b,rfl⟩:=h.bool_inv Try.underlying4;exact⟨b,rfl⟩
theorem xc{cs:bl}(h:bc Try.prog 35 cs):∃x:aR,cs=aX x:=by
 have hg:=h.gen;rw[Try.underlying35]at hg;obtain⟨b,rfl,R,a⟩:=hg;have R:b.length=29:=R;obtain⟨p0,r0,e0,S⟩:=bd R;subst e0;obtain⟨p1,r1,e1,T⟩:=bd S;subst e1;obtain⟨p2,r2,e2,U⟩:=bd T;subst e2;obtain⟨p3,r3,e3,V⟩:=bd U;subst e3;obtain⟨p4,r4,e4,W⟩:=bd V;subst e4;obtain⟨p5,r5,e5,X⟩:=bd W;subst e5;obtain⟨p6,r6,e6,Y⟩:=bd X;subst e6;obtain⟨p7,r7,e7,Z⟩:=bd Y;subst e7;obtain⟨p8,r8,e8,a0⟩:=bd Z;subst e8;obtain⟨p9,r9,e9,b0⟩:=bd a0;subst e9;obtain⟨c0,X0,y,c⟩:=bd b0;subst y;obtain⟨d0,Y0,z,d⟩:=bd c;subst z;obtain⟨g0,Z0,A,e⟩:=bd d;subst A;obtain⟨h0,a1,B,f⟩:=bd e;subst B;obtain⟨i0,b1,C,g⟩:=bd f;subst C;obtain⟨k0,c1,D,i⟩:=bd g;subst D;obtain⟨l0,d1,E,j⟩:=bd i;subst E;obtain⟨m0,f1,F,k⟩:=bd j;subst F;obtain⟨o0,g1,G,l⟩:=bd k;subst G;obtain⟨q0,h1,H,m⟩:=bd l
 subst H;obtain⟨s0,i1,I,n⟩:=bd m;subst I;obtain⟨t0,j1,J,o⟩:=bd n;subst J;obtain⟨v0,k1,K,p⟩:=bd o;subst K;obtain⟨w0,l1,L,q⟩:=bd p;subst L;obtain⟨z0,m1,M,r⟩:=bd q;subst M;obtain⟨A0,n1,N,s⟩:=bd r;subst N;obtain⟨B0,q1,O,t⟩:=bd s;subst O;obtain⟨C0,s1,P,u⟩:=bd t;subst P;obtain⟨D0,t1,Q,v⟩:=bd u;subst Q;have w:=iF v;subst w;obtain⟨x0,rfl⟩:=cb (a 0 _ p0 rfl rfl);obtain⟨x1,rfl⟩:=cb (a 1 _ p1 rfl rfl);obtain⟨x2,rfl⟩:=dM (a 2 _ p2 rfl rfl);obtain⟨x3,rfl⟩:=dM (a 3 _ p3 rfl rfl);obtain⟨x4,rfl⟩:=dM (a 4 _ p4 rfl rfl);obtain⟨x5,rfl⟩:=dM (a 5 _ p5 rfl rfl);obtain⟨x6,rfl⟩:=dM (a 6 _ p6 rfl rfl);obtain⟨x7,rfl⟩:=dM (a 7 _ p7 rfl rfl);obtain⟨x8,rfl⟩:=rE (a 8 _ p8 rfl rfl);obtain⟨x9,rfl⟩:=rE (a 9 _ p9 rfl rfl);obtain⟨E0,rfl⟩:=yl (a 10 _ c0 rfl rfl)
 obtain⟨F0,rfl⟩:=lL (a 11 _ d0 rfl rfl);obtain⟨G0,rfl⟩:=lL (a 12 _ g0 rfl rfl);obtain⟨H0,rfl⟩:=lL (a 13 _ h0 rfl rfl);obtain⟨I0,rfl⟩:=cb (a 14 _ i0 rfl rfl);obtain⟨J0,rfl⟩:=cb (a 15 _ k0 rfl rfl);obtain⟨K0,rfl⟩:=cb (a 16 _ l0 rfl rfl);obtain⟨L0,rfl⟩:=cb (a 17 _ m0 rfl rfl);obtain⟨M0,rfl⟩:=cb (a 18 _ o0 rfl rfl);obtain⟨N0,rfl⟩:=cb (a 19 _ q0 rfl rfl);obtain⟨O0,rfl⟩:=rk (a 20 _ s0 rfl rfl);obtain⟨P0,rfl⟩:=cb (a 21 _ t0 rfl rfl);obtain⟨Q0,rfl⟩:=cb (a 22 _ v0 rfl rfl);obtain⟨R0,rfl⟩:=dM (a 23 _ w0 rfl rfl);obtain⟨S0,rfl⟩:=cb (a 24 _ z0 rfl rfl);obtain⟨T0,rfl⟩:=cb (a 25 _ A0 rfl rfl);obtain⟨U0,rfl⟩:=rk (a 26 _ B0 rfl rfl);obtain⟨V0,rfl⟩:=cb (a 27 _ C0 rfl rfl);obtain⟨W0,rfl⟩:=cb (a 28 _ D0 rfl rfl);exact⟨⟨x0,x1,x2,x3,x4,x5,x6,x7,x8,x9,E0,F0,G0,H0,I0,J0,K0,L0,M0,N0,O0,P0,Q0,R0,S0,T0,U0,V0,W0⟩,by kernel_rfl⟩
theorem uL{l:bl}(h:bc Try.prog 37 l):∃x:bo,l=aJ x:=by
 have m:=h.gen;rw[Try.underlying37]at m;obtain⟨a,rfl,d,b⟩:=m;have d:a.length=6:=d;obtain⟨t,G,n,e⟩:=bd d;subst n;obtain⟨u,H,o,f⟩:=bd e;subst o;obtain⟨v,I,p,g⟩:=bd f;subst p;obtain⟨w,J,q,i⟩:=bd g;subst q;obtain⟨y,K,r,j⟩:=bd i;subst r;obtain⟨z,L,s,k⟩:=bd j;subst s;have c:=iF k;subst c;obtain⟨A,rfl⟩:=jl (b 0 _ t rfl rfl);obtain⟨B,rfl⟩:=jl (b 1 _ u rfl rfl);obtain⟨C,rfl⟩:=lL (b 2 _ v rfl rfl);obtain⟨D,rfl⟩:=jl (b 3 _ w rfl rfl);obtain⟨E,rfl⟩:=jl (b 4 _ y rfl rfl);obtain⟨F,rfl⟩:=xc (b 5 _ z rfl rfl);exact⟨⟨A,B,C,D,E,F⟩,by kernel_rfl⟩
theorem y7{b:bl}(h:bc Try.prog 39 b):∃x:d3,b=(mH aJ) x:=by
 obtain⟨l,rfl,_,_,d⟩:=h.sl_inv Try.underlying39;obtain⟨L,rfl⟩:=tu (e:=aJ) (fun c a=>uL (d c a));exact⟨L,rfl⟩
end Go.Proofs.Ytkciiamllegclaa
