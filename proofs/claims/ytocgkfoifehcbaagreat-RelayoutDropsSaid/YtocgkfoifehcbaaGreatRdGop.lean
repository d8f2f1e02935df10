/- Arguments of the laws' types as typed values. Made by a program. -/
import Derived.Test.YtocgkfoifehcbaaGreatRdFr
import Derived.Test.YtocgkfoifehcbaaGreatRdGt
namespace Go.Proofs.YtocgkfoifehcbaaGreat
open Go.RowKit
set_option maxRecDepth 20000
set_option linter.all false
abbrev ek:=List ce
theorem xM{cs:c6}(h:cX Tryz.prog 5 cs):∃x:Int,cs=(ak .u8) x:=by
 obtain⟨n,rfl,_⟩:=h.int_inv Tryz.underlying5;exact⟨n,rfl⟩
theorem Cm{cs:c6}(h:cX Tryz.prog 9 cs):∃x:ByteArray,cs=Xl x:=by
 obtain⟨b,rfl,_⟩:=h.str_inv Tryz.underlying9;exact⟨b,rfl⟩
theorem fq{cs:c6}(h:cX Tryz.prog 3 cs):∃x:Int,cs=(ak .i64) x:=by
 obtain⟨n,rfl,_⟩:=h.int_inv Tryz.underlying3;exact⟨n,rfl⟩
theorem kM{cs:c6}(h:cX Tryz.prog 31 cs):∃x:cB,cs=fW x:=by
 have e:=h.gen;rw[Tryz.underlying31]at e;obtain⟨parts,rfl,b,f⟩:=e;have b:parts.length=2:=b;obtain⟨j,m,g,c⟩:=cU b;subst g;obtain⟨p1,n,i,d⟩:=cU c;subst i;have a:=qk d;subst a;obtain⟨k,rfl⟩:=fq (f 0 _ j rfl rfl);obtain⟨l,rfl⟩:=fq (f 1 _ p1 rfl rfl);exact⟨⟨k,l⟩,by kernel_rfl⟩
theorem Lo{cs:c6}(h:cX Tryz.prog 32 cs):∃x:(V4 cB),cs=(kS fW) x:=by
 have i:=h.gen;rw[Tryz.underlying32]at i;obtain⟨parts,rfl,c,b⟩:=i;have c:parts.length=4:=c;obtain⟨n,u,j,d⟩:=cU c;subst j;obtain⟨p1,v,k,e⟩:=cU d;subst k;obtain⟨o,w,l,f⟩:=cU e;subst l;obtain⟨p,y,m,g⟩:=cU f;subst m;have a:=qk g;subst a;obtain⟨q,rfl⟩:=kM (b n (by simp));obtain⟨r,rfl⟩:=kM (b p1 (by simp));obtain⟨s,rfl⟩:=kM (b o (by simp));obtain⟨t,rfl⟩:=kM (b p (by simp));exact⟨⟨q,r,s,t⟩,by kernel_rfl⟩
theorem aef{cs:c6}(h:cX Tryz.prog 33 cs):∃x:(V4 Int),cs=(kS (ak .i64)) x:=by
 have i:=h.gen;rw[Tryz.underlying33]at i;obtain⟨parts,rfl,c,b⟩:=i;have c:parts.length=4:=c;obtain⟨n,u,j,d⟩:=cU c;subst j;obtain⟨p1,v,k,e⟩:=cU d;subst k;obtain⟨o,w,l,f⟩:=cU e;subst l;obtain⟨p,y,m,g⟩:=cU f;subst m;have a:=qk g;subst a;obtain⟨q,rfl⟩:=fq (b n (by simp));obtain⟨r,rfl⟩:=fq (b p1 (by simp));obtain⟨s,rfl⟩:=fq (b o (by simp));obtain⟨t,rfl⟩:=fq (b p (by simp));exact⟨⟨q,r,s,t⟩,by kernel_rfl⟩
theorem PW{cs:c6}(h:cX Tryz.prog 4 cs):∃x:Bool,cs=XT x:=by
 obtain⟨b,rfl⟩:=h.bool_inv Tryz.underlying4;exact⟨b,rfl⟩
theorem acO{cs:c6}(h:cX Tryz.prog 35 cs):∃x:aN,cs=aH x:=by
 have hg:=h.gen;rw[Tryz.underlying35]at hg;obtain⟨parts,rfl,Q,a⟩:=hg;have Q:parts.length=29:=Q;obtain⟨p0,r0,e0,R⟩:=cU Q;subst e0;obtain⟨p1,r1,e1,S⟩:=cU R;subst e1;obtain⟨p2,r2,e2,T⟩:=cU S;subst e2;obtain⟨p3,r3,e3,U⟩:=cU T;subst e3;obtain⟨p4,r4,e4,V⟩:=cU U;subst e4;obtain⟨p5,r5,e5,W⟩:=cU V;subst e5;obtain⟨p6,r6,e6,X⟩:=cU W;subst e6;obtain⟨p7,r7,e7,Y⟩:=cU X;subst e7;obtain⟨p8,r8,e8,Z⟩:=cU Y;subst e8;obtain⟨p9,r9,e9,a0⟩:=cU Z;subst e9;obtain⟨b0,v1,w,b⟩:=cU a0;subst w;obtain⟨c0,w1,y,c⟩:=cU b;subst y;obtain⟨d0,y1,z,d⟩:=cU c;subst z;obtain⟨f0,z1,A,e⟩:=cU d;subst A;obtain⟨g0,L1,B,f⟩:=cU e;subst B;obtain⟨h0,O1,C,g⟩:=cU f;subst C;obtain⟨i0,S1,D,i⟩:=cU g;subst D;obtain⟨k0,a2,E,j⟩:=cU i;subst E;obtain⟨l0,b2,F,k⟩:=cU j;subst F;obtain⟨m0,c2,G,l⟩:=cU k
 subst G;obtain⟨o0,d2,H,m⟩:=cU l;subst H;obtain⟨q0,f2,I,n⟩:=cU m;subst I;obtain⟨s0,g2,J,o⟩:=cU n;subst J;obtain⟨t0,h2,K,p⟩:=cU o;subst K;obtain⟨v0,i2,L,q⟩:=cU p;subst L;obtain⟨w0,j2,M,r⟩:=cU q;subst M;obtain⟨y0,k2,N,s⟩:=cU r;subst N;obtain⟨A0,l2,O,t⟩:=cU s;subst O;obtain⟨S0,m2,P,u⟩:=cU t;subst P;have v:=qk u;subst v;obtain⟨x0,rfl⟩:=fq (a 0 _ p0 rfl rfl);obtain⟨x1,rfl⟩:=fq (a 1 _ p1 rfl rfl);obtain⟨x2,rfl⟩:=kM (a 2 _ p2 rfl rfl);obtain⟨x3,rfl⟩:=kM (a 3 _ p3 rfl rfl);obtain⟨x4,rfl⟩:=kM (a 4 _ p4 rfl rfl);obtain⟨x5,rfl⟩:=kM (a 5 _ p5 rfl rfl);obtain⟨x6,rfl⟩:=kM (a 6 _ p6 rfl rfl);obtain⟨x7,rfl⟩:=kM (a 7 _ p7 rfl rfl);obtain⟨x8,rfl⟩:=Lo (a 8 _ p8 rfl rfl);obtain⟨x9,rfl⟩:=Lo (a 9 _ p9 rfl rfl);obtain⟨T0,rfl⟩:=aef (a 10 _ b0 rfl rfl)
 obtain⟨a1,rfl⟩:=Cm (a 11 _ c0 rfl rfl);obtain⟨b1,rfl⟩:=Cm (a 12 _ d0 rfl rfl);obtain⟨c1,rfl⟩:=Cm (a 13 _ f0 rfl rfl);obtain⟨d1,rfl⟩:=fq (a 14 _ g0 rfl rfl);obtain⟨f1,rfl⟩:=fq (a 15 _ h0 rfl rfl);obtain⟨g1,rfl⟩:=fq (a 16 _ i0 rfl rfl);obtain⟨h1,rfl⟩:=fq (a 17 _ k0 rfl rfl);obtain⟨i1,rfl⟩:=fq (a 18 _ l0 rfl rfl);obtain⟨j1,rfl⟩:=fq (a 19 _ m0 rfl rfl);obtain⟨k1,rfl⟩:=PW (a 20 _ o0 rfl rfl);obtain⟨l1,rfl⟩:=fq (a 21 _ q0 rfl rfl);obtain⟨m1,rfl⟩:=fq (a 22 _ s0 rfl rfl);obtain⟨n1,rfl⟩:=kM (a 23 _ t0 rfl rfl);obtain⟨o1,rfl⟩:=fq (a 24 _ v0 rfl rfl);obtain⟨q1,rfl⟩:=fq (a 25 _ w0 rfl rfl);obtain⟨s1,rfl⟩:=PW (a 26 _ y0 rfl rfl);obtain⟨t1,rfl⟩:=fq (a 27 _ A0 rfl rfl);obtain⟨u1,rfl⟩:=fq (a 28 _ S0 rfl rfl);exact⟨⟨x0,x1,x2,x3,x4,x5,x6,x7,x8,x9,T0,a1,b1,c1,d1,f1,g1,h1,i1,j1,k1,l1,m1,n1,o1,q1,s1,t1,u1⟩,by kernel_rfl⟩
theorem XK{cs:c6}(h:cX Tryz.prog 37 cs):∃x:ce,cs=bp x:=by
 have k:=h.gen;rw[Tryz.underlying37]at k;obtain⟨parts,rfl,c,a⟩:=k;have c:parts.length=6:=c;obtain⟨r,D,l,d⟩:=cU c;subst l;obtain⟨p1,E,m,e⟩:=cU d;subst m;obtain⟨s,F,n,f⟩:=cU e;subst n;obtain⟨t,G,o,g⟩:=cU f;subst o;obtain⟨u,H,p,i⟩:=cU g;subst p;obtain⟨v,I,q,j⟩:=cU i;subst q;have b:=qk j;subst b;obtain⟨w,rfl⟩:=xM (a 0 _ r rfl rfl);obtain⟨y,rfl⟩:=xM (a 1 _ p1 rfl rfl);obtain⟨z,rfl⟩:=Cm (a 2 _ s rfl rfl);obtain⟨A,rfl⟩:=xM (a 3 _ t rfl rfl);obtain⟨B,rfl⟩:=xM (a 4 _ u rfl rfl);obtain⟨C,rfl⟩:=acO (a 5 _ v rfl rfl);exact⟨⟨w,y,z,A,B,C⟩,by kernel_rfl⟩
theorem acx{cs:c6}(h:cX Tryz.prog 22 cs):∃x:ek,cs=(HP bp) x:=by
 obtain⟨l,rfl,_,_,b⟩:=h.sl_inv Tryz.underlying22;obtain⟨L,rfl⟩:=Zp (e:=bp) (fun c a=>XK (b c a));exact⟨L,rfl⟩
end Go.Proofs.YtocgkfoifehcbaaGreat
