/- Arguments of the laws' types as typed values. Made by a program. -/
import Derived.Test.YtocgkfoifehcbaaGreatReGt
namespace Go.Proofs.YtocgkfoifehcbaaGreat
open Go.RowKit
set_option maxRecDepth 20000
set_option linter.all false
abbrev d5:=List aJ
theorem tu{cs:ck}(h:cS Tryz.prog 5 cs):∃x:Int,cs=(ak .u8) x:=by
 obtain⟨n,rfl,_⟩:=h.int_inv Tryz.underlying5;exact⟨n,rfl⟩
theorem Bz{cs:ck}(h:cS Tryz.prog 9 cs):∃x:ByteArray,cs=akg x:=by
 obtain⟨b,rfl,_⟩:=h.str_inv Tryz.underlying9;exact⟨b,rfl⟩
theorem fh{cs:ck}(h:cS Tryz.prog 3 cs):∃x:Int,cs=(ak .i64) x:=by
 obtain⟨n,rfl,_⟩:=h.int_inv Tryz.underlying3;exact⟨n,rfl⟩
theorem lj{cs:ck}(h:cS Tryz.prog 31 cs):∃x:cI,cs=gg x:=by
 have e:=h.gen;rw[Tryz.underlying31]at e;obtain⟨parts,rfl,b,f⟩:=e;have b:parts.length=2:=b;obtain⟨j,m,g,c⟩:=cO b;subst g;obtain⟨p1,n,i,d⟩:=cO c;subst i;have a:=nx d;subst a;obtain⟨k,rfl⟩:=fh (f 0 _ j rfl rfl);obtain⟨l,rfl⟩:=fh (f 1 _ p1 rfl rfl);exact⟨⟨k,l⟩,by kernel_rfl⟩
theorem WG{cs:ck}(h:cS Tryz.prog 32 cs):∃x:(V4 cI),cs=(k8 gg) x:=by
 have i:=h.gen;rw[Tryz.underlying32]at i;obtain⟨parts,rfl,c,b⟩:=i;have c:parts.length=4:=c;obtain⟨n,u,j,d⟩:=cO c;subst j;obtain⟨p1,v,k,e⟩:=cO d;subst k;obtain⟨o,w,l,f⟩:=cO e;subst l;obtain⟨p,y,m,g⟩:=cO f;subst m;have a:=nx g;subst a;obtain⟨q,rfl⟩:=lj (b n (by simp));obtain⟨r,rfl⟩:=lj (b p1 (by simp));obtain⟨s,rfl⟩:=lj (b o (by simp));obtain⟨t,rfl⟩:=lj (b p (by simp));exact⟨⟨q,r,s,t⟩,by kernel_rfl⟩
theorem ajv{cs:ck}(h:cS Tryz.prog 33 cs):∃x:(V4 Int),cs=(k8 (ak .i64)) x:=by
 have i:=h.gen;rw[Tryz.underlying33]at i;obtain⟨parts,rfl,c,b⟩:=i;have c:parts.length=4:=c;obtain⟨n,u,j,d⟩:=cO c;subst j;obtain⟨p1,v,k,e⟩:=cO d;subst k;obtain⟨o,w,l,f⟩:=cO e;subst l;obtain⟨p,y,m,g⟩:=cO f;subst m;have a:=nx g;subst a;obtain⟨q,rfl⟩:=fh (b n (by simp));obtain⟨r,rfl⟩:=fh (b p1 (by simp));obtain⟨s,rfl⟩:=fh (b o (by simp));obtain⟨t,rfl⟩:=fh (b p (by simp));exact⟨⟨q,r,s,t⟩,by kernel_rfl⟩
theorem TJ{cs:ck}(h:cS Tryz.prog 4 cs):∃x:Bool,cs=ahW x:=by
 obtain⟨b,rfl⟩:=h.bool_inv Tryz.underlying4;exact⟨b,rfl⟩
theorem aeU{cs:ck}(h:cS Tryz.prog 35 cs):∃x:aR,cs=aI x:=by
 have hg:=h.gen;rw[Tryz.underlying35]at hg;obtain⟨parts,rfl,Q,a⟩:=hg;have Q:parts.length=29:=Q;obtain⟨p0,r0,e0,R⟩:=cO Q;subst e0;obtain⟨p1,r1,e1,S⟩:=cO R;subst e1;obtain⟨p2,r2,e2,T⟩:=cO S;subst e2;obtain⟨p3,r3,e3,U⟩:=cO T;subst e3;obtain⟨p4,r4,e4,V⟩:=cO U;subst e4;obtain⟨p5,r5,e5,W⟩:=cO V;subst e5;obtain⟨p6,r6,e6,X⟩:=cO W;subst e6;obtain⟨p7,r7,e7,Y⟩:=cO X;subst e7;obtain⟨p8,r8,e8,Z⟩:=cO Y;subst e8;obtain⟨p9,r9,e9,a0⟩:=cO Z;subst e9;obtain⟨b0,v1,w,b⟩:=cO a0;subst w;obtain⟨c0,w1,y,c⟩:=cO b;subst y;obtain⟨d0,y1,z,d⟩:=cO c;subst z;obtain⟨f0,z1,A,e⟩:=cO d;subst A;obtain⟨g0,L1,B,f⟩:=cO e;subst B;obtain⟨h0,O1,C,g⟩:=cO f;subst C;obtain⟨i0,S1,D,i⟩:=cO g;subst D;obtain⟨k0,a2,E,j⟩:=cO i;subst E;obtain⟨l0,b2,F,k⟩:=cO j;subst F;obtain⟨m0,c2,G,l⟩:=cO k
 subst G;obtain⟨o0,d2,H,m⟩:=cO l;subst H;obtain⟨q0,f2,I,n⟩:=cO m;subst I;obtain⟨s0,g2,J,o⟩:=cO n;subst J;obtain⟨t0,h2,K,p⟩:=cO o;subst K;obtain⟨v0,i2,L,q⟩:=cO p;subst L;obtain⟨w0,j2,M,r⟩:=cO q;subst M;obtain⟨y0,k2,N,s⟩:=cO r;subst N;obtain⟨A0,l2,O,t⟩:=cO s;subst O;obtain⟨S0,m2,P,u⟩:=cO t;subst P;have v:=nx u;subst v;obtain⟨x0,rfl⟩:=fh (a 0 _ p0 rfl rfl);obtain⟨x1,rfl⟩:=fh (a 1 _ p1 rfl rfl);obtain⟨x2,rfl⟩:=lj (a 2 _ p2 rfl rfl);obtain⟨x3,rfl⟩:=lj (a 3 _ p3 rfl rfl);obtain⟨x4,rfl⟩:=lj (a 4 _ p4 rfl rfl);obtain⟨x5,rfl⟩:=lj (a 5 _ p5 rfl rfl);obtain⟨x6,rfl⟩:=lj (a 6 _ p6 rfl rfl);obtain⟨x7,rfl⟩:=lj (a 7 _ p7 rfl rfl);obtain⟨x8,rfl⟩:=WG (a 8 _ p8 rfl rfl);obtain⟨x9,rfl⟩:=WG (a 9 _ p9 rfl rfl);obtain⟨T0,rfl⟩:=ajv (a 10 _ b0 rfl rfl)
 obtain⟨a1,rfl⟩:=Bz (a 11 _ c0 rfl rfl);obtain⟨b1,rfl⟩:=Bz (a 12 _ d0 rfl rfl);obtain⟨c1,rfl⟩:=Bz (a 13 _ f0 rfl rfl);obtain⟨d1,rfl⟩:=fh (a 14 _ g0 rfl rfl);obtain⟨f1,rfl⟩:=fh (a 15 _ h0 rfl rfl);obtain⟨g1,rfl⟩:=fh (a 16 _ i0 rfl rfl);obtain⟨h1,rfl⟩:=fh (a 17 _ k0 rfl rfl);obtain⟨i1,rfl⟩:=fh (a 18 _ l0 rfl rfl);obtain⟨j1,rfl⟩:=fh (a 19 _ m0 rfl rfl);obtain⟨k1,rfl⟩:=TJ (a 20 _ o0 rfl rfl);obtain⟨l1,rfl⟩:=fh (a 21 _ q0 rfl rfl);obtain⟨m1,rfl⟩:=fh (a 22 _ s0 rfl rfl);obtain⟨n1,rfl⟩:=lj (a 23 _ t0 rfl rfl);obtain⟨o1,rfl⟩:=fh (a 24 _ v0 rfl rfl);obtain⟨q1,rfl⟩:=fh (a 25 _ w0 rfl rfl);obtain⟨s1,rfl⟩:=TJ (a 26 _ y0 rfl rfl);obtain⟨t1,rfl⟩:=fh (a 27 _ A0 rfl rfl);obtain⟨u1,rfl⟩:=fh (a 28 _ S0 rfl rfl);exact⟨⟨x0,x1,x2,x3,x4,x5,x6,x7,x8,x9,T0,a1,b1,c1,d1,f1,g1,h1,i1,j1,k1,l1,m1,n1,o1,q1,s1,t1,u1⟩,by kernel_rfl⟩
theorem SH{cs:ck}(h:cS Tryz.prog 37 cs):∃x:aJ,cs=aK x:=by
 have k:=h.gen;rw[Tryz.underlying37]at k;obtain⟨parts,rfl,c,a⟩:=k;have c:parts.length=6:=c;obtain⟨r,D,l,d⟩:=cO c;subst l;obtain⟨p1,E,m,e⟩:=cO d;subst m;obtain⟨s,F,n,f⟩:=cO e;subst n;obtain⟨t,G,o,g⟩:=cO f;subst o;obtain⟨u,H,p,i⟩:=cO g;subst p;obtain⟨v,I,q,j⟩:=cO i;subst q;have b:=nx j;subst b;obtain⟨w,rfl⟩:=tu (a 0 _ r rfl rfl);obtain⟨y,rfl⟩:=tu (a 1 _ p1 rfl rfl);obtain⟨z,rfl⟩:=Bz (a 2 _ s rfl rfl);obtain⟨A,rfl⟩:=tu (a 3 _ t rfl rfl);obtain⟨B,rfl⟩:=tu (a 4 _ u rfl rfl);obtain⟨C,rfl⟩:=aeU (a 5 _ v rfl rfl);exact⟨⟨w,y,z,A,B,C⟩,by kernel_rfl⟩
theorem ajy{cs:ck}(h:cS Tryz.prog 22 cs):∃x:d5,cs=(t6 aK) x:=by
 obtain⟨l,rfl,_,_,b⟩:=h.sl_inv Tryz.underlying22;obtain⟨L,rfl⟩:=Qz (e:=aK) (fun c a=>SH (b c a));exact⟨L,rfl⟩
theorem akh{cs:ck}(h:cS Tryz.prog 39 cs):∃x:dL,cs=dw x:=by
 have g:=h.gen;rw[Tryz.underlying39]at g;obtain⟨parts,rfl,b,f⟩:=g;have b:parts.length=3:=b;obtain⟨l,q,i,c⟩:=cO b;subst i;obtain⟨p1,r,j,d⟩:=cO c;subst j;obtain⟨m,s,k,e⟩:=cO d;subst k;have a:=nx e;subst a;obtain⟨n,rfl⟩:=tu (f 0 _ l rfl rfl);obtain⟨o,rfl⟩:=tu (f 1 _ p1 rfl rfl);obtain⟨p,rfl⟩:=SH (f 2 _ m rfl rfl);exact⟨⟨n,o,p⟩,by kernel_rfl⟩
theorem adV{cs:ck}(h:cS Tryz.prog 23 cs):∃x:(List dL),cs=(t6 dw) x:=by
 obtain⟨l,rfl,_,_,b⟩:=h.sl_inv Tryz.underlying23;obtain⟨L,rfl⟩:=Qz (e:=dw) (fun c a=>akh (b c a));exact⟨L,rfl⟩
theorem Zg{cs:ck}(h:cS Tryz.prog 24 cs):∃x:(V2 Int),cs=(jN (ak .i64)) x:=by
 have e:=h.gen;rw[Tryz.underlying24]at e;obtain⟨parts,rfl,b,f⟩:=e;have b:parts.length=2:=b;obtain⟨j,m,g,c⟩:=cO b;subst g;obtain⟨p1,n,i,d⟩:=cO c;subst i;have a:=nx d;subst a;obtain⟨k,rfl⟩:=fh (f j (by simp));obtain⟨l,rfl⟩:=fh (f p1 (by simp));exact⟨⟨k,l⟩,by kernel_rfl⟩
end Go.Proofs.YtocgkfoifehcbaaGreat
