/- Arguments of the laws' types as typed values. Made by a program. -/
import Derived.Test.YtocgkfoifehcbaaGreatRpGt
namespace Go.Proofs.YtocgkfoifehcbaaGreat
open Go.RowKit
set_option maxRecDepth 20000
set_option linter.all false
abbrev dt:=List aK
theorem tz{cs:b6}(h:cZ Tryz.prog 5 cs):∃x:Int,cs=(ak .u8) x:=by
 obtain⟨n,rfl,_⟩:=h.int_inv Tryz.underlying5;exact⟨n,rfl⟩
theorem Ey{cs:b6}(h:cZ Tryz.prog 9 cs):∃x:ByteArray,cs=aih x:=by
 obtain⟨b,rfl,_⟩:=h.str_inv Tryz.underlying9;exact⟨b,rfl⟩
theorem fH{cs:b6}(h:cZ Tryz.prog 3 cs):∃x:Int,cs=(ak .i64) x:=by
 obtain⟨n,rfl,_⟩:=h.int_inv Tryz.underlying3;exact⟨n,rfl⟩
theorem lx{cs:b6}(h:cZ Tryz.prog 31 cs):∃x:cL,cs=gu x:=by
 have e:=h.gen;rw[Tryz.underlying31]at e;obtain⟨parts,rfl,b,f⟩:=e;have b:parts.length=2:=b;obtain⟨p0,r0,g,c⟩:=cV b;subst g;obtain⟨p1,l,i,d⟩:=cV c;subst i;have a:=ne d;subst a;obtain⟨j,rfl⟩:=fH (f 0 _ p0 rfl rfl);obtain⟨k,rfl⟩:=fH (f 1 _ p1 rfl rfl);exact⟨⟨j,k⟩,by kernel_rfl⟩
theorem OO{cs:b6}(h:cZ Tryz.prog 32 cs):∃x:(V4 cL),cs=(ly gu) x:=by
 have i:=h.gen;rw[Tryz.underlying32]at i;obtain⟨parts,rfl,c,b⟩:=i;have c:parts.length=4:=c;obtain⟨p0,r0,j,d⟩:=cV c;subst j;obtain⟨p1,t,k,e⟩:=cV d;subst k;obtain⟨n,u,l,f⟩:=cV e;subst l;obtain⟨o,v,m,g⟩:=cV f;subst m;have a:=ne g;subst a;obtain⟨p,rfl⟩:=lx (b p0 (by simp));obtain⟨q,rfl⟩:=lx (b p1 (by simp));obtain⟨r,rfl⟩:=lx (b n (by simp));obtain⟨s,rfl⟩:=lx (b o (by simp));exact⟨⟨p,q,r,s⟩,by kernel_rfl⟩
theorem aey{cs:b6}(h:cZ Tryz.prog 33 cs):∃x:(V4 Int),cs=(ly (ak .i64)) x:=by
 have i:=h.gen;rw[Tryz.underlying33]at i;obtain⟨parts,rfl,c,b⟩:=i;have c:parts.length=4:=c;obtain⟨p0,r0,j,d⟩:=cV c;subst j;obtain⟨p1,t,k,e⟩:=cV d;subst k;obtain⟨n,u,l,f⟩:=cV e;subst l;obtain⟨o,v,m,g⟩:=cV f;subst m;have a:=ne g;subst a;obtain⟨p,rfl⟩:=fH (b p0 (by simp));obtain⟨q,rfl⟩:=fH (b p1 (by simp));obtain⟨r,rfl⟩:=fH (b n (by simp));obtain⟨s,rfl⟩:=fH (b o (by simp));exact⟨⟨p,q,r,s⟩,by kernel_rfl⟩
theorem UH{cs:b6}(h:cZ Tryz.prog 4 cs):∃x:Bool,cs=abt x:=by
 obtain⟨b,rfl⟩:=h.bool_inv Tryz.underlying4;exact⟨b,rfl⟩
theorem aem{cs:b6}(h:cZ Tryz.prog 35 cs):∃x:aO,cs=aG x:=by
 have hg:=h.gen;rw[Tryz.underlying35]at hg;obtain⟨parts,rfl,Q,a⟩:=hg;have Q:parts.length=29:=Q;obtain⟨p0,r0,e0,R⟩:=cV Q;subst e0;obtain⟨p1,r1,e1,S⟩:=cV R;subst e1;obtain⟨p2,r2,e2,T⟩:=cV S;subst e2;obtain⟨p3,r3,e3,U⟩:=cV T;subst e3;obtain⟨p4,r4,e4,V⟩:=cV U;subst e4;obtain⟨p5,r5,e5,W⟩:=cV V;subst e5;obtain⟨p6,r6,e6,X⟩:=cV W;subst e6;obtain⟨p7,r7,e7,Y⟩:=cV X;subst e7;obtain⟨p8,r8,e8,Z⟩:=cV Y;subst e8;obtain⟨p9,r9,e9,a0⟩:=cV Z;subst e9;obtain⟨b0,u1,w,b⟩:=cV a0;subst w;obtain⟨c0,v1,y,c⟩:=cV b;subst y;obtain⟨d0,w1,z,d⟩:=cV c;subst z;obtain⟨f0,y1,A,e⟩:=cV d;subst A;obtain⟨g0,z1,B,f⟩:=cV e;subst B;obtain⟨h0,L1,C,g⟩:=cV f;subst C;obtain⟨i0,O1,D,i⟩:=cV g;subst D;obtain⟨k0,S1,E,j⟩:=cV i;subst E;obtain⟨l0,a2,F,k⟩:=cV j;subst F;obtain⟨m0,b2,G,l⟩:=cV k
 subst G;obtain⟨o0,c2,H,m⟩:=cV l;subst H;obtain⟨q0,d2,I,n⟩:=cV m;subst I;obtain⟨s0,f2,J,o⟩:=cV n;subst J;obtain⟨t0,g2,K,p⟩:=cV o;subst K;obtain⟨v0,h2,L,q⟩:=cV p;subst L;obtain⟨w0,i2,M,r⟩:=cV q;subst M;obtain⟨y0,j2,N,s⟩:=cV r;subst N;obtain⟨A0,k2,O,t⟩:=cV s;subst O;obtain⟨F0,l2,P,u⟩:=cV t;subst P;have v:=ne u;subst v;obtain⟨x0,rfl⟩:=fH (a 0 _ p0 rfl rfl);obtain⟨x1,rfl⟩:=fH (a 1 _ p1 rfl rfl);obtain⟨x2,rfl⟩:=lx (a 2 _ p2 rfl rfl);obtain⟨x3,rfl⟩:=lx (a 3 _ p3 rfl rfl);obtain⟨x4,rfl⟩:=lx (a 4 _ p4 rfl rfl);obtain⟨x5,rfl⟩:=lx (a 5 _ p5 rfl rfl);obtain⟨x6,rfl⟩:=lx (a 6 _ p6 rfl rfl);obtain⟨x7,rfl⟩:=lx (a 7 _ p7 rfl rfl);obtain⟨x8,rfl⟩:=OO (a 8 _ p8 rfl rfl);obtain⟨x9,rfl⟩:=OO (a 9 _ p9 rfl rfl);obtain⟨S0,rfl⟩:=aey (a 10 _ b0 rfl rfl)
 obtain⟨T0,rfl⟩:=Ey (a 11 _ c0 rfl rfl);obtain⟨a1,rfl⟩:=Ey (a 12 _ d0 rfl rfl);obtain⟨b1,rfl⟩:=Ey (a 13 _ f0 rfl rfl);obtain⟨c1,rfl⟩:=fH (a 14 _ g0 rfl rfl);obtain⟨d1,rfl⟩:=fH (a 15 _ h0 rfl rfl);obtain⟨f1,rfl⟩:=fH (a 16 _ i0 rfl rfl);obtain⟨g1,rfl⟩:=fH (a 17 _ k0 rfl rfl);obtain⟨h1,rfl⟩:=fH (a 18 _ l0 rfl rfl);obtain⟨i1,rfl⟩:=fH (a 19 _ m0 rfl rfl);obtain⟨j1,rfl⟩:=UH (a 20 _ o0 rfl rfl);obtain⟨k1,rfl⟩:=fH (a 21 _ q0 rfl rfl);obtain⟨l1,rfl⟩:=fH (a 22 _ s0 rfl rfl);obtain⟨m1,rfl⟩:=lx (a 23 _ t0 rfl rfl);obtain⟨n1,rfl⟩:=fH (a 24 _ v0 rfl rfl);obtain⟨o1,rfl⟩:=fH (a 25 _ w0 rfl rfl);obtain⟨q1,rfl⟩:=UH (a 26 _ y0 rfl rfl);obtain⟨s1,rfl⟩:=fH (a 27 _ A0 rfl rfl);obtain⟨t1,rfl⟩:=fH (a 28 _ F0 rfl rfl);exact⟨⟨x0,x1,x2,x3,x4,x5,x6,x7,x8,x9,S0,T0,a1,b1,c1,d1,f1,g1,h1,i1,j1,k1,l1,m1,n1,o1,q1,s1,t1⟩,by kernel_rfl⟩
theorem P8{cs:b6}(h:cZ Tryz.prog 37 cs):∃x:aK,cs=aH x:=by
 have k:=h.gen;rw[Tryz.underlying37]at k;obtain⟨parts,rfl,c,a⟩:=k;have c:parts.length=6:=c;obtain⟨p0,r0,l,d⟩:=cV c;subst l;obtain⟨p1,C,m,e⟩:=cV d;subst m;obtain⟨r,D,n,f⟩:=cV e;subst n;obtain⟨s,E,o,g⟩:=cV f;subst o;obtain⟨t,F,p,i⟩:=cV g;subst p;obtain⟨u,G,q,j⟩:=cV i;subst q;have b:=ne j;subst b;obtain⟨v,rfl⟩:=tz (a 0 _ p0 rfl rfl);obtain⟨w,rfl⟩:=tz (a 1 _ p1 rfl rfl);obtain⟨y,rfl⟩:=Ey (a 2 _ r rfl rfl);obtain⟨z,rfl⟩:=tz (a 3 _ s rfl rfl);obtain⟨A,rfl⟩:=tz (a 4 _ t rfl rfl);obtain⟨B,rfl⟩:=aem (a 5 _ u rfl rfl);exact⟨⟨v,w,y,z,A,B⟩,by kernel_rfl⟩
theorem ajZ{cs:b6}(h:cZ Tryz.prog 22 cs):∃x:dt,cs=(tS aH) x:=by
 obtain⟨l,rfl,_,_,b⟩:=h.sl_inv Tryz.underlying22;obtain⟨L,rfl⟩:=PW (e:=aH) (fun c a=>P8 (b c a));exact⟨L,rfl⟩
theorem ajm{cs:b6}(h:cZ Tryz.prog 39 cs):∃x:fi,cs=eF x:=by
 have g:=h.gen;rw[Tryz.underlying39]at g;obtain⟨parts,rfl,b,f⟩:=g;have b:parts.length=3:=b;obtain⟨p0,r0,i,c⟩:=cV b;subst i;obtain⟨p1,p,j,d⟩:=cV c;subst j;obtain⟨l,q,k,e⟩:=cV d;subst k;have a:=ne e;subst a;obtain⟨m,rfl⟩:=tz (f 0 _ p0 rfl rfl);obtain⟨n,rfl⟩:=tz (f 1 _ p1 rfl rfl);obtain⟨o,rfl⟩:=P8 (f 2 _ l rfl rfl);exact⟨⟨m,n,o⟩,by kernel_rfl⟩
theorem abm{cs:b6}(h:cZ Tryz.prog 23 cs):∃x:(List fi),cs=(tS eF) x:=by
 obtain⟨l,rfl,_,_,b⟩:=h.sl_inv Tryz.underlying23;obtain⟨L,rfl⟩:=PW (e:=eF) (fun c a=>ajm (b c a));exact⟨L,rfl⟩
end Go.Proofs.YtocgkfoifehcbaaGreat
