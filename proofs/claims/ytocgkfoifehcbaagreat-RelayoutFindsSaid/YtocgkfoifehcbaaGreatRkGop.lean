/- Arguments of the laws' types as typed values. Made by a program. -/
import Derived.Test.YtocgkfoifehcbaaGreatRkFr
import Derived.Test.YtocgkfoifehcbaaGreatRkGt
namespace Go.Proofs.YtocgkfoifehcbaaGreat
open Go.RowKit
set_option maxRecDepth 20000
set_option linter.all false
abbrev eg:=List cg
theorem uE{cs:c6}(h:cV Tryz.prog 5 cs):∃x:Int,cs=(ak .u8) x:=by
 obtain⟨n,rfl,_⟩:=h.int_inv Tryz.underlying5;exact⟨n,rfl⟩
theorem Cf{cs:c6}(h:cV Tryz.prog 9 cs):∃x:ByteArray,cs=adS x:=by
 obtain⟨b,rfl,_⟩:=h.str_inv Tryz.underlying9;exact⟨b,rfl⟩
theorem fm{cs:c6}(h:cV Tryz.prog 3 cs):∃x:Int,cs=(ak .i64) x:=by
 obtain⟨n,rfl,_⟩:=h.int_inv Tryz.underlying3;exact⟨n,rfl⟩
theorem kH{cs:c6}(h:cV Tryz.prog 31 cs):∃x:cw,cs=fh x:=by
 have e:=h.gen;rw[Tryz.underlying31]at e;obtain⟨parts,rfl,b,f⟩:=e;have b:parts.length=2:=b;obtain⟨j,m,g,c⟩:=cL b;subst g;obtain⟨p1,n,i,d⟩:=cL c;subst i;have a:=n3 d;subst a;obtain⟨k,rfl⟩:=fm (f 0 _ j rfl rfl);obtain⟨l,rfl⟩:=fm (f 1 _ p1 rfl rfl);exact⟨⟨k,l⟩,by kernel_rfl⟩
theorem UU{cs:c6}(h:cV Tryz.prog 32 cs):∃x:(V4 cw),cs=(kT fh) x:=by
 have i:=h.gen;rw[Tryz.underlying32]at i;obtain⟨parts,rfl,c,b⟩:=i;have c:parts.length=4:=c;obtain⟨n,u,j,d⟩:=cL c;subst j;obtain⟨p1,v,k,e⟩:=cL d;subst k;obtain⟨o,w,l,f⟩:=cL e;subst l;obtain⟨p,y,m,g⟩:=cL f;subst m;have a:=n3 g;subst a;obtain⟨q,rfl⟩:=kH (b n (by simp));obtain⟨r,rfl⟩:=kH (b p1 (by simp));obtain⟨s,rfl⟩:=kH (b o (by simp));obtain⟨t,rfl⟩:=kH (b p (by simp));exact⟨⟨q,r,s,t⟩,by kernel_rfl⟩
theorem ahs{cs:c6}(h:cV Tryz.prog 33 cs):∃x:(V4 Int),cs=(kT (ak .i64)) x:=by
 have i:=h.gen;rw[Tryz.underlying33]at i;obtain⟨parts,rfl,c,b⟩:=i;have c:parts.length=4:=c;obtain⟨n,u,j,d⟩:=cL c;subst j;obtain⟨p1,v,k,e⟩:=cL d;subst k;obtain⟨o,w,l,f⟩:=cL e;subst l;obtain⟨p,y,m,g⟩:=cL f;subst m;have a:=n3 g;subst a;obtain⟨q,rfl⟩:=fm (b n (by simp));obtain⟨r,rfl⟩:=fm (b p1 (by simp));obtain⟨s,rfl⟩:=fm (b o (by simp));obtain⟨t,rfl⟩:=fm (b p (by simp));exact⟨⟨q,r,s,t⟩,by kernel_rfl⟩
theorem Tz{cs:c6}(h:cV Tryz.prog 4 cs):∃x:Bool,cs=aaX x:=by
 obtain⟨b,rfl⟩:=h.bool_inv Tryz.underlying4;exact⟨b,rfl⟩
theorem Yl{cs:c6}(h:cV Tryz.prog 35 cs):∃x:aI,cs=aH x:=by
 have hg:=h.gen;rw[Tryz.underlying35]at hg;obtain⟨parts,rfl,Q,a⟩:=hg;have Q:parts.length=29:=Q;obtain⟨p0,r0,e0,R⟩:=cL Q;subst e0;obtain⟨p1,r1,e1,S⟩:=cL R;subst e1;obtain⟨p2,r2,e2,T⟩:=cL S;subst e2;obtain⟨p3,r3,e3,U⟩:=cL T;subst e3;obtain⟨p4,r4,e4,V⟩:=cL U;subst e4;obtain⟨p5,r5,e5,W⟩:=cL V;subst e5;obtain⟨p6,r6,e6,X⟩:=cL W;subst e6;obtain⟨p7,r7,e7,Y⟩:=cL X;subst e7;obtain⟨p8,r8,e8,Z⟩:=cL Y;subst e8;obtain⟨p9,r9,e9,a0⟩:=cL Z;subst e9;obtain⟨b0,v1,w,b⟩:=cL a0;subst w;obtain⟨c0,w1,y,c⟩:=cL b;subst y;obtain⟨d0,y1,z,d⟩:=cL c;subst z;obtain⟨f0,z1,A,e⟩:=cL d;subst A;obtain⟨g0,L1,B,f⟩:=cL e;subst B;obtain⟨h0,O1,C,g⟩:=cL f;subst C;obtain⟨i0,S1,D,i⟩:=cL g;subst D;obtain⟨k0,a2,E,j⟩:=cL i;subst E;obtain⟨l0,b2,F,k⟩:=cL j;subst F;obtain⟨m0,c2,G,l⟩:=cL k
 subst G;obtain⟨o0,d2,H,m⟩:=cL l;subst H;obtain⟨q0,f2,I,n⟩:=cL m;subst I;obtain⟨s0,g2,J,o⟩:=cL n;subst J;obtain⟨t0,h2,K,p⟩:=cL o;subst K;obtain⟨v0,i2,L,q⟩:=cL p;subst L;obtain⟨w0,j2,M,r⟩:=cL q;subst M;obtain⟨y0,k2,N,s⟩:=cL r;subst N;obtain⟨A0,l2,O,t⟩:=cL s;subst O;obtain⟨S0,m2,P,u⟩:=cL t;subst P;have v:=n3 u;subst v;obtain⟨x0,rfl⟩:=fm (a 0 _ p0 rfl rfl);obtain⟨x1,rfl⟩:=fm (a 1 _ p1 rfl rfl);obtain⟨x2,rfl⟩:=kH (a 2 _ p2 rfl rfl);obtain⟨x3,rfl⟩:=kH (a 3 _ p3 rfl rfl);obtain⟨x4,rfl⟩:=kH (a 4 _ p4 rfl rfl);obtain⟨x5,rfl⟩:=kH (a 5 _ p5 rfl rfl);obtain⟨x6,rfl⟩:=kH (a 6 _ p6 rfl rfl);obtain⟨x7,rfl⟩:=kH (a 7 _ p7 rfl rfl);obtain⟨x8,rfl⟩:=UU (a 8 _ p8 rfl rfl);obtain⟨x9,rfl⟩:=UU (a 9 _ p9 rfl rfl);obtain⟨T0,rfl⟩:=ahs (a 10 _ b0 rfl rfl)
 obtain⟨a1,rfl⟩:=Cf (a 11 _ c0 rfl rfl);obtain⟨b1,rfl⟩:=Cf (a 12 _ d0 rfl rfl);obtain⟨c1,rfl⟩:=Cf (a 13 _ f0 rfl rfl);obtain⟨d1,rfl⟩:=fm (a 14 _ g0 rfl rfl);obtain⟨f1,rfl⟩:=fm (a 15 _ h0 rfl rfl);obtain⟨g1,rfl⟩:=fm (a 16 _ i0 rfl rfl);obtain⟨h1,rfl⟩:=fm (a 17 _ k0 rfl rfl);obtain⟨i1,rfl⟩:=fm (a 18 _ l0 rfl rfl);obtain⟨j1,rfl⟩:=fm (a 19 _ m0 rfl rfl);obtain⟨k1,rfl⟩:=Tz (a 20 _ o0 rfl rfl);obtain⟨l1,rfl⟩:=fm (a 21 _ q0 rfl rfl);obtain⟨m1,rfl⟩:=fm (a 22 _ s0 rfl rfl);obtain⟨n1,rfl⟩:=kH (a 23 _ t0 rfl rfl);obtain⟨o1,rfl⟩:=fm (a 24 _ v0 rfl rfl);obtain⟨q1,rfl⟩:=fm (a 25 _ w0 rfl rfl);obtain⟨s1,rfl⟩:=Tz (a 26 _ y0 rfl rfl);obtain⟨t1,rfl⟩:=fm (a 27 _ A0 rfl rfl);obtain⟨u1,rfl⟩:=fm (a 28 _ S0 rfl rfl);exact⟨⟨x0,x1,x2,x3,x4,x5,x6,x7,x8,x9,T0,a1,b1,c1,d1,f1,g1,h1,i1,j1,k1,l1,m1,n1,o1,q1,s1,t1,u1⟩,by kernel_rfl⟩
theorem QU{cs:c6}(h:cV Tryz.prog 37 cs):∃x:cg,cs=bp x:=by
 have k:=h.gen;rw[Tryz.underlying37]at k;obtain⟨parts,rfl,c,a⟩:=k;have c:parts.length=6:=c;obtain⟨r,D,l,d⟩:=cL c;subst l;obtain⟨p1,E,m,e⟩:=cL d;subst m;obtain⟨s,F,n,f⟩:=cL e;subst n;obtain⟨t,G,o,g⟩:=cL f;subst o;obtain⟨u,H,p,i⟩:=cL g;subst p;obtain⟨v,I,q,j⟩:=cL i;subst q;have b:=n3 j;subst b;obtain⟨w,rfl⟩:=uE (a 0 _ r rfl rfl);obtain⟨y,rfl⟩:=uE (a 1 _ p1 rfl rfl);obtain⟨z,rfl⟩:=Cf (a 2 _ s rfl rfl);obtain⟨A,rfl⟩:=uE (a 3 _ t rfl rfl);obtain⟨B,rfl⟩:=uE (a 4 _ u rfl rfl);obtain⟨C,rfl⟩:=Yl (a 5 _ v rfl rfl);exact⟨⟨w,y,z,A,B,C⟩,by kernel_rfl⟩
theorem Zc{cs:c6}(h:cV Tryz.prog 22 cs):∃x:eg,cs=(IB bp) x:=by
 obtain⟨l,rfl,_,_,b⟩:=h.sl_inv Tryz.underlying22;obtain⟨L,rfl⟩:=YO (e:=bp) (fun c a=>QU (b c a));exact⟨L,rfl⟩
theorem aai{cs:c6}(h:cV Tryz.prog 39 cs):∃x:iX,cs=jA x:=by
 have g:=h.gen;rw[Tryz.underlying39]at g;obtain⟨parts,rfl,b,f⟩:=g;have b:parts.length=3:=b;obtain⟨l,q,i,c⟩:=cL b;subst i;obtain⟨p1,r,j,d⟩:=cL c;subst j;obtain⟨m,s,k,e⟩:=cL d;subst k;have a:=n3 e;subst a;obtain⟨n,rfl⟩:=uE (f 0 _ l rfl rfl);obtain⟨o,rfl⟩:=uE (f 1 _ p1 rfl rfl);obtain⟨p,rfl⟩:=QU (f 2 _ m rfl rfl);exact⟨⟨n,o,p⟩,by kernel_rfl⟩
end Go.Proofs.YtocgkfoifehcbaaGreat
