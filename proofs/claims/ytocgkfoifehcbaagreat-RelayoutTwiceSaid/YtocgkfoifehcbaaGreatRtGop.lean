/- Arguments of the laws' types as typed values. Made by a program. -/
import Derived.Test.YtocgkfoifehcbaaGreatRtFr
import Derived.Test.YtocgkfoifehcbaaGreatRtGt
namespace Go.Proofs.YtocgkfoifehcbaaGreat
open Go.RowKit
set_option maxRecDepth 20000
set_option linter.all false
abbrev d6:=List aL
theorem s6{cs:c6}(h:cR Tryz.prog 5 cs):∃x:Int,cs=(ak .u8) x:=by
 obtain⟨n,rfl,_⟩:=h.int_inv Tryz.underlying5;exact⟨n,rfl⟩
theorem C9{cs:c6}(h:cR Tryz.prog 9 cs):∃x:ByteArray,cs=aad x:=by
 obtain⟨b,rfl,_⟩:=h.str_inv Tryz.underlying9;exact⟨b,rfl⟩
theorem eY{cs:c6}(h:cR Tryz.prog 3 cs):∃x:Int,cs=(ak .i64) x:=by
 obtain⟨n,rfl,_⟩:=h.int_inv Tryz.underlying3;exact⟨n,rfl⟩
theorem kv{cs:c6}(h:cR Tryz.prog 31 cs):∃x:cF,cs=fX x:=by
 have e:=h.gen;rw[Tryz.underlying31]at e;obtain⟨parts,rfl,b,f⟩:=e;have b:parts.length=2:=b;obtain⟨j,m,g,c⟩:=cN b;subst g;obtain⟨p1,n,i,d⟩:=cN c;subst i;have a:=ob d;subst a;obtain⟨k,rfl⟩:=eY (f 0 _ j rfl rfl);obtain⟨l,rfl⟩:=eY (f 1 _ p1 rfl rfl);exact⟨⟨k,l⟩,by kernel_rfl⟩
theorem MU{cs:c6}(h:cR Tryz.prog 32 cs):∃x:(V4 cF),cs=(kD fX) x:=by
 have i:=h.gen;rw[Tryz.underlying32]at i;obtain⟨parts,rfl,c,b⟩:=i;have c:parts.length=4:=c;obtain⟨n,u,j,d⟩:=cN c;subst j;obtain⟨p1,v,k,e⟩:=cN d;subst k;obtain⟨o,w,l,f⟩:=cN e;subst l;obtain⟨p,y,m,g⟩:=cN f;subst m;have a:=ob g;subst a;obtain⟨q,rfl⟩:=kv (b n (by simp));obtain⟨r,rfl⟩:=kv (b p1 (by simp));obtain⟨s,rfl⟩:=kv (b o (by simp));obtain⟨t,rfl⟩:=kv (b p (by simp));exact⟨⟨q,r,s,t⟩,by kernel_rfl⟩
theorem WH{cs:c6}(h:cR Tryz.prog 33 cs):∃x:(V4 Int),cs=(kD (ak .i64)) x:=by
 have i:=h.gen;rw[Tryz.underlying33]at i;obtain⟨parts,rfl,c,b⟩:=i;have c:parts.length=4:=c;obtain⟨n,u,j,d⟩:=cN c;subst j;obtain⟨p1,v,k,e⟩:=cN d;subst k;obtain⟨o,w,l,f⟩:=cN e;subst l;obtain⟨p,y,m,g⟩:=cN f;subst m;have a:=ob g;subst a;obtain⟨q,rfl⟩:=eY (b n (by simp));obtain⟨r,rfl⟩:=eY (b p1 (by simp));obtain⟨s,rfl⟩:=eY (b o (by simp));obtain⟨t,rfl⟩:=eY (b p (by simp));exact⟨⟨q,r,s,t⟩,by kernel_rfl⟩
theorem Ms{cs:c6}(h:cR Tryz.prog 4 cs):∃x:Bool,cs=agO x:=by
 obtain⟨b,rfl⟩:=h.bool_inv Tryz.underlying4;exact⟨b,rfl⟩
theorem Z7{cs:c6}(h:cR Tryz.prog 35 cs):∃x:aP,cs=aH x:=by
 have hg:=h.gen;rw[Tryz.underlying35]at hg;obtain⟨parts,rfl,Q,a⟩:=hg;have Q:parts.length=29:=Q;obtain⟨p0,r0,e0,R⟩:=cN Q;subst e0;obtain⟨p1,r1,e1,S⟩:=cN R;subst e1;obtain⟨p2,r2,e2,T⟩:=cN S;subst e2;obtain⟨p3,r3,e3,U⟩:=cN T;subst e3;obtain⟨p4,r4,e4,V⟩:=cN U;subst e4;obtain⟨p5,r5,e5,W⟩:=cN V;subst e5;obtain⟨p6,r6,e6,X⟩:=cN W;subst e6;obtain⟨p7,r7,e7,Y⟩:=cN X;subst e7;obtain⟨p8,r8,e8,Z⟩:=cN Y;subst e8;obtain⟨p9,r9,e9,a0⟩:=cN Z;subst e9;obtain⟨b0,t1,w,b⟩:=cN a0;subst w;obtain⟨c0,u1,y,c⟩:=cN b;subst y;obtain⟨d0,v1,z,d⟩:=cN c;subst z;obtain⟨f0,w1,A,e⟩:=cN d;subst A;obtain⟨g0,y1,B,f⟩:=cN e;subst B;obtain⟨h0,z1,C,g⟩:=cN f;subst C;obtain⟨i0,D1,D,i⟩:=cN g;subst D;obtain⟨k0,L1,E,j⟩:=cN i;subst E;obtain⟨l0,O1,F,k⟩:=cN j;subst F;obtain⟨m0,S1,G,l⟩:=cN k
 subst G;obtain⟨o0,a2,H,m⟩:=cN l;subst H;obtain⟨q0,b2,I,n⟩:=cN m;subst I;obtain⟨s0,c2,J,o⟩:=cN n;subst J;obtain⟨t0,d2,K,p⟩:=cN o;subst K;obtain⟨v0,f2,L,q⟩:=cN p;subst L;obtain⟨w0,g2,M,r⟩:=cN q;subst M;obtain⟨y0,h2,N,s⟩:=cN r;subst N;obtain⟨A0,i2,O,t⟩:=cN s;subst O;obtain⟨I0,j2,P,u⟩:=cN t;subst P;have v:=ob u;subst v;obtain⟨x0,rfl⟩:=eY (a 0 _ p0 rfl rfl);obtain⟨x1,rfl⟩:=eY (a 1 _ p1 rfl rfl);obtain⟨x2,rfl⟩:=kv (a 2 _ p2 rfl rfl);obtain⟨x3,rfl⟩:=kv (a 3 _ p3 rfl rfl);obtain⟨x4,rfl⟩:=kv (a 4 _ p4 rfl rfl);obtain⟨x5,rfl⟩:=kv (a 5 _ p5 rfl rfl);obtain⟨x6,rfl⟩:=kv (a 6 _ p6 rfl rfl);obtain⟨x7,rfl⟩:=kv (a 7 _ p7 rfl rfl);obtain⟨x8,rfl⟩:=MU (a 8 _ p8 rfl rfl);obtain⟨x9,rfl⟩:=MU (a 9 _ p9 rfl rfl);obtain⟨Q0,rfl⟩:=WH (a 10 _ b0 rfl rfl)
 obtain⟨S0,rfl⟩:=C9 (a 11 _ c0 rfl rfl);obtain⟨T0,rfl⟩:=C9 (a 12 _ d0 rfl rfl);obtain⟨a1,rfl⟩:=C9 (a 13 _ f0 rfl rfl);obtain⟨b1,rfl⟩:=eY (a 14 _ g0 rfl rfl);obtain⟨c1,rfl⟩:=eY (a 15 _ h0 rfl rfl);obtain⟨d1,rfl⟩:=eY (a 16 _ i0 rfl rfl);obtain⟨f1,rfl⟩:=eY (a 17 _ k0 rfl rfl);obtain⟨g1,rfl⟩:=eY (a 18 _ l0 rfl rfl);obtain⟨h1,rfl⟩:=eY (a 19 _ m0 rfl rfl);obtain⟨i1,rfl⟩:=Ms (a 20 _ o0 rfl rfl);obtain⟨j1,rfl⟩:=eY (a 21 _ q0 rfl rfl);obtain⟨k1,rfl⟩:=eY (a 22 _ s0 rfl rfl);obtain⟨l1,rfl⟩:=kv (a 23 _ t0 rfl rfl);obtain⟨m1,rfl⟩:=eY (a 24 _ v0 rfl rfl);obtain⟨n1,rfl⟩:=eY (a 25 _ w0 rfl rfl);obtain⟨o1,rfl⟩:=Ms (a 26 _ y0 rfl rfl);obtain⟨q1,rfl⟩:=eY (a 27 _ A0 rfl rfl);obtain⟨s1,rfl⟩:=eY (a 28 _ I0 rfl rfl);exact⟨⟨x0,x1,x2,x3,x4,x5,x6,x7,x8,x9,Q0,S0,T0,a1,b1,c1,d1,f1,g1,h1,i1,j1,k1,l1,m1,n1,o1,q1,s1⟩,by kernel_rfl⟩
theorem Qb{cs:c6}(h:cR Tryz.prog 37 cs):∃x:aL,cs=aI x:=by
 have k:=h.gen;rw[Tryz.underlying37]at k;obtain⟨parts,rfl,c,a⟩:=k;have c:parts.length=6:=c;obtain⟨r,D,l,d⟩:=cN c;subst l;obtain⟨p1,E,m,e⟩:=cN d;subst m;obtain⟨s,F,n,f⟩:=cN e;subst n;obtain⟨t,G,o,g⟩:=cN f;subst o;obtain⟨u,H,p,i⟩:=cN g;subst p;obtain⟨v,I,q,j⟩:=cN i;subst q;have b:=ob j;subst b;obtain⟨w,rfl⟩:=s6 (a 0 _ r rfl rfl);obtain⟨y,rfl⟩:=s6 (a 1 _ p1 rfl rfl);obtain⟨z,rfl⟩:=C9 (a 2 _ s rfl rfl);obtain⟨A,rfl⟩:=s6 (a 3 _ t rfl rfl);obtain⟨B,rfl⟩:=s6 (a 4 _ u rfl rfl);obtain⟨C,rfl⟩:=Z7 (a 5 _ v rfl rfl);exact⟨⟨w,y,z,A,B,C⟩,by kernel_rfl⟩
theorem ajk{cs:c6}(h:cR Tryz.prog 22 cs):∃x:d6,cs=(sW aI) x:=by
 obtain⟨l,rfl,_,_,b⟩:=h.sl_inv Tryz.underlying22;obtain⟨L,rfl⟩:=K6 (e:=aI) (fun c a=>Qb (b c a));exact⟨L,rfl⟩
theorem Zh{cs:c6}(h:cR Tryz.prog 39 cs):∃x:eK,cs=d9 x:=by
 have g:=h.gen;rw[Tryz.underlying39]at g;obtain⟨parts,rfl,b,f⟩:=g;have b:parts.length=3:=b;obtain⟨l,q,i,c⟩:=cN b;subst i;obtain⟨p1,r,j,d⟩:=cN c;subst j;obtain⟨m,s,k,e⟩:=cN d;subst k;have a:=ob e;subst a;obtain⟨n,rfl⟩:=s6 (f 0 _ l rfl rfl);obtain⟨o,rfl⟩:=s6 (f 1 _ p1 rfl rfl);obtain⟨p,rfl⟩:=Qb (f 2 _ m rfl rfl);exact⟨⟨n,o,p⟩,by kernel_rfl⟩
theorem aef{cs:c6}(h:cR Tryz.prog 23 cs):∃x:(List eK),cs=(sW d9) x:=by
 obtain⟨l,rfl,_,_,b⟩:=h.sl_inv Tryz.underlying23;obtain⟨L,rfl⟩:=K6 (e:=d9) (fun c a=>Zh (b c a));exact⟨L,rfl⟩
theorem ahB{cs:c6}(h:cR Tryz.prog 24 cs):∃x:(V2 Int),cs=(AK (ak .i64)) x:=by
 have e:=h.gen;rw[Tryz.underlying24]at e;obtain⟨parts,rfl,b,f⟩:=e;have b:parts.length=2:=b;obtain⟨j,m,g,c⟩:=cN b;subst g;obtain⟨p1,n,i,d⟩:=cN c;subst i;have a:=ob d;subst a;obtain⟨k,rfl⟩:=eY (f j (by simp));obtain⟨l,rfl⟩:=eY (f p1 (by simp));exact⟨⟨k,l⟩,by kernel_rfl⟩
end Go.Proofs.YtocgkfoifehcbaaGreat
