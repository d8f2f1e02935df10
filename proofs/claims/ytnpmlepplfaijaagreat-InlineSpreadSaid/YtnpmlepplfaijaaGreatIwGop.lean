/- Arguments of the laws' types as typed values. Made by a program. -/
import Derived.Test.YtnpmlepplfaijaaGreatIwFr
import Derived.Test.YtnpmlepplfaijaaGreatIwGt
import Derived.Test.YtnpmlepplfaijaaGreatProg
namespace Go.Proofs.YtnpmlepplfaijaaGreat
open Go.RowKit
set_option maxRecDepth 20000
set_option linter.all false
theorem uS{cs:List AV}(h:cA Tryz.prog 5 cs):∃x:Int,cs=(bi .u8) x:=by
 obtain⟨n,rfl,_⟩:=h.FJ Tryz.underlying5;exact⟨n,rfl⟩
theorem zn{cs:List AV}(h:cA Tryz.prog 9 cs):∃x:ByteArray,cs=Wo x:=by
 obtain⟨b,rfl,_⟩:=h.VR Tryz.underlying9;exact⟨b,rfl⟩
theorem ee{cs:List AV}(h:cA Tryz.prog 3 cs):∃x:Int,cs=(bi .i64) x:=by
 obtain⟨n,rfl,_⟩:=h.FJ Tryz.underlying3;exact⟨n,rfl⟩
theorem jm{cs:List AV}(h:cA Tryz.prog 39 cs):∃x:cr,cs=gS x:=by
 have hg:=h.gen;rw[Tryz.underlying39]at hg;obtain⟨parts,rfl,hl,hp⟩:=hg;have hl:parts.length=2:=hl;obtain⟨p0,r0,e0,hl0⟩:=cy hl;subst e0;obtain⟨p1,r1,e1,hl1⟩:=cy hl0;subst e1;have hnil:=List.eq_nil_of_length_eq_zero hl1;subst hnil;obtain⟨x0,rfl⟩:=ee (hp 0 _ p0 rfl rfl);obtain⟨x1,rfl⟩:=ee (hp 1 _ p1 rfl rfl);exact⟨⟨x0,x1⟩,by kernel_rfl⟩
theorem Gi{cs:List AV}(h:cA Tryz.prog 40 cs):∃x:(V4 cr),cs=(GP gS) x:=by
 have hg:=h.gen;rw[Tryz.underlying40]at hg;obtain⟨parts,rfl,hl,hp⟩:=hg;have hl:parts.length=4:=hl;obtain⟨p0,r0,e0,hl0⟩:=cy hl;subst e0;obtain⟨p1,r1,e1,hl1⟩:=cy hl0;subst e1;obtain⟨p2,r2,e2,hl2⟩:=cy hl1;subst e2;obtain⟨p3,r3,e3,hl3⟩:=cy hl2;subst e3;have hnil:=List.eq_nil_of_length_eq_zero hl3;subst hnil;obtain⟨x0,rfl⟩:=jm (hp p0 (by simp));obtain⟨x1,rfl⟩:=jm (hp p1 (by simp));obtain⟨x2,rfl⟩:=jm (hp p2 (by simp));obtain⟨x3,rfl⟩:=jm (hp p3 (by simp));exact⟨⟨x0,x1,x2,x3⟩,by kernel_rfl⟩
theorem Yq{cs:List AV}(h:cA Tryz.prog 41 cs):∃x:(V4 Int),cs=(GP (bi .i64)) x:=by
 have hg:=h.gen;rw[Tryz.underlying41]at hg;obtain⟨parts,rfl,hl,hp⟩:=hg;have hl:parts.length=4:=hl;obtain⟨p0,r0,e0,hl0⟩:=cy hl;subst e0;obtain⟨p1,r1,e1,hl1⟩:=cy hl0;subst e1;obtain⟨p2,r2,e2,hl2⟩:=cy hl1;subst e2;obtain⟨p3,r3,e3,hl3⟩:=cy hl2;subst e3;have hnil:=List.eq_nil_of_length_eq_zero hl3;subst hnil;obtain⟨x0,rfl⟩:=ee (hp p0 (by simp));obtain⟨x1,rfl⟩:=ee (hp p1 (by simp));obtain⟨x2,rfl⟩:=ee (hp p2 (by simp));obtain⟨x3,rfl⟩:=ee (hp p3 (by simp));exact⟨⟨x0,x1,x2,x3⟩,by kernel_rfl⟩
theorem IQ{cs:List AV}(h:cA Tryz.prog 4 cs):∃x:Bool,cs=OC x:=by
 obtain⟨b,rfl⟩:=h.Ym Tryz.underlying4;exact⟨b,rfl⟩
theorem QN{cs:List AV}(h:cA Tryz.prog 43 cs):∃x:aI,cs=aJ x:=by
 have hg:=h.gen;rw[Tryz.underlying43]at hg;obtain⟨parts,rfl,hl,hp⟩:=hg;have hl:parts.length=29:=hl;obtain⟨p0,r0,e0,hl0⟩:=cy hl;subst e0;obtain⟨p1,r1,e1,hl1⟩:=cy hl0;subst e1;obtain⟨p2,r2,e2,hl2⟩:=cy hl1;subst e2;obtain⟨p3,r3,e3,hl3⟩:=cy hl2;subst e3;obtain⟨p4,r4,e4,hl4⟩:=cy hl3;subst e4;obtain⟨p5,r5,e5,hl5⟩:=cy hl4;subst e5;obtain⟨p6,r6,e6,hl6⟩:=cy hl5;subst e6;obtain⟨p7,r7,e7,hl7⟩:=cy hl6;subst e7;obtain⟨p8,r8,e8,hl8⟩:=cy hl7;subst e8;obtain⟨p9,r9,e9,hl9⟩:=cy hl8;subst e9;obtain⟨p10,r10,e10,hl10⟩:=cy hl9;subst e10;obtain⟨p11,r11,e11,hl11⟩:=cy hl10;subst e11;obtain⟨p12,r12,e12,hl12⟩:=cy hl11;subst e12;obtain⟨p13,r13,e13,hl13⟩:=cy hl12;subst e13;obtain⟨p14,r14,e14,hl14⟩:=cy hl13;subst e14;obtain⟨p15,r15,e15,hl15⟩:=cy hl14;subst e15;obtain⟨p16,r16,e16,hl16⟩:=cy hl15;subst e16;obtain⟨p17,r17,e17,hl17⟩:=cy hl16;subst e17;obtain⟨p18,r18,e18,hl18⟩:=cy hl17;subst e18;obtain⟨p19,r19,e19,hl19⟩:=cy hl18
 subst e19;obtain⟨p20,r20,e20,hl20⟩:=cy hl19;subst e20;obtain⟨p21,r21,e21,hl21⟩:=cy hl20;subst e21;obtain⟨p22,r22,e22,hl22⟩:=cy hl21;subst e22;obtain⟨p23,r23,e23,hl23⟩:=cy hl22;subst e23;obtain⟨p24,r24,e24,hl24⟩:=cy hl23;subst e24;obtain⟨p25,r25,e25,hl25⟩:=cy hl24;subst e25;obtain⟨p26,r26,e26,hl26⟩:=cy hl25;subst e26;obtain⟨p27,r27,e27,hl27⟩:=cy hl26;subst e27;obtain⟨p28,r28,e28,hl28⟩:=cy hl27;subst e28;have hnil:=List.eq_nil_of_length_eq_zero hl28;subst hnil;obtain⟨x0,rfl⟩:=ee (hp 0 _ p0 rfl rfl);obtain⟨x1,rfl⟩:=ee (hp 1 _ p1 rfl rfl);obtain⟨x2,rfl⟩:=jm (hp 2 _ p2 rfl rfl);obtain⟨x3,rfl⟩:=jm (hp 3 _ p3 rfl rfl);obtain⟨x4,rfl⟩:=jm (hp 4 _ p4 rfl rfl);obtain⟨x5,rfl⟩:=jm (hp 5 _ p5 rfl rfl);obtain⟨x6,rfl⟩:=jm (hp 6 _ p6 rfl rfl);obtain⟨x7,rfl⟩:=jm (hp 7 _ p7 rfl rfl);obtain⟨x8,rfl⟩:=Gi (hp 8 _ p8 rfl rfl);obtain⟨x9,rfl⟩:=Gi (hp 9 _ p9 rfl rfl);obtain⟨x10,rfl⟩:=Yq (hp 10 _ p10 rfl rfl)
 obtain⟨x11,rfl⟩:=zn (hp 11 _ p11 rfl rfl);obtain⟨x12,rfl⟩:=zn (hp 12 _ p12 rfl rfl);obtain⟨x13,rfl⟩:=zn (hp 13 _ p13 rfl rfl);obtain⟨x14,rfl⟩:=ee (hp 14 _ p14 rfl rfl);obtain⟨x15,rfl⟩:=ee (hp 15 _ p15 rfl rfl);obtain⟨x16,rfl⟩:=ee (hp 16 _ p16 rfl rfl);obtain⟨x17,rfl⟩:=ee (hp 17 _ p17 rfl rfl);obtain⟨x18,rfl⟩:=ee (hp 18 _ p18 rfl rfl);obtain⟨x19,rfl⟩:=ee (hp 19 _ p19 rfl rfl);obtain⟨x20,rfl⟩:=IQ (hp 20 _ p20 rfl rfl);obtain⟨x21,rfl⟩:=ee (hp 21 _ p21 rfl rfl);obtain⟨x22,rfl⟩:=ee (hp 22 _ p22 rfl rfl);obtain⟨x23,rfl⟩:=jm (hp 23 _ p23 rfl rfl);obtain⟨x24,rfl⟩:=ee (hp 24 _ p24 rfl rfl);obtain⟨x25,rfl⟩:=ee (hp 25 _ p25 rfl rfl);obtain⟨x26,rfl⟩:=IQ (hp 26 _ p26 rfl rfl);obtain⟨x27,rfl⟩:=ee (hp 27 _ p27 rfl rfl);obtain⟨x28,rfl⟩:=ee (hp 28 _ p28 rfl rfl);exact⟨⟨x0,x1,x2,x3,x4,x5,x6,x7,x8,x9,x10,x11,x12,x13,x14,x15,x16,x17,x18,x19,x20,x21,x22,x23,x24,x25,x26,x27,x28⟩,by kernel_rfl⟩
theorem XA{cs:List AV}(h:cA Tryz.prog 65 cs):∃x:ci,cs=b9 x:=by
 have hg:=h.gen;rw[Tryz.underlying65]at hg;obtain⟨parts,rfl,hl,hp⟩:=hg;have hl:parts.length=6:=hl;obtain⟨p0,r0,e0,hl0⟩:=cy hl;subst e0;obtain⟨p1,r1,e1,hl1⟩:=cy hl0;subst e1;obtain⟨p2,r2,e2,hl2⟩:=cy hl1;subst e2;obtain⟨p3,r3,e3,hl3⟩:=cy hl2;subst e3;obtain⟨p4,r4,e4,hl4⟩:=cy hl3;subst e4;obtain⟨p5,r5,e5,hl5⟩:=cy hl4;subst e5;have hnil:=List.eq_nil_of_length_eq_zero hl5;subst hnil;obtain⟨x0,rfl⟩:=uS (hp 0 _ p0 rfl rfl);obtain⟨x1,rfl⟩:=uS (hp 1 _ p1 rfl rfl);obtain⟨x2,rfl⟩:=zn (hp 2 _ p2 rfl rfl);obtain⟨x3,rfl⟩:=uS (hp 3 _ p3 rfl rfl);obtain⟨x4,rfl⟩:=uS (hp 4 _ p4 rfl rfl);obtain⟨x5,rfl⟩:=QN (hp 5 _ p5 rfl rfl);exact⟨⟨x0,x1,x2,x3,x4,x5⟩,by kernel_rfl⟩
theorem TO{cs:List AV}(h:cA Tryz.prog 22 cs):∃x:(List ci),cs=(B4 b9) x:=by
 obtain⟨l,rfl,_,_,hc⟩:=h.Nh Tryz.underlying22;obtain⟨L,rfl⟩:=XI (e:=b9) (fun c hcm=>XA (hc c hcm));exact⟨L,rfl⟩
end Go.Proofs.YtnpmlepplfaijaaGreat
