/- Arguments of the laws' types as typed values. Made by a program. -/
import Derived.Test.YtnpmlepplfaijaaGreatIlFr
import Derived.Test.YtnpmlepplfaijaaGreatIlGt
import Derived.Test.YtnpmlepplfaijaaGreatProg
namespace Go.Proofs.YtnpmlepplfaijaaGreat
open Go.RowKit
set_option maxRecDepth 20000
set_option linter.all false
theorem y6{cs:List AV}(h:cq Tryz.prog 5 cs):∃x:Int,cs=(br .u8) x:=by
 obtain⟨n,rfl,_⟩:=h.K8 Tryz.underlying5;exact⟨n,rfl⟩
theorem xC{cs:List AV}(h:cq Tryz.prog 9 cs):∃x:ByteArray,cs=Vt x:=by
 obtain⟨b,rfl,_⟩:=h.Qd Tryz.underlying9;exact⟨b,rfl⟩
theorem dS{cs:List AV}(h:cq Tryz.prog 3 cs):∃x:Int,cs=(br .i64) x:=by
 obtain⟨n,rfl,_⟩:=h.K8 Tryz.underlying3;exact⟨n,rfl⟩
theorem iL{cs:List AV}(h:cq Tryz.prog 39 cs):∃x:cu,cs=gC x:=by
 have hg:=h.gen;rw[Tryz.underlying39]at hg;obtain⟨parts,rfl,hl,hp⟩:=hg;have hl:parts.length=2:=hl;obtain⟨p0,r0,e0,hl0⟩:=cn hl;subst e0;obtain⟨p1,r1,e1,hl1⟩:=cn hl0;subst e1;have hnil:=List.eq_nil_of_length_eq_zero hl1;subst hnil;obtain⟨x0,rfl⟩:=dS (hp 0 _ p0 rfl rfl);obtain⟨x1,rfl⟩:=dS (hp 1 _ p1 rfl rfl);exact⟨⟨x0,x1⟩,by kernel_rfl⟩
theorem Hg{cs:List AV}(h:cq Tryz.prog 40 cs):∃x:(V4 cu),cs=(Fb gC) x:=by
 have hg:=h.gen;rw[Tryz.underlying40]at hg;obtain⟨parts,rfl,hl,hp⟩:=hg;have hl:parts.length=4:=hl;obtain⟨p0,r0,e0,hl0⟩:=cn hl;subst e0;obtain⟨p1,r1,e1,hl1⟩:=cn hl0;subst e1;obtain⟨p2,r2,e2,hl2⟩:=cn hl1;subst e2;obtain⟨p3,r3,e3,hl3⟩:=cn hl2;subst e3;have hnil:=List.eq_nil_of_length_eq_zero hl3;subst hnil;obtain⟨x0,rfl⟩:=iL (hp p0 (by simp));obtain⟨x1,rfl⟩:=iL (hp p1 (by simp));obtain⟨x2,rfl⟩:=iL (hp p2 (by simp));obtain⟨x3,rfl⟩:=iL (hp p3 (by simp));exact⟨⟨x0,x1,x2,x3⟩,by kernel_rfl⟩
theorem Rk{cs:List AV}(h:cq Tryz.prog 41 cs):∃x:(V4 Int),cs=(Fb (br .i64)) x:=by
 have hg:=h.gen;rw[Tryz.underlying41]at hg;obtain⟨parts,rfl,hl,hp⟩:=hg;have hl:parts.length=4:=hl;obtain⟨p0,r0,e0,hl0⟩:=cn hl;subst e0;obtain⟨p1,r1,e1,hl1⟩:=cn hl0;subst e1;obtain⟨p2,r2,e2,hl2⟩:=cn hl1;subst e2;obtain⟨p3,r3,e3,hl3⟩:=cn hl2;subst e3;have hnil:=List.eq_nil_of_length_eq_zero hl3;subst hnil;obtain⟨x0,rfl⟩:=dS (hp p0 (by simp));obtain⟨x1,rfl⟩:=dS (hp p1 (by simp));obtain⟨x2,rfl⟩:=dS (hp p2 (by simp));obtain⟨x3,rfl⟩:=dS (hp p3 (by simp));exact⟨⟨x0,x1,x2,x3⟩,by kernel_rfl⟩
theorem HB{cs:List AV}(h:cq Tryz.prog 4 cs):∃x:Bool,cs=Pb x:=by
 obtain⟨b,rfl⟩:=h.OV Tryz.underlying4;exact⟨b,rfl⟩
theorem Qi{cs:List AV}(h:cq Tryz.prog 43 cs):∃x:aF,cs=aI x:=by
 have hg:=h.gen;rw[Tryz.underlying43]at hg;obtain⟨parts,rfl,hl,hp⟩:=hg;have hl:parts.length=29:=hl;obtain⟨p0,r0,e0,hl0⟩:=cn hl;subst e0;obtain⟨p1,r1,e1,hl1⟩:=cn hl0;subst e1;obtain⟨p2,r2,e2,hl2⟩:=cn hl1;subst e2;obtain⟨p3,r3,e3,hl3⟩:=cn hl2;subst e3;obtain⟨p4,r4,e4,hl4⟩:=cn hl3;subst e4;obtain⟨p5,r5,e5,hl5⟩:=cn hl4;subst e5;obtain⟨p6,r6,e6,hl6⟩:=cn hl5;subst e6;obtain⟨p7,r7,e7,hl7⟩:=cn hl6;subst e7;obtain⟨p8,r8,e8,hl8⟩:=cn hl7;subst e8;obtain⟨p9,r9,e9,hl9⟩:=cn hl8;subst e9;obtain⟨p10,r10,e10,hl10⟩:=cn hl9;subst e10;obtain⟨p11,r11,e11,hl11⟩:=cn hl10;subst e11;obtain⟨p12,r12,e12,hl12⟩:=cn hl11;subst e12;obtain⟨p13,r13,e13,hl13⟩:=cn hl12;subst e13;obtain⟨p14,r14,e14,hl14⟩:=cn hl13;subst e14;obtain⟨p15,r15,e15,hl15⟩:=cn hl14;subst e15;obtain⟨p16,r16,e16,hl16⟩:=cn hl15;subst e16;obtain⟨p17,r17,e17,hl17⟩:=cn hl16;subst e17;obtain⟨p18,r18,e18,hl18⟩:=cn hl17;subst e18;obtain⟨p19,r19,e19,hl19⟩:=cn hl18
 subst e19;obtain⟨p20,r20,e20,hl20⟩:=cn hl19;subst e20;obtain⟨p21,r21,e21,hl21⟩:=cn hl20;subst e21;obtain⟨p22,r22,e22,hl22⟩:=cn hl21;subst e22;obtain⟨p23,r23,e23,hl23⟩:=cn hl22;subst e23;obtain⟨p24,r24,e24,hl24⟩:=cn hl23;subst e24;obtain⟨p25,r25,e25,hl25⟩:=cn hl24;subst e25;obtain⟨p26,r26,e26,hl26⟩:=cn hl25;subst e26;obtain⟨p27,r27,e27,hl27⟩:=cn hl26;subst e27;obtain⟨p28,r28,e28,hl28⟩:=cn hl27;subst e28;have hnil:=List.eq_nil_of_length_eq_zero hl28;subst hnil;obtain⟨x0,rfl⟩:=dS (hp 0 _ p0 rfl rfl);obtain⟨x1,rfl⟩:=dS (hp 1 _ p1 rfl rfl);obtain⟨x2,rfl⟩:=iL (hp 2 _ p2 rfl rfl);obtain⟨x3,rfl⟩:=iL (hp 3 _ p3 rfl rfl);obtain⟨x4,rfl⟩:=iL (hp 4 _ p4 rfl rfl);obtain⟨x5,rfl⟩:=iL (hp 5 _ p5 rfl rfl);obtain⟨x6,rfl⟩:=iL (hp 6 _ p6 rfl rfl);obtain⟨x7,rfl⟩:=iL (hp 7 _ p7 rfl rfl);obtain⟨x8,rfl⟩:=Hg (hp 8 _ p8 rfl rfl);obtain⟨x9,rfl⟩:=Hg (hp 9 _ p9 rfl rfl);obtain⟨x10,rfl⟩:=Rk (hp 10 _ p10 rfl rfl)
 obtain⟨x11,rfl⟩:=xC (hp 11 _ p11 rfl rfl);obtain⟨x12,rfl⟩:=xC (hp 12 _ p12 rfl rfl);obtain⟨x13,rfl⟩:=xC (hp 13 _ p13 rfl rfl);obtain⟨x14,rfl⟩:=dS (hp 14 _ p14 rfl rfl);obtain⟨x15,rfl⟩:=dS (hp 15 _ p15 rfl rfl);obtain⟨x16,rfl⟩:=dS (hp 16 _ p16 rfl rfl);obtain⟨x17,rfl⟩:=dS (hp 17 _ p17 rfl rfl);obtain⟨x18,rfl⟩:=dS (hp 18 _ p18 rfl rfl);obtain⟨x19,rfl⟩:=dS (hp 19 _ p19 rfl rfl);obtain⟨x20,rfl⟩:=HB (hp 20 _ p20 rfl rfl);obtain⟨x21,rfl⟩:=dS (hp 21 _ p21 rfl rfl);obtain⟨x22,rfl⟩:=dS (hp 22 _ p22 rfl rfl);obtain⟨x23,rfl⟩:=iL (hp 23 _ p23 rfl rfl);obtain⟨x24,rfl⟩:=dS (hp 24 _ p24 rfl rfl);obtain⟨x25,rfl⟩:=dS (hp 25 _ p25 rfl rfl);obtain⟨x26,rfl⟩:=HB (hp 26 _ p26 rfl rfl);obtain⟨x27,rfl⟩:=dS (hp 27 _ p27 rfl rfl);obtain⟨x28,rfl⟩:=dS (hp 28 _ p28 rfl rfl);exact⟨⟨x0,x1,x2,x3,x4,x5,x6,x7,x8,x9,x10,x11,x12,x13,x14,x15,x16,x17,x18,x19,x20,x21,x22,x23,x24,x25,x26,x27,x28⟩,by kernel_rfl⟩
theorem N5{cs:List AV}(h:cq Tryz.prog 65 cs):∃x:cc,cs=ce x:=by
 have hg:=h.gen;rw[Tryz.underlying65]at hg;obtain⟨parts,rfl,hl,hp⟩:=hg;have hl:parts.length=6:=hl;obtain⟨p0,r0,e0,hl0⟩:=cn hl;subst e0;obtain⟨p1,r1,e1,hl1⟩:=cn hl0;subst e1;obtain⟨p2,r2,e2,hl2⟩:=cn hl1;subst e2;obtain⟨p3,r3,e3,hl3⟩:=cn hl2;subst e3;obtain⟨p4,r4,e4,hl4⟩:=cn hl3;subst e4;obtain⟨p5,r5,e5,hl5⟩:=cn hl4;subst e5;have hnil:=List.eq_nil_of_length_eq_zero hl5;subst hnil;obtain⟨x0,rfl⟩:=y6 (hp 0 _ p0 rfl rfl);obtain⟨x1,rfl⟩:=y6 (hp 1 _ p1 rfl rfl);obtain⟨x2,rfl⟩:=xC (hp 2 _ p2 rfl rfl);obtain⟨x3,rfl⟩:=y6 (hp 3 _ p3 rfl rfl);obtain⟨x4,rfl⟩:=y6 (hp 4 _ p4 rfl rfl);obtain⟨x5,rfl⟩:=Qi (hp 5 _ p5 rfl rfl);exact⟨⟨x0,x1,x2,x3,x4,x5⟩,by kernel_rfl⟩
theorem NJ{cs:List AV}(h:cq Tryz.prog 22 cs):∃x:(List cc),cs=(CO ce) x:=by
 obtain⟨l,rfl,_,_,hc⟩:=h.GJ Tryz.underlying22;obtain⟨L,rfl⟩:=VL (e:=ce) (fun c hcm=>N5 (hc c hcm));exact⟨L,rfl⟩
end Go.Proofs.YtnpmlepplfaijaaGreat
