/- Arguments of the laws' types as typed values. Made by a program. -/
import Derived.Test.YtnpmlepplfaijaaGreatIrFr
import Derived.Test.YtnpmlepplfaijaaGreatIrGt
import Derived.Test.YtnpmlepplfaijaaGreatProg
namespace Go.Proofs.YtnpmlepplfaijaaGreat
open Go.RowKit
set_option maxRecDepth 20000
set_option linter.all false
theorem xf{cs:List AV}(h:cb Tryz.prog 5 cs):∃x:Int,cs=(bG .u8) x:=by
 obtain⟨n,rfl,_⟩:=h.Fx Tryz.underlying5;exact⟨n,rfl⟩
theorem vy{cs:List AV}(h:cb Tryz.prog 9 cs):∃x:ByteArray,cs=KS x:=by
 obtain⟨b,rfl,_⟩:=h.MM Tryz.underlying9;exact⟨b,rfl⟩
theorem dL{cs:List AV}(h:cb Tryz.prog 3 cs):∃x:Int,cs=(bG .i64) x:=by
 obtain⟨n,rfl,_⟩:=h.Fx Tryz.underlying3;exact⟨n,rfl⟩
theorem il{cs:List AV}(h:cb Tryz.prog 39 cs):∃x:cj,cs=fX x:=by
 have hg:=h.gen;rw[Tryz.underlying39]at hg;obtain⟨parts,rfl,hl,hp⟩:=hg;have hl:parts.length=2:=hl;obtain⟨p0,r0,e0,hl0⟩:=bZ hl;subst e0;obtain⟨p1,r1,e1,hl1⟩:=bZ hl0;subst e1;have hnil:=List.eq_nil_of_length_eq_zero hl1;subst hnil;obtain⟨x0,rfl⟩:=dL (hp 0 _ p0 rfl rfl);obtain⟨x1,rfl⟩:=dL (hp 1 _ p1 rfl rfl);exact⟨⟨x0,x1⟩,by kernel_rfl⟩
theorem Il{cs:List AV}(h:cb Tryz.prog 40 cs):∃x:(V4 cj),cs=(EU fX) x:=by
 have hg:=h.gen;rw[Tryz.underlying40]at hg;obtain⟨parts,rfl,hl,hp⟩:=hg;have hl:parts.length=4:=hl;obtain⟨p0,r0,e0,hl0⟩:=bZ hl;subst e0;obtain⟨p1,r1,e1,hl1⟩:=bZ hl0;subst e1;obtain⟨p2,r2,e2,hl2⟩:=bZ hl1;subst e2;obtain⟨p3,r3,e3,hl3⟩:=bZ hl2;subst e3;have hnil:=List.eq_nil_of_length_eq_zero hl3;subst hnil;obtain⟨x0,rfl⟩:=il (hp p0 (by simp));obtain⟨x1,rfl⟩:=il (hp p1 (by simp));obtain⟨x2,rfl⟩:=il (hp p2 (by simp));obtain⟨x3,rfl⟩:=il (hp p3 (by simp));exact⟨⟨x0,x1,x2,x3⟩,by kernel_rfl⟩
theorem LB{cs:List AV}(h:cb Tryz.prog 41 cs):∃x:(V4 Int),cs=(EU (bG .i64)) x:=by
 have hg:=h.gen;rw[Tryz.underlying41]at hg;obtain⟨parts,rfl,hl,hp⟩:=hg;have hl:parts.length=4:=hl;obtain⟨p0,r0,e0,hl0⟩:=bZ hl;subst e0;obtain⟨p1,r1,e1,hl1⟩:=bZ hl0;subst e1;obtain⟨p2,r2,e2,hl2⟩:=bZ hl1;subst e2;obtain⟨p3,r3,e3,hl3⟩:=bZ hl2;subst e3;have hnil:=List.eq_nil_of_length_eq_zero hl3;subst hnil;obtain⟨x0,rfl⟩:=dL (hp p0 (by simp));obtain⟨x1,rfl⟩:=dL (hp p1 (by simp));obtain⟨x2,rfl⟩:=dL (hp p2 (by simp));obtain⟨x3,rfl⟩:=dL (hp p3 (by simp));exact⟨⟨x0,x1,x2,x3⟩,by kernel_rfl⟩
theorem Ij{cs:List AV}(h:cb Tryz.prog 4 cs):∃x:Bool,cs=Wx x:=by
 obtain⟨b,rfl⟩:=h.Qo Tryz.underlying4;exact⟨b,rfl⟩
theorem Q1{cs:List AV}(h:cb Tryz.prog 43 cs):∃x:aJ,cs=aE x:=by
 have hg:=h.gen;rw[Tryz.underlying43]at hg;obtain⟨parts,rfl,hl,hp⟩:=hg;have hl:parts.length=29:=hl;obtain⟨p0,r0,e0,hl0⟩:=bZ hl;subst e0;obtain⟨p1,r1,e1,hl1⟩:=bZ hl0;subst e1;obtain⟨p2,r2,e2,hl2⟩:=bZ hl1;subst e2;obtain⟨p3,r3,e3,hl3⟩:=bZ hl2;subst e3;obtain⟨p4,r4,e4,hl4⟩:=bZ hl3;subst e4;obtain⟨p5,r5,e5,hl5⟩:=bZ hl4;subst e5;obtain⟨p6,r6,e6,hl6⟩:=bZ hl5;subst e6;obtain⟨p7,r7,e7,hl7⟩:=bZ hl6;subst e7;obtain⟨p8,r8,e8,hl8⟩:=bZ hl7;subst e8;obtain⟨p9,r9,e9,hl9⟩:=bZ hl8;subst e9;obtain⟨p10,r10,e10,hl10⟩:=bZ hl9;subst e10;obtain⟨p11,r11,e11,hl11⟩:=bZ hl10;subst e11;obtain⟨p12,r12,e12,hl12⟩:=bZ hl11;subst e12;obtain⟨p13,r13,e13,hl13⟩:=bZ hl12;subst e13;obtain⟨p14,r14,e14,hl14⟩:=bZ hl13;subst e14;obtain⟨p15,r15,e15,hl15⟩:=bZ hl14;subst e15;obtain⟨p16,r16,e16,hl16⟩:=bZ hl15;subst e16;obtain⟨p17,r17,e17,hl17⟩:=bZ hl16;subst e17;obtain⟨p18,r18,e18,hl18⟩:=bZ hl17;subst e18;obtain⟨p19,r19,e19,hl19⟩:=bZ hl18
 subst e19;obtain⟨p20,r20,e20,hl20⟩:=bZ hl19;subst e20;obtain⟨p21,r21,e21,hl21⟩:=bZ hl20;subst e21;obtain⟨p22,r22,e22,hl22⟩:=bZ hl21;subst e22;obtain⟨p23,r23,e23,hl23⟩:=bZ hl22;subst e23;obtain⟨p24,r24,e24,hl24⟩:=bZ hl23;subst e24;obtain⟨p25,r25,e25,hl25⟩:=bZ hl24;subst e25;obtain⟨p26,r26,e26,hl26⟩:=bZ hl25;subst e26;obtain⟨p27,r27,e27,hl27⟩:=bZ hl26;subst e27;obtain⟨p28,r28,e28,hl28⟩:=bZ hl27;subst e28;have hnil:=List.eq_nil_of_length_eq_zero hl28;subst hnil;obtain⟨x0,rfl⟩:=dL (hp 0 _ p0 rfl rfl);obtain⟨x1,rfl⟩:=dL (hp 1 _ p1 rfl rfl);obtain⟨x2,rfl⟩:=il (hp 2 _ p2 rfl rfl);obtain⟨x3,rfl⟩:=il (hp 3 _ p3 rfl rfl);obtain⟨x4,rfl⟩:=il (hp 4 _ p4 rfl rfl);obtain⟨x5,rfl⟩:=il (hp 5 _ p5 rfl rfl);obtain⟨x6,rfl⟩:=il (hp 6 _ p6 rfl rfl);obtain⟨x7,rfl⟩:=il (hp 7 _ p7 rfl rfl);obtain⟨x8,rfl⟩:=Il (hp 8 _ p8 rfl rfl);obtain⟨x9,rfl⟩:=Il (hp 9 _ p9 rfl rfl);obtain⟨x10,rfl⟩:=LB (hp 10 _ p10 rfl rfl)
 obtain⟨x11,rfl⟩:=vy (hp 11 _ p11 rfl rfl);obtain⟨x12,rfl⟩:=vy (hp 12 _ p12 rfl rfl);obtain⟨x13,rfl⟩:=vy (hp 13 _ p13 rfl rfl);obtain⟨x14,rfl⟩:=dL (hp 14 _ p14 rfl rfl);obtain⟨x15,rfl⟩:=dL (hp 15 _ p15 rfl rfl);obtain⟨x16,rfl⟩:=dL (hp 16 _ p16 rfl rfl);obtain⟨x17,rfl⟩:=dL (hp 17 _ p17 rfl rfl);obtain⟨x18,rfl⟩:=dL (hp 18 _ p18 rfl rfl);obtain⟨x19,rfl⟩:=dL (hp 19 _ p19 rfl rfl);obtain⟨x20,rfl⟩:=Ij (hp 20 _ p20 rfl rfl);obtain⟨x21,rfl⟩:=dL (hp 21 _ p21 rfl rfl);obtain⟨x22,rfl⟩:=dL (hp 22 _ p22 rfl rfl);obtain⟨x23,rfl⟩:=il (hp 23 _ p23 rfl rfl);obtain⟨x24,rfl⟩:=dL (hp 24 _ p24 rfl rfl);obtain⟨x25,rfl⟩:=dL (hp 25 _ p25 rfl rfl);obtain⟨x26,rfl⟩:=Ij (hp 26 _ p26 rfl rfl);obtain⟨x27,rfl⟩:=dL (hp 27 _ p27 rfl rfl);obtain⟨x28,rfl⟩:=dL (hp 28 _ p28 rfl rfl);exact⟨⟨x0,x1,x2,x3,x4,x5,x6,x7,x8,x9,x10,x11,x12,x13,x14,x15,x16,x17,x18,x19,x20,x21,x22,x23,x24,x25,x26,x27,x28⟩,by kernel_rfl⟩
theorem PY{cs:List AV}(h:cb Tryz.prog 65 cs):∃x:b9,cs=cd x:=by
 have hg:=h.gen;rw[Tryz.underlying65]at hg;obtain⟨parts,rfl,hl,hp⟩:=hg;have hl:parts.length=6:=hl;obtain⟨p0,r0,e0,hl0⟩:=bZ hl;subst e0;obtain⟨p1,r1,e1,hl1⟩:=bZ hl0;subst e1;obtain⟨p2,r2,e2,hl2⟩:=bZ hl1;subst e2;obtain⟨p3,r3,e3,hl3⟩:=bZ hl2;subst e3;obtain⟨p4,r4,e4,hl4⟩:=bZ hl3;subst e4;obtain⟨p5,r5,e5,hl5⟩:=bZ hl4;subst e5;have hnil:=List.eq_nil_of_length_eq_zero hl5;subst hnil;obtain⟨x0,rfl⟩:=xf (hp 0 _ p0 rfl rfl);obtain⟨x1,rfl⟩:=xf (hp 1 _ p1 rfl rfl);obtain⟨x2,rfl⟩:=vy (hp 2 _ p2 rfl rfl);obtain⟨x3,rfl⟩:=xf (hp 3 _ p3 rfl rfl);obtain⟨x4,rfl⟩:=xf (hp 4 _ p4 rfl rfl);obtain⟨x5,rfl⟩:=Q1 (hp 5 _ p5 rfl rfl);exact⟨⟨x0,x1,x2,x3,x4,x5⟩,by kernel_rfl⟩
theorem PD{cs:List AV}(h:cb Tryz.prog 22 cs):∃x:(List b9),cs=(AX cd) x:=by
 obtain⟨l,rfl,_,_,hc⟩:=h.EH Tryz.underlying22;obtain⟨L,rfl⟩:=V5 (e:=cd) (fun c hcm=>PY (hc c hcm));exact⟨L,rfl⟩
end Go.Proofs.YtnpmlepplfaijaaGreat
