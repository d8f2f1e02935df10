/- Arguments of the laws' types as typed values. Made by a program. -/
import Derived.Test.YtocgkfoifehcbaaGreatRfFr
import Derived.Test.YtocgkfoifehcbaaGreatRfGt
import Derived.Test.YtocgkfoifehcbaaGreatProg
namespace Go.Proofs.YtocgkfoifehcbaaGreat
open Go.RowKit
set_option maxRecDepth 20000
set_option linter.all false
theorem pA{cs:List AV}(h:cp Tryz.prog 5 cs):∃x:Int,cs=(ba .u8) x:=by
 obtain⟨n,rfl,_⟩:=h.int_inv Tryz.underlying5;exact⟨n,rfl⟩
theorem wC{cs:List AV}(h:cp Tryz.prog 9 cs):∃x:ByteArray,cs=Nz x:=by
 obtain⟨b,rfl,_⟩:=h.str_inv Tryz.underlying9;exact⟨b,rfl⟩
theorem dN{cs:List AV}(h:cp Tryz.prog 3 cs):∃x:Int,cs=(ba .i64) x:=by
 obtain⟨n,rfl,_⟩:=h.int_inv Tryz.underlying3;exact⟨n,rfl⟩
theorem gJ{cs:List AV}(h:cp Tryz.prog 31 cs):∃x:dg,cs=pH x:=by
 have hg:=h.gen;rw[Tryz.underlying31]at hg;obtain⟨parts,rfl,hl,hp⟩:=hg;have hl:parts.length=2:=hl;obtain⟨p0,r0,e0,hl0⟩:=ce hl;subst e0;obtain⟨p1,r1,e1,hl1⟩:=ce hl0;subst e1;have hnil:=List.eq_nil_of_length_eq_zero hl1;subst hnil;obtain⟨x0,rfl⟩:=dN (hp 0 _ p0 rfl rfl);obtain⟨x1,rfl⟩:=dN (hp 1 _ p1 rfl rfl);exact⟨⟨x0,x1⟩,by kernel_rfl⟩
theorem EG{cs:List AV}(h:cp Tryz.prog 32 cs):∃x:(V4 dg),cs=(Gs pH) x:=by
 have hg:=h.gen;rw[Tryz.underlying32]at hg;obtain⟨parts,rfl,hl,hp⟩:=hg;have hl:parts.length=4:=hl;obtain⟨p0,r0,e0,hl0⟩:=ce hl;subst e0;obtain⟨p1,r1,e1,hl1⟩:=ce hl0;subst e1;obtain⟨p2,r2,e2,hl2⟩:=ce hl1;subst e2;obtain⟨p3,r3,e3,hl3⟩:=ce hl2;subst e3;have hnil:=List.eq_nil_of_length_eq_zero hl3;subst hnil;obtain⟨x0,rfl⟩:=gJ (hp p0 (by simp));obtain⟨x1,rfl⟩:=gJ (hp p1 (by simp));obtain⟨x2,rfl⟩:=gJ (hp p2 (by simp));obtain⟨x3,rfl⟩:=gJ (hp p3 (by simp));exact⟨⟨x0,x1,x2,x3⟩,by kernel_rfl⟩
theorem OZ{cs:List AV}(h:cp Tryz.prog 33 cs):∃x:(V4 Int),cs=(Gs (ba .i64)) x:=by
 have hg:=h.gen;rw[Tryz.underlying33]at hg;obtain⟨parts,rfl,hl,hp⟩:=hg;have hl:parts.length=4:=hl;obtain⟨p0,r0,e0,hl0⟩:=ce hl;subst e0;obtain⟨p1,r1,e1,hl1⟩:=ce hl0;subst e1;obtain⟨p2,r2,e2,hl2⟩:=ce hl1;subst e2;obtain⟨p3,r3,e3,hl3⟩:=ce hl2;subst e3;have hnil:=List.eq_nil_of_length_eq_zero hl3;subst hnil;obtain⟨x0,rfl⟩:=dN (hp p0 (by simp));obtain⟨x1,rfl⟩:=dN (hp p1 (by simp));obtain⟨x2,rfl⟩:=dN (hp p2 (by simp));obtain⟨x3,rfl⟩:=dN (hp p3 (by simp));exact⟨⟨x0,x1,x2,x3⟩,by kernel_rfl⟩
theorem Fa{cs:List AV}(h:cp Tryz.prog 4 cs):∃x:Bool,cs=Ny x:=by
 obtain⟨b,rfl⟩:=h.bool_inv Tryz.underlying4;exact⟨b,rfl⟩
theorem Nc{cs:List AV}(h:cp Tryz.prog 35 cs):∃x:aJ,cs=aV x:=by
 have hg:=h.gen;rw[Tryz.underlying35]at hg;obtain⟨parts,rfl,hl,hp⟩:=hg;have hl:parts.length=29:=hl;obtain⟨p0,r0,e0,hl0⟩:=ce hl;subst e0;obtain⟨p1,r1,e1,hl1⟩:=ce hl0;subst e1;obtain⟨p2,r2,e2,hl2⟩:=ce hl1;subst e2;obtain⟨p3,r3,e3,hl3⟩:=ce hl2;subst e3;obtain⟨p4,r4,e4,hl4⟩:=ce hl3;subst e4;obtain⟨p5,r5,e5,hl5⟩:=ce hl4;subst e5;obtain⟨p6,r6,e6,hl6⟩:=ce hl5;subst e6;obtain⟨p7,r7,e7,hl7⟩:=ce hl6;subst e7;obtain⟨p8,r8,e8,hl8⟩:=ce hl7;subst e8;obtain⟨p9,r9,e9,hl9⟩:=ce hl8;subst e9;obtain⟨p10,r10,e10,hl10⟩:=ce hl9;subst e10;obtain⟨p11,r11,e11,hl11⟩:=ce hl10;subst e11;obtain⟨p12,r12,e12,hl12⟩:=ce hl11;subst e12;obtain⟨p13,r13,e13,hl13⟩:=ce hl12;subst e13;obtain⟨p14,r14,e14,hl14⟩:=ce hl13;subst e14;obtain⟨p15,r15,e15,hl15⟩:=ce hl14;subst e15;obtain⟨p16,r16,e16,hl16⟩:=ce hl15;subst e16;obtain⟨p17,r17,e17,hl17⟩:=ce hl16;subst e17;obtain⟨p18,r18,e18,hl18⟩:=ce hl17;subst e18;obtain⟨p19,r19,e19,hl19⟩:=ce hl18
 subst e19;obtain⟨p20,r20,e20,hl20⟩:=ce hl19;subst e20;obtain⟨p21,r21,e21,hl21⟩:=ce hl20;subst e21;obtain⟨p22,r22,e22,hl22⟩:=ce hl21;subst e22;obtain⟨p23,r23,e23,hl23⟩:=ce hl22;subst e23;obtain⟨p24,r24,e24,hl24⟩:=ce hl23;subst e24;obtain⟨p25,r25,e25,hl25⟩:=ce hl24;subst e25;obtain⟨p26,r26,e26,hl26⟩:=ce hl25;subst e26;obtain⟨p27,r27,e27,hl27⟩:=ce hl26;subst e27;obtain⟨p28,r28,e28,hl28⟩:=ce hl27;subst e28;have hnil:=List.eq_nil_of_length_eq_zero hl28;subst hnil;obtain⟨x0,rfl⟩:=dN (hp 0 _ p0 rfl rfl);obtain⟨x1,rfl⟩:=dN (hp 1 _ p1 rfl rfl);obtain⟨x2,rfl⟩:=gJ (hp 2 _ p2 rfl rfl);obtain⟨x3,rfl⟩:=gJ (hp 3 _ p3 rfl rfl);obtain⟨x4,rfl⟩:=gJ (hp 4 _ p4 rfl rfl);obtain⟨x5,rfl⟩:=gJ (hp 5 _ p5 rfl rfl);obtain⟨x6,rfl⟩:=gJ (hp 6 _ p6 rfl rfl);obtain⟨x7,rfl⟩:=gJ (hp 7 _ p7 rfl rfl);obtain⟨x8,rfl⟩:=EG (hp 8 _ p8 rfl rfl);obtain⟨x9,rfl⟩:=EG (hp 9 _ p9 rfl rfl);obtain⟨x10,rfl⟩:=OZ (hp 10 _ p10 rfl rfl)
 obtain⟨x11,rfl⟩:=wC (hp 11 _ p11 rfl rfl);obtain⟨x12,rfl⟩:=wC (hp 12 _ p12 rfl rfl);obtain⟨x13,rfl⟩:=wC (hp 13 _ p13 rfl rfl);obtain⟨x14,rfl⟩:=dN (hp 14 _ p14 rfl rfl);obtain⟨x15,rfl⟩:=dN (hp 15 _ p15 rfl rfl);obtain⟨x16,rfl⟩:=dN (hp 16 _ p16 rfl rfl);obtain⟨x17,rfl⟩:=dN (hp 17 _ p17 rfl rfl);obtain⟨x18,rfl⟩:=dN (hp 18 _ p18 rfl rfl);obtain⟨x19,rfl⟩:=dN (hp 19 _ p19 rfl rfl);obtain⟨x20,rfl⟩:=Fa (hp 20 _ p20 rfl rfl);obtain⟨x21,rfl⟩:=dN (hp 21 _ p21 rfl rfl);obtain⟨x22,rfl⟩:=dN (hp 22 _ p22 rfl rfl);obtain⟨x23,rfl⟩:=gJ (hp 23 _ p23 rfl rfl);obtain⟨x24,rfl⟩:=dN (hp 24 _ p24 rfl rfl);obtain⟨x25,rfl⟩:=dN (hp 25 _ p25 rfl rfl);obtain⟨x26,rfl⟩:=Fa (hp 26 _ p26 rfl rfl);obtain⟨x27,rfl⟩:=dN (hp 27 _ p27 rfl rfl);obtain⟨x28,rfl⟩:=dN (hp 28 _ p28 rfl rfl);exact⟨⟨x0,x1,x2,x3,x4,x5,x6,x7,x8,x9,x10,x11,x12,x13,x14,x15,x16,x17,x18,x19,x20,x21,x22,x23,x24,x25,x26,x27,x28⟩,by kernel_rfl⟩
theorem Gq{cs:List AV}(h:cp Tryz.prog 37 cs):∃x:aw,cs=aA x:=by
 have hg:=h.gen;rw[Tryz.underlying37]at hg;obtain⟨parts,rfl,hl,hp⟩:=hg;have hl:parts.length=6:=hl;obtain⟨p0,r0,e0,hl0⟩:=ce hl;subst e0;obtain⟨p1,r1,e1,hl1⟩:=ce hl0;subst e1;obtain⟨p2,r2,e2,hl2⟩:=ce hl1;subst e2;obtain⟨p3,r3,e3,hl3⟩:=ce hl2;subst e3;obtain⟨p4,r4,e4,hl4⟩:=ce hl3;subst e4;obtain⟨p5,r5,e5,hl5⟩:=ce hl4;subst e5;have hnil:=List.eq_nil_of_length_eq_zero hl5;subst hnil;obtain⟨x0,rfl⟩:=pA (hp 0 _ p0 rfl rfl);obtain⟨x1,rfl⟩:=pA (hp 1 _ p1 rfl rfl);obtain⟨x2,rfl⟩:=wC (hp 2 _ p2 rfl rfl);obtain⟨x3,rfl⟩:=pA (hp 3 _ p3 rfl rfl);obtain⟨x4,rfl⟩:=pA (hp 4 _ p4 rfl rfl);obtain⟨x5,rfl⟩:=Nc (hp 5 _ p5 rfl rfl);exact⟨⟨x0,x1,x2,x3,x4,x5⟩,by kernel_rfl⟩
theorem KV{cs:List AV}(h:cp Tryz.prog 22 cs):∃x:(List aw),cs=(Au aA) x:=by
 obtain⟨l,rfl,_,_,hc⟩:=h.sl_inv Tryz.underlying22;obtain⟨L,rfl⟩:=TQ (e:=aA) (fun c hcm=>Gq (hc c hcm));exact⟨L,rfl⟩
theorem Qp{cs:List AV}(h:cp Tryz.prog 39 cs):∃x:di,cs=dw x:=by
 have hg:=h.gen;rw[Tryz.underlying39]at hg;obtain⟨parts,rfl,hl,hp⟩:=hg;have hl:parts.length=3:=hl;obtain⟨p0,r0,e0,hl0⟩:=ce hl;subst e0;obtain⟨p1,r1,e1,hl1⟩:=ce hl0;subst e1;obtain⟨p2,r2,e2,hl2⟩:=ce hl1;subst e2;have hnil:=List.eq_nil_of_length_eq_zero hl2;subst hnil;obtain⟨x0,rfl⟩:=pA (hp 0 _ p0 rfl rfl);obtain⟨x1,rfl⟩:=pA (hp 1 _ p1 rfl rfl);obtain⟨x2,rfl⟩:=Gq (hp 2 _ p2 rfl rfl);exact⟨⟨x0,x1,x2⟩,by kernel_rfl⟩
end Go.Proofs.YtocgkfoifehcbaaGreat
