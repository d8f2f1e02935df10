/- Arguments of the laws' types as typed values. Made by a program. -/
import Derived.Test.YtnpmlepplfaijaaItFr
import Derived.Test.YtnpmlepplfaijaaItGt
import Derived.Test.YtnpmlepplfaijaaProg
namespace Go.Proofs.Ytnpmlepplfaijaa
open Go.RowKit
set_option maxRecDepth 20000
set_option linter.all false
theorem rM{cs:List AV}(h:bL Try.prog 5 cs):∃x:Int,cs=(bz .u8) x:=by
 obtain⟨n,rfl,_⟩:=h.BS Try.underlying5;exact⟨n,rfl⟩
theorem qw{cs:List AV}(h:bL Try.prog 9 cs):∃x:ByteArray,cs=IU x:=by
 obtain⟨b,rfl,_⟩:=h.Gm Try.underlying9;exact⟨b,rfl⟩
theorem c9{cs:List AV}(h:bL Try.prog 3 cs):∃x:Int,cs=(bz .i64) x:=by
 obtain⟨n,rfl,_⟩:=h.BS Try.underlying3;exact⟨n,rfl⟩
theorem fF{cs:List AV}(h:bL Try.prog 23 cs):∃x:cV,cs=lT x:=by
 have hg:=h.gen;rw[Try.underlying23]at hg;obtain⟨parts,rfl,hl,hp⟩:=hg;have hl:parts.length=2:=hl;obtain⟨p0,r0,e0,hl0⟩:=bI hl;subst e0;obtain⟨p1,r1,e1,hl1⟩:=bI hl0;subst e1;have hnil:=List.eq_nil_of_length_eq_zero hl1;subst hnil;obtain⟨x0,rfl⟩:=c9 (hp 0 _ p0 rfl rfl);obtain⟨x1,rfl⟩:=c9 (hp 1 _ p1 rfl rfl);exact⟨⟨x0,x1⟩,by kernel_rfl⟩
theorem yp{cs:List AV}(h:bL Try.prog 24 cs):∃x:(V4 cV),cs=(zW lT) x:=by
 have hg:=h.gen;rw[Try.underlying24]at hg;obtain⟨parts,rfl,hl,hp⟩:=hg;have hl:parts.length=4:=hl;obtain⟨p0,r0,e0,hl0⟩:=bI hl;subst e0;obtain⟨p1,r1,e1,hl1⟩:=bI hl0;subst e1;obtain⟨p2,r2,e2,hl2⟩:=bI hl1;subst e2;obtain⟨p3,r3,e3,hl3⟩:=bI hl2;subst e3;have hnil:=List.eq_nil_of_length_eq_zero hl3;subst hnil;obtain⟨x0,rfl⟩:=fF (hp p0 (by simp));obtain⟨x1,rfl⟩:=fF (hp p1 (by simp));obtain⟨x2,rfl⟩:=fF (hp p2 (by simp));obtain⟨x3,rfl⟩:=fF (hp p3 (by simp));exact⟨⟨x0,x1,x2,x3⟩,by kernel_rfl⟩
theorem Ge{cs:List AV}(h:bL Try.prog 25 cs):∃x:(V4 Int),cs=(zW (bz .i64)) x:=by
 have hg:=h.gen;rw[Try.underlying25]at hg;obtain⟨parts,rfl,hl,hp⟩:=hg;have hl:parts.length=4:=hl;obtain⟨p0,r0,e0,hl0⟩:=bI hl;subst e0;obtain⟨p1,r1,e1,hl1⟩:=bI hl0;subst e1;obtain⟨p2,r2,e2,hl2⟩:=bI hl1;subst e2;obtain⟨p3,r3,e3,hl3⟩:=bI hl2;subst e3;have hnil:=List.eq_nil_of_length_eq_zero hl3;subst hnil;obtain⟨x0,rfl⟩:=c9 (hp p0 (by simp));obtain⟨x1,rfl⟩:=c9 (hp p1 (by simp));obtain⟨x2,rfl⟩:=c9 (hp p2 (by simp));obtain⟨x3,rfl⟩:=c9 (hp p3 (by simp));exact⟨⟨x0,x1,x2,x3⟩,by kernel_rfl⟩
theorem CM{cs:List AV}(h:bL Try.prog 4 cs):∃x:Bool,cs=DI x:=by
 obtain⟨b,rfl⟩:=h.H0 Try.underlying4;exact⟨b,rfl⟩
theorem IV{cs:List AV}(h:bL Try.prog 27 cs):∃x:aB,cs=aA x:=by
 have hg:=h.gen;rw[Try.underlying27]at hg;obtain⟨parts,rfl,hl,hp⟩:=hg;have hl:parts.length=29:=hl;obtain⟨p0,r0,e0,hl0⟩:=bI hl;subst e0;obtain⟨p1,r1,e1,hl1⟩:=bI hl0;subst e1;obtain⟨p2,r2,e2,hl2⟩:=bI hl1;subst e2;obtain⟨p3,r3,e3,hl3⟩:=bI hl2;subst e3;obtain⟨p4,r4,e4,hl4⟩:=bI hl3;subst e4;obtain⟨p5,r5,e5,hl5⟩:=bI hl4;subst e5;obtain⟨p6,r6,e6,hl6⟩:=bI hl5;subst e6;obtain⟨p7,r7,e7,hl7⟩:=bI hl6;subst e7;obtain⟨p8,r8,e8,hl8⟩:=bI hl7;subst e8;obtain⟨p9,r9,e9,hl9⟩:=bI hl8;subst e9;obtain⟨p10,r10,e10,hl10⟩:=bI hl9;subst e10;obtain⟨p11,r11,e11,hl11⟩:=bI hl10;subst e11;obtain⟨p12,r12,e12,hl12⟩:=bI hl11;subst e12;obtain⟨p13,r13,e13,hl13⟩:=bI hl12;subst e13;obtain⟨p14,r14,e14,hl14⟩:=bI hl13;subst e14;obtain⟨p15,r15,e15,hl15⟩:=bI hl14;subst e15;obtain⟨p16,r16,e16,hl16⟩:=bI hl15;subst e16;obtain⟨p17,r17,e17,hl17⟩:=bI hl16;subst e17;obtain⟨p18,r18,e18,hl18⟩:=bI hl17;subst e18;obtain⟨p19,r19,e19,hl19⟩:=bI hl18
 subst e19;obtain⟨p20,r20,e20,hl20⟩:=bI hl19;subst e20;obtain⟨p21,r21,e21,hl21⟩:=bI hl20;subst e21;obtain⟨p22,r22,e22,hl22⟩:=bI hl21;subst e22;obtain⟨p23,r23,e23,hl23⟩:=bI hl22;subst e23;obtain⟨p24,r24,e24,hl24⟩:=bI hl23;subst e24;obtain⟨p25,r25,e25,hl25⟩:=bI hl24;subst e25;obtain⟨p26,r26,e26,hl26⟩:=bI hl25;subst e26;obtain⟨p27,r27,e27,hl27⟩:=bI hl26;subst e27;obtain⟨p28,r28,e28,hl28⟩:=bI hl27;subst e28;have hnil:=List.eq_nil_of_length_eq_zero hl28;subst hnil;obtain⟨x0,rfl⟩:=c9 (hp 0 _ p0 rfl rfl);obtain⟨x1,rfl⟩:=c9 (hp 1 _ p1 rfl rfl);obtain⟨x2,rfl⟩:=fF (hp 2 _ p2 rfl rfl);obtain⟨x3,rfl⟩:=fF (hp 3 _ p3 rfl rfl);obtain⟨x4,rfl⟩:=fF (hp 4 _ p4 rfl rfl);obtain⟨x5,rfl⟩:=fF (hp 5 _ p5 rfl rfl);obtain⟨x6,rfl⟩:=fF (hp 6 _ p6 rfl rfl);obtain⟨x7,rfl⟩:=fF (hp 7 _ p7 rfl rfl);obtain⟨x8,rfl⟩:=yp (hp 8 _ p8 rfl rfl);obtain⟨x9,rfl⟩:=yp (hp 9 _ p9 rfl rfl);obtain⟨x10,rfl⟩:=Ge (hp 10 _ p10 rfl rfl)
 obtain⟨x11,rfl⟩:=qw (hp 11 _ p11 rfl rfl);obtain⟨x12,rfl⟩:=qw (hp 12 _ p12 rfl rfl);obtain⟨x13,rfl⟩:=qw (hp 13 _ p13 rfl rfl);obtain⟨x14,rfl⟩:=c9 (hp 14 _ p14 rfl rfl);obtain⟨x15,rfl⟩:=c9 (hp 15 _ p15 rfl rfl);obtain⟨x16,rfl⟩:=c9 (hp 16 _ p16 rfl rfl);obtain⟨x17,rfl⟩:=c9 (hp 17 _ p17 rfl rfl);obtain⟨x18,rfl⟩:=c9 (hp 18 _ p18 rfl rfl);obtain⟨x19,rfl⟩:=c9 (hp 19 _ p19 rfl rfl);obtain⟨x20,rfl⟩:=CM (hp 20 _ p20 rfl rfl);obtain⟨x21,rfl⟩:=c9 (hp 21 _ p21 rfl rfl);obtain⟨x22,rfl⟩:=c9 (hp 22 _ p22 rfl rfl);obtain⟨x23,rfl⟩:=fF (hp 23 _ p23 rfl rfl);obtain⟨x24,rfl⟩:=c9 (hp 24 _ p24 rfl rfl);obtain⟨x25,rfl⟩:=c9 (hp 25 _ p25 rfl rfl);obtain⟨x26,rfl⟩:=CM (hp 26 _ p26 rfl rfl);obtain⟨x27,rfl⟩:=c9 (hp 27 _ p27 rfl rfl);obtain⟨x28,rfl⟩:=c9 (hp 28 _ p28 rfl rfl);exact⟨⟨x0,x1,x2,x3,x4,x5,x6,x7,x8,x9,x10,x11,x12,x13,x14,x15,x16,x17,x18,x19,x20,x21,x22,x23,x24,x25,x26,x27,x28⟩,by kernel_rfl⟩
theorem E1{cs:List AV}(h:bL Try.prog 29 cs):∃x:bB,cs=bu x:=by
 have hg:=h.gen;rw[Try.underlying29]at hg;obtain⟨parts,rfl,hl,hp⟩:=hg;have hl:parts.length=6:=hl;obtain⟨p0,r0,e0,hl0⟩:=bI hl;subst e0;obtain⟨p1,r1,e1,hl1⟩:=bI hl0;subst e1;obtain⟨p2,r2,e2,hl2⟩:=bI hl1;subst e2;obtain⟨p3,r3,e3,hl3⟩:=bI hl2;subst e3;obtain⟨p4,r4,e4,hl4⟩:=bI hl3;subst e4;obtain⟨p5,r5,e5,hl5⟩:=bI hl4;subst e5;have hnil:=List.eq_nil_of_length_eq_zero hl5;subst hnil;obtain⟨x0,rfl⟩:=rM (hp 0 _ p0 rfl rfl);obtain⟨x1,rfl⟩:=rM (hp 1 _ p1 rfl rfl);obtain⟨x2,rfl⟩:=qw (hp 2 _ p2 rfl rfl);obtain⟨x3,rfl⟩:=rM (hp 3 _ p3 rfl rfl);obtain⟨x4,rfl⟩:=rM (hp 4 _ p4 rfl rfl);obtain⟨x5,rfl⟩:=IV (hp 5 _ p5 rfl rfl);exact⟨⟨x0,x1,x2,x3,x4,x5⟩,by kernel_rfl⟩
theorem Lv{cs:List AV}(h:bL Try.prog 32 cs):∃x:(List bB),cs=(vx bu) x:=by
 obtain⟨l,rfl,_,_,hc⟩:=h.Cj Try.underlying32;obtain⟨L,rfl⟩:=Hd (e:=bu) (fun c hcm=>E1 (hc c hcm));exact⟨L,rfl⟩
end Go.Proofs.Ytnpmlepplfaijaa
