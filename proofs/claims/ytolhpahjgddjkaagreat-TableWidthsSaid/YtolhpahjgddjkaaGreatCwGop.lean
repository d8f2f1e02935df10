/- Arguments of the laws' types as typed values. Made by a program. -/
import Derived.Test.YtolhpahjgddjkaaGreatCwFr
import Derived.Test.YtolhpahjgddjkaaGreatCwGt
import Derived.Test.YtolhpahjgddjkaaGreatProg
namespace Go.Proofs.YtolhpahjgddjkaaGreat
open Go.RowKit
set_option maxRecDepth 20000
set_option linter.all false
theorem zT{cs:List AV}(h:c9 Tryz.prog 5 cs):∃x:Int,cs=(ab .u8) x:=by
 obtain⟨n,rfl,_⟩:=h.I7 Tryz.underlying5;exact⟨n,rfl⟩
theorem zn{cs:List AV}(h:c9 Tryz.prog 9 cs):∃x:ByteArray,cs=RT x:=by
 obtain⟨b,rfl,_⟩:=h.VG Tryz.underlying9;exact⟨b,rfl⟩
theorem fr{cs:List AV}(h:c9 Tryz.prog 3 cs):∃x:Int,cs=(ab .i64) x:=by
 obtain⟨n,rfl,_⟩:=h.I7 Tryz.underlying3;exact⟨n,rfl⟩
theorem jL{cs:List AV}(h:c9 Tryz.prog 26 cs):∃x:ch,cs=gJ x:=by
 have hg:=h.gen;rw[Tryz.underlying26]at hg;obtain⟨parts,rfl,hl,hp⟩:=hg;have hl:parts.length=2:=hl;obtain⟨p0,r0,e0,hl0⟩:=cV hl;subst e0;obtain⟨p1,r1,e1,hl1⟩:=cV hl0;subst e1;have hnil:=List.eq_nil_of_length_eq_zero hl1;subst hnil;obtain⟨x0,rfl⟩:=fr (hp 0 _ p0 rfl rfl);obtain⟨x1,rfl⟩:=fr (hp 1 _ p1 rfl rfl);exact⟨⟨x0,x1⟩,by kernel_rfl⟩
theorem Ly{cs:List AV}(h:c9 Tryz.prog 27 cs):∃x:(V4 ch),cs=(Ms gJ) x:=by
 have hg:=h.gen;rw[Tryz.underlying27]at hg;obtain⟨parts,rfl,hl,hp⟩:=hg;have hl:parts.length=4:=hl;obtain⟨p0,r0,e0,hl0⟩:=cV hl;subst e0;obtain⟨p1,r1,e1,hl1⟩:=cV hl0;subst e1;obtain⟨p2,r2,e2,hl2⟩:=cV hl1;subst e2;obtain⟨p3,r3,e3,hl3⟩:=cV hl2;subst e3;have hnil:=List.eq_nil_of_length_eq_zero hl3;subst hnil;obtain⟨x0,rfl⟩:=jL (hp p0 (by simp));obtain⟨x1,rfl⟩:=jL (hp p1 (by simp));obtain⟨x2,rfl⟩:=jL (hp p2 (by simp));obtain⟨x3,rfl⟩:=jL (hp p3 (by simp));exact⟨⟨x0,x1,x2,x3⟩,by kernel_rfl⟩
theorem Si{cs:List AV}(h:c9 Tryz.prog 28 cs):∃x:(V4 Int),cs=(Ms (ab .i64)) x:=by
 have hg:=h.gen;rw[Tryz.underlying28]at hg;obtain⟨parts,rfl,hl,hp⟩:=hg;have hl:parts.length=4:=hl;obtain⟨p0,r0,e0,hl0⟩:=cV hl;subst e0;obtain⟨p1,r1,e1,hl1⟩:=cV hl0;subst e1;obtain⟨p2,r2,e2,hl2⟩:=cV hl1;subst e2;obtain⟨p3,r3,e3,hl3⟩:=cV hl2;subst e3;have hnil:=List.eq_nil_of_length_eq_zero hl3;subst hnil;obtain⟨x0,rfl⟩:=fr (hp p0 (by simp));obtain⟨x1,rfl⟩:=fr (hp p1 (by simp));obtain⟨x2,rfl⟩:=fr (hp p2 (by simp));obtain⟨x3,rfl⟩:=fr (hp p3 (by simp));exact⟨⟨x0,x1,x2,x3⟩,by kernel_rfl⟩
theorem Hq{cs:List AV}(h:c9 Tryz.prog 4 cs):∃x:Bool,cs=R1 x:=by
 obtain⟨b,rfl⟩:=h.acU Tryz.underlying4;exact⟨b,rfl⟩
theorem T9{cs:List AV}(h:c9 Tryz.prog 30 cs):∃x:aE,cs=aD x:=by
 have hg:=h.gen;rw[Tryz.underlying30]at hg;obtain⟨parts,rfl,hl,hp⟩:=hg;have hl:parts.length=29:=hl;obtain⟨p0,r0,e0,hl0⟩:=cV hl;subst e0;obtain⟨p1,r1,e1,hl1⟩:=cV hl0;subst e1;obtain⟨p2,r2,e2,hl2⟩:=cV hl1;subst e2;obtain⟨p3,r3,e3,hl3⟩:=cV hl2;subst e3;obtain⟨p4,r4,e4,hl4⟩:=cV hl3;subst e4;obtain⟨p5,r5,e5,hl5⟩:=cV hl4;subst e5;obtain⟨p6,r6,e6,hl6⟩:=cV hl5;subst e6;obtain⟨p7,r7,e7,hl7⟩:=cV hl6;subst e7;obtain⟨p8,r8,e8,hl8⟩:=cV hl7;subst e8;obtain⟨p9,r9,e9,hl9⟩:=cV hl8;subst e9;obtain⟨p10,r10,e10,hl10⟩:=cV hl9;subst e10;obtain⟨p11,r11,e11,hl11⟩:=cV hl10;subst e11;obtain⟨p12,r12,e12,hl12⟩:=cV hl11;subst e12;obtain⟨p13,r13,e13,hl13⟩:=cV hl12;subst e13;obtain⟨p14,r14,e14,hl14⟩:=cV hl13;subst e14;obtain⟨p15,r15,e15,hl15⟩:=cV hl14;subst e15;obtain⟨p16,r16,e16,hl16⟩:=cV hl15;subst e16;obtain⟨p17,r17,e17,hl17⟩:=cV hl16;subst e17;obtain⟨p18,r18,e18,hl18⟩:=cV hl17;subst e18;obtain⟨p19,r19,e19,hl19⟩:=cV hl18
 subst e19;obtain⟨p20,r20,e20,hl20⟩:=cV hl19;subst e20;obtain⟨p21,r21,e21,hl21⟩:=cV hl20;subst e21;obtain⟨p22,r22,e22,hl22⟩:=cV hl21;subst e22;obtain⟨p23,r23,e23,hl23⟩:=cV hl22;subst e23;obtain⟨p24,r24,e24,hl24⟩:=cV hl23;subst e24;obtain⟨p25,r25,e25,hl25⟩:=cV hl24;subst e25;obtain⟨p26,r26,e26,hl26⟩:=cV hl25;subst e26;obtain⟨p27,r27,e27,hl27⟩:=cV hl26;subst e27;obtain⟨p28,r28,e28,hl28⟩:=cV hl27;subst e28;have hnil:=List.eq_nil_of_length_eq_zero hl28;subst hnil;obtain⟨x0,rfl⟩:=fr (hp 0 _ p0 rfl rfl);obtain⟨x1,rfl⟩:=fr (hp 1 _ p1 rfl rfl);obtain⟨x2,rfl⟩:=jL (hp 2 _ p2 rfl rfl);obtain⟨x3,rfl⟩:=jL (hp 3 _ p3 rfl rfl);obtain⟨x4,rfl⟩:=jL (hp 4 _ p4 rfl rfl);obtain⟨x5,rfl⟩:=jL (hp 5 _ p5 rfl rfl);obtain⟨x6,rfl⟩:=jL (hp 6 _ p6 rfl rfl);obtain⟨x7,rfl⟩:=jL (hp 7 _ p7 rfl rfl);obtain⟨x8,rfl⟩:=Ly (hp 8 _ p8 rfl rfl);obtain⟨x9,rfl⟩:=Ly (hp 9 _ p9 rfl rfl);obtain⟨x10,rfl⟩:=Si (hp 10 _ p10 rfl rfl)
 obtain⟨x11,rfl⟩:=zn (hp 11 _ p11 rfl rfl);obtain⟨x12,rfl⟩:=zn (hp 12 _ p12 rfl rfl);obtain⟨x13,rfl⟩:=zn (hp 13 _ p13 rfl rfl);obtain⟨x14,rfl⟩:=fr (hp 14 _ p14 rfl rfl);obtain⟨x15,rfl⟩:=fr (hp 15 _ p15 rfl rfl);obtain⟨x16,rfl⟩:=fr (hp 16 _ p16 rfl rfl);obtain⟨x17,rfl⟩:=fr (hp 17 _ p17 rfl rfl);obtain⟨x18,rfl⟩:=fr (hp 18 _ p18 rfl rfl);obtain⟨x19,rfl⟩:=fr (hp 19 _ p19 rfl rfl);obtain⟨x20,rfl⟩:=Hq (hp 20 _ p20 rfl rfl);obtain⟨x21,rfl⟩:=fr (hp 21 _ p21 rfl rfl);obtain⟨x22,rfl⟩:=fr (hp 22 _ p22 rfl rfl);obtain⟨x23,rfl⟩:=jL (hp 23 _ p23 rfl rfl);obtain⟨x24,rfl⟩:=fr (hp 24 _ p24 rfl rfl);obtain⟨x25,rfl⟩:=fr (hp 25 _ p25 rfl rfl);obtain⟨x26,rfl⟩:=Hq (hp 26 _ p26 rfl rfl);obtain⟨x27,rfl⟩:=fr (hp 27 _ p27 rfl rfl);obtain⟨x28,rfl⟩:=fr (hp 28 _ p28 rfl rfl);exact⟨⟨x0,x1,x2,x3,x4,x5,x6,x7,x8,x9,x10,x11,x12,x13,x14,x15,x16,x17,x18,x19,x20,x21,x22,x23,x24,x25,x26,x27,x28⟩,by kernel_rfl⟩
theorem Yu{cs:List AV}(h:c9 Tryz.prog 69 cs):∃x:dF,cs=dh x:=by
 have hg:=h.gen;rw[Tryz.underlying69]at hg;obtain⟨parts,rfl,hl,hp⟩:=hg;have hl:parts.length=6:=hl;obtain⟨p0,r0,e0,hl0⟩:=cV hl;subst e0;obtain⟨p1,r1,e1,hl1⟩:=cV hl0;subst e1;obtain⟨p2,r2,e2,hl2⟩:=cV hl1;subst e2;obtain⟨p3,r3,e3,hl3⟩:=cV hl2;subst e3;obtain⟨p4,r4,e4,hl4⟩:=cV hl3;subst e4;obtain⟨p5,r5,e5,hl5⟩:=cV hl4;subst e5;have hnil:=List.eq_nil_of_length_eq_zero hl5;subst hnil;obtain⟨x0,rfl⟩:=zT (hp 0 _ p0 rfl rfl);obtain⟨x1,rfl⟩:=zT (hp 1 _ p1 rfl rfl);obtain⟨x2,rfl⟩:=zn (hp 2 _ p2 rfl rfl);obtain⟨x3,rfl⟩:=zT (hp 3 _ p3 rfl rfl);obtain⟨x4,rfl⟩:=zT (hp 4 _ p4 rfl rfl);obtain⟨x5,rfl⟩:=T9 (hp 5 _ p5 rfl rfl);exact⟨⟨x0,x1,x2,x3,x4,x5⟩,by kernel_rfl⟩
theorem abH{cs:List AV}(h:c9 Tryz.prog 22 cs):∃x:(List dF),cs=(bu dh) x:=by
 obtain⟨l,rfl,_,_,hc⟩:=h.KP Tryz.underlying22;obtain⟨L,rfl⟩:=RL (e:=dh) (fun c hcm=>Yu (hc c hcm));exact⟨L,rfl⟩
end Go.Proofs.YtolhpahjgddjkaaGreat
