/- Arguments of the laws' types as typed values. Made by a program. -/
import Derived.Test.YtnpmlepplfaijaaIbFr
import Derived.Test.YtnpmlepplfaijaaIbGt
import Derived.Test.YtnpmlepplfaijaaProg
namespace Go.Proofs.Ytnpmlepplfaijaa
open Go.RowKit
set_option maxRecDepth 20000
set_option linter.all false
theorem bN{cs:List AV}(h:bt Try.prog 3 cs):∃x:Int,cs=(aX .i64) x:=by
 obtain⟨n,rfl,_⟩:=h.CV Try.underlying3;exact⟨n,rfl⟩
theorem jt{cs:List AV}(h:bt Try.prog 9 cs):∃x:ByteArray,cs=yL x:=by
 obtain⟨b,rfl,_⟩:=h.z3 Try.underlying9;exact⟨b,rfl⟩
theorem dV{cs:List AV}(h:bt Try.prog 23 cs):∃x:c6,cs=kZ x:=by
 have hg:=h.gen;rw[Try.underlying23]at hg;obtain⟨parts,rfl,hl,hp⟩:=hg;have hl:parts.length=2:=hl;obtain⟨p0,r0,e0,hl0⟩:=bb hl;subst e0;obtain⟨p1,r1,e1,hl1⟩:=bb hl0;subst e1;have hnil:=List.eq_nil_of_length_eq_zero hl1;subst hnil;obtain⟨x0,rfl⟩:=bN (hp 0 _ p0 rfl rfl);obtain⟨x1,rfl⟩:=bN (hp 1 _ p1 rfl rfl);exact⟨⟨x0,x1⟩,by kernel_rfl⟩
theorem vN{cs:List AV}(h:bt Try.prog 24 cs):∃x:(V4 c6),cs=(vW kZ) x:=by
 have hg:=h.gen;rw[Try.underlying24]at hg;obtain⟨parts,rfl,hl,hp⟩:=hg;have hl:parts.length=4:=hl;obtain⟨p0,r0,e0,hl0⟩:=bb hl;subst e0;obtain⟨p1,r1,e1,hl1⟩:=bb hl0;subst e1;obtain⟨p2,r2,e2,hl2⟩:=bb hl1;subst e2;obtain⟨p3,r3,e3,hl3⟩:=bb hl2;subst e3;have hnil:=List.eq_nil_of_length_eq_zero hl3;subst hnil;obtain⟨x0,rfl⟩:=dV (hp p0 (by simp));obtain⟨x1,rfl⟩:=dV (hp p1 (by simp));obtain⟨x2,rfl⟩:=dV (hp p2 (by simp));obtain⟨x3,rfl⟩:=dV (hp p3 (by simp));exact⟨⟨x0,x1,x2,x3⟩,by kernel_rfl⟩
theorem D1{cs:List AV}(h:bt Try.prog 25 cs):∃x:(V4 Int),cs=(vW (aX .i64)) x:=by
 have hg:=h.gen;rw[Try.underlying25]at hg;obtain⟨parts,rfl,hl,hp⟩:=hg;have hl:parts.length=4:=hl;obtain⟨p0,r0,e0,hl0⟩:=bb hl;subst e0;obtain⟨p1,r1,e1,hl1⟩:=bb hl0;subst e1;obtain⟨p2,r2,e2,hl2⟩:=bb hl1;subst e2;obtain⟨p3,r3,e3,hl3⟩:=bb hl2;subst e3;have hnil:=List.eq_nil_of_length_eq_zero hl3;subst hnil;obtain⟨x0,rfl⟩:=bN (hp p0 (by simp));obtain⟨x1,rfl⟩:=bN (hp p1 (by simp));obtain⟨x2,rfl⟩:=bN (hp p2 (by simp));obtain⟨x3,rfl⟩:=bN (hp p3 (by simp));exact⟨⟨x0,x1,x2,x3⟩,by kernel_rfl⟩
theorem i9{cs:List AV}(h:bt Try.prog 4 cs):∃x:Bool,cs=zK x:=by
 obtain⟨b,rfl⟩:=h.E2 Try.underlying4;exact⟨b,rfl⟩
theorem tp{cs:List AV}(h:bt Try.prog 27 cs):∃x:aK,cs=aA x:=by
 have hg:=h.gen;rw[Try.underlying27]at hg;obtain⟨parts,rfl,hl,hp⟩:=hg;have hl:parts.length=29:=hl;obtain⟨p0,r0,e0,hl0⟩:=bb hl;subst e0;obtain⟨p1,r1,e1,hl1⟩:=bb hl0;subst e1;obtain⟨p2,r2,e2,hl2⟩:=bb hl1;subst e2;obtain⟨p3,r3,e3,hl3⟩:=bb hl2;subst e3;obtain⟨p4,r4,e4,hl4⟩:=bb hl3;subst e4;obtain⟨p5,r5,e5,hl5⟩:=bb hl4;subst e5;obtain⟨p6,r6,e6,hl6⟩:=bb hl5;subst e6;obtain⟨p7,r7,e7,hl7⟩:=bb hl6;subst e7;obtain⟨p8,r8,e8,hl8⟩:=bb hl7;subst e8;obtain⟨p9,r9,e9,hl9⟩:=bb hl8;subst e9;obtain⟨p10,r10,e10,hl10⟩:=bb hl9;subst e10;obtain⟨p11,r11,e11,hl11⟩:=bb hl10;subst e11;obtain⟨p12,r12,e12,hl12⟩:=bb hl11;subst e12;obtain⟨p13,r13,e13,hl13⟩:=bb hl12;subst e13;obtain⟨p14,r14,e14,hl14⟩:=bb hl13;subst e14;obtain⟨p15,r15,e15,hl15⟩:=bb hl14;subst e15;obtain⟨p16,r16,e16,hl16⟩:=bb hl15;subst e16;obtain⟨p17,r17,e17,hl17⟩:=bb hl16;subst e17;obtain⟨p18,r18,e18,hl18⟩:=bb hl17;subst e18;obtain⟨p19,r19,e19,hl19⟩:=bb hl18
 subst e19;obtain⟨p20,r20,e20,hl20⟩:=bb hl19;subst e20;obtain⟨p21,r21,e21,hl21⟩:=bb hl20;subst e21;obtain⟨p22,r22,e22,hl22⟩:=bb hl21;subst e22;obtain⟨p23,r23,e23,hl23⟩:=bb hl22;subst e23;obtain⟨p24,r24,e24,hl24⟩:=bb hl23;subst e24;obtain⟨p25,r25,e25,hl25⟩:=bb hl24;subst e25;obtain⟨p26,r26,e26,hl26⟩:=bb hl25;subst e26;obtain⟨p27,r27,e27,hl27⟩:=bb hl26;subst e27;obtain⟨p28,r28,e28,hl28⟩:=bb hl27;subst e28;have hnil:=List.eq_nil_of_length_eq_zero hl28;subst hnil;obtain⟨x0,rfl⟩:=bN (hp 0 _ p0 rfl rfl);obtain⟨x1,rfl⟩:=bN (hp 1 _ p1 rfl rfl);obtain⟨x2,rfl⟩:=dV (hp 2 _ p2 rfl rfl);obtain⟨x3,rfl⟩:=dV (hp 3 _ p3 rfl rfl);obtain⟨x4,rfl⟩:=dV (hp 4 _ p4 rfl rfl);obtain⟨x5,rfl⟩:=dV (hp 5 _ p5 rfl rfl);obtain⟨x6,rfl⟩:=dV (hp 6 _ p6 rfl rfl);obtain⟨x7,rfl⟩:=dV (hp 7 _ p7 rfl rfl);obtain⟨x8,rfl⟩:=vN (hp 8 _ p8 rfl rfl);obtain⟨x9,rfl⟩:=vN (hp 9 _ p9 rfl rfl);obtain⟨x10,rfl⟩:=D1 (hp 10 _ p10 rfl rfl)
 obtain⟨x11,rfl⟩:=jt (hp 11 _ p11 rfl rfl);obtain⟨x12,rfl⟩:=jt (hp 12 _ p12 rfl rfl);obtain⟨x13,rfl⟩:=jt (hp 13 _ p13 rfl rfl);obtain⟨x14,rfl⟩:=bN (hp 14 _ p14 rfl rfl);obtain⟨x15,rfl⟩:=bN (hp 15 _ p15 rfl rfl);obtain⟨x16,rfl⟩:=bN (hp 16 _ p16 rfl rfl);obtain⟨x17,rfl⟩:=bN (hp 17 _ p17 rfl rfl);obtain⟨x18,rfl⟩:=bN (hp 18 _ p18 rfl rfl);obtain⟨x19,rfl⟩:=bN (hp 19 _ p19 rfl rfl);obtain⟨x20,rfl⟩:=i9 (hp 20 _ p20 rfl rfl);obtain⟨x21,rfl⟩:=bN (hp 21 _ p21 rfl rfl);obtain⟨x22,rfl⟩:=bN (hp 22 _ p22 rfl rfl);obtain⟨x23,rfl⟩:=dV (hp 23 _ p23 rfl rfl);obtain⟨x24,rfl⟩:=bN (hp 24 _ p24 rfl rfl);obtain⟨x25,rfl⟩:=bN (hp 25 _ p25 rfl rfl);obtain⟨x26,rfl⟩:=i9 (hp 26 _ p26 rfl rfl);obtain⟨x27,rfl⟩:=bN (hp 27 _ p27 rfl rfl);obtain⟨x28,rfl⟩:=bN (hp 28 _ p28 rfl rfl);exact⟨⟨x0,x1,x2,x3,x4,x5,x6,x7,x8,x9,x10,x11,x12,x13,x14,x15,x16,x17,x18,x19,x20,x21,x22,x23,x24,x25,x26,x27,x28⟩,by kernel_rfl⟩
theorem vq{cs:List AV}(h:bt Try.prog 62 cs):∃x:aE,cs=bx x:=by
 have hg:=h.gen;rw[Try.underlying62]at hg;obtain⟨parts,rfl,hl,hp⟩:=hg;have hl:parts.length=2:=hl;obtain⟨p0,r0,e0,hl0⟩:=bb hl;subst e0;obtain⟨p1,r1,e1,hl1⟩:=bb hl0;subst e1;have hnil:=List.eq_nil_of_length_eq_zero hl1;subst hnil;obtain⟨x0,rfl⟩:=bN (hp 0 _ p0 rfl rfl);obtain⟨x1,rfl⟩:=bN (hp 1 _ p1 rfl rfl);exact⟨⟨x0,x1⟩,by kernel_rfl⟩
theorem DQ{tt:TypeId}{cs:List AV}(h:bt Try.prog tt cs):(tt=64→∃x:ae,cs=au x)∧(tt=39→∃L:List ae,cs=[.sl (L.map au)]):=by
 induction h with
 | bool _ b h=>exact⟨fun e=>(by subst e;rw[Try.underlying64]at h;cases h),fun e=>(by subst e;rw[Try.underlying39]at h;cases h)⟩
 | int _ k n h hw=>exact⟨fun e=>(by subst e;rw[Try.underlying64]at h;cases h),fun e=>(by subst e;rw[Try.underlying39]at h;cases h)⟩
 | str _ b h hs=>exact⟨fun e=>(by subst e;rw[Try.underlying64]at h;cases h),fun e=>(by subst e;rw[Try.underlying39]at h;cases h)⟩
 | array _ e n parts h hl hp ih=>exact⟨fun e=>(by subst e;rw[Try.underlying64]at h;cases h),fun e=>(by subst e;rw[Try.underlying39]at h;cases h)⟩
 | sl _ e l h hl hz hc ih =>
  refine⟨fun e=>(by subst e;rw[Try.underlying64]at h;cases h),fun e'=>?_⟩;subst e';rw[Try.underlying39]at h;injection h with h;injection h with h;subst h
  obtain⟨L,rfl⟩:=pD (e:=au) (fun c hcm=>(ih c hcm).1 rfl);exact⟨L,rfl⟩
 | struct _ fs parts h hl hp ih =>
  refine⟨fun e'=>?_,fun e=>(by subst e;rw[Try.underlying39]at h;cases h)⟩;subst e';rw[Try.underlying64]at h;injection h with h;injection h with h;subst h
  have hl:parts.length=13:=hl;obtain⟨p0,r0,e0,hl0⟩:=bb hl;subst e0;obtain⟨p1,r1,e1,hl1⟩:=bb hl0;subst e1;obtain⟨p2,r2,e2,hl2⟩:=bb hl1;subst e2;obtain⟨p3,r3,e3,hl3⟩:=bb hl2;subst e3;obtain⟨p4,r4,e4,hl4⟩:=bb hl3;subst e4;obtain⟨p5,r5,e5,hl5⟩:=bb hl4;subst e5;obtain⟨p6,r6,e6,hl6⟩:=bb hl5;subst e6;obtain⟨p7,r7,e7,hl7⟩:=bb hl6;subst e7;obtain⟨p8,r8,e8,hl8⟩:=bb hl7;subst e8;obtain⟨p9,r9,e9,hl9⟩:=bb hl8;subst e9;obtain⟨p10,r10,e10,hl10⟩:=bb hl9;subst e10;obtain⟨p11,r11,e11,hl11⟩:=bb hl10;subst e11;obtain⟨p12,r12,e12,hl12⟩:=bb hl11;subst e12;have hnil:=List.eq_nil_of_length_eq_zero hl12;subst hnil;obtain⟨x0,rfl⟩:=bN (hp 0 _ p0 rfl rfl);obtain⟨x1,rfl⟩:=bN (hp 1 _ p1 rfl rfl);obtain⟨x2,rfl⟩:=bN (hp 2 _ p2 rfl rfl);obtain⟨x3,rfl⟩:=bN (hp 3 _ p3 rfl rfl);obtain⟨x4,rfl⟩:=bN (hp 4 _ p4 rfl rfl);obtain⟨x5,rfl⟩:=bN (hp 5 _ p5 rfl rfl);obtain⟨x6,rfl⟩:=bN (hp 6 _ p6 rfl rfl);obtain⟨x7,rfl⟩:=jt (hp 7 _ p7 rfl rfl)
  obtain⟨x8,rfl⟩:=tp (hp 8 _ p8 rfl rfl);obtain⟨x9,rfl⟩:=vq (hp 9 _ p9 rfl rfl);obtain⟨x10,rfl⟩:=vq (hp 10 _ p10 rfl rfl);obtain⟨x11,rfl⟩:=i9 (hp 11 _ p11 rfl rfl);obtain⟨x12,rfl⟩:=(ih 12 _ p12 rfl rfl).2 rfl;exact⟨⟨x0,x1,x2,x3,x4,x5,x6,x7,x8,x9,x10,x11,x12⟩,by rw[cr];kernel_rfl⟩
theorem zh{cs:List AV}(h:bt Try.prog 64 cs):∃x:ae,cs=au x:=(DQ h).1 rfl
theorem yr{cs:List AV}(h:bt Try.prog 39 cs):∃x:(List ae),cs=(sg au) x:=by
 obtain⟨l,rfl,_,_,hc⟩:=h.uQ Try.underlying39;obtain⟨L,rfl⟩:=pD (e:=au) (fun c hcm=>zh (hc c hcm));exact⟨L,rfl⟩
theorem BX{cs:List AV}(h:bt Try.prog 41 cs):∃x:av,cs=ax x:=by
 have hg:=h.gen;rw[Try.underlying41]at hg;obtain⟨parts,rfl,hl,hp⟩:=hg;have hl:parts.length=10:=hl;obtain⟨p0,r0,e0,hl0⟩:=bb hl;subst e0;obtain⟨p1,r1,e1,hl1⟩:=bb hl0;subst e1;obtain⟨p2,r2,e2,hl2⟩:=bb hl1;subst e2;obtain⟨p3,r3,e3,hl3⟩:=bb hl2;subst e3;obtain⟨p4,r4,e4,hl4⟩:=bb hl3;subst e4;obtain⟨p5,r5,e5,hl5⟩:=bb hl4;subst e5;obtain⟨p6,r6,e6,hl6⟩:=bb hl5;subst e6;obtain⟨p7,r7,e7,hl7⟩:=bb hl6;subst e7;obtain⟨p8,r8,e8,hl8⟩:=bb hl7;subst e8;obtain⟨p9,r9,e9,hl9⟩:=bb hl8;subst e9;have hnil:=List.eq_nil_of_length_eq_zero hl9;subst hnil;obtain⟨x0,rfl⟩:=bN (hp 0 _ p0 rfl rfl);obtain⟨x1,rfl⟩:=jt (hp 1 _ p1 rfl rfl);obtain⟨x2,rfl⟩:=tp (hp 2 _ p2 rfl rfl);obtain⟨x3,rfl⟩:=bN (hp 3 _ p3 rfl rfl);obtain⟨x4,rfl⟩:=bN (hp 4 _ p4 rfl rfl);obtain⟨x5,rfl⟩:=bN (hp 5 _ p5 rfl rfl);obtain⟨x6,rfl⟩:=bN (hp 6 _ p6 rfl rfl);obtain⟨x7,rfl⟩:=i9 (hp 7 _ p7 rfl rfl);obtain⟨x8,rfl⟩:=i9 (hp 8 _ p8 rfl rfl)
 obtain⟨x9,rfl⟩:=yr (hp 9 _ p9 rfl rfl);exact⟨⟨x0,x1,x2,x3,x4,x5,x6,x7,x8,x9⟩,by kernel_rfl⟩
theorem yv{cs:List AV}(h:bt Try.prog 37 cs):∃x:(List av),cs=(sg ax) x:=by
 obtain⟨l,rfl,_,_,hc⟩:=h.uQ Try.underlying37;obtain⟨L,rfl⟩:=pD (e:=ax) (fun c hcm=>BX (hc c hcm));exact⟨L,rfl⟩
end Go.Proofs.Ytnpmlepplfaijaa
