/- Arguments of the laws' types as typed values. Made by a program. -/
import Derived.Test.YtolhpahjgddjkaaCcFr
import Derived.Test.YtolhpahjgddjkaaCcGt
import Derived.Test.YtolhpahjgddjkaaProg
namespace Go.Proofs.Ytolhpahjgddjkaa
open Go.RowKit
set_option maxRecDepth 20000
set_option linter.all false
theorem op_t5 {cs:List AV} (h:HasT Try.prog 5 cs):∃ x:Int,cs=(eInt .u8) x:=by
  obtain ⟨n,rfl,_⟩:=h.int_inv Try.underlying5
  exact ⟨n,rfl⟩
theorem op_t9 {cs:List AV} (h:HasT Try.prog 9 cs):∃ x:ByteArray,cs=eStr x:=by
  obtain ⟨b,rfl,_⟩:=h.str_inv Try.underlying9
  exact ⟨b,rfl⟩
theorem cY {cs:List AV} (h:HasT Try.prog 3 cs):∃ x:Int,cs=(eInt .i64) x:=by
  obtain ⟨n,rfl,_⟩:=h.int_inv Try.underlying3
  exact ⟨n,rfl⟩
theorem ft {cs:List AV} (h:HasT Try.prog 48 cs):∃ x:cn,cs=iG x:=by
  have hg:=h.gen
  rw [Try.underlying48] at hg
  obtain ⟨parts,rfl,hl,hp⟩:=hg
  have hl:parts.length=2:=hl
  obtain ⟨p0,r0,e0,hl0⟩:=bP hl
  subst e0
  obtain ⟨p1,r1,e1,hl1⟩:=bP hl0
  subst e1
  have hnil:=List.eq_nil_of_length_eq_zero hl1
  subst hnil
  obtain ⟨x0,rfl⟩:=cY (hp 0 _ p0 rfl rfl)
  obtain ⟨x1,rfl⟩:=cY (hp 1 _ p1 rfl rfl)
  exact ⟨⟨x0,x1⟩,by kernel_rfl⟩
theorem op_t49 {cs:List AV} (h:HasT Try.prog 49 cs):∃ x:(V4 cn),cs=(eV4 iG) x:=by
  have hg:=h.gen
  rw [Try.underlying49] at hg
  obtain ⟨parts,rfl,hl,hp⟩:=hg
  have hl:parts.length=4:=hl
  obtain ⟨p0,r0,e0,hl0⟩:=bP hl
  subst e0
  obtain ⟨p1,r1,e1,hl1⟩:=bP hl0
  subst e1
  obtain ⟨p2,r2,e2,hl2⟩:=bP hl1
  subst e2
  obtain ⟨p3,r3,e3,hl3⟩:=bP hl2
  subst e3
  have hnil:=List.eq_nil_of_length_eq_zero hl3
  subst hnil
  obtain ⟨x0,rfl⟩:=ft (hp p0 (by simp))
  obtain ⟨x1,rfl⟩:=ft (hp p1 (by simp))
  obtain ⟨x2,rfl⟩:=ft (hp p2 (by simp))
  obtain ⟨x3,rfl⟩:=ft (hp p3 (by simp))
  exact ⟨⟨x0,x1,x2,x3⟩,by kernel_rfl⟩
theorem op_t50 {cs:List AV} (h:HasT Try.prog 50 cs):∃ x:(V4 Int),cs=(eV4 (eInt .i64)) x:=by
  have hg:=h.gen
  rw [Try.underlying50] at hg
  obtain ⟨parts,rfl,hl,hp⟩:=hg
  have hl:parts.length=4:=hl
  obtain ⟨p0,r0,e0,hl0⟩:=bP hl
  subst e0
  obtain ⟨p1,r1,e1,hl1⟩:=bP hl0
  subst e1
  obtain ⟨p2,r2,e2,hl2⟩:=bP hl1
  subst e2
  obtain ⟨p3,r3,e3,hl3⟩:=bP hl2
  subst e3
  have hnil:=List.eq_nil_of_length_eq_zero hl3
  subst hnil
  obtain ⟨x0,rfl⟩:=cY (hp p0 (by simp))
  obtain ⟨x1,rfl⟩:=cY (hp p1 (by simp))
  obtain ⟨x2,rfl⟩:=cY (hp p2 (by simp))
  obtain ⟨x3,rfl⟩:=cY (hp p3 (by simp))
  exact ⟨⟨x0,x1,x2,x3⟩,by kernel_rfl⟩
theorem op_t4 {cs:List AV} (h:HasT Try.prog 4 cs):∃ x:Bool,cs=eBool x:=by
  obtain ⟨b,rfl⟩:=h.bool_inv Try.underlying4
  exact ⟨b,rfl⟩
theorem vu {cs:List AV} (h:HasT Try.prog 52 cs):∃ x:aG,cs=aO x:=by
  have hg:=h.gen
  rw [Try.underlying52] at hg
  obtain ⟨parts,rfl,hl,hp⟩:=hg
  have hl:parts.length=29:=hl
  obtain ⟨p0,r0,e0,hl0⟩:=bP hl
  subst e0
  obtain ⟨p1,r1,e1,hl1⟩:=bP hl0
  subst e1
  obtain ⟨p2,r2,e2,hl2⟩:=bP hl1
  subst e2
  obtain ⟨p3,r3,e3,hl3⟩:=bP hl2
  subst e3
  obtain ⟨p4,r4,e4,hl4⟩:=bP hl3
  subst e4
  obtain ⟨p5,r5,e5,hl5⟩:=bP hl4
  subst e5
  obtain ⟨p6,r6,e6,hl6⟩:=bP hl5
  subst e6
  obtain ⟨p7,r7,e7,hl7⟩:=bP hl6
  subst e7
  obtain ⟨p8,r8,e8,hl8⟩:=bP hl7
  subst e8
  obtain ⟨p9,r9,e9,hl9⟩:=bP hl8
  subst e9
  obtain ⟨p10,r10,e10,hl10⟩:=bP hl9
  subst e10
  obtain ⟨p11,r11,e11,hl11⟩:=bP hl10
  subst e11
  obtain ⟨p12,r12,e12,hl12⟩:=bP hl11
  subst e12
  obtain ⟨p13,r13,e13,hl13⟩:=bP hl12
  subst e13
  obtain ⟨p14,r14,e14,hl14⟩:=bP hl13
  subst e14
  obtain ⟨p15,r15,e15,hl15⟩:=bP hl14
  subst e15
  obtain ⟨p16,r16,e16,hl16⟩:=bP hl15
  subst e16
  obtain ⟨p17,r17,e17,hl17⟩:=bP hl16
  subst e17
  obtain ⟨p18,r18,e18,hl18⟩:=bP hl17
  subst e18
  obtain ⟨p19,r19,e19,hl19⟩:=bP hl18
  subst e19
  obtain ⟨p20,r20,e20,hl20⟩:=bP hl19
  subst e20
  obtain ⟨p21,r21,e21,hl21⟩:=bP hl20
  subst e21
  obtain ⟨p22,r22,e22,hl22⟩:=bP hl21
  subst e22
  obtain ⟨p23,r23,e23,hl23⟩:=bP hl22
  subst e23
  obtain ⟨p24,r24,e24,hl24⟩:=bP hl23
  subst e24
  obtain ⟨p25,r25,e25,hl25⟩:=bP hl24
  subst e25
  obtain ⟨p26,r26,e26,hl26⟩:=bP hl25
  subst e26
  obtain ⟨p27,r27,e27,hl27⟩:=bP hl26
  subst e27
  obtain ⟨p28,r28,e28,hl28⟩:=bP hl27
  subst e28
  have hnil:=List.eq_nil_of_length_eq_zero hl28
  subst hnil
  obtain ⟨x0,rfl⟩:=cY (hp 0 _ p0 rfl rfl)
  obtain ⟨x1,rfl⟩:=cY (hp 1 _ p1 rfl rfl)
  obtain ⟨x2,rfl⟩:=ft (hp 2 _ p2 rfl rfl)
  obtain ⟨x3,rfl⟩:=ft (hp 3 _ p3 rfl rfl)
  obtain ⟨x4,rfl⟩:=ft (hp 4 _ p4 rfl rfl)
  obtain ⟨x5,rfl⟩:=ft (hp 5 _ p5 rfl rfl)
  obtain ⟨x6,rfl⟩:=ft (hp 6 _ p6 rfl rfl)
  obtain ⟨x7,rfl⟩:=ft (hp 7 _ p7 rfl rfl)
  obtain ⟨x8,rfl⟩:=op_t49 (hp 8 _ p8 rfl rfl)
  obtain ⟨x9,rfl⟩:=op_t49 (hp 9 _ p9 rfl rfl)
  obtain ⟨x10,rfl⟩:=op_t50 (hp 10 _ p10 rfl rfl)
  obtain ⟨x11,rfl⟩:=op_t9 (hp 11 _ p11 rfl rfl)
  obtain ⟨x12,rfl⟩:=op_t9 (hp 12 _ p12 rfl rfl)
  obtain ⟨x13,rfl⟩:=op_t9 (hp 13 _ p13 rfl rfl)
  obtain ⟨x14,rfl⟩:=cY (hp 14 _ p14 rfl rfl)
  obtain ⟨x15,rfl⟩:=cY (hp 15 _ p15 rfl rfl)
  obtain ⟨x16,rfl⟩:=cY (hp 16 _ p16 rfl rfl)
  obtain ⟨x17,rfl⟩:=cY (hp 17 _ p17 rfl rfl)
  obtain ⟨x18,rfl⟩:=cY (hp 18 _ p18 rfl rfl)
  obtain ⟨x19,rfl⟩:=cY (hp 19 _ p19 rfl rfl)
  obtain ⟨x20,rfl⟩:=op_t4 (hp 20 _ p20 rfl rfl)
  obtain ⟨x21,rfl⟩:=cY (hp 21 _ p21 rfl rfl)
  obtain ⟨x22,rfl⟩:=cY (hp 22 _ p22 rfl rfl)
  obtain ⟨x23,rfl⟩:=ft (hp 23 _ p23 rfl rfl)
  obtain ⟨x24,rfl⟩:=cY (hp 24 _ p24 rfl rfl)
  obtain ⟨x25,rfl⟩:=cY (hp 25 _ p25 rfl rfl)
  obtain ⟨x26,rfl⟩:=op_t4 (hp 26 _ p26 rfl rfl)
  obtain ⟨x27,rfl⟩:=cY (hp 27 _ p27 rfl rfl)
  obtain ⟨x28,rfl⟩:=cY (hp 28 _ p28 rfl rfl)
  exact ⟨⟨x0,x1,x2,x3,x4,x5,x6,x7,x8,x9,x10,x11,x12,x13,x14,x15,x16,x17,x18,x19,x20,x21,x22,x23,x24,x25,x26,x27,x28⟩,by kernel_rfl⟩
theorem vX {cs:List AV} (h:HasT Try.prog 85 cs):∃ x:bN,cs=bV x:=by
  have hg:=h.gen
  rw [Try.underlying85] at hg
  obtain ⟨parts,rfl,hl,hp⟩:=hg
  have hl:parts.length=6:=hl
  obtain ⟨p0,r0,e0,hl0⟩:=bP hl
  subst e0
  obtain ⟨p1,r1,e1,hl1⟩:=bP hl0
  subst e1
  obtain ⟨p2,r2,e2,hl2⟩:=bP hl1
  subst e2
  obtain ⟨p3,r3,e3,hl3⟩:=bP hl2
  subst e3
  obtain ⟨p4,r4,e4,hl4⟩:=bP hl3
  subst e4
  obtain ⟨p5,r5,e5,hl5⟩:=bP hl4
  subst e5
  have hnil:=List.eq_nil_of_length_eq_zero hl5
  subst hnil
  obtain ⟨x0,rfl⟩:=op_t5 (hp 0 _ p0 rfl rfl)
  obtain ⟨x1,rfl⟩:=op_t5 (hp 1 _ p1 rfl rfl)
  obtain ⟨x2,rfl⟩:=op_t9 (hp 2 _ p2 rfl rfl)
  obtain ⟨x3,rfl⟩:=op_t5 (hp 3 _ p3 rfl rfl)
  obtain ⟨x4,rfl⟩:=op_t5 (hp 4 _ p4 rfl rfl)
  obtain ⟨x5,rfl⟩:=vu (hp 5 _ p5 rfl rfl)
  exact ⟨⟨x0,x1,x2,x3,x4,x5⟩,by kernel_rfl⟩
theorem op_t45 {cs:List AV} (h:HasT Try.prog 45 cs):∃ x:(List bN),cs=(eSl bV) x:=by
  obtain ⟨l,rfl,_,_,hc⟩:=h.sl_inv Try.underlying45
  obtain ⟨L,rfl⟩:=list_map_open (e:=bV) (fun c hcm=>vX (hc c hcm))
  exact ⟨L,rfl⟩
end Go.Proofs.Ytolhpahjgddjkaa
