/- Arguments of the laws' types as typed values. Made by a program. -/
import Derived.Test.YtolhpahjgddjkaaChFr
import Derived.Test.YtolhpahjgddjkaaChGt
import Derived.Test.YtolhpahjgddjkaaProg
namespace Go.Proofs.Ytolhpahjgddjkaa
open Go.RowKit
set_option maxRecDepth 20000
set_option linter.all false
theorem dB {cs:List AV} (h:HasT Try.prog 3 cs):∃ x:Int,cs=(eInt .i64) x:=by
  obtain ⟨n,rfl,_⟩:=h.int_inv Try.underlying3
  exact ⟨n,rfl⟩
theorem jz {cs:List AV} (h:HasT Try.prog 30 cs):∃ x:aa,cs=ag x:=by
  have hg:=h.gen
  rw [Try.underlying30] at hg
  obtain ⟨parts,rfl,hl,hp⟩:=hg
  have hl:parts.length=4:=hl
  obtain ⟨p0,r0,e0,hl0⟩:=gB hl
  subst e0
  obtain ⟨p1,r1,e1,hl1⟩:=gB hl0
  subst e1
  obtain ⟨p2,r2,e2,hl2⟩:=gB hl1
  subst e2
  obtain ⟨p3,r3,e3,hl3⟩:=gB hl2
  subst e3
  have hnil:=List.eq_nil_of_length_eq_zero hl3
  subst hnil
  obtain ⟨x0,rfl⟩:=dB (hp 0 _ p0 rfl rfl)
  obtain ⟨x1,rfl⟩:=dB (hp 1 _ p1 rfl rfl)
  obtain ⟨x2,rfl⟩:=dB (hp 2 _ p2 rfl rfl)
  obtain ⟨x3,rfl⟩:=dB (hp 3 _ p3 rfl rfl)
  exact ⟨⟨x0,x1,x2,x3⟩,by kernel_rfl⟩
theorem op_t28 {cs:List AV} (h:HasT Try.prog 28 cs):∃ x:(List aa),cs=(eSl ag) x:=by
  obtain ⟨l,rfl,_,_,hc⟩:=h.sl_inv Try.underlying28
  obtain ⟨L,rfl⟩:=je (e:=ag) (fun c hcm=>jz (hc c hcm))
  exact ⟨L,rfl⟩
theorem op_t33 {cs:List AV} (h:HasT Try.prog 33 cs):∃ x:(List Int),cs=(eSl (eInt .i64)) x:=by
  obtain ⟨l,rfl,_,_,hc⟩:=h.sl_inv Try.underlying33
  obtain ⟨L,rfl⟩:=je (e:=(eInt .i64)) (fun c hcm=>dB (hc c hcm))
  exact ⟨L,rfl⟩
end Go.Proofs.Ytolhpahjgddjkaa
