/- Arguments of the laws' types as typed values. Made by a program. -/
import Derived.Test.YtolhpahjgddjkaaCmFr
import Derived.Test.YtolhpahjgddjkaaCmGt
import Derived.Test.YtolhpahjgddjkaaProg
namespace Go.Proofs.Ytolhpahjgddjkaa
open Go.RowKit
set_option maxRecDepth 20000
set_option linter.all false
theorem d9 {cs:List AV} (h:HasT Try.prog 3 cs):∃ x:Int,cs=(eInt .i64) x:=by
  obtain ⟨n,rfl,_⟩:=h.int_inv Try.underlying3
  exact ⟨n,rfl⟩
theorem nn {cs:List AV} (h:HasT Try.prog 30 cs):∃ x:ab,cs=am x:=by
  have hg:=h.gen
  rw [Try.underlying30] at hg
  obtain ⟨parts,rfl,hl,hp⟩:=hg
  have hl:parts.length=4:=hl
  obtain ⟨p0,r0,e0,hl0⟩:=fj hl
  subst e0
  obtain ⟨p1,r1,e1,hl1⟩:=fj hl0
  subst e1
  obtain ⟨p2,r2,e2,hl2⟩:=fj hl1
  subst e2
  obtain ⟨p3,r3,e3,hl3⟩:=fj hl2
  subst e3
  have hnil:=List.eq_nil_of_length_eq_zero hl3
  subst hnil
  obtain ⟨x0,rfl⟩:=d9 (hp 0 _ p0 rfl rfl)
  obtain ⟨x1,rfl⟩:=d9 (hp 1 _ p1 rfl rfl)
  obtain ⟨x2,rfl⟩:=d9 (hp 2 _ p2 rfl rfl)
  obtain ⟨x3,rfl⟩:=d9 (hp 3 _ p3 rfl rfl)
  exact ⟨⟨x0,x1,x2,x3⟩,by kernel_rfl⟩
theorem op_t28 {cs:List AV} (h:HasT Try.prog 28 cs):∃ x:(List ab),cs=(eSl am) x:=by
  obtain ⟨l,rfl,_,_,hc⟩:=h.sl_inv Try.underlying28
  obtain ⟨L,rfl⟩:=lK (e:=am) (fun c hcm=>nn (hc c hcm))
  exact ⟨L,rfl⟩
theorem ob {cs:List AV} (h:HasT Try.prog 36 cs):∃ x:aa,cs=ag x:=by
  have hg:=h.gen
  rw [Try.underlying36] at hg
  obtain ⟨parts,rfl,hl,hp⟩:=hg
  have hl:parts.length=2:=hl
  obtain ⟨p0,r0,e0,hl0⟩:=fj hl
  subst e0
  obtain ⟨p1,r1,e1,hl1⟩:=fj hl0
  subst e1
  have hnil:=List.eq_nil_of_length_eq_zero hl1
  subst hnil
  obtain ⟨x0,rfl⟩:=d9 (hp 0 _ p0 rfl rfl)
  obtain ⟨x1,rfl⟩:=d9 (hp 1 _ p1 rfl rfl)
  exact ⟨⟨x0,x1⟩,by kernel_rfl⟩
theorem op_t32 {cs:List AV} (h:HasT Try.prog 32 cs):∃ x:(List aa),cs=(eSl ag) x:=by
  obtain ⟨l,rfl,_,_,hc⟩:=h.sl_inv Try.underlying32
  obtain ⟨L,rfl⟩:=lK (e:=ag) (fun c hcm=>ob (hc c hcm))
  exact ⟨L,rfl⟩
end Go.Proofs.Ytolhpahjgddjkaa
