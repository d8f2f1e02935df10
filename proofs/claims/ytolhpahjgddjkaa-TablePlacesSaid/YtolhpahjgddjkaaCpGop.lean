/- Arguments of the laws' types as typed values. Made by a program. -/
import Derived.Test.YtolhpahjgddjkaaCpFr
import Derived.Test.YtolhpahjgddjkaaCpGt
import Derived.Test.YtolhpahjgddjkaaProg
namespace Go.Proofs.Ytolhpahjgddjkaa
open Go.RowKit
set_option maxRecDepth 20000
set_option linter.all false
theorem op_t3 {cs:List AV} (h:HasT Try.prog 3 cs):∃ x:Int,cs=(eInt .i64) x:=by
  obtain ⟨n,rfl,_⟩:=h.int_inv Try.underlying3
  exact ⟨n,rfl⟩
theorem op_t73 {cs:List AV} (h:HasT Try.prog 73 cs):∃ x:(V2 Int),cs=(eV2 (eInt .i64)) x:=by
  have hg:=h.gen
  rw [Try.underlying73] at hg
  obtain ⟨parts,rfl,hl,hp⟩:=hg
  have hl:parts.length=2:=hl
  obtain ⟨p0,r0,e0,hl0⟩:=len_cons hl
  subst e0
  obtain ⟨p1,r1,e1,hl1⟩:=len_cons hl0
  subst e1
  have hnil:=List.eq_nil_of_length_eq_zero hl1
  subst hnil
  obtain ⟨x0,rfl⟩:=op_t3 (hp p0 (by simp))
  obtain ⟨x1,rfl⟩:=op_t3 (hp p1 (by simp))
  exact ⟨⟨x0,x1⟩,by kernel_rfl⟩
theorem op_t24 {cs:List AV} (h:HasT Try.prog 24 cs):∃ x:(List (V2 Int)),cs=(eSl (eV2 (eInt .i64))) x:=by
  obtain ⟨l,rfl,_,_,hc⟩:=h.sl_inv Try.underlying24
  obtain ⟨L,rfl⟩:=g7 (e:=(eV2 (eInt .i64))) (fun c hcm=>op_t73 (hc c hcm))
  exact ⟨L,rfl⟩
theorem op_t22 {cs:List AV} (h:HasT Try.prog 22 cs):∃ x:(List (List (V2 Int))),cs=(eSl (eSl (eV2 (eInt .i64)))) x:=by
  obtain ⟨l,rfl,_,_,hc⟩:=h.sl_inv Try.underlying22
  obtain ⟨L,rfl⟩:=g7 (e:=(eSl (eV2 (eInt .i64)))) (fun c hcm=>op_t24 (hc c hcm))
  exact ⟨L,rfl⟩
end Go.Proofs.Ytolhpahjgddjkaa
