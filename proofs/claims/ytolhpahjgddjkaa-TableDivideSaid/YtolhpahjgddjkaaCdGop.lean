/- Arguments of the laws' types as typed values. Made by a program. -/
import Derived.Test.YtolhpahjgddjkaaCdFr
import Derived.Test.YtolhpahjgddjkaaCdGt
import Derived.Test.YtolhpahjgddjkaaProg
namespace Go.Proofs.Ytolhpahjgddjkaa
open Go.RowKit
set_option maxRecDepth 20000
set_option linter.all false
theorem op_t3 {cs:List AV} (h:HasT Try.prog 3 cs):∃ x:Int,cs=(eInt .i64) x:=by
  obtain ⟨n,rfl,_⟩:=h.int_inv Try.underlying3
  exact ⟨n,rfl⟩
theorem kR {cs:List AV} (h:HasT Try.prog 36 cs):∃ x:aw,cs=aB x:=by
  have hg:=h.gen
  rw [Try.underlying36] at hg
  obtain ⟨parts,rfl,hl,hp⟩:=hg
  have hl:parts.length=2:=hl
  obtain ⟨p0,r0,e0,hl0⟩:=len_cons hl
  subst e0
  obtain ⟨p1,r1,e1,hl1⟩:=len_cons hl0
  subst e1
  have hnil:=List.eq_nil_of_length_eq_zero hl1
  subst hnil
  obtain ⟨x0,rfl⟩:=op_t3 (hp 0 _ p0 rfl rfl)
  obtain ⟨x1,rfl⟩:=op_t3 (hp 1 _ p1 rfl rfl)
  exact ⟨⟨x0,x1⟩,by kernel_rfl⟩
theorem op_t32 {cs:List AV} (h:HasT Try.prog 32 cs):∃ x:(List aw),cs=(eSl aB) x:=by
  obtain ⟨l,rfl,_,_,hc⟩:=h.sl_inv Try.underlying32
  obtain ⟨L,rfl⟩:=list_map_open (e:=aB) (fun c hcm=>kR (hc c hcm))
  exact ⟨L,rfl⟩
end Go.Proofs.Ytolhpahjgddjkaa
