/- strings.Builder's copyCheck and String, at variables of the call's own. -/
import Derived.Test.YtocgkfoifehcbaaGreatRdVt
import Derived.Test.YtocgkfoifehcbaaGreatProg
import Derived.Lib.Builder
import Derived.Lib.UnsafeStr
import Derived.Lib.Walk
import Derived.Laws.Externs
import Derived.RegionTactic
namespace Go.Proofs.YtocgkfoifehcbaaGreat
set_option linter.all false
open Go.RowKit
def amu:=@Lib.cell_of_heap
def amC:=@Oper.upon_value
set_option maxHeartbeats 1000000 in
set_option maxRecDepth 100000 in
theorem Zg(b:Nat)(w:World)(a:w.cell? ⟨b,0,none⟩=some (.pointer (some ⟨b,0,none⟩))):
  Calls Tryz.prog 123 #[.pointer (some ⟨b,0,none⟩)] w fun e w'=>e=.returned (.tuple #[])∧w'=w:=by
 go_enter Tryz.func123,Tryz.ntmps123
 go_wp2
 rw[Lib.run_neq_ptr_same w _ (te:=119) (by kernel_rfl) (j:=(Tryz.prog.info? 119).get (by kernel_rfl)) (by kernel_rfl)]
 go_wp2
 go_end0
 exact⟨rfl,rfl⟩
set_option maxHeartbeats 1000000 in
set_option maxRecDepth 100000 in
theorem Wf(b:Nat)(w:World)(d:w.cell? ⟨b,0,none⟩=some (.pointer none))(a:w.shape? b=some (119,2))(c:w.frozen? ⟨b,0,none⟩=false):
  Calls Tryz.prog 123 #[.pointer (some ⟨b,0,none⟩)] w fun e w'=>e=.returned (.tuple #[])∧w'=w.setCell ⟨b,0,none⟩ (.pointer (some ⟨b,0,none⟩)):=by
 go_enter Tryz.func123,Tryz.ntmps123
 go_wp2
 rw[Lib.run_to_unsafe w ⟨b,0,none⟩ (t:=119) (by kernel_rfl) (by kernel_rfl) (j:=(Tryz.prog.info? 119).get (by kernel_rfl)) (by kernel_rfl) (lc (by kernel_rfl)) a (Nat.zero_lt_succ 1)];simp only[Result.andThen];rw[amC]
 go_wp2
 rw[run_callFunc_extern Tryz.func157 (by kernel_rfl) (by kernel_rfl) (by kernel_rfl) (e:=Extern.AbiNoEscape.same) (by kernel_rfl)];rw[Lib.run_noEscape];simp only[Result.andThen];rw[amC]
 go_wp2
 rw[Lib.run_from_unsafe w ⟨b,0,none⟩ (u:=119) (by kernel_rfl) (by kernel_rfl) (j:=(Tryz.prog.info? 119).get (by kernel_rfl)) (by kernel_rfl) a (by kernel_rfl)];simp only[Result.andThen];rw[amC]
 go_wp2
 go_end0
 exact⟨rfl,rfl⟩
set_option maxHeartbeats 1000000 in
set_option maxRecDepth 100000 in
theorem agS(b g a:Nat)(p:Value)(c:Array Value)(l:List UInt8)(w:World)(f:w.heap[b]?=some (.cells #[p,.slice (some ⟨g,0,none⟩) l.length a] 119 (0,0)))(q:w.heap[g]?=some (.cells c 5 (0,0)))(k:l≠[])(s:l.length≤a)(h:a≤maxLen)(o:c.size=a)
  (d:∀j x,l[j]?=some x→w.cell? ((⟨g,0,none⟩:Addr).add j)=some (.int .u8 x.toNat)) :
  Calls Tryz.prog 71 #[.pointer (some ⟨b,0,none⟩)] w fun e w'=>e=.returned (.string ⟨l.toArray⟩)∧w'=w.drew.freeze ⟨g,0,none⟩ l.length:=by
 have r:l.length≠0:=by simpa using k
 have c1:w.drew.cell? ⟨b,1,none⟩=some (.slice (some ⟨g,0,none⟩) l.length a):=by
  have:w.drew.heap[b]?=some (.cells #[p,.slice (some ⟨g,0,none⟩) l.length a] 119 (0,0)):=f;rw[amu this];rfl
 have m:(Builtin.unsafeSliceData_ #[117] 173 #[.slice (some ⟨g,0,none⟩) l.length a]).run Tryz.prog w.drew=.ok (.pointer (some ⟨g,0,none⟩)) w.drew :=
  Lib.run_unsafeSliceData_row _ _ _ _ _ _ (by omega)
 have n:(Builtin.unsafeString_ #[173,3] 9 #[.pointer (some ⟨g,0,none⟩),.int .i64 l.length]).run Tryz.prog w.drew=.ok (.string ⟨l.toArray⟩) (w.drew.freeze ⟨g,0,none⟩ l.length):=by
  refine Lib.run_unsafeString_row w.drew 173 3 9 5 (by kernel_rfl) (by kernel_rfl) g c.size (by have i:w.drew.heap[g]?=some (.cells c 5 (0,0)):=q;simp[World.shape?,i]) l k (by omega) (by unfold maxLen at h;omega) ?_;intro j x t;exact d j x t
 go_enter Tryz.func71,Tryz.ntmps71
 go_wp2
 go_region
 all_goals (go_wp2;go_ret;exact⟨rfl,rfl⟩)
end Go.Proofs.YtocgkfoifehcbaaGreat
