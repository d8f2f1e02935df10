/- Slices that cells of an own slice own: they come out under a name of their own, and go back. No program in sight. -/
import Derived.Test.YtocgkfoifehcbaaGreatRfVz
import Derived.Test.YtocgkfoifehcbaaGreatRfVdz
import Derived.MapKept
namespace Go.Proofs.YtocgkfoifehcbaaGreat
set_option linter.all false
open Go.RowKit
open Classical in
def wL(dl:Nat):List Oper→Bool
 | []=>true
 | o::r=>(match o.dst with|some d=>!Nat.beq d dl|none=>true)&&wL dl r
theorem EA{dl:Nat}:∀{l:List Oper},wL dl l=true→∀o∈l,o.dst≠some dl
 | [],_,o,ho=>by cases ho
 | o'::r,h,o,ho=>by
  simp only[wL,Bool.and_eq_true]at h;rcases List.mem_cons.1 ho with e|ho
  ·subst e;intro e;rw[e]at h;have:=h.1;simp at this
  ·exact EA h.2 o ho
end Go.Proofs.YtocgkfoifehcbaaGreat
