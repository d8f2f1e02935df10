/- A cut in the midst of a region; a guarded group that ends in one bool. No program in sight. -/
import Derived.Test.YtolhpahjgddjkaaCpActl
namespace Go.Proofs.Ytolhpahjgddjkaa
set_option linter.all false
open Go.RowKit
section
variable {cx:Cx} {Q:Exit→Act→World→Prop} {ks:List Kont} {s:AS}
theorem eb {all:Array Oper} {o og:Oper} {r:List Oper} {j d:Nat} {b:Bool} (hg:o.guard=some (j,b)) (hj:all.toList[j]?=some og) (hd:og.dst=some d) (hv:look d s.t=some (.bool b)) (k:OT cx Q ks all ({ o with guard:=none }::r) s):OT cx Q ks all (o::r) s :=
  ot_on hg (by rw [←Array.getElem?_toList]; exact hj) hd hv k
end
end Go.Proofs.Ytolhpahjgddjkaa
